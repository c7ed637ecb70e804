/- Part of the proof that TreeRises comes to true: printed and written texts, merged by a program. -/
import Derived.Lib.Hide
import Derived.Test.YtpdflhgcdehmoaaDoorR3
import Derived.Test.YtpdflhgcdehmoaaDoorR4
namespace Go.Proofs.YtpdflhgcdehmoaaDoor.T
open Go.RowKit Go.Proofs.YtpdflhgcdehmoaaDoorW.PrintWords Go.Proofs.YtpdflhgcdehmoaaDoorW.PrintLast Go.Proofs.YtpdflhgcdehmoaaDoorW.PrintMore
attribute [local go_sem] max2_int min2_int max_two min_two max_three min_three max_four min_four
set_option linter.unusedVariables false
set_option linter.unusedSimpArgs false
def whoP (s : ByteArray) : Bool := decide (s.toList = [42]) || nameP s
theorem who_is (s : ByteArray) : acl_who.f s = some (whoP s) := by
  unfold acl_who.f path_Name.f whoP
  by_cases h : s.toList = [42] <;> simp [h]
def aclBad (l : List S83) (k : Nat) : Bool :=
  !whoP (rd_T83 l k).f0 || (decide (0 < k) && !Op.bytesLess (rd_T83 l ((k : Int) - 1)).f0.toList (rd_T83 l k).f0.toList) || decide ((rd_T83 l k).f1 < 1) || decide (7 < (rd_T83 l k).f1)
def aclChk (l : List S83) : Int := if 4 < l.length then 4 else if (List.range l.length).any (aclBad l) then 1 else 0
theorem aclChk_bad {l : List S83} {k : Nat} (h4 : ¬ 4 < l.length) (hk : k < l.length) (h : aclBad l k = true) : aclChk l = 1 := by
  unfold aclChk
  rw [if_neg h4, if_pos]
  rw [List.any_eq_true]
  exact ⟨k, List.mem_range.2 hk, h⟩
theorem aclChk_good {l : List S83} (h4 : ¬ 4 < l.length) (h : ∀ i, i < l.length → aclBad l i = false) : aclChk l = 0 := by
  unfold aclChk
  rw [if_neg h4, if_neg]
  rw [Bool.not_eq_true, List.any_eq_false]
  intro x hx
  simp [h x (List.mem_range.1 hx)]
theorem aclBad_next {l : List S83} {k : Nat} (h : Aside0 (∀ i, i < k → aclBad l i = false)) (hk : aclBad l k = false) : Aside0 (∀ i, i < k + 1 → aclBad l i = false) :=
  ⟨fun i hi => by
    rcases Nat.lt_or_ge i k with h1 | h1
    · exact h.out i h1
    · obtain rfl : i = k := by omega
      exact hk⟩
def acl_Check.f (l0 : List S83) : Option Int := some (aclChk l0)
set_option maxHeartbeats 1000000 in
set_option maxRecDepth 100000 in
theorem acl_Check.calls (A0 : Option Addr) (c0 : Nat) (l0 : List (S83)) (r : Int) (w : World) (hr0 : Kd.C k83 w A0 l0.length l0) (hc0 : l0.length ≤ c0) (h : acl_Check.f l0 = some r) :
    Calls Tryd.prog 61 #[.slice A0 l0.length c0] w fun e w' => e = .returned (.int .i64 r) ∧ Below w.heap.size w w' := by
  obtain rfl := Option.some.inj h
  clear h
  have HR := Lib.hid hr0
  clear hr0
  have hu := Tryd.underlying83
  by_cases h4 : 4 < l0.length
  · have e4 : aclChk l0 = 4 := by unfold aclChk; rw [if_pos h4]
    have H4 := Lib.hid e4
    clear e4
    go_enter Tryd.func61, Tryd.ntmps61
    go_wp2
    go_ret
    exact ⟨by rw [H4.out]; rfl, Below.refl _ _⟩
  · go_enter Tryd.func61, Tryd.ntmps61
    go_wp2
    go_loopw [10] (fun n w' => ∃ k : Nat, n = .int .i64 k ∧ k ≤ l0.length ∧ Aside0 (∀ i, i < k → aclBad l0 i = false) ∧ Below w.heap.size w w') (fun n _ => l0.length - (intOf n).toNat)
    case atStart => exact ⟨0, rfl, Nat.zero_le _, ⟨fun i h => absurd h (Nat.not_lt_zero _)⟩, Below.refl _ _⟩
    case round =>
      obtain ⟨k, rfl, hk, HA, hB⟩ := hrel
      by_cases hlt : k < l0.length
      · obtain ⟨ad, rfl, hx0, hx1⟩ := at_T83 HR.out (k : Int) (by omega) (by omega)
        simp only [Int.toNat_natCast] at hx0 hx1
        have hsz := hB.size
        have hbk := World.block_lt_of_cell? _ _ hx0
        obtain ⟨hcr, hfr⟩ := below_rules hB
        rcases hk0 : decide (0 < k) with _ | _
        · have hk2 : decide ((0 : Int) < (k : Int)) = false := by simpa using hk0
          rcases hwh : whoP (rd_T83 l0 k).f0 with _ | _ <;> rcases h1 : decide ((rd_T83 l0 k).f1 < 1) with _ | _ <;> rcases h7 : decide (7 < (rd_T83 l0 k).f1) with _ | _
          all_goals
            have hbad := aclBad.eq_1 l0 k
            rw [hwh, hk0, h1, h7] at hbad
            simp only [Bool.not_true, Bool.not_false, Bool.true_or, Bool.false_or, Bool.or_true, Bool.or_false, Bool.and_true, Bool.and_false, Bool.false_and] at hbad
            have HBAD := Lib.hid hbad
            have HW := Lib.hid hwh
            clear hbad hwh
            go_wp2_with fail
            refine wp_region_below (by kernel_rfl) (by kernel_rfl) ?_
            repeat (first | go_big_quiet_skip | (go_big_quiet_want; apply quiet_one; (focus (intro w1 hC; obtain ⟨hc1, hf1⟩ := below_rules hC; go_simp; first | rfl | exact ⟨rfl, rfl⟩ | (refine quiet_call hC (by simp) (acl_who.calls _ _ _ (by rw [who_is, HW.out]))))); simp only [Act.put, List.setIfInBounds_toArray, List.set_cons_zero, List.set_cons_succ]; go_big_quiet_on))
            refine wpQuiet_nil ?_
            intro w1 hB1
            have hB2 : Below w.heap.size w w1 := below_on (below_alloc hB _) hB1
            clear hB1
            go_wp2
            first
            | (go_ret; exact ⟨ret_int (aclChk_bad h4 hlt HBAD.out).symm, hB2⟩)
            | (go_roundw
               case rel => exact ⟨k + 1, by go_num, hlt, aclBad_next HA HBAD.out, hB2⟩
               case measure => simp [intOf]; omega)
        · have hk1 : 0 < k := by simpa using hk0
          obtain ⟨ad', e', hp0, -⟩ := at_T83 HR.out ((k : Int) - 1) (by omega) (by omega)
          obtain rfl := Option.some.inj e'
          clear e'
          rw [show ((k : Int) - 1).toNat = k - 1 from by omega] at hp0
          have hbp := World.block_lt_of_cell? _ _ hp0
          rcases hwh : whoP (rd_T83 l0 k).f0 with _ | _ <;> rcases hbl : Op.bytesLess (rd_T83 l0 ((k : Int) - 1)).f0.toList (rd_T83 l0 k).f0.toList with _ | _ <;> rcases h1 : decide ((rd_T83 l0 k).f1 < 1) with _ | _ <;> rcases h7 : decide (7 < (rd_T83 l0 k).f1) with _ | _
          all_goals
            have hbad := aclBad.eq_1 l0 k
            rw [hwh, hk0, hbl, h1, h7] at hbad
            simp only [Bool.not_true, Bool.not_false, Bool.true_or, Bool.false_or, Bool.or_true, Bool.or_false, Bool.and_true, Bool.and_false] at hbad
            have HBAD := Lib.hid hbad
            have HW := Lib.hid hwh
            clear hbad hwh
            have hk2 : decide ((0 : Int) < (k : Int)) = true := by simpa using hk1
            have hkw : IntKind.i64.wrap ((k : Int) - 1) = (k : Int) - 1 := IntWalk.i64_in _ (by omega)
            have hkn : ((k : Int) - 1).toNat = k - 1 := by omega
            have hk3 : (0 : Int) ≤ (k : Int) - 1 := by omega
            have hk4 : (1 : Int) ≤ (k : Int) := by omega
            have hk5 : (k : Int) - 1 < (l0.length : Int) := by omega
            go_wp2_with fail
            refine wp_region_below (by kernel_rfl) (by kernel_rfl) ?_
            repeat (first | go_big_quiet_skip | (go_big_quiet_want; apply quiet_one; (focus (intro w1 hC; obtain ⟨hc1, hf1⟩ := below_rules hC; obtain ⟨hc2, hf2⟩ := below_rules (below_on (below_alloc hB _) hC); go_simp; first | rfl | exact ⟨rfl, rfl⟩ | (refine quiet_call hC (by simp) (acl_who.calls _ _ _ (by rw [who_is, HW.out]))))); simp only [Act.put, List.setIfInBounds_toArray, List.set_cons_zero, List.set_cons_succ]; go_big_quiet_on))
            refine wpQuiet_nil ?_
            intro w1 hB1
            have hB2 : Below w.heap.size w w1 := below_on (below_alloc hB _) hB1
            clear hB1
            go_wp2
            first
            | (go_ret; exact ⟨ret_int (aclChk_bad h4 hlt HBAD.out).symm, hB2⟩)
            | (go_roundw
               case rel => exact ⟨k + 1, by go_num, hlt, aclBad_next HA HBAD.out, hB2⟩
               case measure => simp [intOf]; omega)
      · obtain rfl : k = l0.length := by omega
        go_wp2
        go_ret
        exact ⟨ret_int (aclChk_good h4 HA.out).symm, hB⟩
end Go.Proofs.YtpdflhgcdehmoaaDoor.T
namespace Go.Proofs.YtpdflhgcdehmoaaDoor.T
open Go.RowKit Go.Proofs.YtpdflhgcdehmoaaDoorW.PrintWords Go.Proofs.YtpdflhgcdehmoaaDoorW.PrintLast Go.Proofs.YtpdflhgcdehmoaaDoorW.PrintMore
attribute [local go_sem] max2_int min2_int max_two min_two max_three min_three max_four min_four
set_option linter.unusedVariables false
set_option linter.unusedSimpArgs false
def ring_Check.f (a0_0 : Int) (a0_1 : Int) (a0_2 : Int) (a0_3 : Int) : Option (Int) := if a0_0 < 0 then (some 1) else (if a0_0 > a0_1 then (some 1) else (if a0_1 > a0_2 then (some 1) else (if a0_2 > 7 then (some 1) else (if a0_3 < 0 then (some 1) else (if a0_3 > 16 then (some 1) else (some 0))))))
set_option maxHeartbeats 8000000 in
set_option maxRecDepth 100000 in
theorem ring_Check.calls (a0_0 : Int) (a0_1 : Int) (a0_2 : Int) (a0_3 : Int) (r : Int) (w : World) (h : ring_Check.f a0_0 a0_1 a0_2 a0_3 = some r) :
    Calls Tryd.prog 62 #[.agg #[.int .i64 a0_0, .int .i64 a0_1, .int .i64 a0_2, .int .i64 a0_3]] w fun e w' => e = .returned (.int .i64 r) ∧ Below w.heap.size w w' := by
  have hu29 := Tryd.underlying29
  have HB := Aside0.mk (Below.refl w.heap.size w)
  have H : (if a0_0 < 0 then (some 1) else (if a0_0 > a0_1 then (some 1) else (if a0_1 > a0_2 then (some 1) else (if a0_2 > 7 then (some 1) else (if a0_3 < 0 then (some 1) else (if a0_3 > 16 then (some 1) else (some 0))))))) = some r := h
  clear h
  by_cases c2 : a0_0 < 0
  · rw [if_pos c2] at H
    have c2b0 : decide (a0_0 < 0) = true := decide_eq_true c2
    clear c2
    obtain rfl := Option.some.inj H
    go_enter Tryd.func62, Tryd.ntmps62
    go_wp2_with (first | ((with_reducible refine gate_dst (N := 1) rfl ?_); refine box_event ?hg (N := 1) ?hd (cs := #[.int .i64 a0_0, .int .i64 a0_1, .int .i64 a0_2, .int .i64 a0_3]) (t := 29) ?hr ?_; (case hd => rfl); (case hg => rfl); (case hr => first | (go_simp; done) | (go_simp; rfl)); intro gb122 hg w3 hbox hb; have n0_ := Aside0.mk (below_step (by repeat (first | (with_reducible first | exact HB.out | apply below_alloc | apply pw_below_drewN | apply below_drew1) | exact HB.out)) hb); have n1_ := Aside0.mk (hbox); have n2_ := Aside0.mk ((by rw [hg]; exact (below_size (by repeat (first | (with_reducible first | exact HB.out | apply below_alloc | apply pw_below_drewN | apply below_drew1) | exact HB.out))) : w.heap.size ≤ gb122)); have n3_ := Aside0.mk ((by rw [hg]; exact (below_size (by repeat (first | (with_reducible first | exact HB.out | apply below_alloc | apply pw_below_drewN | apply below_drew1) | exact HB.out))) : w.heap.size ≤ gb122)); clear HB; have HB := n0_; have BK122 := n1_; have GW122 := n2_; have GE122 := n3_; clear n0_ n1_ n2_ n3_; clear hb hbox hg; have hcz4_0 : w3.cell? ⟨gb122, 0, none⟩ = some (.int .i64 a0_0) := (blk_cell BK122.out 0).trans rfl; have hcz4_1 : w3.cell? ⟨gb122, 1, none⟩ = some (.int .i64 a0_1) := (blk_cell BK122.out 1).trans rfl; have hcz4_2 : w3.cell? ⟨gb122, 2, none⟩ = some (.int .i64 a0_2) := (blk_cell BK122.out 2).trans rfl; have hcz4_3 : w3.cell? ⟨gb122, 3, none⟩ = some (.int .i64 a0_3) := (blk_cell BK122.out 3).trans rfl; have hfz4_0 := blk_frozen BK122.out 0; have hfz4_1 := blk_frozen BK122.out 1; have hfz4_2 := blk_frozen BK122.out 2; have hfz4_3 := blk_frozen BK122.out 3))
    go_ret
    exact ⟨by first | rfl | (simp [errW_none, errW_some] <;> rfl) | (simp [*, errW_none, errW_some] <;> rfl), by repeat (first | (with_reducible first | exact HB.out | apply below_alloc | apply pw_below_drewN | apply below_drew1 | refine below_set ?_ GE122.out) | exact HB.out)⟩
  · rw [if_neg c2] at H
    have c2b0 : decide (a0_0 < 0) = false := decide_eq_false c2
    clear c2
    by_cases c5 : a0_0 > a0_1
    · rw [if_pos c5] at H
      have c5b0 : decide (a0_1 < a0_0) = true := decide_eq_true c5
      clear c5
      obtain rfl := Option.some.inj H
      go_enter Tryd.func62, Tryd.ntmps62
      go_wp2_with (first | ((with_reducible refine gate_dst (N := 1) rfl ?_); refine box_event ?hg (N := 1) ?hd (cs := #[.int .i64 a0_0, .int .i64 a0_1, .int .i64 a0_2, .int .i64 a0_3]) (t := 29) ?hr ?_; (case hd => rfl); (case hg => rfl); (case hr => first | (go_simp; done) | (go_simp; rfl)); intro gb122 hg w6 hbox hb; have n0_ := Aside0.mk (below_step (by repeat (first | (with_reducible first | exact HB.out | apply below_alloc | apply pw_below_drewN | apply below_drew1) | exact HB.out)) hb); have n1_ := Aside0.mk (hbox); have n2_ := Aside0.mk ((by rw [hg]; exact (below_size (by repeat (first | (with_reducible first | exact HB.out | apply below_alloc | apply pw_below_drewN | apply below_drew1) | exact HB.out))) : w.heap.size ≤ gb122)); have n3_ := Aside0.mk ((by rw [hg]; exact (below_size (by repeat (first | (with_reducible first | exact HB.out | apply below_alloc | apply pw_below_drewN | apply below_drew1) | exact HB.out))) : w.heap.size ≤ gb122)); clear HB; have HB := n0_; have BK122 := n1_; have GW122 := n2_; have GE122 := n3_; clear n0_ n1_ n2_ n3_; clear hb hbox hg; have hcz7_0 : w6.cell? ⟨gb122, 0, none⟩ = some (.int .i64 a0_0) := (blk_cell BK122.out 0).trans rfl; have hcz7_1 : w6.cell? ⟨gb122, 1, none⟩ = some (.int .i64 a0_1) := (blk_cell BK122.out 1).trans rfl; have hcz7_2 : w6.cell? ⟨gb122, 2, none⟩ = some (.int .i64 a0_2) := (blk_cell BK122.out 2).trans rfl; have hcz7_3 : w6.cell? ⟨gb122, 3, none⟩ = some (.int .i64 a0_3) := (blk_cell BK122.out 3).trans rfl; have hfz7_0 := blk_frozen BK122.out 0; have hfz7_1 := blk_frozen BK122.out 1; have hfz7_2 := blk_frozen BK122.out 2; have hfz7_3 := blk_frozen BK122.out 3))
      go_ret
      exact ⟨by first | rfl | (simp [errW_none, errW_some] <;> rfl) | (simp [*, errW_none, errW_some] <;> rfl), by repeat (first | (with_reducible first | exact HB.out | apply below_alloc | apply pw_below_drewN | apply below_drew1 | refine below_set ?_ GE122.out) | exact HB.out)⟩
    · rw [if_neg c5] at H
      have c5b0 : decide (a0_1 < a0_0) = false := decide_eq_false c5
      clear c5
      by_cases c8 : a0_1 > a0_2
      · rw [if_pos c8] at H
        have c8b0 : decide (a0_2 < a0_1) = true := decide_eq_true c8
        clear c8
        obtain rfl := Option.some.inj H
        go_enter Tryd.func62, Tryd.ntmps62
        go_wp2_with (first | ((with_reducible refine gate_dst (N := 1) rfl ?_); refine box_event ?hg (N := 1) ?hd (cs := #[.int .i64 a0_0, .int .i64 a0_1, .int .i64 a0_2, .int .i64 a0_3]) (t := 29) ?hr ?_; (case hd => rfl); (case hg => rfl); (case hr => first | (go_simp; done) | (go_simp; rfl)); intro gb122 hg w9 hbox hb; have n0_ := Aside0.mk (below_step (by repeat (first | (with_reducible first | exact HB.out | apply below_alloc | apply pw_below_drewN | apply below_drew1) | exact HB.out)) hb); have n1_ := Aside0.mk (hbox); have n2_ := Aside0.mk ((by rw [hg]; exact (below_size (by repeat (first | (with_reducible first | exact HB.out | apply below_alloc | apply pw_below_drewN | apply below_drew1) | exact HB.out))) : w.heap.size ≤ gb122)); have n3_ := Aside0.mk ((by rw [hg]; exact (below_size (by repeat (first | (with_reducible first | exact HB.out | apply below_alloc | apply pw_below_drewN | apply below_drew1) | exact HB.out))) : w.heap.size ≤ gb122)); clear HB; have HB := n0_; have BK122 := n1_; have GW122 := n2_; have GE122 := n3_; clear n0_ n1_ n2_ n3_; clear hb hbox hg; have hcz10_0 : w9.cell? ⟨gb122, 0, none⟩ = some (.int .i64 a0_0) := (blk_cell BK122.out 0).trans rfl; have hcz10_1 : w9.cell? ⟨gb122, 1, none⟩ = some (.int .i64 a0_1) := (blk_cell BK122.out 1).trans rfl; have hcz10_2 : w9.cell? ⟨gb122, 2, none⟩ = some (.int .i64 a0_2) := (blk_cell BK122.out 2).trans rfl; have hcz10_3 : w9.cell? ⟨gb122, 3, none⟩ = some (.int .i64 a0_3) := (blk_cell BK122.out 3).trans rfl; have hfz10_0 := blk_frozen BK122.out 0; have hfz10_1 := blk_frozen BK122.out 1; have hfz10_2 := blk_frozen BK122.out 2; have hfz10_3 := blk_frozen BK122.out 3))
        go_ret
        exact ⟨by first | rfl | (simp [errW_none, errW_some] <;> rfl) | (simp [*, errW_none, errW_some] <;> rfl), by repeat (first | (with_reducible first | exact HB.out | apply below_alloc | apply pw_below_drewN | apply below_drew1 | refine below_set ?_ GE122.out) | exact HB.out)⟩
      · rw [if_neg c8] at H
        have c8b0 : decide (a0_2 < a0_1) = false := decide_eq_false c8
        clear c8
        by_cases c11 : a0_2 > 7
        · rw [if_pos c11] at H
          have c11b0 : decide (7 < a0_2) = true := decide_eq_true c11
          clear c11
          obtain rfl := Option.some.inj H
          go_enter Tryd.func62, Tryd.ntmps62
          go_wp2_with (first | ((with_reducible refine gate_dst (N := 1) rfl ?_); refine box_event ?hg (N := 1) ?hd (cs := #[.int .i64 a0_0, .int .i64 a0_1, .int .i64 a0_2, .int .i64 a0_3]) (t := 29) ?hr ?_; (case hd => rfl); (case hg => rfl); (case hr => first | (go_simp; done) | (go_simp; rfl)); intro gb122 hg w12 hbox hb; have n0_ := Aside0.mk (below_step (by repeat (first | (with_reducible first | exact HB.out | apply below_alloc | apply pw_below_drewN | apply below_drew1) | exact HB.out)) hb); have n1_ := Aside0.mk (hbox); have n2_ := Aside0.mk ((by rw [hg]; exact (below_size (by repeat (first | (with_reducible first | exact HB.out | apply below_alloc | apply pw_below_drewN | apply below_drew1) | exact HB.out))) : w.heap.size ≤ gb122)); have n3_ := Aside0.mk ((by rw [hg]; exact (below_size (by repeat (first | (with_reducible first | exact HB.out | apply below_alloc | apply pw_below_drewN | apply below_drew1) | exact HB.out))) : w.heap.size ≤ gb122)); clear HB; have HB := n0_; have BK122 := n1_; have GW122 := n2_; have GE122 := n3_; clear n0_ n1_ n2_ n3_; clear hb hbox hg; have hcz13_0 : w12.cell? ⟨gb122, 0, none⟩ = some (.int .i64 a0_0) := (blk_cell BK122.out 0).trans rfl; have hcz13_1 : w12.cell? ⟨gb122, 1, none⟩ = some (.int .i64 a0_1) := (blk_cell BK122.out 1).trans rfl; have hcz13_2 : w12.cell? ⟨gb122, 2, none⟩ = some (.int .i64 a0_2) := (blk_cell BK122.out 2).trans rfl; have hcz13_3 : w12.cell? ⟨gb122, 3, none⟩ = some (.int .i64 a0_3) := (blk_cell BK122.out 3).trans rfl; have hfz13_0 := blk_frozen BK122.out 0; have hfz13_1 := blk_frozen BK122.out 1; have hfz13_2 := blk_frozen BK122.out 2; have hfz13_3 := blk_frozen BK122.out 3))
          go_ret
          exact ⟨by first | rfl | (simp [errW_none, errW_some] <;> rfl) | (simp [*, errW_none, errW_some] <;> rfl), by repeat (first | (with_reducible first | exact HB.out | apply below_alloc | apply pw_below_drewN | apply below_drew1 | refine below_set ?_ GE122.out) | exact HB.out)⟩
        · rw [if_neg c11] at H
          have c11b0 : decide (7 < a0_2) = false := decide_eq_false c11
          clear c11
          by_cases c14 : a0_3 < 0
          · rw [if_pos c14] at H
            have c14b0 : decide (a0_3 < 0) = true := decide_eq_true c14
            clear c14
            obtain rfl := Option.some.inj H
            go_enter Tryd.func62, Tryd.ntmps62
            go_wp2_with (first | ((with_reducible refine gate_dst (N := 1) rfl ?_); refine box_event ?hg (N := 1) ?hd (cs := #[.int .i64 a0_0, .int .i64 a0_1, .int .i64 a0_2, .int .i64 a0_3]) (t := 29) ?hr ?_; (case hd => rfl); (case hg => rfl); (case hr => first | (go_simp; done) | (go_simp; rfl)); intro gb122 hg w15 hbox hb; have n0_ := Aside0.mk (below_step (by repeat (first | (with_reducible first | exact HB.out | apply below_alloc | apply pw_below_drewN | apply below_drew1) | exact HB.out)) hb); have n1_ := Aside0.mk (hbox); have n2_ := Aside0.mk ((by rw [hg]; exact (below_size (by repeat (first | (with_reducible first | exact HB.out | apply below_alloc | apply pw_below_drewN | apply below_drew1) | exact HB.out))) : w.heap.size ≤ gb122)); have n3_ := Aside0.mk ((by rw [hg]; exact (below_size (by repeat (first | (with_reducible first | exact HB.out | apply below_alloc | apply pw_below_drewN | apply below_drew1) | exact HB.out))) : w.heap.size ≤ gb122)); clear HB; have HB := n0_; have BK122 := n1_; have GW122 := n2_; have GE122 := n3_; clear n0_ n1_ n2_ n3_; clear hb hbox hg; have hcz16_0 : w15.cell? ⟨gb122, 0, none⟩ = some (.int .i64 a0_0) := (blk_cell BK122.out 0).trans rfl; have hcz16_1 : w15.cell? ⟨gb122, 1, none⟩ = some (.int .i64 a0_1) := (blk_cell BK122.out 1).trans rfl; have hcz16_2 : w15.cell? ⟨gb122, 2, none⟩ = some (.int .i64 a0_2) := (blk_cell BK122.out 2).trans rfl; have hcz16_3 : w15.cell? ⟨gb122, 3, none⟩ = some (.int .i64 a0_3) := (blk_cell BK122.out 3).trans rfl; have hfz16_0 := blk_frozen BK122.out 0; have hfz16_1 := blk_frozen BK122.out 1; have hfz16_2 := blk_frozen BK122.out 2; have hfz16_3 := blk_frozen BK122.out 3))
            go_ret
            exact ⟨by first | rfl | (simp [errW_none, errW_some] <;> rfl) | (simp [*, errW_none, errW_some] <;> rfl), by repeat (first | (with_reducible first | exact HB.out | apply below_alloc | apply pw_below_drewN | apply below_drew1 | refine below_set ?_ GE122.out) | exact HB.out)⟩
          · rw [if_neg c14] at H
            have c14b0 : decide (a0_3 < 0) = false := decide_eq_false c14
            clear c14
            by_cases c17 : a0_3 > 16
            · rw [if_pos c17] at H
              have c17b0 : decide (16 < a0_3) = true := decide_eq_true c17
              clear c17
              obtain rfl := Option.some.inj H
              go_enter Tryd.func62, Tryd.ntmps62
              go_wp2_with (first | ((with_reducible refine gate_dst (N := 1) rfl ?_); refine box_event ?hg (N := 1) ?hd (cs := #[.int .i64 a0_0, .int .i64 a0_1, .int .i64 a0_2, .int .i64 a0_3]) (t := 29) ?hr ?_; (case hd => rfl); (case hg => rfl); (case hr => first | (go_simp; done) | (go_simp; rfl)); intro gb122 hg w18 hbox hb; have n0_ := Aside0.mk (below_step (by repeat (first | (with_reducible first | exact HB.out | apply below_alloc | apply pw_below_drewN | apply below_drew1) | exact HB.out)) hb); have n1_ := Aside0.mk (hbox); have n2_ := Aside0.mk ((by rw [hg]; exact (below_size (by repeat (first | (with_reducible first | exact HB.out | apply below_alloc | apply pw_below_drewN | apply below_drew1) | exact HB.out))) : w.heap.size ≤ gb122)); have n3_ := Aside0.mk ((by rw [hg]; exact (below_size (by repeat (first | (with_reducible first | exact HB.out | apply below_alloc | apply pw_below_drewN | apply below_drew1) | exact HB.out))) : w.heap.size ≤ gb122)); clear HB; have HB := n0_; have BK122 := n1_; have GW122 := n2_; have GE122 := n3_; clear n0_ n1_ n2_ n3_; clear hb hbox hg; have hcz19_0 : w18.cell? ⟨gb122, 0, none⟩ = some (.int .i64 a0_0) := (blk_cell BK122.out 0).trans rfl; have hcz19_1 : w18.cell? ⟨gb122, 1, none⟩ = some (.int .i64 a0_1) := (blk_cell BK122.out 1).trans rfl; have hcz19_2 : w18.cell? ⟨gb122, 2, none⟩ = some (.int .i64 a0_2) := (blk_cell BK122.out 2).trans rfl; have hcz19_3 : w18.cell? ⟨gb122, 3, none⟩ = some (.int .i64 a0_3) := (blk_cell BK122.out 3).trans rfl; have hfz19_0 := blk_frozen BK122.out 0; have hfz19_1 := blk_frozen BK122.out 1; have hfz19_2 := blk_frozen BK122.out 2; have hfz19_3 := blk_frozen BK122.out 3))
              go_ret
              exact ⟨by first | rfl | (simp [errW_none, errW_some] <;> rfl) | (simp [*, errW_none, errW_some] <;> rfl), by repeat (first | (with_reducible first | exact HB.out | apply below_alloc | apply pw_below_drewN | apply below_drew1 | refine below_set ?_ GE122.out) | exact HB.out)⟩
            · rw [if_neg c17] at H
              have c17b0 : decide (16 < a0_3) = false := decide_eq_false c17
              clear c17
              obtain rfl := Option.some.inj H
              go_enter Tryd.func62, Tryd.ntmps62
              go_wp2_with (first | ((with_reducible refine gate_dst (N := 1) rfl ?_); refine box_event ?hg (N := 1) ?hd (cs := #[.int .i64 a0_0, .int .i64 a0_1, .int .i64 a0_2, .int .i64 a0_3]) (t := 29) ?hr ?_; (case hd => rfl); (case hg => rfl); (case hr => first | (go_simp; done) | (go_simp; rfl)); intro gb122 hg w20 hbox hb; have n0_ := Aside0.mk (below_step (by repeat (first | (with_reducible first | exact HB.out | apply below_alloc | apply pw_below_drewN | apply below_drew1) | exact HB.out)) hb); have n1_ := Aside0.mk (hbox); have n2_ := Aside0.mk ((by rw [hg]; exact (below_size (by repeat (first | (with_reducible first | exact HB.out | apply below_alloc | apply pw_below_drewN | apply below_drew1) | exact HB.out))) : w.heap.size ≤ gb122)); have n3_ := Aside0.mk ((by rw [hg]; exact (below_size (by repeat (first | (with_reducible first | exact HB.out | apply below_alloc | apply pw_below_drewN | apply below_drew1) | exact HB.out))) : w.heap.size ≤ gb122)); clear HB; have HB := n0_; have BK122 := n1_; have GW122 := n2_; have GE122 := n3_; clear n0_ n1_ n2_ n3_; clear hb hbox hg; have hcz21_0 : w20.cell? ⟨gb122, 0, none⟩ = some (.int .i64 a0_0) := (blk_cell BK122.out 0).trans rfl; have hcz21_1 : w20.cell? ⟨gb122, 1, none⟩ = some (.int .i64 a0_1) := (blk_cell BK122.out 1).trans rfl; have hcz21_2 : w20.cell? ⟨gb122, 2, none⟩ = some (.int .i64 a0_2) := (blk_cell BK122.out 2).trans rfl; have hcz21_3 : w20.cell? ⟨gb122, 3, none⟩ = some (.int .i64 a0_3) := (blk_cell BK122.out 3).trans rfl; have hfz21_0 := blk_frozen BK122.out 0; have hfz21_1 := blk_frozen BK122.out 1; have hfz21_2 := blk_frozen BK122.out 2; have hfz21_3 := blk_frozen BK122.out 3))
              go_ret
              exact ⟨by first | rfl | (simp [errW_none, errW_some] <;> rfl) | (simp [*, errW_none, errW_some] <;> rfl), by repeat (first | (with_reducible first | exact HB.out | apply below_alloc | apply pw_below_drewN | apply below_drew1 | refine below_set ?_ GE122.out) | exact HB.out)⟩
end Go.Proofs.YtpdflhgcdehmoaaDoor.T
namespace Go.Proofs.YtpdflhgcdehmoaaDoor.T
open Go.RowKit Go.Proofs.YtpdflhgcdehmoaaDoorW.PrintWords Go.Proofs.YtpdflhgcdehmoaaDoorW.PrintLast Go.Proofs.YtpdflhgcdehmoaaDoorW.PrintMore
attribute [local go_sem] max2_int min2_int max_two min_two max_three min_three max_four min_four
set_option linter.unusedVariables false
set_option linter.unusedSimpArgs false
attribute [local go_sem high] eqA29
def labChk (l : S26) : Int := if (0 ≤ l.f0 ∧ l.f0 ≤ 3) ∧ (0 ≤ l.f2 ∧ l.f2 ≤ 3) ∧ (0 ≤ l.f1 ∧ l.f1 ≤ 255) ∧ 0 ≤ l.f3 ∧ l.f3 ≤ 255 then 0 else 1
theorem label_is (l : S26) : label_Check.f l.f0 l.f1 l.f2 l.f3 = some (labChk l) := by
  unfold label_Check.f label_level.f label_cats.f labChk
  by_cases h0 : 0 ≤ l.f0 <;> by_cases h1 : l.f0 ≤ 3 <;> by_cases h2 : 0 ≤ l.f2 <;> by_cases h3 : l.f2 ≤ 3 <;> by_cases h4 : 0 ≤ l.f1 <;> by_cases h5 : l.f1 ≤ 255 <;> by_cases h6 : 0 ≤ l.f3 <;> by_cases h7 : l.f3 ≤ 255 <;> simp [h0, h1, h2, h3, h4, h5, h6, h7]
def ringChk (b : S29) : Int := if 0 ≤ b.f0 ∧ b.f0 ≤ b.f1 ∧ b.f1 ≤ b.f2 ∧ b.f2 ≤ 7 ∧ 0 ≤ b.f3 ∧ b.f3 ≤ 16 then 0 else 1
theorem ring_is (b : S29) : ring_Check.f b.f0 b.f1 b.f2 b.f3 = some (ringChk b) := by
  unfold ring_Check.f ringChk
  repeat' split
  all_goals first | rfl | (exfalso; omega)
def firstOf (a b c d : Int) : Int := if a ≠ 0 then a else if b ≠ 0 then b else if c ≠ 0 then c else d
theorem first_is (a b c d : Int) : node_first.f 5 [a, b, c, d] = some (firstOf a b c d) := by
  have w0 : wrap64 (0 + 1) = 1 := by unfold wrap64; omega
  have w1 : wrap64 (1 + 1) = 2 := by unfold wrap64; omega
  have w2 : wrap64 (2 + 1) = 3 := by unfold wrap64; omega
  have w3 : wrap64 (3 + 1) = 4 := by unfold wrap64; omega
  unfold node_first.f firstOf
  simp only [node_first.l0, List.length_cons, List.length_nil, w0, w1, w2, w3]
  by_cases ha : a = 0 <;> by_cases hb : b = 0 <;> by_cases hc : c = 0 <;> by_cases hd : d = 0 <;> simp [rd, ha, hb, hc, hd]
theorem reads4 (w : World) (a b c d : Int) (t : TypeId) : Kd.C (Kd.int .i64) (w.alloc (.cells #[.int .i64 a, .int .i64 b, .int .i64 c, .int .i64 d] t)) (some ⟨w.heap.size, 0, none⟩) ([a, b, c, d] : List Int).length [a, b, c, d] := by
  refine Kd.C_of_reads (d := (0 : Int)) (h1 := fun _ => rfl) ⟨rfl, by simp, fun _ => ⟨_, rfl, fun j hj => ?_⟩⟩
  rw [add_plain, World.cell?_alloc_at _ _ _ _ (by simp)]
  have hj4 : j < 4 := hj
  rcases (by omega : j = 0 ∨ j = 1 ∨ j = 2 ∨ j = 3) with rfl | rfl | rfl | rfl <;> rfl
def nodeRest (n : S32) : Int :=
  if n.f0.toList = [47] ∧ n.f1 = false then 3
  else if n.f1 = true then (if n.f4.f0 = 0 ∧ n.f4.f1 = 0 ∧ n.f4.f2 = 0 ∧ n.f4.f3 = 0 ∧ n.f5.length = 0 then 0 else 11)
  else if ringChk n.f4 ≠ 0 then ringChk n.f4 else if 16 < n.f5.length then 4 else 0
def nodeChk (n : S32) : Int :=
  if firstOf (pathChk n.f0) (labChk n.f2) (labChk n.f6) (aclChk n.f3) ≠ 0 then firstOf (pathChk n.f0) (labChk n.f2) (labChk n.f6) (aclChk n.f3) else nodeRest n
def node_Check.f (a0_0 : ByteArray) (a0_1 : Bool) (a0_2 : Int) (a0_3 : Int) (a0_4 : Int) (a0_5 : Int) (l0_6 : List (S83)) (a0_7 : Int) (a0_8 : Int) (a0_9 : Int) (a0_10 : Int) (l0_11 : List Int) (a0_12 : Int) (a0_13 : Int) (a0_14 : Int) (a0_15 : Int) : Option (Int) :=
  some (nodeChk ⟨a0_0, a0_1, ⟨a0_2, a0_3, a0_4, a0_5⟩, l0_6, ⟨a0_7, a0_8, a0_9, a0_10⟩, l0_11, ⟨a0_12, a0_13, a0_14, a0_15⟩⟩)
set_option maxHeartbeats 2000000 in
set_option maxRecDepth 100000 in
theorem node_calls (n : S32) (A : Option Addr) (c : Nat) (A' : Option Addr) (c' : Nat) (w : World) (hr : Kd.C k83 w A n.f3.length n.f3) (hc : n.f3.length ≤ c) (hr' : Kd.C (Kd.int .i64) w A' n.f5.length n.f5) (hc' : n.f5.length ≤ c') :
    Calls Tryd.prog 31 #[.agg #[.string n.f0, .bool n.f1, .int .i64 n.f2.f0, .int .i64 n.f2.f1, .int .i64 n.f2.f2, .int .i64 n.f2.f3, .slice A n.f3.length c, .int .i64 n.f4.f0, .int .i64 n.f4.f1, .int .i64 n.f4.f2, .int .i64 n.f4.f3, .slice A' n.f5.length c', .int .i64 n.f6.f0, .int .i64 n.f6.f1, .int .i64 n.f6.f2, .int .i64 n.f6.f3]] w fun e w' => e = .returned (.int .i64 (nodeChk n)) ∧ Below w.heap.size w w' := by
  have HR := Lib.hid hr
  clear hr
  have hu := Tryd.underlying32
  have hul := Tryd.underlying26
  have hur := Tryd.underlying29
  go_enter Tryd.func31, Tryd.ntmps31
  go_wp2_with fail
  refine wp_region_tail 12 (by kernel_rfl) (by kernel_rfl) ?_
  simp only [List.take_succ_cons, List.take_zero, List.drop_succ_cons, List.drop_zero]
  repeat (first | go_big_quiet_skip | (go_big_quiet_want; apply quiet_one; (focus (intro w1 hC; obtain ⟨hc1, hf1⟩ := below_rules hC; go_simp; first | rfl | exact ⟨rfl, rfl⟩ | (refine quiet_call hC (by simp) (path_Check.calls _ _ _ rfl)) | (refine quiet_call hC (by simp) (label_Check.calls _ _ _ _ _ _ (label_is _))) | (refine quiet_call hC (by simp) (acl_Check.calls A c n.f3 _ _ (Kd.C_below HR.out (below_on (below_alloc (Below.refl _ _) _) hC)) hc rfl)))); simp only [Act.put, List.setIfInBounds_toArray, List.set_cons_zero, List.set_cons_succ]; go_big_quiet_on))
  refine wpQuiet_nil ?_
  intro w1 hB1
  go_wp2_with fail
  refine (node_first.calls 5 _ _ [pathChk n.f0, labChk n.f2, labChk n.f6, aclChk n.f3] _ _ (reads4 _ _ _ _ _ _) (Nat.le_refl _) (first_is _ _ _ _)).mono ?_
  rintro e w2 ⟨rfl, hd⟩
  have hB2 := below_on hB1 (below_on (below_alloc (Below.refl _ _) _) hd.below)
  have hB3 : Below w.heap.size w w2 := below_on (below_alloc (Below.refl _ _) _) hB2
  obtain ⟨hcr, hfr⟩ := below_rules hB2
  have hlt2 : w.heap.size < w2.heap.size := by
    have h1 := hB2.size
    simp at h1
    omega
  clear hB1 hd hB2
  generalize hE : firstOf (pathChk n.f0) (labChk n.f2) (labChk n.f6) (aclChk n.f3) = E
  have HE := Lib.hid hE
  clear hE
  by_cases hE0 : E = 0
  · have hv : nodeChk n = nodeRest n := by unfold nodeChk; rw [HE.out, hE0]; rfl
    have HV := Lib.hid hv
    have he1 : (E != 0) = false := by rw [hE0]; rfl
    clear hv hE0
    cases hd : n.f1 with
    | true =>
      rw [hd] at hcr
      have HX := Lib.hid (show nodeRest n = _ by unfold nodeRest; rw [if_neg (by rw [hd]; simp), if_pos hd])
      clear hd
      rcases hp1 : (n.f0.toList == [47]) with _ | _
      all_goals
        by_cases hl : n.f5.length = 0
        all_goals
          by_cases h0 : n.f4.f0 = 0
          · by_cases h1 : n.f4.f1 = 0
            · by_cases h2 : n.f4.f2 = 0
              · by_cases h3 : n.f4.f3 = 0
                · first
                  | (have HY := Lib.hid (HV.out.trans (HX.out.trans (if_pos ⟨h0, h1, h2, h3, hl⟩)))
                     have hb0 : (n.f4.f0 == 0) = true := by rw [h0]; rfl
                     have hb1 : (n.f4.f1 == 0) = true := by rw [h1]; rfl
                     have hb2 : (n.f4.f2 == 0) = true := by rw [h2]; rfl
                     have hb3 : (n.f4.f3 == 0) = true := by rw [h3]; rfl
                     have hl0 : decide ((0 : Int) < (n.f5.length : Int)) = false := by rw [hl]; rfl
                     have hl1 : decide (0 < n.f5.length) = false := by rw [hl]; rfl
                     have hl2 : ¬ 0 < n.f5.length := by rw [hl]; omega
                     clear h0 h1 h2 h3 hl
                     go_wp2
                     go_ret
                     exact ⟨ret_int HY.out.symm, hB3⟩)
                  | (have HY := Lib.hid (HV.out.trans (HX.out.trans (if_neg fun h => hl h.2.2.2.2)))
                     have hb0 : (n.f4.f0 == 0) = true := by rw [h0]; rfl
                     have hb1 : (n.f4.f1 == 0) = true := by rw [h1]; rfl
                     have hb2 : (n.f4.f2 == 0) = true := by rw [h2]; rfl
                     have hb3 : (n.f4.f3 == 0) = true := by rw [h3]; rfl
                     have hl0 : decide ((0 : Int) < (n.f5.length : Int)) = true := by simp; omega
                     clear h0 h1 h2 h3
                     go_wp2
                     go_ret
                     exact ⟨ret_int HY.out.symm, hB3⟩)
                · have HY := Lib.hid (HV.out.trans (HX.out.trans (if_neg fun h => h3 h.2.2.2.1)))
                  have hb3 : (n.f4.f3 == 0) = false := by simpa using h3
                  clear h0 h1 h2 hl
                  go_wp2
                  go_ret
                  exact ⟨ret_int HY.out.symm, hB3⟩
              · have HY := Lib.hid (HV.out.trans (HX.out.trans (if_neg fun h => h2 h.2.2.1)))
                have hb2 : (n.f4.f2 == 0) = false := by simpa using h2
                clear h0 h1 hl
                go_wp2
                go_ret
                exact ⟨ret_int HY.out.symm, hB3⟩
            · have HY := Lib.hid (HV.out.trans (HX.out.trans (if_neg fun h => h1 h.2.1)))
              have hb1 : (n.f4.f1 == 0) = false := by simpa using h1
              clear h0 hl
              go_wp2
              go_ret
              exact ⟨ret_int HY.out.symm, hB3⟩
          · have HY := Lib.hid (HV.out.trans (HX.out.trans (if_neg fun h => h0 h.1)))
            have hb0 : (n.f4.f0 == 0) = false := by simpa using h0
            clear hl
            go_wp2
            go_ret
            exact ⟨ret_int HY.out.symm, hB3⟩
    | false =>
      rw [hd] at hcr
      by_cases hp : n.f0.toList = [47]
      · have hr : nodeRest n = 3 := by unfold nodeRest; rw [if_pos ⟨hp, hd⟩]
        have HX := Lib.hid hr
        have hp1 : (n.f0.toList == [47]) = true := by rw [hp]; rfl
        clear hr hp
        go_wp2
        go_ret
        exact ⟨ret_int (HV.out.trans HX.out).symm, hB3⟩
      · have HX := Lib.hid (show nodeRest n = _ by unfold nodeRest; rw [if_neg (by simp [hp]), if_neg (by rw [hd]; simp)])
        have hp1 : (n.f0.toList == [47]) = false := by simpa using hp
        clear hp hd
        generalize hR : ringChk n.f4 = R at HX
        have HRR := Lib.hid hR
        clear hR
        by_cases hR0 : R = 0
        · have HX2 := Lib.hid (HX.out.trans (if_neg (by simp [hR0])))
          have hr1 : (R != 0) = false := by rw [hR0]; rfl
          clear HX hR0
          by_cases h16 : 16 < n.f5.length
          · have HX3 := Lib.hid (HV.out.trans (HX2.out.trans (if_pos h16)))
            clear HX2
            go_wp2_with (go_at_call 62; refine (ring_Check.calls _ _ _ _ R _ (by rw [← HRR.out]; exact ring_is _)).mono ?_; rintro e w3 ⟨rfl, hb⟩; obtain ⟨hc3, hf3⟩ := below_rules hb; obtain ⟨hB4, hlt4⟩ := (⟨below_on hB3 hb, hb.size⟩ : Below w.heap.size w w3 ∧ w2.heap.size ≤ w3.heap.size); clear hb)
            go_ret
            exact ⟨ret_int HX3.out.symm, hB4⟩
          · have HX3 := Lib.hid (HV.out.trans (HX2.out.trans (if_neg h16)))
            clear HX2
            go_wp2_with (go_at_call 62; refine (ring_Check.calls _ _ _ _ R _ (by rw [← HRR.out]; exact ring_is _)).mono ?_; rintro e w3 ⟨rfl, hb⟩; obtain ⟨hc3, hf3⟩ := below_rules hb; obtain ⟨hB4, hlt4⟩ := (⟨below_on hB3 hb, hb.size⟩ : Below w.heap.size w w3 ∧ w2.heap.size ≤ w3.heap.size); clear hb)
            go_ret
            exact ⟨ret_int HX3.out.symm, hB4⟩
        · have HX2 := Lib.hid (HV.out.trans (HX.out.trans (if_pos hR0)))
          have hr1 : (R != 0) = true := by rw [bne_iff_ne]; exact hR0
          clear HX hR0
          go_wp2_with (go_at_call 62; refine (ring_Check.calls _ _ _ _ R _ (by rw [← HRR.out]; exact ring_is _)).mono ?_; rintro e w3 ⟨rfl, hb⟩; obtain ⟨hc3, hf3⟩ := below_rules hb; obtain ⟨hB4, hlt4⟩ := (⟨below_on hB3 hb, hb.size⟩ : Below w.heap.size w w3 ∧ w2.heap.size ≤ w3.heap.size); clear hb)
          go_ret
          exact ⟨ret_int HX2.out.symm, hB4⟩
  · have hv : nodeChk n = E := by unfold nodeChk; rw [HE.out, if_pos hE0]
    have HV := Lib.hid hv
    have he1 : (E != 0) = true := by rw [bne_iff_ne]; exact hE0
    clear hv
    go_wp2
    go_ret
    exact ⟨ret_int HV.out.symm, hB3⟩
theorem node_Check.calls (a0_0 : ByteArray) (a0_1 : Bool) (a0_2 : Int) (a0_3 : Int) (a0_4 : Int) (a0_5 : Int) (A0_6 : Option Addr) (c0_6 : Nat) (l0_6 : List (S83)) (a0_7 : Int) (a0_8 : Int) (a0_9 : Int) (a0_10 : Int) (A0_11 : Option Addr) (c0_11 : Nat) (l0_11 : List Int) (a0_12 : Int) (a0_13 : Int) (a0_14 : Int) (a0_15 : Int) (r : Int) (w : World) (hr0_6 : Kd.C k83 w A0_6 l0_6.length l0_6) (hc0_6 : l0_6.length ≤ c0_6) (hr0_11 : Kd.C (Kd.int .i64) w A0_11 l0_11.length l0_11) (hc0_11 : l0_11.length ≤ c0_11) (h : node_Check.f a0_0 a0_1 a0_2 a0_3 a0_4 a0_5 l0_6 a0_7 a0_8 a0_9 a0_10 l0_11 a0_12 a0_13 a0_14 a0_15 = some r) :
    Calls Tryd.prog 31 #[.agg #[.string a0_0, .bool a0_1, .int .i64 a0_2, .int .i64 a0_3, .int .i64 a0_4, .int .i64 a0_5, .slice A0_6 l0_6.length c0_6, .int .i64 a0_7, .int .i64 a0_8, .int .i64 a0_9, .int .i64 a0_10, .slice A0_11 l0_11.length c0_11, .int .i64 a0_12, .int .i64 a0_13, .int .i64 a0_14, .int .i64 a0_15]] w fun e w' => e = .returned (.int .i64 r) ∧ Below w.heap.size w w' := by
  obtain rfl := Option.some.inj h
  exact node_calls ⟨a0_0, a0_1, ⟨a0_2, a0_3, a0_4, a0_5⟩, l0_6, ⟨a0_7, a0_8, a0_9, a0_10⟩, l0_11, ⟨a0_12, a0_13, a0_14, a0_15⟩⟩ A0_6 c0_6 A0_11 c0_11 w hr0_6 hc0_6 hr0_11 hc0_11
end Go.Proofs.YtpdflhgcdehmoaaDoor.T
namespace Go.Proofs.YtpdflhgcdehmoaaDoor.T
open Go.RowKit Go.Proofs.YtpdflhgcdehmoaaDoorW.PrintWords Go.Proofs.YtpdflhgcdehmoaaDoorW.PrintLast Go.Proofs.YtpdflhgcdehmoaaDoorW.PrintMore
attribute [local go_sem] max2_int min2_int max_two min_two max_three min_three max_four min_four
set_option linter.unusedVariables false
set_option linter.unusedSimpArgs false
def risesP (l : List S32) : Bool := decide (l.Pairwise fun a b => a.f0.toList < b.f0.toList)
def lessN (l : List S32) (p : ByteArray) : Nat := l.countP fun n => decide (n.f0.toList < p.toList)
def atP (l : List S32) (p : ByteArray) : Bool := decide (lessN l p < l.length) && ((rd_T32 l (lessN l p)).f0.toList == p.toList)
theorem rd_get (l : List S32) (i : Nat) (h : i < l.length) : rd_T32 l (i : Int) = l[i] := by
  simp [rd_T32, List.getD_eq_getElem?_getD, List.getElem?_eq_getElem h]
theorem rises_lt {l : List S32} (h : risesP l = true) {a b : Nat} (hab : a < b) (hb : b < l.length) : (rd_T32 l a).f0.toList < (rd_T32 l b).f0.toList := by
  rw [rd_get l a (by omega), rd_get l b hb]
  exact List.pairwise_iff_getElem.1 (of_decide_eq_true h) a b (by omega) hb hab
theorem lessN_range (l : List S32) (p : ByteArray) : (List.range l.length).countP (fun i => !(!(Op.bytesLess (rd_T32 l (i : Nat)).f0.toList p.toList))) = lessN l p := by
  have h : l = (List.range l.length).map (fun (i : Nat) => rd_T32 l i) := by
    apply List.ext_getElem
    · simp
    · intro i h1 h2
      simp only [List.getElem_map, List.getElem_range]
      rw [rd_get l i h1]
  unfold lessN
  rw [h, List.countP_map]
  simp only [List.length_map, List.length_range]
  congr 1
  funext i
  rw [← h]
  simp [Function.comp, bytes_lt]
def tree_place.f (l0 : List (S32)) (a1 : ByteArray) : Option (Int × Bool) :=
  if risesP l0 = true ∧ l0.length < 4611686018427387904 then some ((lessN l0 a1 : Nat), atP l0 a1) else none
set_option maxHeartbeats 2000000 in
set_option maxRecDepth 100000 in
theorem place_closure (ba bx : Nat) (A0 : Option Addr) (c0 : Nat) (l0 : List (S32)) (a1 : ByteArray) (i : Nat) (hi : i < l0.length) (W : World) (ha : W.cell? ⟨ba, 0, none⟩ = some (.slice A0 l0.length c0)) (hx : W.cell? ⟨bx, 0, none⟩ = some (.string a1)) (hr : Kd.C k32 W A0 l0.length l0) :
    Calls Tryd.prog 72 (#[.int .i64 i] ++ #[.pointer (some ⟨ba, 0, none⟩), .pointer (some ⟨bx, 0, none⟩)]) W fun e w' => e = .returned (.bool (!(Op.bytesLess (rd_T32 l0 i).f0.toList a1.toList))) ∧ ∃ q, w' = W.drewN q := by
  obtain ⟨ad, _, _, _, _, rfl, hx0, hx1⟩ := at_T32 hr (i : Int) (by omega) (by omega)
  clear hx1 hr
  simp only [Int.toNat_natCast] at hx0
  have hu := Tryd.underlying32
  have hiz : (i : Int) < (l0.length : Int) := by omega
  have mixed : Tryd.prog.follows .mixedOrders = true := by kernel_rfl
  go_enter Tryd.func72, Tryd.ntmps72
  go_wp2
  go_region_o
  all_goals go_wp2
  all_goals go_ret
  all_goals exact ⟨by first | rfl | simp, 1, rfl⟩
set_option maxHeartbeats 4000000 in
set_option maxRecDepth 100000 in
theorem tree_place.calls (A0 : Option Addr) (c0 : Nat) (l0 : List (S32)) (a1 : ByteArray) (r1 : Int) (r2 : Bool) (w : World) (hr0 : Kd.C k32 w A0 l0.length l0) (hc0 : l0.length ≤ c0) (h : tree_place.f l0 a1 = some (r1, r2)) :
    Calls Tryd.prog 43 #[.slice A0 l0.length c0, .string a1] w fun e w' => e = .returned (.tuple #[.int .i64 r1, .bool r2]) ∧ Below w.heap.size w w' := by
  have hfit : risesP l0 = true ∧ l0.length < 4611686018427387904 := by
    unfold tree_place.f at h
    by_cases hf : risesP l0 = true ∧ l0.length < 4611686018427387904
    · exact hf
    · rw [if_neg hf] at h; cases h
  obtain ⟨rfl, rfl⟩ : ((lessN l0 a1 : Nat) : Int) = r1 ∧ atP l0 a1 = r2 := by
    unfold tree_place.f at h
    rw [if_pos hfit] at h
    exact ⟨congrArg (·.1) (Option.some.inj h), congrArg (·.2) (Option.some.inj h)⟩
  clear h
  obtain ⟨W0, hW0⟩ : ∃ W0, W0 = (w.alloc (.cells #[.slice A0 l0.length c0] 22)).alloc (.cells #[.string a1] 9) := ⟨_, rfl⟩
  have hsize : W0.heap.size = w.heap.size + 1 + 1 := by rw [hW0]; simp
  have ca : W0.cell? ⟨w.heap.size, 0, none⟩ = some (.slice A0 l0.length c0) := by rw [hW0]; exact cell_alloc_sl _ (cell_new_sl w _ _)
  have cx : W0.cell? ⟨w.heap.size + 1, 0, none⟩ = some (Value.string a1) := by rw [hW0]; have := cell_new_sl (w.alloc (.cells #[.slice A0 l0.length c0] 22)) (Value.string a1) 9; rwa [World.size_alloc] at this
  have hB0 : Below w.heap.size w W0 := by rw [hW0]; exact ((Below.refl _ w).alloc (Nat.le_refl _) _).alloc (by simp) _
  have eg : ∀ args w, (callFunc 72 args).run Tryd.prog w = .ok (.enter 72 args) w := enters_of Tryd.func72 (by kernel_rfl) rfl
  have hS := Any.sort_Search (P := Tryd.prog) Tryd.search 72 #[.pointer (some ⟨w.heap.size, 0, none⟩), .pointer (some ⟨w.heap.size + 1, 0, none⟩)] l0.length (fun i => !(Op.bytesLess (rd_T32 l0 i).f0.toList a1.toList)) W0 eg hfit.2
    (fun m os i hi => (place_closure w.heap.size (w.heap.size + 1) A0 c0 l0 a1 i hi _ (_root_.Go.cell_grown (by simp [hsize]; omega) ca m os) (_root_.Go.cell_grown (by simp [hsize]) cx m os) (Kd.C_below hr0 (hB0.trans (below_grown_sl w.heap.size W0 m os (by omega))))).mono
      fun _ _ ⟨he, q, hq⟩ => ⟨he, q, #[], by rw [hq, Go.Sort.grow_empty]⟩) (by
        intro a b hab hb ha
        simp only [bytes_lt, Bool.not_eq_true', decide_eq_false_iff_not] at ha ⊢
        rcases Nat.lt_or_eq_of_le hab with h1 | rfl
        · exact fun h2 => ha (List.lt_trans (rises_lt hfit.1 h1 hb) h2)
        · exact ha)
  rw [lessN_range] at hS
  have e71 : ∀ args w, (callFunc 71 args).run Tryd.prog w = .ok (.enter 71 args) w := enters_of Tryd.func71 (by kernel_rfl) rfl
  have HR := Lib.hid hr0
  clear hr0
  have HF := Lib.hid hfit
  clear hfit
  have HB0 := Lib.hid hB0
  clear hB0
  have HE := Lib.hid (show atP l0 a1 = (decide (lessN l0 a1 < l0.length) && ((rd_T32 l0 (lessN l0 a1)).f0.toList == a1.toList)) from rfl)
  generalize lessN l0 a1 = k at hS HE ⊢
  generalize atP l0 a1 = b at HE ⊢
  have hu := Tryd.underlying32
  have hB1 : Below w.heap.size w W0 := HB0.out
  by_cases hk : k < l0.length
  · obtain ⟨ad, _, _, _, _, rfl, hx0, hx1⟩ := at_T32 HR.out (k : Int) (by omega) (by omega)
    clear hx1
    simp only [Int.toNat_natCast] at hx0
    have hbk := World.block_lt_of_cell? _ _ hx0
    have hkz : decide ((k : Int) < (l0.length : Int)) = true := by simp; omega
    have HE2 := Lib.hid (show ((rd_T32 l0 k).f0.toList == a1.toList) = b by rw [HE.out]; simp [hk])
    generalize hv : ((rd_T32 l0 k).f0.toList == a1.toList) = b' at HE2
    obtain rfl := HE2.out
    go_enter Tryd.func43, Tryd.ntmps43
    go_wp2_with fail
    rw [← hW0]
    refine hS.mono ?_
    rintro e w' ⟨rfl, q, os, rfl⟩
    have hB2 := hB1.trans (below_grown_sl w.heap.size W0 q os (by omega))
    have hsz := hB2.size
    obtain ⟨hc2, hf2⟩ := below_rules hB2
    have ca2 := _root_.Go.cell_grown (by simp [hsize]; omega) ca q os
    have cx2 := _root_.Go.cell_grown (by simp [hsize]) cx q os
    have hw0 : w.heap.size < (Go.Sort.grow (W0.drewN q) os).heap.size := Nat.lt_of_lt_of_le (by omega) (below_grown_sl W0.heap.size W0 q os (Nat.le_refl _)).size
    have hw1 : w.heap.size + 1 < (Go.Sort.grow (W0.drewN q) os).heap.size := Nat.lt_of_lt_of_le (by omega) (below_grown_sl W0.heap.size W0 q os (Nat.le_refl _)).size
    clear ca cx hS hB1 hW0 HB0 hsize
    generalize Go.Sort.grow (W0.drewN q) os = W2 at *
    have hbk2 : (ad.add (k * 16)).block < W2.heap.size := Nat.lt_of_lt_of_le hbk hsz
    go_wp2
    refine wp_region_tail 15 (by kernel_rfl) (by kernel_rfl) ?_
    simp only [List.take_succ_cons, List.take_zero, List.drop_succ_cons, List.drop_zero]
    repeat (first | go_big_quiet_skip | (go_big_quiet_want; apply quiet_one; (focus (intro w1 hC; obtain ⟨hc1, hf1⟩ := below_rules hC; go_simp; first | rfl | exact ⟨rfl, rfl⟩)); simp only [Act.put, List.setIfInBounds_toArray, List.set_cons_zero, List.set_cons_succ]; go_big_quiet_on))
    refine wpQuiet_nil ?_
    intro w1 hB3
    have hB4 := hB2.trans (hB3.mono hsz)
    go_wp2
    go_ret2
    exact ⟨rfl, hB4⟩
  · have hb : b = false := by rw [HE.out]; simp [hk]
    subst hb
    have hkz : decide ((k : Int) < (l0.length : Int)) = false := by simp; omega
    go_enter Tryd.func43, Tryd.ntmps43
    go_wp2_with fail
    rw [← hW0]
    refine hS.mono ?_
    rintro e w' ⟨rfl, q, os, rfl⟩
    have hB2 := hB1.trans (below_grown_sl w.heap.size W0 q os (by omega))
    have hsz := hB2.size
    obtain ⟨hc2, hf2⟩ := below_rules hB2
    have ca2 := _root_.Go.cell_grown (by simp [hsize]; omega) ca q os
    have cx2 := _root_.Go.cell_grown (by simp [hsize]) cx q os
    have hw0 : w.heap.size < (Go.Sort.grow (W0.drewN q) os).heap.size := Nat.lt_of_lt_of_le (by omega) (below_grown_sl W0.heap.size W0 q os (Nat.le_refl _)).size
    have hw1 : w.heap.size + 1 < (Go.Sort.grow (W0.drewN q) os).heap.size := Nat.lt_of_lt_of_le (by omega) (below_grown_sl W0.heap.size W0 q os (Nat.le_refl _)).size
    clear ca cx hS hB1 hW0 HB0 hsize
    generalize Go.Sort.grow (W0.drewN q) os = W2 at *
    go_wp2
    refine wp_region_tail 15 (by kernel_rfl) (by kernel_rfl) ?_
    simp only [List.take_succ_cons, List.take_zero, List.drop_succ_cons, List.drop_zero]
    repeat (first | go_big_quiet_skip | (go_big_quiet_want; apply quiet_one; (focus (intro w1 hC; obtain ⟨hc1, hf1⟩ := below_rules hC; go_simp; first | rfl | exact ⟨rfl, rfl⟩)); simp only [Act.put, List.setIfInBounds_toArray, List.set_cons_zero, List.set_cons_succ]; go_big_quiet_on))
    refine wpQuiet_nil ?_
    intro w1 hB3
    have hB4 := hB2.trans (hB3.mono hsz)
    go_wp2
    go_ret2
    exact ⟨rfl, hB4⟩
end Go.Proofs.YtpdflhgcdehmoaaDoor.T
namespace Go.Proofs.YtpdflhgcdehmoaaDoor.T
open Go.RowKit Go.Proofs.YtpdflhgcdehmoaaDoorW.PrintWords Go.Proofs.YtpdflhgcdehmoaaDoorW.PrintLast Go.Proofs.YtpdflhgcdehmoaaDoorW.PrintMore
attribute [local go_sem] max2_int min2_int max_two min_two max_three min_three max_four min_four
set_option linter.unusedVariables false
set_option linter.unusedSimpArgs false
def label_Join.f (a0_0 : Int) (a0_1 : Int) (a0_2 : Int) (a0_3 : Int) (a1_0 : Int) (a1_1 : Int) (a1_2 : Int) (a1_3 : Int) : Option (Int × Int × Int × Int) := some (mx a0_0 a1_0, Go.bits .or .i64 a0_1 a1_1, mn a0_2 a1_2, Go.bits .and .i64 a0_3 a1_3)
set_option maxHeartbeats 8000000 in
set_option maxRecDepth 100000 in
theorem label_Join.calls (a0_0 : Int) (a0_1 : Int) (a0_2 : Int) (a0_3 : Int) (a1_0 : Int) (a1_1 : Int) (a1_2 : Int) (a1_3 : Int) (r1 : Int) (r2 : Int) (r3 : Int) (r4 : Int) (w : World) (h : label_Join.f a0_0 a0_1 a0_2 a0_3 a1_0 a1_1 a1_2 a1_3 = some (r1, r2, r3, r4)) :
    Calls Tryd.prog 84 #[.agg #[.int .i64 a0_0, .int .i64 a0_1, .int .i64 a0_2, .int .i64 a0_3], .agg #[.int .i64 a1_0, .int .i64 a1_1, .int .i64 a1_2, .int .i64 a1_3]] w fun e w' => e = .returned (.agg #[.int .i64 r1, .int .i64 r2, .int .i64 r3, .int .i64 r4]) ∧ Below w.heap.size w w' := by
  have hu26 := Tryd.underlying26
  have HB := Aside0.mk (Below.refl w.heap.size w)
  have H : (some (mx a0_0 a1_0, Go.bits .or .i64 a0_1 a1_1, mn a0_2 a1_2, Go.bits .and .i64 a0_3 a1_3)) = some (r1, r2, r3, r4) := h
  clear h
  obtain ⟨ji3, hji3⟩ : ∃ j_ : Int, (mx a0_0 a1_0) = j_ := ⟨_, rfl⟩
  replace H : (some (ji3, Go.bits .or .i64 a0_1 a1_1, mn a0_2 a1_2, Go.bits .and .i64 a0_3 a1_3)) = some (r1, r2, r3, r4) := by first | (rw [hji3] at H; exact H) | (simp only [hji3] at H ⊢; exact H)
  have hji3_ : (if a0_0 < a1_0 then a1_0 else a0_0) = ji3 := hji3
  obtain ⟨ji4, hji4⟩ : ∃ j_ : Int, (mn a0_2 a1_2) = j_ := ⟨_, rfl⟩
  replace H : (some (ji3, Go.bits .or .i64 a0_1 a1_1, ji4, Go.bits .and .i64 a0_3 a1_3)) = some (r1, r2, r3, r4) := by first | (rw [hji4] at H; exact H) | (simp only [hji4] at H ⊢; exact H)
  have hji4_ : (if a1_2 < a0_2 then a1_2 else a0_2) = ji4 := hji4
  simp only [Option.some.injEq, Prod.mk.injEq] at H
  obtain ⟨rfl, rfl, rfl, rfl⟩ := H
  go_enter Tryd.func84, Tryd.ntmps84
  go_wp2_with (first | ((with_reducible refine gate_dst (N := 2) rfl ?_); refine box_event ?hg (N := 2) ?hd (cs := #[.int .i64 a0_0, .int .i64 a0_1, .int .i64 a0_2, .int .i64 a0_3]) (t := 26) ?hr ?_; (case hd => rfl); (case hg => rfl); (case hr => first | (go_simp; done) | (go_simp; rfl)); intro gb124 hg w5 hbox hb; have n0_ := Aside0.mk (below_step (by repeat (first | (with_reducible first | exact HB.out | apply below_alloc | apply pw_below_drewN | apply below_drew1) | exact HB.out)) hb); have n1_ := Aside0.mk (hbox); have n2_ := Aside0.mk ((by rw [hg]; exact (below_size (by repeat (first | (with_reducible first | exact HB.out | apply below_alloc | apply pw_below_drewN | apply below_drew1) | exact HB.out))) : w.heap.size ≤ gb124)); have n3_ := Aside0.mk ((by rw [hg]; exact (below_size (by repeat (first | (with_reducible first | exact HB.out | apply below_alloc | apply pw_below_drewN | apply below_drew1) | exact HB.out))) : w.heap.size ≤ gb124)); clear HB; have HB := n0_; have BK124 := n1_; have GW124 := n2_; have GE124 := n3_; clear n0_ n1_ n2_ n3_; clear hb hbox hg) | ((with_reducible refine gate_dst (N := 3) rfl ?_); refine box_event ?hg (N := 3) ?hd (cs := #[.int .i64 a1_0, .int .i64 a1_1, .int .i64 a1_2, .int .i64 a1_3]) (t := 26) ?hr ?_; (case hd => rfl); (case hg => rfl); (case hr => first | (go_simp; done) | (go_simp; rfl)); intro gb125 hg w6 hbox hb; have n0_ := Aside0.mk (blk_below (g := gb124) (o := .cells #[.int .i64 a0_0, .int .i64 a0_1, .int .i64 a0_2, .int .i64 a0_3] 26 (0, 0)) (by (with_reducible repeat (first | refine blk_drewN ?_ _ | refine blk_drew ?_ | refine blk_alloc ?_ _)); exact BK124.out) hb); have n1_ := Aside0.mk (below_step (by repeat (first | (with_reducible first | exact HB.out | apply below_alloc | apply pw_below_drewN | apply below_drew1 | refine below_set ?_ GE124.out) | exact HB.out)) hb); have n2_ := Aside0.mk (hbox); have n3_ := Aside0.mk ((by rw [hg]; exact (below_size (by repeat (first | (with_reducible first | exact HB.out | apply below_alloc | apply pw_below_drewN | apply below_drew1 | refine below_set ?_ GE124.out) | exact HB.out))) : w.heap.size ≤ gb125)); have n4_ := Aside0.mk ((by rw [hg]; exact (below_size (by repeat (first | (with_reducible first | exact HB.out | apply below_alloc | apply pw_below_drewN | apply below_drew1 | refine below_set ?_ GE124.out) | exact HB.out))) : w.heap.size ≤ gb125)); have n5_ := Aside0.mk ((by rw [hg]; exact Nat.ne_of_lt (blk_lt (g := gb124) (o := .cells #[.int .i64 a0_0, .int .i64 a0_1, .int .i64 a0_2, .int .i64 a0_3] 26 (0, 0)) (by (with_reducible repeat (first | refine blk_drewN ?_ _ | refine blk_drew ?_ | refine blk_alloc ?_ _)); exact BK124.out)) : gb124 ≠ gb125)); have n6_ := Aside0.mk ((by rw [hg]; exact Nat.ne_of_gt (blk_lt (g := gb124) (o := .cells #[.int .i64 a0_0, .int .i64 a0_1, .int .i64 a0_2, .int .i64 a0_3] 26 (0, 0)) (by (with_reducible repeat (first | refine blk_drewN ?_ _ | refine blk_drew ?_ | refine blk_alloc ?_ _)); exact BK124.out)) : gb125 ≠ gb124)); clear BK124; clear HB; have BK124 := n0_; have HB := n1_; have BK125 := n2_; have GW125 := n3_; have GE125 := n4_; have NB124_125 := n5_; have NB125_124 := n6_; clear n0_ n1_ n2_ n3_ n4_ n5_ n6_; clear hb hbox hg) | ((with_reducible refine gate_dst (N := 4) rfl ?_); refine box_event ?hg (N := 4) ?hd (cs := #[.int .i64 0, .int .i64 0, .int .i64 0, .int .i64 0]) (t := 26) ?hr ?_; (case hd => rfl); (case hg => rfl); (case hr => first | (go_simp; done) | (go_simp; rfl)); intro gb126 hg w7 hbox hb; have n0_ := Aside0.mk (blk_below (g := gb124) (o := .cells #[.int .i64 a0_0, .int .i64 a0_1, .int .i64 a0_2, .int .i64 a0_3] 26 (0, 0)) (by (with_reducible repeat (first | refine blk_drewN ?_ _ | refine blk_drew ?_ | refine blk_alloc ?_ _)); exact BK124.out) hb); have n1_ := Aside0.mk (blk_below (g := gb125) (o := .cells #[.int .i64 a1_0, .int .i64 a1_1, .int .i64 a1_2, .int .i64 a1_3] 26 (0, 0)) (by (with_reducible repeat (first | refine blk_drewN ?_ _ | refine blk_drew ?_ | refine blk_alloc ?_ _)); exact BK125.out) hb); have n2_ := Aside0.mk (below_step (by repeat (first | (with_reducible first | exact HB.out | apply below_alloc | apply pw_below_drewN | apply below_drew1 | refine below_set ?_ GE124.out | refine below_set ?_ GE125.out) | exact HB.out)) hb); have n3_ := Aside0.mk (hbox); have n4_ := Aside0.mk ((by rw [hg]; exact (below_size (by repeat (first | (with_reducible first | exact HB.out | apply below_alloc | apply pw_below_drewN | apply below_drew1 | refine below_set ?_ GE124.out | refine below_set ?_ GE125.out) | exact HB.out))) : w.heap.size ≤ gb126)); have n5_ := Aside0.mk ((by rw [hg]; exact (below_size (by repeat (first | (with_reducible first | exact HB.out | apply below_alloc | apply pw_below_drewN | apply below_drew1 | refine below_set ?_ GE124.out | refine below_set ?_ GE125.out) | exact HB.out))) : w.heap.size ≤ gb126)); have n6_ := Aside0.mk ((by rw [hg]; exact Nat.ne_of_lt (blk_lt (g := gb124) (o := .cells #[.int .i64 a0_0, .int .i64 a0_1, .int .i64 a0_2, .int .i64 a0_3] 26 (0, 0)) (by (with_reducible repeat (first | refine blk_drewN ?_ _ | refine blk_drew ?_ | refine blk_alloc ?_ _)); exact BK124.out)) : gb124 ≠ gb126)); have n7_ := Aside0.mk ((by rw [hg]; exact Nat.ne_of_gt (blk_lt (g := gb124) (o := .cells #[.int .i64 a0_0, .int .i64 a0_1, .int .i64 a0_2, .int .i64 a0_3] 26 (0, 0)) (by (with_reducible repeat (first | refine blk_drewN ?_ _ | refine blk_drew ?_ | refine blk_alloc ?_ _)); exact BK124.out)) : gb126 ≠ gb124)); have n8_ := Aside0.mk ((by rw [hg]; exact Nat.ne_of_lt (blk_lt (g := gb125) (o := .cells #[.int .i64 a1_0, .int .i64 a1_1, .int .i64 a1_2, .int .i64 a1_3] 26 (0, 0)) (by (with_reducible repeat (first | refine blk_drewN ?_ _ | refine blk_drew ?_ | refine blk_alloc ?_ _)); exact BK125.out)) : gb125 ≠ gb126)); have n9_ := Aside0.mk ((by rw [hg]; exact Nat.ne_of_gt (blk_lt (g := gb125) (o := .cells #[.int .i64 a1_0, .int .i64 a1_1, .int .i64 a1_2, .int .i64 a1_3] 26 (0, 0)) (by (with_reducible repeat (first | refine blk_drewN ?_ _ | refine blk_drew ?_ | refine blk_alloc ?_ _)); exact BK125.out)) : gb126 ≠ gb125)); clear BK124; clear BK125; clear HB; have BK124 := n0_; have BK125 := n1_; have HB := n2_; have BK126 := n3_; have GW126 := n4_; have GE126 := n5_; have NB124_126 := n6_; have NB126_124 := n7_; have NB125_126 := n8_; have NB126_125 := n9_; clear n0_ n1_ n2_ n3_ n4_ n5_ n6_ n7_ n8_ n9_; clear hb hbox hg; have hnb8 := NB124_125.out; have hnc8 := NB125_124.out; have hnb9 := NB124_126.out; have hnc9 := NB126_124.out; have hcz10_0 : w7.cell? ⟨gb124, 0, none⟩ = some (.int .i64 a0_0) := (blk_cell BK124.out 0).trans rfl; have hcz10_1 : w7.cell? ⟨gb124, 1, none⟩ = some (.int .i64 a0_1) := (blk_cell BK124.out 1).trans rfl; have hcz10_2 : w7.cell? ⟨gb124, 2, none⟩ = some (.int .i64 a0_2) := (blk_cell BK124.out 2).trans rfl; have hcz10_3 : w7.cell? ⟨gb124, 3, none⟩ = some (.int .i64 a0_3) := (blk_cell BK124.out 3).trans rfl; have hfz10_0 := blk_frozen BK124.out 0; have hfz10_1 := blk_frozen BK124.out 1; have hfz10_2 := blk_frozen BK124.out 2; have hfz10_3 := blk_frozen BK124.out 3; have hnb11 := NB125_126.out; have hnc11 := NB126_125.out; have hcz12_0 : w7.cell? ⟨gb125, 0, none⟩ = some (.int .i64 a1_0) := (blk_cell BK125.out 0).trans rfl; have hcz12_1 : w7.cell? ⟨gb125, 1, none⟩ = some (.int .i64 a1_1) := (blk_cell BK125.out 1).trans rfl; have hcz12_2 : w7.cell? ⟨gb125, 2, none⟩ = some (.int .i64 a1_2) := (blk_cell BK125.out 2).trans rfl; have hcz12_3 : w7.cell? ⟨gb125, 3, none⟩ = some (.int .i64 a1_3) := (blk_cell BK125.out 3).trans rfl; have hfz12_0 := blk_frozen BK125.out 0; have hfz12_1 := blk_frozen BK125.out 1; have hfz12_2 := blk_frozen BK125.out 2; have hfz12_3 := blk_frozen BK125.out 3; have hcz13_0 : w7.cell? ⟨gb126, 0, none⟩ = some (.int .i64 0) := (blk_cell BK126.out 0).trans rfl; have hcz13_1 : w7.cell? ⟨gb126, 1, none⟩ = some (.int .i64 0) := (blk_cell BK126.out 1).trans rfl; have hcz13_2 : w7.cell? ⟨gb126, 2, none⟩ = some (.int .i64 0) := (blk_cell BK126.out 2).trans rfl; have hcz13_3 : w7.cell? ⟨gb126, 3, none⟩ = some (.int .i64 0) := (blk_cell BK126.out 3).trans rfl; have hfz13_0 := blk_frozen BK126.out 0; have hfz13_1 := blk_frozen BK126.out 1; have hfz13_2 := blk_frozen BK126.out 2; have hfz13_3 := blk_frozen BK126.out 3))
  refine bodyPost_ret (results_cell_row rfl _ _ gb126 26 #[.int .i64 ji3, .int .i64 (Go.bits .or .i64 a0_1 a1_1), .int .i64 ji4, .int .i64 (Go.bits .and .i64 a0_3 a1_3)] (0, 0) _ rfl (by (with_reducible repeat (first | refine blk_drewN ?_ _ | refine blk_drew ?_ | refine blk_alloc ?_ _)); refine blk_put (cs := #[.int .i64 ji3, .int .i64 (Go.bits .or .i64 a0_1 a1_1), .int .i64 ji4, .int .i64 0]) ?_ 3 _ rfl; (with_reducible repeat (first | refine blk_drewN ?_ _ | refine blk_drew ?_ | refine blk_alloc ?_ _)); refine blk_put (cs := #[.int .i64 ji3, .int .i64 (Go.bits .or .i64 a0_1 a1_1), .int .i64 0, .int .i64 0]) ?_ 2 _ rfl; (with_reducible repeat (first | refine blk_drewN ?_ _ | refine blk_drew ?_ | refine blk_alloc ?_ _)); refine blk_put (cs := #[.int .i64 ji3, .int .i64 0, .int .i64 0, .int .i64 0]) ?_ 1 _ rfl; (with_reducible repeat (first | refine blk_drewN ?_ _ | refine blk_drew ?_ | refine blk_alloc ?_ _)); refine blk_put (cs := #[.int .i64 0, .int .i64 0, .int .i64 0, .int .i64 0]) ?_ 0 _ rfl; (with_reducible repeat (first | refine blk_drewN ?_ _ | refine blk_drew ?_ | refine blk_alloc ?_ _)); exact BK126.out) Tryd.underlying26 rfl (by kernel_rfl)) rfl ?_
  exact ⟨by first | rfl | (simp [errW_none, errW_some] <;> rfl) | (simp only [← hji3, ← hji4]; first | rfl | (simp [errW_none, errW_some] <;> rfl)) | (simp [*, errW_none, errW_some] <;> rfl), by repeat (first | (with_reducible first | exact HB.out | apply below_alloc | apply pw_below_drewN | apply below_drew1 | refine below_set ?_ GE124.out | refine below_set ?_ GE125.out | refine below_set ?_ GE126.out) | exact HB.out)⟩
end Go.Proofs.YtpdflhgcdehmoaaDoor.T
