/- Part of the proof that TreeRises comes to true: printed and written texts, merged by a program. -/
import Derived.Test.YtpdflhgcdehmoaaDoorR3
import Derived.Test.YtpdflhgcdehmoaaDoorR21
import Derived.Test.YtpdflhgcdehmoaaDoorR7
import Derived.Test.YtpdflhgcdehmoaaDoorR19
import Derived.Test.YtpdflhgcdehmoaaDoorR22
namespace Go.Proofs.YtpdflhgcdehmoaaDoor.T
open Go.RowKit Go.Proofs.YtpdflhgcdehmoaaDoorW.PrintWords Go.Proofs.YtpdflhgcdehmoaaDoorW.PrintLast Go.Proofs.YtpdflhgcdehmoaaDoorW.PrintMore
attribute [local go_sem] max2_int min2_int max_two min_two max_three min_three max_four min_four
set_option linter.unusedVariables false
set_option linter.unusedSimpArgs false
mutual
def donjonlaw11_TreeRises.l0 : Nat → List (S32) → Int → Option (Bool)
  | 0, _, _ => none
  | k + 1, x5, x6 => if x6 < (x5.length : Int) then (if 0 ≤ x6 then ((donjonref7_Parent.f k ((rd_T32 x5 x6).f0)).bind fun t222 => (donjonlaw11_TreeRises.l1 k x5 x6 t222)) else (none)) else (some true)
def donjonlaw11_TreeRises.l1 : Nat → List (S32) → Int → ByteArray → Option (Bool)
  | 0, _, _, _ => none
  | k + 1, x5, x6, x7 => if x7.toList = ([] : List UInt8) then (donjonlaw11_TreeRises.l0 k x5 (wrap64 (x6 + 1))) else ((tree_Find.f x5 x7).bind fun bt223 => (if bt223.2.2.2.2.2.2.2.2.2.2.2.2.2.2.2.2 = true then (if bt223.2.1 = true then (if 0 ≤ x6 then (if x6 < (x5.length : Int) then ((donjonref4_Over.f ((rd_T32 x5 x6).f2.f0) ((rd_T32 x5 x6).f2.f1) ((rd_T32 x5 x6).f2.f2) ((rd_T32 x5 x6).f2.f3) bt223.2.2.1 bt223.2.2.2.1 bt223.2.2.2.2.1 bt223.2.2.2.2.2.1).bind fun t246 => (if t246 = true then ((donjonref7_Parent.f k x7).bind fun t247 => (donjonlaw11_TreeRises.l1 k x5 x6 t247)) else (some false))) else (none)) else (none)) else (some false)) else (some false)))
end
def donjonlaw11_TreeRises.f (k : Nat) (l0 : List (S26)) (l1 : List (S54)) : Option (Bool) := (donjonlaw11_known.f).bind fun t216 => (if t216 = true then ((donjonlaw11_Grow.f l0 l1).bind fun t217 => ((tree_Check.f t217).bind fun t220 => (if t220 = 0 then (donjonlaw11_TreeRises.l0 k t217 0) else (some false)))) else (some false))
theorem donjonlaw11_TreeRises.mono_l : ∀ k, (∀ y0 y1, LeO (donjonlaw11_TreeRises.l0 k y0 y1) (donjonlaw11_TreeRises.l0 (k + 1) y0 y1)) ∧ (∀ y0 y1 y2, LeO (donjonlaw11_TreeRises.l1 k y0 y1 y2) (donjonlaw11_TreeRises.l1 (k + 1) y0 y1 y2))
  | 0 => ⟨fun _ _ r h => by simp [donjonlaw11_TreeRises.l0] at h, fun _ _ _ r h => by simp [donjonlaw11_TreeRises.l1] at h⟩
  | k + 1 => by
    obtain ⟨ih0, ih1⟩ := donjonlaw11_TreeRises.mono_l k
    refine ⟨?_, ?_⟩
    · intro y0 y1
      unfold donjonlaw11_TreeRises.l0
      repeat' first
      | (with_reducible exact ih0 _ _)
      | (with_reducible exact ih1 _ _ _)
      | (with_reducible exact donjonref7_Parent.mono _ _)
      | (with_reducible exact LeO.refl _)
      | (with_reducible exact LeO.none _)
      | (with_reducible refine LeO.ite ?_ ?_)
      | (with_reducible refine LeO.bind ?_ (fun _ => ?_))
      | exact ih0 _ _
      | exact ih1 _ _ _
      | exact donjonref7_Parent.mono _ _
      | exact LeO.none _
      | refine LeO.ite ?_ ?_
      | refine LeO.bind ?_ (fun _ => ?_)
    · intro y0 y1 y2
      unfold donjonlaw11_TreeRises.l1
      repeat' first
      | (with_reducible exact ih0 _ _)
      | (with_reducible exact ih1 _ _ _)
      | (with_reducible exact donjonref7_Parent.mono _ _)
      | (with_reducible exact LeO.refl _)
      | (with_reducible exact LeO.none _)
      | (with_reducible refine LeO.ite ?_ ?_)
      | (with_reducible refine LeO.bind ?_ (fun _ => ?_))
      | exact ih0 _ _
      | exact ih1 _ _ _
      | exact donjonref7_Parent.mono _ _
      | exact LeO.none _
      | refine LeO.ite ?_ ?_
      | refine LeO.bind ?_ (fun _ => ?_)
theorem donjonlaw11_TreeRises.mono : ∀ a0 a1 k, LeO (donjonlaw11_TreeRises.f k a0 a1) (donjonlaw11_TreeRises.f (k + 1) a0 a1) := by
  intro a0 a1 k
  obtain ⟨ih0, ih1⟩ := donjonlaw11_TreeRises.mono_l k
  unfold donjonlaw11_TreeRises.f
  repeat' first
      | (with_reducible exact ih0 _ _)
      | (with_reducible exact ih1 _ _ _)
      | (with_reducible exact donjonref7_Parent.mono _ _)
      | (with_reducible exact LeO.refl _)
      | (with_reducible exact LeO.none _)
      | (with_reducible refine LeO.ite ?_ ?_)
      | (with_reducible refine LeO.bind ?_ (fun _ => ?_))
      | exact ih0 _ _
      | exact ih1 _ _ _
      | exact donjonref7_Parent.mono _ _
      | exact LeO.none _
      | refine LeO.ite ?_ ?_
      | refine LeO.bind ?_ (fun _ => ?_)
def donjonlaw11_TreeRises.T13 : Bool × List (List Nat × List Nat) := (true, [([], []), ([0], [0]), ([1], [1]), ([2], [2]), ([3, 2], [2, 3]), ([4, 2], [2, 4]), ([2, 5], [2, 5]), ([6, 2], [6]), ([7], [7]), ([7], [7]), ([8, 9, 7], [7, 8, 9]), ([10, 7], [7, 10]), ([11, 7], [7, 11]), ([7], [7]), ([13, 7], [7, 13]), ([12, 14, 7, 7], [7, 12, 14]), ([15, 7], [7, 15]), ([7, 16], [7, 16])])
def donjonlaw11_TreeRises.B13 : List Nat := [0, 1, 3, 7, 15, 31, 63, 127, 255, 255, 1023, 2047, 4095, 255, 8447, 32767, 65535, 131071]
theorem donjonlaw11_TreeRises.tab13 : rtab .any (opsOf Tryd.f5 13) = donjonlaw11_TreeRises.T13 := by kernel_rfl
theorem donjonlaw11_TreeRises.bits13 : waitsOk donjonlaw11_TreeRises.T13.2 donjonlaw11_TreeRises.B13 = true := by kernel_rfl
set_option maxHeartbeats 8000000 in
set_option maxRecDepth 100000 in
theorem donjonlaw11_TreeRises.calls (k : Nat) (A0 : Option Addr) (c0 : Nat) (l0 : List (S26)) (A1 : Option Addr) (c1 : Nat) (l1 : List (S54)) (r : Bool) (w : World) (hr0 : Kd.C k26 w A0 l0.length l0) (hc0 : l0.length ≤ c0) (hr1 : Kd.C k54 w A1 l1.length l1) (hc1 : l1.length ≤ c1) (h : donjonlaw11_TreeRises.f k l0 l1 = some r) :
    Calls Tryd.prog 5 #[.slice A0 l0.length c0, .slice A1 l1.length c1] w fun e w' => e = .returned (.bool r) ∧ Below w.heap.size w w' := by
  have hu32 := Tryd.underlying32
  have hu26 := Tryd.underlying26
  have HR0 := Aside0.mk hr0
  have HC0 := Aside0.mk hc0
  clear hr0 hc0
  have HR1 := Aside0.mk hr1
  have HC1 := Aside0.mk hc1
  clear hr1 hc1
  have HB := Aside0.mk (Below.refl w.heap.size w)
  have H : ((donjonlaw11_known.f).bind fun t216 => (if t216 = true then ((donjonlaw11_Grow.f l0 l1).bind fun t217 => ((tree_Check.f t217).bind fun t220 => (if t220 = 0 then (donjonlaw11_TreeRises.l0 k t217 0) else (some false)))) else (some false))) = some r := h
  clear h
  replace H := Option.bind_eq_some_iff.mp H
  obtain ⟨t216, A30, H⟩ := H
  replace H : (if t216 = true then ((donjonlaw11_Grow.f l0 l1).bind fun t217 => ((tree_Check.f t217).bind fun t220 => (if t220 = 0 then (donjonlaw11_TreeRises.l0 k t217 0) else (some false)))) else (some false)) = some r := H
  have A3 := Aside0.mk A30
  clear A30
  by_cases c4 : t216 = true
  · subst c4
    have H1 : ((donjonlaw11_Grow.f l0 l1).bind fun t217 => ((tree_Check.f t217).bind fun t220 => (if t220 = 0 then (donjonlaw11_TreeRises.l0 k t217 0) else (some false)))) = some r := by rw [if_pos rfl] at H; exact H
    clear H
    have H := H1
    clear H1
    replace H := Option.bind_eq_some_iff.mp H
    obtain ⟨t217, A50, H⟩ := H
    replace H : ((tree_Check.f t217).bind fun t220 => (if t220 = 0 then (donjonlaw11_TreeRises.l0 k t217 0) else (some false))) = some r := H
    have A5 := Aside0.mk A50
    clear A50
    replace H := Option.bind_eq_some_iff.mp H
    obtain ⟨t220, A60, H⟩ := H
    replace H : (if t220 = 0 then (donjonlaw11_TreeRises.l0 k t217 0) else (some false)) = some r := H
    have A6 := Aside0.mk A60
    clear A60
    by_cases c7 : t220 = 0
    · rw [if_pos c7] at H
      have c7b0 : (t220 == 0) = true := beq_iff_eq.mpr c7
      have c7b1 : (t220 != 0) = false := bne_eq_false_iff_eq.mpr c7
      clear c7
      have H' := Aside0.mk H
      clear H
      go_enter Tryd.func5, Tryd.ntmps5
      go_wp2_with (first | ((with_reducible refine gate_callee (f := 8) rfl ?_); refine goesL_ (some 10) rfl rfl Tryd.func8 (by kernel_rfl) rfl #[] rfl (by (try simp only [List.map_toArray, List.map_cons, List.map_nil]); first | done | rfl | (simp only [List.length_drop, List.length_take]; rfl)) ?_; (with_reducible refine (donjonlaw11_known.calls  true _ A3.out).mono ?_); rintro e w8 ⟨rfl, hb⟩; refine ⟨_, rfl, ?_⟩; have n0_ := Aside0.mk (below_step (by repeat (first | (with_reducible first | exact HB.out | apply below_alloc | apply pw_below_drewN | apply below_drew1) | exact HB.out)) hb); clear HB; have HB := n0_; clear n0_; (try clear hb); (try clear hb2); (try clear hk); (try clear hi)) | ((with_reducible refine gate_callee (f := 11) rfl ?_); refine goesL_ (some 14) rfl rfl Tryd.func11 (by kernel_rfl) rfl #[.slice A0 l0.length c0, .slice A1 l1.length c1] rfl (by (try simp only [List.map_toArray, List.map_cons, List.map_nil]); first | done | rfl | (simp only [List.length_drop, List.length_take]; rfl)) ?_; (with_reducible refine (donjonlaw11_Grow.calls _ _ l0 _ _ l1 t217 _ ?side1 ?side2 ?side3 ?side4 A5.out).mono ?_); (case side1 => repeat (first | exact (Kd.C_below HR0.out HB.out) | (with_reducible refine Kd.C_alloc ?_ _) | (with_reducible refine Kd.C_drewN ?_ _) | (with_reducible refine Kd.C_drew ?_))); (case side2 => exact HC0.out); (case side3 => repeat (first | exact (Kd.C_below HR1.out HB.out) | (with_reducible refine Kd.C_alloc ?_ _) | (with_reducible refine Kd.C_drewN ?_ _) | (with_reducible refine Kd.C_drew ?_))); (case side4 => exact HC1.out); rintro e w9 ⟨v218, rfl, ho0, hb⟩; refine ⟨_, rfl, ?_⟩; have n0_ := Aside0.mk (Kd.N_lower (Kd.N_mono (ok' := fun k_ => True) ho0 (fun k_ hk_ => trivial)) (below_size (by repeat (first | (with_reducible first | exact HB.out | apply below_alloc | apply pw_below_drewN | apply below_drew1) | exact HB.out)))); have n1_ := Aside0.mk (below_step (by repeat (first | (with_reducible first | exact HB.out | apply below_alloc | apply pw_below_drewN | apply below_drew1) | exact HB.out)) hb); clear HB; have HO219 := n0_; have HB := n1_; clear n0_ n1_; (try clear hb); (try clear hb2); (try clear hk); (try clear hi); (try clear ho0); obtain ⟨Ao10, co10, eo10⟩ := Kd.N_slice HO219.out; subst eo10) | ((with_reducible refine gate_callee (f := 9) rfl ?_); refine goesL_ (some 16) rfl rfl Tryd.func9 (by kernel_rfl) rfl #[.slice Ao10 t217.length co10] rfl (by (try simp only [List.map_toArray, List.map_cons, List.map_nil]); first | done | rfl | (simp only [List.length_drop, List.length_take]; rfl)) ?_; (with_reducible refine (tree_Check.calls _ _ t217 t220 _ ?side1 ?side2 A6.out).mono ?_); (case side1 => repeat (first | exact (Kd.N_reads' HO219.out).2.2 | (with_reducible refine Kd.C_alloc ?_ _) | (with_reducible refine Kd.C_drewN ?_ _) | (with_reducible refine Kd.C_drew ?_))); (case side2 => exact (Kd.N_reads' HO219.out).2.1); rintro e w11 ⟨rfl, hb⟩; refine ⟨_, rfl, ?_⟩; have n0_ := Aside0.mk (Kd.N_below (by (with_reducible repeat (first | apply Kd.N_alloc | apply Kd.N_drewN | apply Kd.N_drew)); exact HO219.out) hb); have n1_ := Aside0.mk (below_step (by repeat (first | (with_reducible first | exact HB.out | apply below_alloc | apply pw_below_drewN | apply below_drew1) | exact HB.out)) hb); clear HO219; clear HB; have HO219 := n0_; have HB := n1_; clear n0_ n1_; (try clear hb); (try clear hb2); (try clear hk); (try clear hi)))
      go_loopg [6] k (fun kq v6 w' => ∃ (x6_1 : Int), v6 = .int .i64 x6_1 ∧ Aside0 (donjonlaw11_TreeRises.l0 kq t217 x6_1 = some r) ∧ Aside0 (kq ≤ k) ∧ Aside0 (Kd.N k32 32 w' w.heap.size (fun _ => True) (.slice Ao10 t217.length co10) t217) ∧ Aside0 (Below w.heap.size w w'))
      case atStart => exact ⟨(0), (by first | rfl | (simp; done) | (simp [*]; done)), H', ⟨Nat.le_refl _⟩, ⟨by (with_reducible repeat (first | apply Kd.N_alloc | apply Kd.N_drewN | apply Kd.N_drew)); exact HO219.out⟩, ⟨by repeat (first | (with_reducible first | exact HB.out | apply below_alloc | apply pw_below_drewN | apply below_drew1) | exact HB.out)⟩⟩
      case round =>
        clear H'
        try clear c1
        try clear p2
        try clear c4
        try clear c5
        try clear c7
        try clear c7b0
        try clear c7b1
        try clear c8
        try clear c9
        try clear c11
        obtain ⟨x6_1, rfl, HA, HK1, HO_5, HB⟩ := hrel
        cases gk with
        | zero => exact absurd HA.out (by simp [donjonlaw11_TreeRises.l0])
        | succ k1 =>
          have H := HA.out
          clear HA
          simp only [donjonlaw11_TreeRises.l0] at H
          by_cases c12 : x6_1 < (t217.length : Int)
          · rw [if_pos c12] at H
            have c12b0 : decide (x6_1 < (t217.length : Int)) = true := decide_eq_true c12
            clear c12
            by_cases c13 : 0 ≤ x6_1
            · rw [if_pos c13] at H
              have c13b0 : decide (0 ≤ x6_1) = true := decide_eq_true c13
              clear c13
              replace H := Option.bind_eq_some_iff.mp H
              obtain ⟨t222, A140, H⟩ := H
              replace H : (donjonlaw11_TreeRises.l1 k1 t217 x6_1 t222) = some r := H
              have A14 := Aside0.mk A140
              clear A140
              have H' := Aside0.mk H
              clear H
              have p221 : 0 ≤ (x6_1 : Int) := of_decide_eq_true (by first | (with_reducible assumption) | assumption)
              have q221 : x6_1 < (t217.length : Int) := of_decide_eq_true (by first | (with_reducible assumption) | assumption)
              obtain ⟨ad221, A221_6, c221_6, A221_11, c221_11, e221, hx221_0, hx221_1, hx221_2, hx221_3, hx221_4, hx221_5, hx221_6, hx221_7, hx221_8, hx221_9, hx221_10, hx221_11, hx221_12, hx221_13, hx221_14, hx221_15, hl221_6, hi221_6, hl221_11, hi221_11⟩ := at_T32 (Kd.N_reads' HO_5.out).2.2 x6_1 p221 q221
              cases e221
              obtain ⟨ce221, hce221, hMe221, hcc221⟩ := Kd.N_get HO_5.out z32 x6_1 p221 (by first | exact q221 | exact of_decide_eq_true (by first | (with_reducible assumption) | assumption) | (have e_ := (Kd.N_reads' HO_5.out).1; omega))
              obtain ⟨ua221_6, uc221_6, ua221_11, uc221_11, rfl, ul221_6, ge221_6, ul221_11, ge221_11⟩ := k32_openF hMe221
              have hv221_6 := hcc221 6 _ rfl
              rw [add_field _ _ 6 (by omega)] at hv221_6
              replace hv221_6 := Option.some.inj (hv221_6.symm.trans hx221_6)
              injection hv221_6 with hva_ hvn_ hvc_
              rw [hva_] at ge221_6
              rw [hvc_] at ul221_6
              have HL221_6 := Aside0.mk (show Kd.V k83 83 _ w.heap.size _ _ ((rd_T32 t217 x6_1).f3) from Kd.V_mk ul221_6 ge221_6)
              clear hva_ hvn_ hvc_ ge221_6 ul221_6
              have hv221_11 := hcc221 11 _ rfl
              rw [add_field _ _ 11 (by omega)] at hv221_11
              replace hv221_11 := Option.some.inj (hv221_11.symm.trans hx221_11)
              injection hv221_11 with hva_ hvn_ hvc_
              rw [hva_] at ge221_11
              rw [hvc_] at ul221_11
              have HL221_11 := Aside0.mk (show Kd.V (Kd.int .i64) 2 _ w.heap.size _ _ ((rd_T32 t217 x6_1).f5) from Kd.V_mk ul221_11 ge221_11)
              clear hva_ hvn_ hvc_ ge221_11 ul221_11
              clear hcc221 hce221
              have HR221_6 := Aside0.mk hi221_6
              have HC221_6 := Aside0.mk hl221_6
              clear hi221_6 hl221_6
              have HR221_11 := Aside0.mk hi221_11
              have HC221_11 := Aside0.mk hl221_11
              clear hi221_11 hl221_11
              replace p221 := eq_true p221
              replace q221 := eq_true q221
              go_wp2_with (first | ((with_reducible refine gate_callee (f := 16) rfl ?_); refine goesL_ (some 29) rfl rfl Tryd.func16 (by kernel_rfl) rfl #[.string ((rd_T32 t217 x6_1).f0)] rfl (by (try simp only [List.map_toArray, List.map_cons, List.map_nil]); first | done | rfl | (simp only [List.length_drop, List.length_take]; rfl)) ?_; (with_reducible refine (donjonref7_Parent.calls k1 ((rd_T32 t217 x6_1).f0) t222 _ A14.out).mono ?_); rintro e w' ⟨rfl, ⟨nd, rfl⟩⟩; refine ⟨_, rfl, ?_⟩))
              go_loopg [7] k1 (fun kq v7 w' => ∃ (x7_2 : ByteArray), v7 = .string x7_2 ∧ Aside0 (donjonlaw11_TreeRises.l1 kq t217 x6_1 x7_2 = some r) ∧ Aside0 (kq ≤ k1) ∧ Aside0 (Kd.N k32 32 w' w.heap.size (fun _ => True) (.slice (some ad221) t217.length co10) t217) ∧ Aside0 (Below w.heap.size w w'))
              case atStart => exact ⟨(t222), (by first | rfl | (simp; done) | (simp [*]; done)), H', ⟨Nat.le_refl _⟩, ⟨by (with_reducible repeat (first | apply Kd.N_alloc | apply Kd.N_drewN | apply Kd.N_drew)); exact HO_5.out⟩, ⟨by repeat (first | (with_reducible first | exact HB.out | apply below_alloc | apply pw_below_drewN | apply below_drew1) | exact HB.out)⟩⟩
              case round =>
                clear H'
                try clear c1
                try clear c2
                try clear p2
                try clear q2
                try clear hx2
                try clear c4
                try clear c5
                try clear c7
                try clear c7b0
                try clear c7b1
                try clear c8
                try clear c9
                try clear c11
                try clear c12
                try clear c12b0
                try clear c13
                try clear c13b0
                try clear hx221_0
                try clear hx221_1
                try clear hx221_10
                try clear hx221_11
                try clear hx221_12
                try clear hx221_13
                try clear hx221_14
                try clear hx221_15
                try clear hx221_2
                try clear hx221_3
                try clear hx221_4
                try clear hx221_5
                try clear hx221_6
                try clear hx221_7
                try clear hx221_8
                try clear hx221_9
                try clear p2
                try clear p221
                try clear q221
                obtain ⟨x7_2, rfl, HA, HK2, HO_5, HB⟩ := hrel
                cases gk with
                | zero => exact absurd HA.out (by simp [donjonlaw11_TreeRises.l1])
                | succ k2 =>
                  have H := HA.out
                  clear HA
                  simp only [donjonlaw11_TreeRises.l1] at H
                  by_cases c15 : x7_2.toList = ([] : List UInt8)
                  · rw [if_pos c15] at H
                    have c15b0 : (x7_2.toList == ([] : List UInt8)) = true := beq_iff_eq.mpr c15
                    have c15b1 : (x7_2.toList != ([] : List UInt8)) = false := bne_eq_false_iff_eq.mpr c15
                    clear c15
                    have H' := Aside0.mk H
                    clear H
                    go_wp2
                    go_roundg k2
                    case measure => have := HK1.out; have := HK2.out; omega
                    case rel => exact ⟨(wrap64 (x6_1 + 1)), (by first | rfl | (simp; done) | (simp [*]; done)), H', ⟨by have := HK1.out; have := HK2.out; omega⟩, ⟨by (with_reducible repeat (first | apply Kd.N_alloc | apply Kd.N_drewN | apply Kd.N_drew)); exact HO_5.out⟩, ⟨by repeat (first | (with_reducible first | exact HB.out | apply below_alloc | apply pw_below_drewN | apply below_drew1) | exact HB.out)⟩⟩
                  · rw [if_neg c15] at H
                    have c15b0 : (x7_2.toList == ([] : List UInt8)) = false := beq_eq_false_iff_ne.mpr c15
                    have c15b1 : (x7_2.toList != ([] : List UInt8)) = true := bne_iff_ne.mpr c15
                    replace H := Option.bind_eq_some_iff.mp H
                    obtain ⟨⟨t223, t224, t225, t226, t227, t228, t229, t232, t233, t234, t235, t236, t239, t240, t241, t242, t243⟩, A160, H⟩ := H
                    replace H : (if t243 = true then (if t224 = true then (if 0 ≤ x6_1 then (if x6_1 < (t217.length : Int) then ((donjonref4_Over.f ((rd_T32 t217 x6_1).f2.f0) ((rd_T32 t217 x6_1).f2.f1) ((rd_T32 t217 x6_1).f2.f2) ((rd_T32 t217 x6_1).f2.f3) t225 t226 t227 t228).bind fun t246 => (if t246 = true then ((donjonref7_Parent.f k2 x7_2).bind fun t247 => (donjonlaw11_TreeRises.l1 k2 t217 x6_1 t247)) else (some false))) else (none)) else (none)) else (some false)) else (some false)) = some r := H
                    have A16 := Aside0.mk A160
                    clear A160
                    by_cases c17 : t243 = true
                    · subst c17
                      have H1 : (if t224 = true then (if 0 ≤ x6_1 then (if x6_1 < (t217.length : Int) then ((donjonref4_Over.f ((rd_T32 t217 x6_1).f2.f0) ((rd_T32 t217 x6_1).f2.f1) ((rd_T32 t217 x6_1).f2.f2) ((rd_T32 t217 x6_1).f2.f3) t225 t226 t227 t228).bind fun t246 => (if t246 = true then ((donjonref7_Parent.f k2 x7_2).bind fun t247 => (donjonlaw11_TreeRises.l1 k2 t217 x6_1 t247)) else (some false))) else (none)) else (none)) else (some false)) = some r := by rw [if_pos rfl] at H; exact H
                      clear H
                      have H := H1
                      clear H1
                      by_cases c18 : t224 = true
                      · subst c18
                        have H1 : (if 0 ≤ x6_1 then (if x6_1 < (t217.length : Int) then ((donjonref4_Over.f ((rd_T32 t217 x6_1).f2.f0) ((rd_T32 t217 x6_1).f2.f1) ((rd_T32 t217 x6_1).f2.f2) ((rd_T32 t217 x6_1).f2.f3) t225 t226 t227 t228).bind fun t246 => (if t246 = true then ((donjonref7_Parent.f k2 x7_2).bind fun t247 => (donjonlaw11_TreeRises.l1 k2 t217 x6_1 t247)) else (some false))) else (none)) else (none)) = some r := by rw [if_pos rfl] at H; exact H
                        clear H
                        have H := H1
                        clear H1
                        by_cases c19 : 0 ≤ x6_1
                        · rw [if_pos c19] at H
                          have c19b0 : decide (0 ≤ x6_1) = true := decide_eq_true c19
                          clear c19
                          by_cases c20 : x6_1 < (t217.length : Int)
                          · rw [if_pos c20] at H
                            have c20b0 : decide (x6_1 < (t217.length : Int)) = true := decide_eq_true c20
                            clear c20
                            replace H := Option.bind_eq_some_iff.mp H
                            obtain ⟨t246, A210, H⟩ := H
                            replace H : (if t246 = true then ((donjonref7_Parent.f k2 x7_2).bind fun t247 => (donjonlaw11_TreeRises.l1 k2 t217 x6_1 t247)) else (some false)) = some r := H
                            have A21 := Aside0.mk A210
                            clear A210
                            by_cases c22 : t246 = true
                            · subst c22
                              have H1 : ((donjonref7_Parent.f k2 x7_2).bind fun t247 => (donjonlaw11_TreeRises.l1 k2 t217 x6_1 t247)) = some r := by rw [if_pos rfl] at H; exact H
                              clear H
                              have H := H1
                              clear H1
                              replace H := Option.bind_eq_some_iff.mp H
                              obtain ⟨t247, A230, H⟩ := H
                              replace H : (donjonlaw11_TreeRises.l1 k2 t217 x6_1 t247) = some r := H
                              have A23 := Aside0.mk A230
                              clear A230
                              have H' := Aside0.mk H
                              clear H
                              try go_wp2_with (first | ((with_reducible refine gate_callee (f := 14) rfl ?_); refine goesL_ (some 37) rfl rfl Tryd.func14 (by kernel_rfl) rfl #[.slice (some ad221) t217.length co10, .string x7_2] rfl (by (try simp only [List.map_toArray, List.map_cons, List.map_nil]); first | done | rfl | (simp only [List.length_drop, List.length_take]; rfl)) ?_; (with_reducible refine (tree_Find.calls _ _ t217 x7_2 t223 true t225 t226 t227 t228 t229 t232 t233 t234 t235 t236 t239 t240 t241 t242 true _ ?side1 ?side2 A16.out).mono ?_); (case side1 => repeat (first | exact (Kd.N_reads' HO_5.out).2.2 | (with_reducible refine Kd.C_alloc ?_ _) | (with_reducible refine Kd.C_drewN ?_ _) | (with_reducible refine Kd.C_drew ?_))); (case side2 => exact (Kd.N_reads' HO_5.out).2.1); rintro e w24 ⟨v230, v237, rfl, ho0, ho1, hb⟩; refine ⟨_, rfl, ?_⟩; have n0_ := Aside0.mk (Kd.N_mono (Kd.N_told (Kd.N_told (Kd.N_old (by (with_reducible repeat (first | apply Kd.N_alloc | apply Kd.N_drewN | apply Kd.N_drew)); exact HO_5.out) hb) (Kd.R_base ho0)) (Kd.R_base ho1)) (fun _ h_ => h_.1)); have n1_ := Aside0.mk (Kd.R_lower ho0 (below_size (by repeat (first | (with_reducible first | exact HB.out | apply below_alloc | apply pw_below_drewN | apply below_drew1) | exact HB.out)))); have n2_ := Aside0.mk (Kd.R_lower ho1 (below_size (by repeat (first | (with_reducible first | exact HB.out | apply below_alloc | apply pw_below_drewN | apply below_drew1) | exact HB.out)))); have n3_ := Aside0.mk (below_step (by repeat (first | (with_reducible first | exact HB.out | apply below_alloc | apply pw_below_drewN | apply below_drew1) | exact HB.out)) hb); clear HO_5; clear HB; have HO_5 := n0_; have HO231 := n1_; have HO238 := n2_; have HB := n3_; clear n0_ n1_ n2_ n3_; (try clear hb); (try clear hb2); (try clear hk); (try clear hi); (try clear ho0); (try clear ho1)) | ((with_reducible refine gate_dst (N := 8) rfl ?_); refine box_event ?hg (N := 8) ?hd (cs := #[.string (⟨#[]⟩ : ByteArray), .bool false, .int .i64 0, .int .i64 0, .int .i64 0, .int .i64 0, .slice none 0 0, .int .i64 0, .int .i64 0, .int .i64 0, .int .i64 0, .slice none 0 0, .int .i64 0, .int .i64 0, .int .i64 0, .int .i64 0]) (t := 32) ?hr ?_; (case hd => rfl); (case hg => rfl); (case hr => first | (go_simp; done) | (go_simp; rfl)); intro gb244 hg w25 hbox hb; have n0_ := Aside0.mk (Kd.N_below (Kd.N_elderB (by (with_reducible repeat (first | apply Kd.N_alloc | apply Kd.N_drewN | apply Kd.N_drew)); exact HO_5.out) gb244 (Nat.le_of_eq hg.symm)) hb); have n1_ := Aside0.mk (Kd.R_below (by (with_reducible repeat (first | apply Kd.R_alloc | apply Kd.R_drewN | apply Kd.R_drew)); exact HO231.out) hb); have n2_ := Aside0.mk (Kd.R_below (by (with_reducible repeat (first | apply Kd.R_alloc | apply Kd.R_drewN | apply Kd.R_drew)); exact HO238.out) hb); have n3_ := Aside0.mk (below_step (by repeat (first | (with_reducible first | exact HB.out | apply below_alloc | apply pw_below_drewN | apply below_drew1) | exact HB.out)) hb); have n4_ := Aside0.mk (hbox); have n5_ := Aside0.mk ((by rw [hg]; exact (below_size (by repeat (first | (with_reducible first | exact HB.out | apply below_alloc | apply pw_below_drewN | apply below_drew1) | exact HB.out))) : w.heap.size ≤ gb244)); have n6_ := Aside0.mk ((by rw [hg]; exact (below_size (by repeat (first | (with_reducible first | exact HB.out | apply below_alloc | apply pw_below_drewN | apply below_drew1) | exact HB.out))) : w.heap.size ≤ gb244)); clear HO_5; clear HO231; clear HO238; clear HB; have HO_5 := n0_; have HO231 := n1_; have HO238 := n2_; have HB := n3_; have BK244 := n4_; have GW244 := n5_; have GE244 := n6_; clear n0_ n1_ n2_ n3_ n4_ n5_ n6_; clear hb hbox hg; have hcz26_0 : w25.cell? ⟨gb244, 0, none⟩ = some (.string (⟨#[]⟩ : ByteArray)) := (blk_cell BK244.out 0).trans rfl; have hcz26_1 : w25.cell? ⟨gb244, 1, none⟩ = some (.bool false) := (blk_cell BK244.out 1).trans rfl; have hcz26_2 : w25.cell? ⟨gb244, 2, none⟩ = some (.int .i64 0) := (blk_cell BK244.out 2).trans rfl; have hcz26_3 : w25.cell? ⟨gb244, 3, none⟩ = some (.int .i64 0) := (blk_cell BK244.out 3).trans rfl; have hcz26_4 : w25.cell? ⟨gb244, 4, none⟩ = some (.int .i64 0) := (blk_cell BK244.out 4).trans rfl; have hcz26_5 : w25.cell? ⟨gb244, 5, none⟩ = some (.int .i64 0) := (blk_cell BK244.out 5).trans rfl; have hcz26_6 : w25.cell? ⟨gb244, 6, none⟩ = some (.slice none 0 0) := (blk_cell BK244.out 6).trans rfl; have hcz26_7 : w25.cell? ⟨gb244, 7, none⟩ = some (.int .i64 0) := (blk_cell BK244.out 7).trans rfl; have hcz26_8 : w25.cell? ⟨gb244, 8, none⟩ = some (.int .i64 0) := (blk_cell BK244.out 8).trans rfl; have hcz26_9 : w25.cell? ⟨gb244, 9, none⟩ = some (.int .i64 0) := (blk_cell BK244.out 9).trans rfl; have hcz26_10 : w25.cell? ⟨gb244, 10, none⟩ = some (.int .i64 0) := (blk_cell BK244.out 10).trans rfl; have hcz26_11 : w25.cell? ⟨gb244, 11, none⟩ = some (.slice none 0 0) := (blk_cell BK244.out 11).trans rfl; have hcz26_12 : w25.cell? ⟨gb244, 12, none⟩ = some (.int .i64 0) := (blk_cell BK244.out 12).trans rfl; have hcz26_13 : w25.cell? ⟨gb244, 13, none⟩ = some (.int .i64 0) := (blk_cell BK244.out 13).trans rfl; have hcz26_14 : w25.cell? ⟨gb244, 14, none⟩ = some (.int .i64 0) := (blk_cell BK244.out 14).trans rfl; have hcz26_15 : w25.cell? ⟨gb244, 15, none⟩ = some (.int .i64 0) := (blk_cell BK244.out 15).trans rfl; have hfz26_0 := blk_frozen BK244.out 0; have hfz26_1 := blk_frozen BK244.out 1; have hfz26_2 := blk_frozen BK244.out 2; have hfz26_3 := blk_frozen BK244.out 3; have hfz26_4 := blk_frozen BK244.out 4; have hfz26_5 := blk_frozen BK244.out 5; have hfz26_6 := blk_frozen BK244.out 6; have hfz26_7 := blk_frozen BK244.out 7; have hfz26_8 := blk_frozen BK244.out 8; have hfz26_9 := blk_frozen BK244.out 9; have hfz26_10 := blk_frozen BK244.out 10; have hfz26_11 := blk_frozen BK244.out 11; have hfz26_12 := blk_frozen BK244.out 12; have hfz26_13 := blk_frozen BK244.out 13; have hfz26_14 := blk_frozen BK244.out 14; have hfz26_15 := blk_frozen BK244.out 15; obtain ⟨Ao27, co27, eo27⟩ := Kd.R_slice HO231.out; subst eo27; obtain ⟨Ao28, co28, eo28⟩ := Kd.R_slice HO238.out; subst eo28))
                              have n0_ : Aside0 (Kd.N k32 32 ((((((((((((((((w25.setCell ⟨gb244, 0, none⟩ (.string t223)).setCell ⟨gb244, 1, none⟩ (.bool true)).setCell ⟨gb244, 2, none⟩ (.int .i64 t225)).setCell ⟨gb244, 3, none⟩ (.int .i64 t226)).setCell ⟨gb244, 4, none⟩ (.int .i64 t227)).setCell ⟨gb244, 5, none⟩ (.int .i64 t228)).setCell ⟨gb244, 6, none⟩ (.slice Ao27 t229.length co27)).setCell ⟨gb244, 7, none⟩ (.int .i64 t232)).setCell ⟨gb244, 8, none⟩ (.int .i64 t233)).setCell ⟨gb244, 9, none⟩ (.int .i64 t234)).setCell ⟨gb244, 10, none⟩ (.int .i64 t235)).setCell ⟨gb244, 11, none⟩ (.slice Ao28 t236.length co28)).setCell ⟨gb244, 12, none⟩ (.int .i64 t239)).setCell ⟨gb244, 13, none⟩ (.int .i64 t240)).setCell ⟨gb244, 14, none⟩ (.int .i64 t241)).setCell ⟨gb244, 15, none⟩ (.int .i64 t242)) w.heap.size (fun k_ => some k_ ≠ (.slice Ao27 t229.length co27 : Value).ownBlock ∧ some k_ ≠ (.slice Ao28 t236.length co28 : Value).ownBlock ∧ k_ ≠ gb244) (.slice (some ad221) t217.length co10) t217) := ⟨by (with_reducible repeat (first | apply Kd.N_alloc | apply Kd.N_drewN | apply Kd.N_drew)); exact Kd.N_mono (Kd.N_far (p := ⟨gb244, 15, none⟩) (Kd.N_far (p := ⟨gb244, 14, none⟩) (Kd.N_far (p := ⟨gb244, 13, none⟩) (Kd.N_far (p := ⟨gb244, 12, none⟩) (Kd.N_far (p := ⟨gb244, 11, none⟩) (Kd.N_far (p := ⟨gb244, 10, none⟩) (Kd.N_far (p := ⟨gb244, 9, none⟩) (Kd.N_far (p := ⟨gb244, 8, none⟩) (Kd.N_far (p := ⟨gb244, 7, none⟩) (Kd.N_far (p := ⟨gb244, 6, none⟩) (Kd.N_far (p := ⟨gb244, 5, none⟩) (Kd.N_far (p := ⟨gb244, 4, none⟩) (Kd.N_far (p := ⟨gb244, 3, none⟩) (Kd.N_far (p := ⟨gb244, 2, none⟩) (Kd.N_far (p := ⟨gb244, 1, none⟩) (Kd.N_far (p := ⟨gb244, 0, none⟩) (Kd.N_mono HO_5.out (fun k_ hk => (⟨hk, hk.2⟩ : _ ∧ k_ ≠ gb244))) (fun _ hk => hk.2) (.string t223)) (fun _ hk => hk.2) (.bool true)) (fun _ hk => hk.2) (.int .i64 t225)) (fun _ hk => hk.2) (.int .i64 t226)) (fun _ hk => hk.2) (.int .i64 t227)) (fun _ hk => hk.2) (.int .i64 t228)) (fun _ hk => hk.2) (.slice Ao27 t229.length co27)) (fun _ hk => hk.2) (.int .i64 t232)) (fun _ hk => hk.2) (.int .i64 t233)) (fun _ hk => hk.2) (.int .i64 t234)) (fun _ hk => hk.2) (.int .i64 t235)) (fun _ hk => hk.2) (.slice Ao28 t236.length co28)) (fun _ hk => hk.2) (.int .i64 t239)) (fun _ hk => hk.2) (.int .i64 t240)) (fun _ hk => hk.2) (.int .i64 t241)) (fun _ hk => hk.2) (.int .i64 t242)) (fun _ hk => ⟨hk.1.1.1.2, ⟨hk.1.1.2, hk.1.2⟩⟩)⟩
                              have n1_ : Aside0 (Kd.R k83 83 ((((((((((((((((w25.setCell ⟨gb244, 0, none⟩ (.string t223)).setCell ⟨gb244, 1, none⟩ (.bool true)).setCell ⟨gb244, 2, none⟩ (.int .i64 t225)).setCell ⟨gb244, 3, none⟩ (.int .i64 t226)).setCell ⟨gb244, 4, none⟩ (.int .i64 t227)).setCell ⟨gb244, 5, none⟩ (.int .i64 t228)).setCell ⟨gb244, 6, none⟩ (.slice Ao27 t229.length co27)).setCell ⟨gb244, 7, none⟩ (.int .i64 t232)).setCell ⟨gb244, 8, none⟩ (.int .i64 t233)).setCell ⟨gb244, 9, none⟩ (.int .i64 t234)).setCell ⟨gb244, 10, none⟩ (.int .i64 t235)).setCell ⟨gb244, 11, none⟩ (.slice Ao28 t236.length co28)).setCell ⟨gb244, 12, none⟩ (.int .i64 t239)).setCell ⟨gb244, 13, none⟩ (.int .i64 t240)).setCell ⟨gb244, 14, none⟩ (.int .i64 t241)).setCell ⟨gb244, 15, none⟩ (.int .i64 t242)) w.heap.size (fun _ => True) (.slice Ao27 t229.length co27) t229) := ⟨by (with_reducible repeat (first | apply Kd.R_alloc | apply Kd.R_drewN | apply Kd.R_drew)); exact Kd.R_mono (Kd.R_far (p := ⟨gb244, 15, none⟩) (Kd.R_far (p := ⟨gb244, 14, none⟩) (Kd.R_far (p := ⟨gb244, 13, none⟩) (Kd.R_far (p := ⟨gb244, 12, none⟩) (Kd.R_far (p := ⟨gb244, 11, none⟩) (Kd.R_far (p := ⟨gb244, 10, none⟩) (Kd.R_far (p := ⟨gb244, 9, none⟩) (Kd.R_far (p := ⟨gb244, 8, none⟩) (Kd.R_far (p := ⟨gb244, 7, none⟩) (Kd.R_far (p := ⟨gb244, 6, none⟩) (Kd.R_far (p := ⟨gb244, 5, none⟩) (Kd.R_far (p := ⟨gb244, 4, none⟩) (Kd.R_far (p := ⟨gb244, 3, none⟩) (Kd.R_far (p := ⟨gb244, 2, none⟩) (Kd.R_far (p := ⟨gb244, 1, none⟩) (Kd.R_far (p := ⟨gb244, 0, none⟩) (Kd.R_types HO231.out BK244.out (by decide)) (fun _ hk => hk.2) (.string t223)) (fun _ hk => hk.2) (.bool true)) (fun _ hk => hk.2) (.int .i64 t225)) (fun _ hk => hk.2) (.int .i64 t226)) (fun _ hk => hk.2) (.int .i64 t227)) (fun _ hk => hk.2) (.int .i64 t228)) (fun _ hk => hk.2) (.slice Ao27 t229.length co27)) (fun _ hk => hk.2) (.int .i64 t232)) (fun _ hk => hk.2) (.int .i64 t233)) (fun _ hk => hk.2) (.int .i64 t234)) (fun _ hk => hk.2) (.int .i64 t235)) (fun _ hk => hk.2) (.slice Ao28 t236.length co28)) (fun _ hk => hk.2) (.int .i64 t239)) (fun _ hk => hk.2) (.int .i64 t240)) (fun _ hk => hk.2) (.int .i64 t241)) (fun _ hk => hk.2) (.int .i64 t242)) (fun _ hk => trivial)⟩
                              have n2_ : Aside0 (Kd.R (Kd.int .i64) 2 ((((((((((((((((w25.setCell ⟨gb244, 0, none⟩ (.string t223)).setCell ⟨gb244, 1, none⟩ (.bool true)).setCell ⟨gb244, 2, none⟩ (.int .i64 t225)).setCell ⟨gb244, 3, none⟩ (.int .i64 t226)).setCell ⟨gb244, 4, none⟩ (.int .i64 t227)).setCell ⟨gb244, 5, none⟩ (.int .i64 t228)).setCell ⟨gb244, 6, none⟩ (.slice Ao27 t229.length co27)).setCell ⟨gb244, 7, none⟩ (.int .i64 t232)).setCell ⟨gb244, 8, none⟩ (.int .i64 t233)).setCell ⟨gb244, 9, none⟩ (.int .i64 t234)).setCell ⟨gb244, 10, none⟩ (.int .i64 t235)).setCell ⟨gb244, 11, none⟩ (.slice Ao28 t236.length co28)).setCell ⟨gb244, 12, none⟩ (.int .i64 t239)).setCell ⟨gb244, 13, none⟩ (.int .i64 t240)).setCell ⟨gb244, 14, none⟩ (.int .i64 t241)).setCell ⟨gb244, 15, none⟩ (.int .i64 t242)) w.heap.size (fun _ => True) (.slice Ao28 t236.length co28) t236) := ⟨by (with_reducible repeat (first | apply Kd.R_alloc | apply Kd.R_drewN | apply Kd.R_drew)); exact Kd.R_mono (Kd.R_far (p := ⟨gb244, 15, none⟩) (Kd.R_far (p := ⟨gb244, 14, none⟩) (Kd.R_far (p := ⟨gb244, 13, none⟩) (Kd.R_far (p := ⟨gb244, 12, none⟩) (Kd.R_far (p := ⟨gb244, 11, none⟩) (Kd.R_far (p := ⟨gb244, 10, none⟩) (Kd.R_far (p := ⟨gb244, 9, none⟩) (Kd.R_far (p := ⟨gb244, 8, none⟩) (Kd.R_far (p := ⟨gb244, 7, none⟩) (Kd.R_far (p := ⟨gb244, 6, none⟩) (Kd.R_far (p := ⟨gb244, 5, none⟩) (Kd.R_far (p := ⟨gb244, 4, none⟩) (Kd.R_far (p := ⟨gb244, 3, none⟩) (Kd.R_far (p := ⟨gb244, 2, none⟩) (Kd.R_far (p := ⟨gb244, 1, none⟩) (Kd.R_far (p := ⟨gb244, 0, none⟩) (Kd.R_types HO238.out BK244.out (by decide)) (fun _ hk => hk.2) (.string t223)) (fun _ hk => hk.2) (.bool true)) (fun _ hk => hk.2) (.int .i64 t225)) (fun _ hk => hk.2) (.int .i64 t226)) (fun _ hk => hk.2) (.int .i64 t227)) (fun _ hk => hk.2) (.int .i64 t228)) (fun _ hk => hk.2) (.slice Ao27 t229.length co27)) (fun _ hk => hk.2) (.int .i64 t232)) (fun _ hk => hk.2) (.int .i64 t233)) (fun _ hk => hk.2) (.int .i64 t234)) (fun _ hk => hk.2) (.int .i64 t235)) (fun _ hk => hk.2) (.slice Ao28 t236.length co28)) (fun _ hk => hk.2) (.int .i64 t239)) (fun _ hk => hk.2) (.int .i64 t240)) (fun _ hk => hk.2) (.int .i64 t241)) (fun _ hk => hk.2) (.int .i64 t242)) (fun _ hk => trivial)⟩
                              have n3_ : Aside0 (((((((((((((((((w25.setCell ⟨gb244, 0, none⟩ (.string t223)).setCell ⟨gb244, 1, none⟩ (.bool true)).setCell ⟨gb244, 2, none⟩ (.int .i64 t225)).setCell ⟨gb244, 3, none⟩ (.int .i64 t226)).setCell ⟨gb244, 4, none⟩ (.int .i64 t227)).setCell ⟨gb244, 5, none⟩ (.int .i64 t228)).setCell ⟨gb244, 6, none⟩ (.slice Ao27 t229.length co27)).setCell ⟨gb244, 7, none⟩ (.int .i64 t232)).setCell ⟨gb244, 8, none⟩ (.int .i64 t233)).setCell ⟨gb244, 9, none⟩ (.int .i64 t234)).setCell ⟨gb244, 10, none⟩ (.int .i64 t235)).setCell ⟨gb244, 11, none⟩ (.slice Ao28 t236.length co28)).setCell ⟨gb244, 12, none⟩ (.int .i64 t239)).setCell ⟨gb244, 13, none⟩ (.int .i64 t240)).setCell ⟨gb244, 14, none⟩ (.int .i64 t241)).setCell ⟨gb244, 15, none⟩ (.int .i64 t242)).heap[gb244]? = some (.cells #[.string t223, .bool true, .int .i64 t225, .int .i64 t226, .int .i64 t227, .int .i64 t228, .slice Ao27 t229.length co27, .int .i64 t232, .int .i64 t233, .int .i64 t234, .int .i64 t235, .slice Ao28 t236.length co28, .int .i64 t239, .int .i64 t240, .int .i64 t241, .int .i64 t242] 32 (0, 0))) := ⟨by (with_reducible repeat (first | refine blk_drewN ?_ _ | refine blk_drew ?_ | refine blk_alloc ?_ _)); refine blk_put (cs := #[.string t223, .bool true, .int .i64 t225, .int .i64 t226, .int .i64 t227, .int .i64 t228, .slice Ao27 t229.length co27, .int .i64 t232, .int .i64 t233, .int .i64 t234, .int .i64 t235, .slice Ao28 t236.length co28, .int .i64 t239, .int .i64 t240, .int .i64 t241, .int .i64 0]) ?_ 15 _ rfl; (with_reducible repeat (first | refine blk_drewN ?_ _ | refine blk_drew ?_ | refine blk_alloc ?_ _)); refine blk_put (cs := #[.string t223, .bool true, .int .i64 t225, .int .i64 t226, .int .i64 t227, .int .i64 t228, .slice Ao27 t229.length co27, .int .i64 t232, .int .i64 t233, .int .i64 t234, .int .i64 t235, .slice Ao28 t236.length co28, .int .i64 t239, .int .i64 t240, .int .i64 0, .int .i64 0]) ?_ 14 _ rfl; (with_reducible repeat (first | refine blk_drewN ?_ _ | refine blk_drew ?_ | refine blk_alloc ?_ _)); refine blk_put (cs := #[.string t223, .bool true, .int .i64 t225, .int .i64 t226, .int .i64 t227, .int .i64 t228, .slice Ao27 t229.length co27, .int .i64 t232, .int .i64 t233, .int .i64 t234, .int .i64 t235, .slice Ao28 t236.length co28, .int .i64 t239, .int .i64 0, .int .i64 0, .int .i64 0]) ?_ 13 _ rfl; (with_reducible repeat (first | refine blk_drewN ?_ _ | refine blk_drew ?_ | refine blk_alloc ?_ _)); refine blk_put (cs := #[.string t223, .bool true, .int .i64 t225, .int .i64 t226, .int .i64 t227, .int .i64 t228, .slice Ao27 t229.length co27, .int .i64 t232, .int .i64 t233, .int .i64 t234, .int .i64 t235, .slice Ao28 t236.length co28, .int .i64 0, .int .i64 0, .int .i64 0, .int .i64 0]) ?_ 12 _ rfl; (with_reducible repeat (first | refine blk_drewN ?_ _ | refine blk_drew ?_ | refine blk_alloc ?_ _)); refine blk_put (cs := #[.string t223, .bool true, .int .i64 t225, .int .i64 t226, .int .i64 t227, .int .i64 t228, .slice Ao27 t229.length co27, .int .i64 t232, .int .i64 t233, .int .i64 t234, .int .i64 t235, .slice none 0 0, .int .i64 0, .int .i64 0, .int .i64 0, .int .i64 0]) ?_ 11 _ rfl; (with_reducible repeat (first | refine blk_drewN ?_ _ | refine blk_drew ?_ | refine blk_alloc ?_ _)); refine blk_put (cs := #[.string t223, .bool true, .int .i64 t225, .int .i64 t226, .int .i64 t227, .int .i64 t228, .slice Ao27 t229.length co27, .int .i64 t232, .int .i64 t233, .int .i64 t234, .int .i64 0, .slice none 0 0, .int .i64 0, .int .i64 0, .int .i64 0, .int .i64 0]) ?_ 10 _ rfl; (with_reducible repeat (first | refine blk_drewN ?_ _ | refine blk_drew ?_ | refine blk_alloc ?_ _)); refine blk_put (cs := #[.string t223, .bool true, .int .i64 t225, .int .i64 t226, .int .i64 t227, .int .i64 t228, .slice Ao27 t229.length co27, .int .i64 t232, .int .i64 t233, .int .i64 0, .int .i64 0, .slice none 0 0, .int .i64 0, .int .i64 0, .int .i64 0, .int .i64 0]) ?_ 9 _ rfl; (with_reducible repeat (first | refine blk_drewN ?_ _ | refine blk_drew ?_ | refine blk_alloc ?_ _)); refine blk_put (cs := #[.string t223, .bool true, .int .i64 t225, .int .i64 t226, .int .i64 t227, .int .i64 t228, .slice Ao27 t229.length co27, .int .i64 t232, .int .i64 0, .int .i64 0, .int .i64 0, .slice none 0 0, .int .i64 0, .int .i64 0, .int .i64 0, .int .i64 0]) ?_ 8 _ rfl; (with_reducible repeat (first | refine blk_drewN ?_ _ | refine blk_drew ?_ | refine blk_alloc ?_ _)); refine blk_put (cs := #[.string t223, .bool true, .int .i64 t225, .int .i64 t226, .int .i64 t227, .int .i64 t228, .slice Ao27 t229.length co27, .int .i64 0, .int .i64 0, .int .i64 0, .int .i64 0, .slice none 0 0, .int .i64 0, .int .i64 0, .int .i64 0, .int .i64 0]) ?_ 7 _ rfl; (with_reducible repeat (first | refine blk_drewN ?_ _ | refine blk_drew ?_ | refine blk_alloc ?_ _)); refine blk_put (cs := #[.string t223, .bool true, .int .i64 t225, .int .i64 t226, .int .i64 t227, .int .i64 t228, .slice none 0 0, .int .i64 0, .int .i64 0, .int .i64 0, .int .i64 0, .slice none 0 0, .int .i64 0, .int .i64 0, .int .i64 0, .int .i64 0]) ?_ 6 _ rfl; (with_reducible repeat (first | refine blk_drewN ?_ _ | refine blk_drew ?_ | refine blk_alloc ?_ _)); refine blk_put (cs := #[.string t223, .bool true, .int .i64 t225, .int .i64 t226, .int .i64 t227, .int .i64 0, .slice none 0 0, .int .i64 0, .int .i64 0, .int .i64 0, .int .i64 0, .slice none 0 0, .int .i64 0, .int .i64 0, .int .i64 0, .int .i64 0]) ?_ 5 _ rfl; (with_reducible repeat (first | refine blk_drewN ?_ _ | refine blk_drew ?_ | refine blk_alloc ?_ _)); refine blk_put (cs := #[.string t223, .bool true, .int .i64 t225, .int .i64 t226, .int .i64 0, .int .i64 0, .slice none 0 0, .int .i64 0, .int .i64 0, .int .i64 0, .int .i64 0, .slice none 0 0, .int .i64 0, .int .i64 0, .int .i64 0, .int .i64 0]) ?_ 4 _ rfl; (with_reducible repeat (first | refine blk_drewN ?_ _ | refine blk_drew ?_ | refine blk_alloc ?_ _)); refine blk_put (cs := #[.string t223, .bool true, .int .i64 t225, .int .i64 0, .int .i64 0, .int .i64 0, .slice none 0 0, .int .i64 0, .int .i64 0, .int .i64 0, .int .i64 0, .slice none 0 0, .int .i64 0, .int .i64 0, .int .i64 0, .int .i64 0]) ?_ 3 _ rfl; (with_reducible repeat (first | refine blk_drewN ?_ _ | refine blk_drew ?_ | refine blk_alloc ?_ _)); refine blk_put (cs := #[.string t223, .bool true, .int .i64 0, .int .i64 0, .int .i64 0, .int .i64 0, .slice none 0 0, .int .i64 0, .int .i64 0, .int .i64 0, .int .i64 0, .slice none 0 0, .int .i64 0, .int .i64 0, .int .i64 0, .int .i64 0]) ?_ 2 _ rfl; (with_reducible repeat (first | refine blk_drewN ?_ _ | refine blk_drew ?_ | refine blk_alloc ?_ _)); refine blk_put (cs := #[.string t223, .bool false, .int .i64 0, .int .i64 0, .int .i64 0, .int .i64 0, .slice none 0 0, .int .i64 0, .int .i64 0, .int .i64 0, .int .i64 0, .slice none 0 0, .int .i64 0, .int .i64 0, .int .i64 0, .int .i64 0]) ?_ 1 _ rfl; (with_reducible repeat (first | refine blk_drewN ?_ _ | refine blk_drew ?_ | refine blk_alloc ?_ _)); refine blk_put (cs := #[.string (⟨#[]⟩ : ByteArray), .bool false, .int .i64 0, .int .i64 0, .int .i64 0, .int .i64 0, .slice none 0 0, .int .i64 0, .int .i64 0, .int .i64 0, .int .i64 0, .slice none 0 0, .int .i64 0, .int .i64 0, .int .i64 0, .int .i64 0]) ?_ 0 _ rfl; (with_reducible repeat (first | refine blk_drewN ?_ _ | refine blk_drew ?_ | refine blk_alloc ?_ _)); exact BK244.out⟩
                              have n4_ : Aside0 (Below w.heap.size w ((((((((((((((((w25.setCell ⟨gb244, 0, none⟩ (.string t223)).setCell ⟨gb244, 1, none⟩ (.bool true)).setCell ⟨gb244, 2, none⟩ (.int .i64 t225)).setCell ⟨gb244, 3, none⟩ (.int .i64 t226)).setCell ⟨gb244, 4, none⟩ (.int .i64 t227)).setCell ⟨gb244, 5, none⟩ (.int .i64 t228)).setCell ⟨gb244, 6, none⟩ (.slice Ao27 t229.length co27)).setCell ⟨gb244, 7, none⟩ (.int .i64 t232)).setCell ⟨gb244, 8, none⟩ (.int .i64 t233)).setCell ⟨gb244, 9, none⟩ (.int .i64 t234)).setCell ⟨gb244, 10, none⟩ (.int .i64 t235)).setCell ⟨gb244, 11, none⟩ (.slice Ao28 t236.length co28)).setCell ⟨gb244, 12, none⟩ (.int .i64 t239)).setCell ⟨gb244, 13, none⟩ (.int .i64 t240)).setCell ⟨gb244, 14, none⟩ (.int .i64 t241)).setCell ⟨gb244, 15, none⟩ (.int .i64 t242))) := ⟨by repeat (first | (with_reducible first | exact HB.out | apply below_alloc | apply pw_below_drewN | apply below_drew1 | refine below_set ?_ GE244.out) | exact HB.out)⟩
                              (try clear HO_5)
                              (try clear HO231)
                              (try clear HO238)
                              (try clear BK244)
                              (try clear HB)
                              generalize ((((((((((((((((w25.setCell ⟨gb244, 0, none⟩ (.string t223)).setCell ⟨gb244, 1, none⟩ (.bool true)).setCell ⟨gb244, 2, none⟩ (.int .i64 t225)).setCell ⟨gb244, 3, none⟩ (.int .i64 t226)).setCell ⟨gb244, 4, none⟩ (.int .i64 t227)).setCell ⟨gb244, 5, none⟩ (.int .i64 t228)).setCell ⟨gb244, 6, none⟩ (.slice Ao27 t229.length co27)).setCell ⟨gb244, 7, none⟩ (.int .i64 t232)).setCell ⟨gb244, 8, none⟩ (.int .i64 t233)).setCell ⟨gb244, 9, none⟩ (.int .i64 t234)).setCell ⟨gb244, 10, none⟩ (.int .i64 t235)).setCell ⟨gb244, 11, none⟩ (.slice Ao28 t236.length co28)).setCell ⟨gb244, 12, none⟩ (.int .i64 t239)).setCell ⟨gb244, 13, none⟩ (.int .i64 t240)).setCell ⟨gb244, 14, none⟩ (.int .i64 t241)).setCell ⟨gb244, 15, none⟩ (.int .i64 t242)) = w29 at n0_ n1_ n2_ n3_ n4_ ⊢
                              have HO_5 := n0_
                              have HO231 := n1_
                              have HO238 := n2_
                              have BK244 := n3_
                              have HB := n4_
                              clear n0_ n1_ n2_ n3_ n4_
                              have n0_ := Aside0.mk (Kd.N_drew HO_5.out)
                              have n1_ := Aside0.mk (Kd.R_drew HO231.out)
                              have n2_ := Aside0.mk (Kd.R_drew HO238.out)
                              have n3_ := Aside0.mk (blk_drew BK244.out)
                              have n4_ := Aside0.mk (below_drew1 HB.out)
                              clear HO_5
                              clear HO231
                              clear HO238
                              clear BK244
                              clear HB
                              have HO_5 := n0_
                              have HO231 := n1_
                              have HO238 := n2_
                              have BK244 := n3_
                              have HB := n4_
                              clear n0_ n1_ n2_ n3_ n4_
                              have p245 : 0 ≤ (x6_1 : Int) := of_decide_eq_true (by first | (with_reducible assumption) | assumption)
                              have q245 : x6_1 < (t217.length : Int) := of_decide_eq_true (by first | (with_reducible assumption) | assumption)
                              obtain ⟨ad245, A245_6, c245_6, A245_11, c245_11, e245, hx245_0, hx245_1, hx245_2, hx245_3, hx245_4, hx245_5, hx245_6, hx245_7, hx245_8, hx245_9, hx245_10, hx245_11, hx245_12, hx245_13, hx245_14, hx245_15, hl245_6, hi245_6, hl245_11, hi245_11⟩ := at_T32 (Kd.N_reads' HO_5.out).2.2 x6_1 p245 q245
                              obtain rfl : ad221 = ad245 := (by injection e245)
                              obtain ⟨ce245, hce245, hMe245, hcc245⟩ := Kd.N_get HO_5.out z32 x6_1 p245 (by first | exact q245 | exact of_decide_eq_true (by first | (with_reducible assumption) | assumption) | (have e_ := (Kd.N_reads' HO_5.out).1; omega))
                              obtain ⟨ua245_6, uc245_6, ua245_11, uc245_11, rfl, ul245_6, ge245_6, ul245_11, ge245_11⟩ := k32_openF hMe245
                              have hv245_6 := hcc245 6 _ rfl
                              rw [add_field _ _ 6 (by omega)] at hv245_6
                              replace hv245_6 := Option.some.inj (hv245_6.symm.trans hx245_6)
                              injection hv245_6 with hva_ hvn_ hvc_
                              rw [hva_] at ge245_6
                              rw [hvc_] at ul245_6
                              have HL245_6 := Aside0.mk (show Kd.V k83 83 _ w.heap.size _ _ ((rd_T32 t217 x6_1).f3) from Kd.V_mk ul245_6 ge245_6)
                              clear hva_ hvn_ hvc_ ge245_6 ul245_6
                              have hv245_11 := hcc245 11 _ rfl
                              rw [add_field _ _ 11 (by omega)] at hv245_11
                              replace hv245_11 := Option.some.inj (hv245_11.symm.trans hx245_11)
                              injection hv245_11 with hva_ hvn_ hvc_
                              rw [hva_] at ge245_11
                              rw [hvc_] at ul245_11
                              have HL245_11 := Aside0.mk (show Kd.V (Kd.int .i64) 2 _ w.heap.size _ _ ((rd_T32 t217 x6_1).f5) from Kd.V_mk ul245_11 ge245_11)
                              clear hva_ hvn_ hvc_ ge245_11 ul245_11
                              clear hcc245 hce245
                              have HR245_6 := Aside0.mk hi245_6
                              have HC245_6 := Aside0.mk hl245_6
                              clear hi245_6 hl245_6
                              have HR245_11 := Aside0.mk hi245_11
                              have HC245_11 := Aside0.mk hl245_11
                              clear hi245_11 hl245_11
                              replace p245 := eq_true p245
                              replace q245 := eq_true q245
                              refine start_ (n := 18) (S := fun w' => w'.cell? ⟨gb244, 0, none⟩ = some (.string t223) ∧ w'.cell? ⟨gb244, 1, none⟩ = some (.bool true) ∧ w'.cell? ⟨gb244, 2, none⟩ = some (.int .i64 t225) ∧ w'.cell? ⟨gb244, 3, none⟩ = some (.int .i64 t226) ∧ w'.cell? ⟨gb244, 4, none⟩ = some (.int .i64 t227) ∧ w'.cell? ⟨gb244, 5, none⟩ = some (.int .i64 t228) ∧ w'.cell? ⟨gb244, 6, none⟩ = some (.slice Ao27 t229.length co27) ∧ w'.cell? ⟨gb244, 7, none⟩ = some (.int .i64 t232) ∧ w'.cell? ⟨gb244, 8, none⟩ = some (.int .i64 t233) ∧ w'.cell? ⟨gb244, 9, none⟩ = some (.int .i64 t234) ∧ w'.cell? ⟨gb244, 10, none⟩ = some (.int .i64 t235) ∧ w'.cell? ⟨gb244, 11, none⟩ = some (.slice Ao28 t236.length co28) ∧ w'.cell? ⟨gb244, 12, none⟩ = some (.int .i64 t239) ∧ w'.cell? ⟨gb244, 13, none⟩ = some (.int .i64 t240) ∧ w'.cell? ⟨gb244, 14, none⟩ = some (.int .i64 t241) ∧ w'.cell? ⟨gb244, 15, none⟩ = some (.int .i64 t242) ∧ w'.cell? (ad221.add ((x6_1).toNat * 16)) = some (.string ((rd_T32 t217 x6_1).f0)) ∧ w'.cell? ⟨(ad221.add ((x6_1).toNat * 16)).block, (ad221.add ((x6_1).toNat * 16)).off + 1, none⟩ = some (.bool ((rd_T32 t217 x6_1).f1)) ∧ w'.cell? ⟨(ad221.add ((x6_1).toNat * 16)).block, (ad221.add ((x6_1).toNat * 16)).off + 2, none⟩ = some (.int .i64 ((rd_T32 t217 x6_1).f2.f0)) ∧ w'.cell? ⟨(ad221.add ((x6_1).toNat * 16)).block, (ad221.add ((x6_1).toNat * 16)).off + 3, none⟩ = some (.int .i64 ((rd_T32 t217 x6_1).f2.f1)) ∧ w'.cell? ⟨(ad221.add ((x6_1).toNat * 16)).block, (ad221.add ((x6_1).toNat * 16)).off + 4, none⟩ = some (.int .i64 ((rd_T32 t217 x6_1).f2.f2)) ∧ w'.cell? ⟨(ad221.add ((x6_1).toNat * 16)).block, (ad221.add ((x6_1).toNat * 16)).off + 5, none⟩ = some (.int .i64 ((rd_T32 t217 x6_1).f2.f3)) ∧ w'.cell? ⟨(ad221.add ((x6_1).toNat * 16)).block, (ad221.add ((x6_1).toNat * 16)).off + 6, none⟩ = some (.slice A245_6 ((rd_T32 t217 x6_1).f3).length c245_6) ∧ w'.cell? ⟨(ad221.add ((x6_1).toNat * 16)).block, (ad221.add ((x6_1).toNat * 16)).off + 7, none⟩ = some (.int .i64 ((rd_T32 t217 x6_1).f4.f0)) ∧ w'.cell? ⟨(ad221.add ((x6_1).toNat * 16)).block, (ad221.add ((x6_1).toNat * 16)).off + 8, none⟩ = some (.int .i64 ((rd_T32 t217 x6_1).f4.f1)) ∧ w'.cell? ⟨(ad221.add ((x6_1).toNat * 16)).block, (ad221.add ((x6_1).toNat * 16)).off + 9, none⟩ = some (.int .i64 ((rd_T32 t217 x6_1).f4.f2)) ∧ w'.cell? ⟨(ad221.add ((x6_1).toNat * 16)).block, (ad221.add ((x6_1).toNat * 16)).off + 10, none⟩ = some (.int .i64 ((rd_T32 t217 x6_1).f4.f3)) ∧ w'.cell? ⟨(ad221.add ((x6_1).toNat * 16)).block, (ad221.add ((x6_1).toNat * 16)).off + 11, none⟩ = some (.slice A245_11 ((rd_T32 t217 x6_1).f5).length c245_11) ∧ w'.cell? ⟨(ad221.add ((x6_1).toNat * 16)).block, (ad221.add ((x6_1).toNat * 16)).off + 12, none⟩ = some (.int .i64 ((rd_T32 t217 x6_1).f6.f0)) ∧ w'.cell? ⟨(ad221.add ((x6_1).toNat * 16)).block, (ad221.add ((x6_1).toNat * 16)).off + 13, none⟩ = some (.int .i64 ((rd_T32 t217 x6_1).f6.f1)) ∧ w'.cell? ⟨(ad221.add ((x6_1).toNat * 16)).block, (ad221.add ((x6_1).toNat * 16)).off + 14, none⟩ = some (.int .i64 ((rd_T32 t217 x6_1).f6.f2)) ∧ w'.cell? ⟨(ad221.add ((x6_1).toNat * 16)).block, (ad221.add ((x6_1).toNat * 16)).off + 15, none⟩ = some (.int .i64 ((rd_T32 t217 x6_1).f6.f3))) (ds := []) #[false, false, false, false, false, false, false, false, false, false, false, false, false, false, false, false, false, false] (by kernel_rfl) rfl rfl ⟨(blk_cell BK244.out 0).trans rfl, (blk_cell BK244.out 1).trans rfl, (blk_cell BK244.out 2).trans rfl, (blk_cell BK244.out 3).trans rfl, (blk_cell BK244.out 4).trans rfl, (blk_cell BK244.out 5).trans rfl, (blk_cell BK244.out 6).trans rfl, (blk_cell BK244.out 7).trans rfl, (blk_cell BK244.out 8).trans rfl, (blk_cell BK244.out 9).trans rfl, (blk_cell BK244.out 10).trans rfl, (blk_cell BK244.out 11).trans rfl, (blk_cell BK244.out 12).trans rfl, (blk_cell BK244.out 13).trans rfl, (blk_cell BK244.out 14).trans rfl, (blk_cell BK244.out 15).trans rfl, hx245_0, hx245_1, hx245_2, hx245_3, hx245_4, hx245_5, hx245_6, hx245_7, hx245_8, hx245_9, hx245_10, hx245_11, hx245_12, hx245_13, hx245_14, hx245_15⟩ (fun hHeld => ?_); refine with_tabW donjonlaw11_TreeRises.tab13 donjonlaw11_TreeRises.bits13 (fun HT_ HW_ => ?_)
                              generalize w29.drew = w30 at HO_5 HO231 HO238 BK244 HB HL245_11 HL245_6 HR245_11 HR245_6 hx245_0 hx245_1 hx245_10 hx245_11 hx245_12 hx245_13 hx245_14 hx245_15 hx245_2 hx245_3 hx245_4 hx245_5 hx245_6 hx245_7 hx245_8 hx245_9 hHeld ⊢
                              refine pure_ (i := 0) (N := some 40) (v := ?_) (a' := ?_) #[true, false, false, false, false, false, false, false, false, false, false, false, false, false, false, false, false, false] rfl rfl (any_of HT_.out (by kernel_rfl)) (fun _ _ _ h => h) (Or.inl ⟨by rfl, ?_⟩) ?_ ?_
                              rotate_left
                              · intro w'
                                go_simp
                                with_reducible rfl
                              rotate_left
                              · simp only [Act.put, List.setIfInBounds_toArray, List.set_cons_zero, List.set_cons_succ, i64_w, i32_w]
                                rfl
                              refine pure_ (i := 1) (N := some 41) (v := ?_) (a' := ?_) #[true, true, false, false, false, false, false, false, false, false, false, false, false, false, false, false, false, false] rfl rfl (any_of HT_.out (by kernel_rfl)) (fun _ _ _ h => h) (Or.inl ⟨by rfl, ?_⟩) ?_ ?_
                              rotate_left
                              · intro w'
                                go_simp
                                with_reducible rfl
                              rotate_left
                              · simp only [Act.put, List.setIfInBounds_toArray, List.set_cons_zero, List.set_cons_succ, i64_w, i32_w]
                                rfl
                              refine pure_ (i := 2) (N := some 42) (v := ?_) (a' := ?_) #[true, true, true, false, false, false, false, false, false, false, false, false, false, false, false, false, false, false] rfl rfl (any_of HT_.out (by kernel_rfl)) (fun _ _ _ h => h) (Or.inl ⟨by rfl, ?_⟩) ?_ ?_
                              rotate_left
                              · intro w'
                                go_simp
                                with_reducible rfl
                              rotate_left
                              · simp only [Act.put, List.setIfInBounds_toArray, List.set_cons_zero, List.set_cons_succ, i64_w, i32_w]
                                rfl
                              refine pure_ (i := 3) (N := some 43) (v := ?_) (a' := ?_) #[true, true, true, true, false, false, false, false, false, false, false, false, false, false, false, false, false, false] rfl rfl (any_of HT_.out (by kernel_rfl)) (fun _ _ _ h => h) (Or.inl ⟨by rfl, ?_⟩) ?_ ?_
                              rotate_left
                              · intro w'
                                go_simp
                                with_reducible rfl
                              rotate_left
                              · simp only [Act.put, List.setIfInBounds_toArray, List.set_cons_zero, List.set_cons_succ, i64_w, i32_w]
                                rfl
                              refine take_ (i := 4) (N := some 44) (v := ?_) (a' := ?_) #[true, true, true, true, true, false, false, false, false, false, false, false, false, false, false, false, false, false] rfl rfl (take_ofW HT_.out HW_.out (by kernel_rfl)) (fun _ _ _ h => h) (Or.inl ⟨by rfl, ?_⟩) hHeld ?_ ?_
                              rotate_left
                              · rintro w' ⟨s0, s1, s2, s3, s4, s5, s6, s7, s8, s9, s10, s11, s12, s13, s14, s15, s16, s17, s18, s19, s20, s21, s22, s23, s24, s25, s26, s27, s28, s29, s30, s31⟩
                                go_simp
                                with_reducible rfl
                              rotate_left
                              · simp only [Act.put, List.setIfInBounds_toArray, List.set_cons_zero, List.set_cons_succ, i64_w, i32_w]
                                rfl
                              refine pure_ (i := 5) (N := some 45) (v := ?_) (a' := ?_) #[true, true, true, true, true, true, false, false, false, false, false, false, false, false, false, false, false, false] rfl rfl (any_of HT_.out (by kernel_rfl)) (fun _ _ _ h => h) (Or.inl ⟨by rfl, ?_⟩) ?_ ?_
                              rotate_left
                              · intro w'
                                go_simp
                                with_reducible rfl
                              rotate_left
                              · simp only [Act.put, List.setIfInBounds_toArray, List.set_cons_zero, List.set_cons_succ, i64_w, i32_w]
                                rfl
                              refine pure_ (i := 6) (N := some 46) (v := ?_) (a' := ?_) #[true, true, true, true, true, true, true, false, false, false, false, false, false, false, false, false, false, false] rfl rfl (any_of HT_.out (by kernel_rfl)) (fun _ _ _ h => h) (Or.inl ⟨by rfl, ?_⟩) ?_ ?_
                              rotate_left
                              · intro w'
                                go_simp
                                with_reducible rfl
                              rotate_left
                              · simp only [Act.put, List.setIfInBounds_toArray, List.set_cons_zero, List.set_cons_succ, i64_w, i32_w]
                                rfl
                              refine pure_ (i := 7) (N := some 47) (v := ?_) (a' := ?_) #[true, true, true, true, true, true, true, true, false, false, false, false, false, false, false, false, false, false] rfl rfl (any_of HT_.out (by kernel_rfl)) (fun _ _ _ h => h) (Or.inl ⟨by rfl, ?_⟩) ?_ ?_
                              rotate_left
                              · intro w'
                                go_simp
                                with_reducible rfl
                              rotate_left
                              · simp only [Act.put, List.setIfInBounds_toArray, List.set_cons_zero, List.set_cons_succ, i64_w, i32_w]
                                rfl
                              refine pure_ (i := 8) (N := some 48) (v := ?_) (a' := ?_) #[true, true, true, true, true, true, true, true, true, false, false, false, false, false, false, false, false, false] rfl rfl (any_of HT_.out (by kernel_rfl)) (fun _ _ _ h => h) (Or.inl ⟨by rfl, ?_⟩) ?_ ?_
                              rotate_left
                              · intro w'
                                go_simp
                                with_reducible rfl
                              rotate_left
                              · simp only [Act.put, List.setIfInBounds_toArray, List.set_cons_zero, List.set_cons_succ, i64_w, i32_w]
                                rfl
                              refine pure_ (i := 9) (N := some 49) (v := ?_) (a' := ?_) #[true, true, true, true, true, true, true, true, true, true, false, false, false, false, false, false, false, false] rfl rfl (any_of HT_.out (by kernel_rfl)) (fun _ _ _ h => h) (Or.inl ⟨by rfl, ?_⟩) ?_ ?_
                              rotate_left
                              · intro w'
                                go_simp
                                with_reducible rfl
                              rotate_left
                              · simp only [Act.put, List.setIfInBounds_toArray, List.set_cons_zero, List.set_cons_succ, i64_w, i32_w]
                                rfl
                              refine pure_ (i := 10) (N := some 50) (v := ?_) (a' := ?_) #[true, true, true, true, true, true, true, true, true, true, true, false, false, false, false, false, false, false] rfl rfl (any_of HT_.out (by kernel_rfl)) (fun _ _ _ h => h) (Or.inl ⟨by rfl, ?_⟩) ?_ ?_
                              rotate_left
                              · intro w'
                                go_simp
                                with_reducible rfl
                              rotate_left
                              · simp only [Act.put, List.setIfInBounds_toArray, List.set_cons_zero, List.set_cons_succ, i64_w, i32_w]
                                rfl
                              refine pure_ (i := 11) (N := some 51) (v := ?_) (a' := ?_) #[true, true, true, true, true, true, true, true, true, true, true, true, false, false, false, false, false, false] rfl rfl (any_of HT_.out (by kernel_rfl)) (fun _ _ _ h => h) (Or.inl ⟨by rfl, ?_⟩) ?_ ?_
                              rotate_left
                              · intro w'
                                go_simp
                                with_reducible rfl
                              rotate_left
                              · simp only [Act.put, List.setIfInBounds_toArray, List.set_cons_zero, List.set_cons_succ, i64_w, i32_w]
                                rfl
                              refine pure_ (i := 13) (N := some 53) (v := ?_) (a' := ?_) #[true, true, true, true, true, true, true, true, true, true, true, true, false, true, false, false, false, false] rfl rfl (any_of HT_.out (by kernel_rfl)) (fun _ _ _ h => h) (Or.inl ⟨by rfl, ?_⟩) ?_ ?_
                              rotate_left
                              · intro w'
                                go_simp
                                with_reducible rfl
                              rotate_left
                              · simp only [Act.put, List.setIfInBounds_toArray, List.set_cons_zero, List.set_cons_succ, i64_w, i32_w]
                                rfl
                              refine take_ (i := 12) (N := some 52) (v := ?_) (a' := ?_) #[true, true, true, true, true, true, true, true, true, true, true, true, true, true, false, false, false, false] rfl rfl (take_ofW HT_.out HW_.out (by kernel_rfl)) (fun _ _ _ h => h) (Or.inl ⟨by rfl, ?_⟩) hHeld ?_ ?_
                              rotate_left
                              · rintro w' ⟨s0, s1, s2, s3, s4, s5, s6, s7, s8, s9, s10, s11, s12, s13, s14, s15, s16, s17, s18, s19, s20, s21, s22, s23, s24, s25, s26, s27, s28, s29, s30, s31⟩
                                go_simp
                                with_reducible rfl
                              rotate_left
                              · simp only [Act.put, List.setIfInBounds_toArray, List.set_cons_zero, List.set_cons_succ, i64_w, i32_w]
                                rfl
                              refine take_ (i := 14) (N := some 54) (v := ?_) (a' := ?_) #[true, true, true, true, true, true, true, true, true, true, true, true, true, true, true, false, false, false] rfl rfl (take_ofW HT_.out HW_.out (by kernel_rfl)) (fun _ _ _ h => h) (Or.inl ⟨by rfl, ?_⟩) hHeld ?_ ?_
                              rotate_left
                              · rintro w' ⟨s0, s1, s2, s3, s4, s5, s6, s7, s8, s9, s10, s11, s12, s13, s14, s15, s16, s17, s18, s19, s20, s21, s22, s23, s24, s25, s26, s27, s28, s29, s30, s31⟩
                                go_simp
                                with_reducible rfl
                              rotate_left
                              · simp only [Act.put, List.setIfInBounds_toArray, List.set_cons_zero, List.set_cons_succ, i64_w, i32_w]
                                rfl
                              refine one_ (i := 15) (N := some 55) #[true, true, true, true, true, true, true, true, true, true, true, true, true, true, true, true, false, false] rfl rfl (one_of HT_.out (by kernel_rfl)) (by decide) (fun K hK => ?_)
                              refine goes_ Tryd.func17 (by kernel_rfl) rfl #[.agg #[.int .i64 ((rd_T32 t217 x6_1).f2.f0), .int .i64 ((rd_T32 t217 x6_1).f2.f1), .int .i64 ((rd_T32 t217 x6_1).f2.f2), .int .i64 ((rd_T32 t217 x6_1).f2.f3)], .agg #[.int .i64 t225, .int .i64 t226, .int .i64 t227, .int .i64 t228]] (by rfl) rfl rfl (by (try simp only [List.map_toArray, List.map_cons, List.map_nil]); first | done | rfl | (simp only [List.length_drop, List.length_take]; rfl)) ?_
                              with_reducible refine (donjonref4_Over.calls ((rd_T32 t217 x6_1).f2.f0) ((rd_T32 t217 x6_1).f2.f1) ((rd_T32 t217 x6_1).f2.f2) ((rd_T32 t217 x6_1).f2.f3) t225 t226 t227 t228 true _ A21.out).mono ?_
                              rintro e w31 ⟨rfl, hb⟩
                              have HS16_ := (hb.cell (World.block_lt_of_cell? _ _ (hHeld.2.2.2.2.2.2.2.2.2.2.2.2.2.2.2.2.1))).trans (hHeld.2.2.2.2.2.2.2.2.2.2.2.2.2.2.2.2.1)
                              have HS17_ := (hb.cell (World.block_lt_of_cell? _ _ (hHeld.2.2.2.2.2.2.2.2.2.2.2.2.2.2.2.2.2.1))).trans (hHeld.2.2.2.2.2.2.2.2.2.2.2.2.2.2.2.2.2.1)
                              have HS18_ := (hb.cell (World.block_lt_of_cell? _ _ (hHeld.2.2.2.2.2.2.2.2.2.2.2.2.2.2.2.2.2.2.1))).trans (hHeld.2.2.2.2.2.2.2.2.2.2.2.2.2.2.2.2.2.2.1)
                              have HS19_ := (hb.cell (World.block_lt_of_cell? _ _ (hHeld.2.2.2.2.2.2.2.2.2.2.2.2.2.2.2.2.2.2.2.1))).trans (hHeld.2.2.2.2.2.2.2.2.2.2.2.2.2.2.2.2.2.2.2.1)
                              have HS20_ := (hb.cell (World.block_lt_of_cell? _ _ (hHeld.2.2.2.2.2.2.2.2.2.2.2.2.2.2.2.2.2.2.2.2.1))).trans (hHeld.2.2.2.2.2.2.2.2.2.2.2.2.2.2.2.2.2.2.2.2.1)
                              have HS21_ := (hb.cell (World.block_lt_of_cell? _ _ (hHeld.2.2.2.2.2.2.2.2.2.2.2.2.2.2.2.2.2.2.2.2.2.1))).trans (hHeld.2.2.2.2.2.2.2.2.2.2.2.2.2.2.2.2.2.2.2.2.2.1)
                              have HS22_ := (hb.cell (World.block_lt_of_cell? _ _ (hHeld.2.2.2.2.2.2.2.2.2.2.2.2.2.2.2.2.2.2.2.2.2.2.1))).trans (hHeld.2.2.2.2.2.2.2.2.2.2.2.2.2.2.2.2.2.2.2.2.2.2.1)
                              have HS23_ := (hb.cell (World.block_lt_of_cell? _ _ (hHeld.2.2.2.2.2.2.2.2.2.2.2.2.2.2.2.2.2.2.2.2.2.2.2.1))).trans (hHeld.2.2.2.2.2.2.2.2.2.2.2.2.2.2.2.2.2.2.2.2.2.2.2.1)
                              have HS24_ := (hb.cell (World.block_lt_of_cell? _ _ (hHeld.2.2.2.2.2.2.2.2.2.2.2.2.2.2.2.2.2.2.2.2.2.2.2.2.1))).trans (hHeld.2.2.2.2.2.2.2.2.2.2.2.2.2.2.2.2.2.2.2.2.2.2.2.2.1)
                              have HS25_ := (hb.cell (World.block_lt_of_cell? _ _ (hHeld.2.2.2.2.2.2.2.2.2.2.2.2.2.2.2.2.2.2.2.2.2.2.2.2.2.1))).trans (hHeld.2.2.2.2.2.2.2.2.2.2.2.2.2.2.2.2.2.2.2.2.2.2.2.2.2.1)
                              have HS26_ := (hb.cell (World.block_lt_of_cell? _ _ (hHeld.2.2.2.2.2.2.2.2.2.2.2.2.2.2.2.2.2.2.2.2.2.2.2.2.2.2.1))).trans (hHeld.2.2.2.2.2.2.2.2.2.2.2.2.2.2.2.2.2.2.2.2.2.2.2.2.2.2.1)
                              have HS27_ := (hb.cell (World.block_lt_of_cell? _ _ (hHeld.2.2.2.2.2.2.2.2.2.2.2.2.2.2.2.2.2.2.2.2.2.2.2.2.2.2.2.1))).trans (hHeld.2.2.2.2.2.2.2.2.2.2.2.2.2.2.2.2.2.2.2.2.2.2.2.2.2.2.2.1)
                              have HS28_ := (hb.cell (World.block_lt_of_cell? _ _ (hHeld.2.2.2.2.2.2.2.2.2.2.2.2.2.2.2.2.2.2.2.2.2.2.2.2.2.2.2.2.1))).trans (hHeld.2.2.2.2.2.2.2.2.2.2.2.2.2.2.2.2.2.2.2.2.2.2.2.2.2.2.2.2.1)
                              have HS29_ := (hb.cell (World.block_lt_of_cell? _ _ (hHeld.2.2.2.2.2.2.2.2.2.2.2.2.2.2.2.2.2.2.2.2.2.2.2.2.2.2.2.2.2.1))).trans (hHeld.2.2.2.2.2.2.2.2.2.2.2.2.2.2.2.2.2.2.2.2.2.2.2.2.2.2.2.2.2.1)
                              have HS30_ := (hb.cell (World.block_lt_of_cell? _ _ (hHeld.2.2.2.2.2.2.2.2.2.2.2.2.2.2.2.2.2.2.2.2.2.2.2.2.2.2.2.2.2.2.1))).trans (hHeld.2.2.2.2.2.2.2.2.2.2.2.2.2.2.2.2.2.2.2.2.2.2.2.2.2.2.2.2.2.2.1)
                              have HS31_ := (hb.cell (World.block_lt_of_cell? _ _ (hHeld.2.2.2.2.2.2.2.2.2.2.2.2.2.2.2.2.2.2.2.2.2.2.2.2.2.2.2.2.2.2.2))).trans (hHeld.2.2.2.2.2.2.2.2.2.2.2.2.2.2.2.2.2.2.2.2.2.2.2.2.2.2.2.2.2.2.2)
                              refine ⟨_, rfl, ?_⟩
                              have n0_ := Aside0.mk (Kd.N_below (by (with_reducible repeat (first | apply Kd.N_alloc | apply Kd.N_drewN | apply Kd.N_drew)); exact HO_5.out) hb)
                              have n1_ := Aside0.mk (Kd.R_below (by (with_reducible repeat (first | apply Kd.R_alloc | apply Kd.R_drewN | apply Kd.R_drew)); exact HO231.out) hb)
                              have n2_ := Aside0.mk (Kd.R_below (by (with_reducible repeat (first | apply Kd.R_alloc | apply Kd.R_drewN | apply Kd.R_drew)); exact HO238.out) hb)
                              have n3_ := Aside0.mk (Kd.V_below (by (with_reducible repeat (first | apply Kd.V_alloc | apply Kd.V_drewN | apply Kd.V_drew)); exact HL245_6.out) hb)
                              have n4_ := Aside0.mk (Kd.V_below (by (with_reducible repeat (first | apply Kd.V_alloc | apply Kd.V_drewN | apply Kd.V_drew)); exact HL245_11.out) hb)
                              have n5_ := Aside0.mk (blk_below (g := gb244) (o := .cells #[.string t223, .bool true, .int .i64 t225, .int .i64 t226, .int .i64 t227, .int .i64 t228, .slice Ao27 t229.length co27, .int .i64 t232, .int .i64 t233, .int .i64 t234, .int .i64 t235, .slice Ao28 t236.length co28, .int .i64 t239, .int .i64 t240, .int .i64 t241, .int .i64 t242] 32 (0, 0)) (by (with_reducible repeat (first | refine blk_drewN ?_ _ | refine blk_drew ?_ | refine blk_alloc ?_ _)); exact BK244.out) hb)
                              have n6_ := Aside0.mk (Kd.C_below (by repeat (first | (with_reducible exact HR245_6.out) | (with_reducible refine Kd.C_alloc ?_ _) | (with_reducible refine Kd.C_drewN ?_ _) | (with_reducible refine Kd.C_drew ?_) | exact HR245_6.out)) hb)
                              have n7_ := Aside0.mk (Kd.C_below (by repeat (first | (with_reducible exact HR245_11.out) | (with_reducible refine Kd.C_alloc ?_ _) | (with_reducible refine Kd.C_drewN ?_ _) | (with_reducible refine Kd.C_drew ?_) | exact HR245_11.out)) hb)
                              have n8_ := Aside0.mk (below_step (by repeat (first | (with_reducible first | exact HB.out | apply below_alloc | apply pw_below_drewN | apply below_drew1 | refine below_set ?_ GE244.out) | exact HB.out)) hb)
                              clear HO_5
                              clear HO231
                              clear HO238
                              clear HL245_6
                              clear HL245_11
                              clear BK244
                              clear HR245_6
                              clear HR245_11
                              clear HB
                              have HO_5 := n0_
                              have HO231 := n1_
                              have HO238 := n2_
                              have HL245_6 := n3_
                              have HL245_11 := n4_
                              have BK244 := n5_
                              have HR245_6 := n6_
                              have HR245_11 := n7_
                              have HB := n8_
                              clear n0_ n1_ n2_ n3_ n4_ n5_ n6_ n7_ n8_
                              (try clear hb)
                              (try clear hb2)
                              (try clear hk)
                              (try clear hi)
                              refine hK.out _ _ ⟨(blk_cell BK244.out 0).trans rfl, (blk_cell BK244.out 1).trans rfl, (blk_cell BK244.out 2).trans rfl, (blk_cell BK244.out 3).trans rfl, (blk_cell BK244.out 4).trans rfl, (blk_cell BK244.out 5).trans rfl, (blk_cell BK244.out 6).trans rfl, (blk_cell BK244.out 7).trans rfl, (blk_cell BK244.out 8).trans rfl, (blk_cell BK244.out 9).trans rfl, (blk_cell BK244.out 10).trans rfl, (blk_cell BK244.out 11).trans rfl, (blk_cell BK244.out 12).trans rfl, (blk_cell BK244.out 13).trans rfl, (blk_cell BK244.out 14).trans rfl, (blk_cell BK244.out 15).trans rfl, HS16_, HS17_, HS18_, HS19_, HS20_, HS21_, HS22_, HS23_, HS24_, HS25_, HS26_, HS27_, HS28_, HS29_, HS30_, HS31_⟩ (fun hHeld => ?_)
                              clear hK K
                              refine norm_ (a' := ?_) ?_ ?_
                              rotate_left
                              · show Act.put _ (some 55) _ = _
                                simp only [Act.put, List.setIfInBounds_toArray, List.set_cons_zero, List.set_cons_succ, i64_w, i32_w]
                                rfl
                              refine pure_ (i := 16) (N := some 56) (v := ?_) (a' := ?_) #[true, true, true, true, true, true, true, true, true, true, true, true, true, true, true, true, true, false] rfl rfl (any_of HT_.out (by kernel_rfl)) (fun _ _ _ h => h) (Or.inl ⟨by rfl, ?_⟩) ?_ ?_
                              rotate_left
                              · intro w'
                                go_simp
                                with_reducible rfl
                              rotate_left
                              · simp only [Act.put, List.setIfInBounds_toArray, List.set_cons_zero, List.set_cons_succ, i64_w, i32_w]
                                rfl
                              refine pure_ (i := 17) (N := some 57) (v := ?_) (a' := ?_) #[true, true, true, true, true, true, true, true, true, true, true, true, true, true, true, true, true, true] rfl rfl (any_of HT_.out (by kernel_rfl)) (fun _ _ _ h => h) (Or.inl ⟨by rfl, ?_⟩) ?_ ?_
                              rotate_left
                              · intro w'
                                go_simp
                                with_reducible rfl
                              rotate_left
                              · simp only [Act.put, List.setIfInBounds_toArray, List.set_cons_zero, List.set_cons_succ, i64_w, i32_w]
                                rfl
                              refine done_ (done_of HT_.out (by kernel_rfl)) ?_
                              try go_wp2_with (first | ((with_reducible refine gate_callee (f := 16) rfl ?_); refine goesL_ (some 33) rfl rfl Tryd.func16 (by kernel_rfl) rfl #[.string x7_2] rfl (by (try simp only [List.map_toArray, List.map_cons, List.map_nil]); first | done | rfl | (simp only [List.length_drop, List.length_take]; rfl)) ?_; (with_reducible refine (donjonref7_Parent.calls k2 x7_2 t247 _ A23.out).mono ?_); rintro e w' ⟨rfl, ⟨nd, rfl⟩⟩; refine ⟨_, rfl, ?_⟩))
                              go_roundg k2
                              case measure => have := HK1.out; have := HK2.out; omega
                              case rel => exact ⟨(t247), (by first | rfl | (simp; done) | (simp [*]; done)), H', ⟨by have := HK1.out; have := HK2.out; omega⟩, ⟨by (with_reducible repeat (first | apply Kd.N_alloc | apply Kd.N_drewN | apply Kd.N_drew)); exact Kd.N_mono HO_5.out (fun _ hk => trivial)⟩, ⟨by repeat (first | (with_reducible first | exact HB.out | apply below_alloc | apply pw_below_drewN | apply below_drew1 | refine below_set ?_ GE244.out) | exact HB.out)⟩⟩
                            · replace c22 := Bool.eq_false_iff.mpr c22
                              subst c22
                              have H1 : (some false) = some r := by rw [if_neg (show ¬ (false = true) by decide)] at H; exact H
                              clear H
                              have H := H1
                              clear H1
                              obtain rfl := Option.some.inj H
                              try go_wp2_with (first | ((with_reducible refine gate_callee (f := 14) rfl ?_); refine goesL_ (some 37) rfl rfl Tryd.func14 (by kernel_rfl) rfl #[.slice (some ad221) t217.length co10, .string x7_2] rfl (by (try simp only [List.map_toArray, List.map_cons, List.map_nil]); first | done | rfl | (simp only [List.length_drop, List.length_take]; rfl)) ?_; (with_reducible refine (tree_Find.calls _ _ t217 x7_2 t223 true t225 t226 t227 t228 t229 t232 t233 t234 t235 t236 t239 t240 t241 t242 true _ ?side1 ?side2 A16.out).mono ?_); (case side1 => repeat (first | exact (Kd.N_reads' HO_5.out).2.2 | (with_reducible refine Kd.C_alloc ?_ _) | (with_reducible refine Kd.C_drewN ?_ _) | (with_reducible refine Kd.C_drew ?_))); (case side2 => exact (Kd.N_reads' HO_5.out).2.1); rintro e w32 ⟨v230, v237, rfl, ho0, ho1, hb⟩; refine ⟨_, rfl, ?_⟩; have n0_ := Aside0.mk (Kd.N_mono (Kd.N_told (Kd.N_told (Kd.N_old (by (with_reducible repeat (first | apply Kd.N_alloc | apply Kd.N_drewN | apply Kd.N_drew)); exact HO_5.out) hb) (Kd.R_base ho0)) (Kd.R_base ho1)) (fun _ h_ => h_.1)); have n1_ := Aside0.mk (Kd.R_lower ho0 (below_size (by repeat (first | (with_reducible first | exact HB.out | apply below_alloc | apply pw_below_drewN | apply below_drew1) | exact HB.out)))); have n2_ := Aside0.mk (Kd.R_lower ho1 (below_size (by repeat (first | (with_reducible first | exact HB.out | apply below_alloc | apply pw_below_drewN | apply below_drew1) | exact HB.out)))); have n3_ := Aside0.mk (below_step (by repeat (first | (with_reducible first | exact HB.out | apply below_alloc | apply pw_below_drewN | apply below_drew1) | exact HB.out)) hb); clear HO_5; clear HB; have HO_5 := n0_; have HO231 := n1_; have HO238 := n2_; have HB := n3_; clear n0_ n1_ n2_ n3_; (try clear hb); (try clear hb2); (try clear hk); (try clear hi); (try clear ho0); (try clear ho1)) | ((with_reducible refine gate_dst (N := 8) rfl ?_); refine box_event ?hg (N := 8) ?hd (cs := #[.string (⟨#[]⟩ : ByteArray), .bool false, .int .i64 0, .int .i64 0, .int .i64 0, .int .i64 0, .slice none 0 0, .int .i64 0, .int .i64 0, .int .i64 0, .int .i64 0, .slice none 0 0, .int .i64 0, .int .i64 0, .int .i64 0, .int .i64 0]) (t := 32) ?hr ?_; (case hd => rfl); (case hg => rfl); (case hr => first | (go_simp; done) | (go_simp; rfl)); intro gb244 hg w33 hbox hb; have n0_ := Aside0.mk (Kd.N_below (Kd.N_elderB (by (with_reducible repeat (first | apply Kd.N_alloc | apply Kd.N_drewN | apply Kd.N_drew)); exact HO_5.out) gb244 (Nat.le_of_eq hg.symm)) hb); have n1_ := Aside0.mk (Kd.R_below (by (with_reducible repeat (first | apply Kd.R_alloc | apply Kd.R_drewN | apply Kd.R_drew)); exact HO231.out) hb); have n2_ := Aside0.mk (Kd.R_below (by (with_reducible repeat (first | apply Kd.R_alloc | apply Kd.R_drewN | apply Kd.R_drew)); exact HO238.out) hb); have n3_ := Aside0.mk (below_step (by repeat (first | (with_reducible first | exact HB.out | apply below_alloc | apply pw_below_drewN | apply below_drew1) | exact HB.out)) hb); have n4_ := Aside0.mk (hbox); have n5_ := Aside0.mk ((by rw [hg]; exact (below_size (by repeat (first | (with_reducible first | exact HB.out | apply below_alloc | apply pw_below_drewN | apply below_drew1) | exact HB.out))) : w.heap.size ≤ gb244)); have n6_ := Aside0.mk ((by rw [hg]; exact (below_size (by repeat (first | (with_reducible first | exact HB.out | apply below_alloc | apply pw_below_drewN | apply below_drew1) | exact HB.out))) : w.heap.size ≤ gb244)); clear HO_5; clear HO231; clear HO238; clear HB; have HO_5 := n0_; have HO231 := n1_; have HO238 := n2_; have HB := n3_; have BK244 := n4_; have GW244 := n5_; have GE244 := n6_; clear n0_ n1_ n2_ n3_ n4_ n5_ n6_; clear hb hbox hg; have hcz34_0 : w33.cell? ⟨gb244, 0, none⟩ = some (.string (⟨#[]⟩ : ByteArray)) := (blk_cell BK244.out 0).trans rfl; have hcz34_1 : w33.cell? ⟨gb244, 1, none⟩ = some (.bool false) := (blk_cell BK244.out 1).trans rfl; have hcz34_2 : w33.cell? ⟨gb244, 2, none⟩ = some (.int .i64 0) := (blk_cell BK244.out 2).trans rfl; have hcz34_3 : w33.cell? ⟨gb244, 3, none⟩ = some (.int .i64 0) := (blk_cell BK244.out 3).trans rfl; have hcz34_4 : w33.cell? ⟨gb244, 4, none⟩ = some (.int .i64 0) := (blk_cell BK244.out 4).trans rfl; have hcz34_5 : w33.cell? ⟨gb244, 5, none⟩ = some (.int .i64 0) := (blk_cell BK244.out 5).trans rfl; have hcz34_6 : w33.cell? ⟨gb244, 6, none⟩ = some (.slice none 0 0) := (blk_cell BK244.out 6).trans rfl; have hcz34_7 : w33.cell? ⟨gb244, 7, none⟩ = some (.int .i64 0) := (blk_cell BK244.out 7).trans rfl; have hcz34_8 : w33.cell? ⟨gb244, 8, none⟩ = some (.int .i64 0) := (blk_cell BK244.out 8).trans rfl; have hcz34_9 : w33.cell? ⟨gb244, 9, none⟩ = some (.int .i64 0) := (blk_cell BK244.out 9).trans rfl; have hcz34_10 : w33.cell? ⟨gb244, 10, none⟩ = some (.int .i64 0) := (blk_cell BK244.out 10).trans rfl; have hcz34_11 : w33.cell? ⟨gb244, 11, none⟩ = some (.slice none 0 0) := (blk_cell BK244.out 11).trans rfl; have hcz34_12 : w33.cell? ⟨gb244, 12, none⟩ = some (.int .i64 0) := (blk_cell BK244.out 12).trans rfl; have hcz34_13 : w33.cell? ⟨gb244, 13, none⟩ = some (.int .i64 0) := (blk_cell BK244.out 13).trans rfl; have hcz34_14 : w33.cell? ⟨gb244, 14, none⟩ = some (.int .i64 0) := (blk_cell BK244.out 14).trans rfl; have hcz34_15 : w33.cell? ⟨gb244, 15, none⟩ = some (.int .i64 0) := (blk_cell BK244.out 15).trans rfl; have hfz34_0 := blk_frozen BK244.out 0; have hfz34_1 := blk_frozen BK244.out 1; have hfz34_2 := blk_frozen BK244.out 2; have hfz34_3 := blk_frozen BK244.out 3; have hfz34_4 := blk_frozen BK244.out 4; have hfz34_5 := blk_frozen BK244.out 5; have hfz34_6 := blk_frozen BK244.out 6; have hfz34_7 := blk_frozen BK244.out 7; have hfz34_8 := blk_frozen BK244.out 8; have hfz34_9 := blk_frozen BK244.out 9; have hfz34_10 := blk_frozen BK244.out 10; have hfz34_11 := blk_frozen BK244.out 11; have hfz34_12 := blk_frozen BK244.out 12; have hfz34_13 := blk_frozen BK244.out 13; have hfz34_14 := blk_frozen BK244.out 14; have hfz34_15 := blk_frozen BK244.out 15; obtain ⟨Ao35, co35, eo35⟩ := Kd.R_slice HO231.out; subst eo35; obtain ⟨Ao36, co36, eo36⟩ := Kd.R_slice HO238.out; subst eo36))
                              have n0_ : Aside0 (Kd.N k32 32 ((((((((((((((((w33.setCell ⟨gb244, 0, none⟩ (.string t223)).setCell ⟨gb244, 1, none⟩ (.bool true)).setCell ⟨gb244, 2, none⟩ (.int .i64 t225)).setCell ⟨gb244, 3, none⟩ (.int .i64 t226)).setCell ⟨gb244, 4, none⟩ (.int .i64 t227)).setCell ⟨gb244, 5, none⟩ (.int .i64 t228)).setCell ⟨gb244, 6, none⟩ (.slice Ao35 t229.length co35)).setCell ⟨gb244, 7, none⟩ (.int .i64 t232)).setCell ⟨gb244, 8, none⟩ (.int .i64 t233)).setCell ⟨gb244, 9, none⟩ (.int .i64 t234)).setCell ⟨gb244, 10, none⟩ (.int .i64 t235)).setCell ⟨gb244, 11, none⟩ (.slice Ao36 t236.length co36)).setCell ⟨gb244, 12, none⟩ (.int .i64 t239)).setCell ⟨gb244, 13, none⟩ (.int .i64 t240)).setCell ⟨gb244, 14, none⟩ (.int .i64 t241)).setCell ⟨gb244, 15, none⟩ (.int .i64 t242)) w.heap.size (fun k_ => some k_ ≠ (.slice Ao35 t229.length co35 : Value).ownBlock ∧ some k_ ≠ (.slice Ao36 t236.length co36 : Value).ownBlock ∧ k_ ≠ gb244) (.slice (some ad221) t217.length co10) t217) := ⟨by (with_reducible repeat (first | apply Kd.N_alloc | apply Kd.N_drewN | apply Kd.N_drew)); exact Kd.N_mono (Kd.N_far (p := ⟨gb244, 15, none⟩) (Kd.N_far (p := ⟨gb244, 14, none⟩) (Kd.N_far (p := ⟨gb244, 13, none⟩) (Kd.N_far (p := ⟨gb244, 12, none⟩) (Kd.N_far (p := ⟨gb244, 11, none⟩) (Kd.N_far (p := ⟨gb244, 10, none⟩) (Kd.N_far (p := ⟨gb244, 9, none⟩) (Kd.N_far (p := ⟨gb244, 8, none⟩) (Kd.N_far (p := ⟨gb244, 7, none⟩) (Kd.N_far (p := ⟨gb244, 6, none⟩) (Kd.N_far (p := ⟨gb244, 5, none⟩) (Kd.N_far (p := ⟨gb244, 4, none⟩) (Kd.N_far (p := ⟨gb244, 3, none⟩) (Kd.N_far (p := ⟨gb244, 2, none⟩) (Kd.N_far (p := ⟨gb244, 1, none⟩) (Kd.N_far (p := ⟨gb244, 0, none⟩) (Kd.N_mono HO_5.out (fun k_ hk => (⟨hk, hk.2⟩ : _ ∧ k_ ≠ gb244))) (fun _ hk => hk.2) (.string t223)) (fun _ hk => hk.2) (.bool true)) (fun _ hk => hk.2) (.int .i64 t225)) (fun _ hk => hk.2) (.int .i64 t226)) (fun _ hk => hk.2) (.int .i64 t227)) (fun _ hk => hk.2) (.int .i64 t228)) (fun _ hk => hk.2) (.slice Ao35 t229.length co35)) (fun _ hk => hk.2) (.int .i64 t232)) (fun _ hk => hk.2) (.int .i64 t233)) (fun _ hk => hk.2) (.int .i64 t234)) (fun _ hk => hk.2) (.int .i64 t235)) (fun _ hk => hk.2) (.slice Ao36 t236.length co36)) (fun _ hk => hk.2) (.int .i64 t239)) (fun _ hk => hk.2) (.int .i64 t240)) (fun _ hk => hk.2) (.int .i64 t241)) (fun _ hk => hk.2) (.int .i64 t242)) (fun _ hk => ⟨hk.1.1.1.2, ⟨hk.1.1.2, hk.1.2⟩⟩)⟩
                              have n1_ : Aside0 (Kd.R k83 83 ((((((((((((((((w33.setCell ⟨gb244, 0, none⟩ (.string t223)).setCell ⟨gb244, 1, none⟩ (.bool true)).setCell ⟨gb244, 2, none⟩ (.int .i64 t225)).setCell ⟨gb244, 3, none⟩ (.int .i64 t226)).setCell ⟨gb244, 4, none⟩ (.int .i64 t227)).setCell ⟨gb244, 5, none⟩ (.int .i64 t228)).setCell ⟨gb244, 6, none⟩ (.slice Ao35 t229.length co35)).setCell ⟨gb244, 7, none⟩ (.int .i64 t232)).setCell ⟨gb244, 8, none⟩ (.int .i64 t233)).setCell ⟨gb244, 9, none⟩ (.int .i64 t234)).setCell ⟨gb244, 10, none⟩ (.int .i64 t235)).setCell ⟨gb244, 11, none⟩ (.slice Ao36 t236.length co36)).setCell ⟨gb244, 12, none⟩ (.int .i64 t239)).setCell ⟨gb244, 13, none⟩ (.int .i64 t240)).setCell ⟨gb244, 14, none⟩ (.int .i64 t241)).setCell ⟨gb244, 15, none⟩ (.int .i64 t242)) w.heap.size (fun _ => True) (.slice Ao35 t229.length co35) t229) := ⟨by (with_reducible repeat (first | apply Kd.R_alloc | apply Kd.R_drewN | apply Kd.R_drew)); exact Kd.R_mono (Kd.R_far (p := ⟨gb244, 15, none⟩) (Kd.R_far (p := ⟨gb244, 14, none⟩) (Kd.R_far (p := ⟨gb244, 13, none⟩) (Kd.R_far (p := ⟨gb244, 12, none⟩) (Kd.R_far (p := ⟨gb244, 11, none⟩) (Kd.R_far (p := ⟨gb244, 10, none⟩) (Kd.R_far (p := ⟨gb244, 9, none⟩) (Kd.R_far (p := ⟨gb244, 8, none⟩) (Kd.R_far (p := ⟨gb244, 7, none⟩) (Kd.R_far (p := ⟨gb244, 6, none⟩) (Kd.R_far (p := ⟨gb244, 5, none⟩) (Kd.R_far (p := ⟨gb244, 4, none⟩) (Kd.R_far (p := ⟨gb244, 3, none⟩) (Kd.R_far (p := ⟨gb244, 2, none⟩) (Kd.R_far (p := ⟨gb244, 1, none⟩) (Kd.R_far (p := ⟨gb244, 0, none⟩) (Kd.R_types HO231.out BK244.out (by decide)) (fun _ hk => hk.2) (.string t223)) (fun _ hk => hk.2) (.bool true)) (fun _ hk => hk.2) (.int .i64 t225)) (fun _ hk => hk.2) (.int .i64 t226)) (fun _ hk => hk.2) (.int .i64 t227)) (fun _ hk => hk.2) (.int .i64 t228)) (fun _ hk => hk.2) (.slice Ao35 t229.length co35)) (fun _ hk => hk.2) (.int .i64 t232)) (fun _ hk => hk.2) (.int .i64 t233)) (fun _ hk => hk.2) (.int .i64 t234)) (fun _ hk => hk.2) (.int .i64 t235)) (fun _ hk => hk.2) (.slice Ao36 t236.length co36)) (fun _ hk => hk.2) (.int .i64 t239)) (fun _ hk => hk.2) (.int .i64 t240)) (fun _ hk => hk.2) (.int .i64 t241)) (fun _ hk => hk.2) (.int .i64 t242)) (fun _ hk => trivial)⟩
                              have n2_ : Aside0 (Kd.R (Kd.int .i64) 2 ((((((((((((((((w33.setCell ⟨gb244, 0, none⟩ (.string t223)).setCell ⟨gb244, 1, none⟩ (.bool true)).setCell ⟨gb244, 2, none⟩ (.int .i64 t225)).setCell ⟨gb244, 3, none⟩ (.int .i64 t226)).setCell ⟨gb244, 4, none⟩ (.int .i64 t227)).setCell ⟨gb244, 5, none⟩ (.int .i64 t228)).setCell ⟨gb244, 6, none⟩ (.slice Ao35 t229.length co35)).setCell ⟨gb244, 7, none⟩ (.int .i64 t232)).setCell ⟨gb244, 8, none⟩ (.int .i64 t233)).setCell ⟨gb244, 9, none⟩ (.int .i64 t234)).setCell ⟨gb244, 10, none⟩ (.int .i64 t235)).setCell ⟨gb244, 11, none⟩ (.slice Ao36 t236.length co36)).setCell ⟨gb244, 12, none⟩ (.int .i64 t239)).setCell ⟨gb244, 13, none⟩ (.int .i64 t240)).setCell ⟨gb244, 14, none⟩ (.int .i64 t241)).setCell ⟨gb244, 15, none⟩ (.int .i64 t242)) w.heap.size (fun _ => True) (.slice Ao36 t236.length co36) t236) := ⟨by (with_reducible repeat (first | apply Kd.R_alloc | apply Kd.R_drewN | apply Kd.R_drew)); exact Kd.R_mono (Kd.R_far (p := ⟨gb244, 15, none⟩) (Kd.R_far (p := ⟨gb244, 14, none⟩) (Kd.R_far (p := ⟨gb244, 13, none⟩) (Kd.R_far (p := ⟨gb244, 12, none⟩) (Kd.R_far (p := ⟨gb244, 11, none⟩) (Kd.R_far (p := ⟨gb244, 10, none⟩) (Kd.R_far (p := ⟨gb244, 9, none⟩) (Kd.R_far (p := ⟨gb244, 8, none⟩) (Kd.R_far (p := ⟨gb244, 7, none⟩) (Kd.R_far (p := ⟨gb244, 6, none⟩) (Kd.R_far (p := ⟨gb244, 5, none⟩) (Kd.R_far (p := ⟨gb244, 4, none⟩) (Kd.R_far (p := ⟨gb244, 3, none⟩) (Kd.R_far (p := ⟨gb244, 2, none⟩) (Kd.R_far (p := ⟨gb244, 1, none⟩) (Kd.R_far (p := ⟨gb244, 0, none⟩) (Kd.R_types HO238.out BK244.out (by decide)) (fun _ hk => hk.2) (.string t223)) (fun _ hk => hk.2) (.bool true)) (fun _ hk => hk.2) (.int .i64 t225)) (fun _ hk => hk.2) (.int .i64 t226)) (fun _ hk => hk.2) (.int .i64 t227)) (fun _ hk => hk.2) (.int .i64 t228)) (fun _ hk => hk.2) (.slice Ao35 t229.length co35)) (fun _ hk => hk.2) (.int .i64 t232)) (fun _ hk => hk.2) (.int .i64 t233)) (fun _ hk => hk.2) (.int .i64 t234)) (fun _ hk => hk.2) (.int .i64 t235)) (fun _ hk => hk.2) (.slice Ao36 t236.length co36)) (fun _ hk => hk.2) (.int .i64 t239)) (fun _ hk => hk.2) (.int .i64 t240)) (fun _ hk => hk.2) (.int .i64 t241)) (fun _ hk => hk.2) (.int .i64 t242)) (fun _ hk => trivial)⟩
                              have n3_ : Aside0 (((((((((((((((((w33.setCell ⟨gb244, 0, none⟩ (.string t223)).setCell ⟨gb244, 1, none⟩ (.bool true)).setCell ⟨gb244, 2, none⟩ (.int .i64 t225)).setCell ⟨gb244, 3, none⟩ (.int .i64 t226)).setCell ⟨gb244, 4, none⟩ (.int .i64 t227)).setCell ⟨gb244, 5, none⟩ (.int .i64 t228)).setCell ⟨gb244, 6, none⟩ (.slice Ao35 t229.length co35)).setCell ⟨gb244, 7, none⟩ (.int .i64 t232)).setCell ⟨gb244, 8, none⟩ (.int .i64 t233)).setCell ⟨gb244, 9, none⟩ (.int .i64 t234)).setCell ⟨gb244, 10, none⟩ (.int .i64 t235)).setCell ⟨gb244, 11, none⟩ (.slice Ao36 t236.length co36)).setCell ⟨gb244, 12, none⟩ (.int .i64 t239)).setCell ⟨gb244, 13, none⟩ (.int .i64 t240)).setCell ⟨gb244, 14, none⟩ (.int .i64 t241)).setCell ⟨gb244, 15, none⟩ (.int .i64 t242)).heap[gb244]? = some (.cells #[.string t223, .bool true, .int .i64 t225, .int .i64 t226, .int .i64 t227, .int .i64 t228, .slice Ao35 t229.length co35, .int .i64 t232, .int .i64 t233, .int .i64 t234, .int .i64 t235, .slice Ao36 t236.length co36, .int .i64 t239, .int .i64 t240, .int .i64 t241, .int .i64 t242] 32 (0, 0))) := ⟨by (with_reducible repeat (first | refine blk_drewN ?_ _ | refine blk_drew ?_ | refine blk_alloc ?_ _)); refine blk_put (cs := #[.string t223, .bool true, .int .i64 t225, .int .i64 t226, .int .i64 t227, .int .i64 t228, .slice Ao35 t229.length co35, .int .i64 t232, .int .i64 t233, .int .i64 t234, .int .i64 t235, .slice Ao36 t236.length co36, .int .i64 t239, .int .i64 t240, .int .i64 t241, .int .i64 0]) ?_ 15 _ rfl; (with_reducible repeat (first | refine blk_drewN ?_ _ | refine blk_drew ?_ | refine blk_alloc ?_ _)); refine blk_put (cs := #[.string t223, .bool true, .int .i64 t225, .int .i64 t226, .int .i64 t227, .int .i64 t228, .slice Ao35 t229.length co35, .int .i64 t232, .int .i64 t233, .int .i64 t234, .int .i64 t235, .slice Ao36 t236.length co36, .int .i64 t239, .int .i64 t240, .int .i64 0, .int .i64 0]) ?_ 14 _ rfl; (with_reducible repeat (first | refine blk_drewN ?_ _ | refine blk_drew ?_ | refine blk_alloc ?_ _)); refine blk_put (cs := #[.string t223, .bool true, .int .i64 t225, .int .i64 t226, .int .i64 t227, .int .i64 t228, .slice Ao35 t229.length co35, .int .i64 t232, .int .i64 t233, .int .i64 t234, .int .i64 t235, .slice Ao36 t236.length co36, .int .i64 t239, .int .i64 0, .int .i64 0, .int .i64 0]) ?_ 13 _ rfl; (with_reducible repeat (first | refine blk_drewN ?_ _ | refine blk_drew ?_ | refine blk_alloc ?_ _)); refine blk_put (cs := #[.string t223, .bool true, .int .i64 t225, .int .i64 t226, .int .i64 t227, .int .i64 t228, .slice Ao35 t229.length co35, .int .i64 t232, .int .i64 t233, .int .i64 t234, .int .i64 t235, .slice Ao36 t236.length co36, .int .i64 0, .int .i64 0, .int .i64 0, .int .i64 0]) ?_ 12 _ rfl; (with_reducible repeat (first | refine blk_drewN ?_ _ | refine blk_drew ?_ | refine blk_alloc ?_ _)); refine blk_put (cs := #[.string t223, .bool true, .int .i64 t225, .int .i64 t226, .int .i64 t227, .int .i64 t228, .slice Ao35 t229.length co35, .int .i64 t232, .int .i64 t233, .int .i64 t234, .int .i64 t235, .slice none 0 0, .int .i64 0, .int .i64 0, .int .i64 0, .int .i64 0]) ?_ 11 _ rfl; (with_reducible repeat (first | refine blk_drewN ?_ _ | refine blk_drew ?_ | refine blk_alloc ?_ _)); refine blk_put (cs := #[.string t223, .bool true, .int .i64 t225, .int .i64 t226, .int .i64 t227, .int .i64 t228, .slice Ao35 t229.length co35, .int .i64 t232, .int .i64 t233, .int .i64 t234, .int .i64 0, .slice none 0 0, .int .i64 0, .int .i64 0, .int .i64 0, .int .i64 0]) ?_ 10 _ rfl; (with_reducible repeat (first | refine blk_drewN ?_ _ | refine blk_drew ?_ | refine blk_alloc ?_ _)); refine blk_put (cs := #[.string t223, .bool true, .int .i64 t225, .int .i64 t226, .int .i64 t227, .int .i64 t228, .slice Ao35 t229.length co35, .int .i64 t232, .int .i64 t233, .int .i64 0, .int .i64 0, .slice none 0 0, .int .i64 0, .int .i64 0, .int .i64 0, .int .i64 0]) ?_ 9 _ rfl; (with_reducible repeat (first | refine blk_drewN ?_ _ | refine blk_drew ?_ | refine blk_alloc ?_ _)); refine blk_put (cs := #[.string t223, .bool true, .int .i64 t225, .int .i64 t226, .int .i64 t227, .int .i64 t228, .slice Ao35 t229.length co35, .int .i64 t232, .int .i64 0, .int .i64 0, .int .i64 0, .slice none 0 0, .int .i64 0, .int .i64 0, .int .i64 0, .int .i64 0]) ?_ 8 _ rfl; (with_reducible repeat (first | refine blk_drewN ?_ _ | refine blk_drew ?_ | refine blk_alloc ?_ _)); refine blk_put (cs := #[.string t223, .bool true, .int .i64 t225, .int .i64 t226, .int .i64 t227, .int .i64 t228, .slice Ao35 t229.length co35, .int .i64 0, .int .i64 0, .int .i64 0, .int .i64 0, .slice none 0 0, .int .i64 0, .int .i64 0, .int .i64 0, .int .i64 0]) ?_ 7 _ rfl; (with_reducible repeat (first | refine blk_drewN ?_ _ | refine blk_drew ?_ | refine blk_alloc ?_ _)); refine blk_put (cs := #[.string t223, .bool true, .int .i64 t225, .int .i64 t226, .int .i64 t227, .int .i64 t228, .slice none 0 0, .int .i64 0, .int .i64 0, .int .i64 0, .int .i64 0, .slice none 0 0, .int .i64 0, .int .i64 0, .int .i64 0, .int .i64 0]) ?_ 6 _ rfl; (with_reducible repeat (first | refine blk_drewN ?_ _ | refine blk_drew ?_ | refine blk_alloc ?_ _)); refine blk_put (cs := #[.string t223, .bool true, .int .i64 t225, .int .i64 t226, .int .i64 t227, .int .i64 0, .slice none 0 0, .int .i64 0, .int .i64 0, .int .i64 0, .int .i64 0, .slice none 0 0, .int .i64 0, .int .i64 0, .int .i64 0, .int .i64 0]) ?_ 5 _ rfl; (with_reducible repeat (first | refine blk_drewN ?_ _ | refine blk_drew ?_ | refine blk_alloc ?_ _)); refine blk_put (cs := #[.string t223, .bool true, .int .i64 t225, .int .i64 t226, .int .i64 0, .int .i64 0, .slice none 0 0, .int .i64 0, .int .i64 0, .int .i64 0, .int .i64 0, .slice none 0 0, .int .i64 0, .int .i64 0, .int .i64 0, .int .i64 0]) ?_ 4 _ rfl; (with_reducible repeat (first | refine blk_drewN ?_ _ | refine blk_drew ?_ | refine blk_alloc ?_ _)); refine blk_put (cs := #[.string t223, .bool true, .int .i64 t225, .int .i64 0, .int .i64 0, .int .i64 0, .slice none 0 0, .int .i64 0, .int .i64 0, .int .i64 0, .int .i64 0, .slice none 0 0, .int .i64 0, .int .i64 0, .int .i64 0, .int .i64 0]) ?_ 3 _ rfl; (with_reducible repeat (first | refine blk_drewN ?_ _ | refine blk_drew ?_ | refine blk_alloc ?_ _)); refine blk_put (cs := #[.string t223, .bool true, .int .i64 0, .int .i64 0, .int .i64 0, .int .i64 0, .slice none 0 0, .int .i64 0, .int .i64 0, .int .i64 0, .int .i64 0, .slice none 0 0, .int .i64 0, .int .i64 0, .int .i64 0, .int .i64 0]) ?_ 2 _ rfl; (with_reducible repeat (first | refine blk_drewN ?_ _ | refine blk_drew ?_ | refine blk_alloc ?_ _)); refine blk_put (cs := #[.string t223, .bool false, .int .i64 0, .int .i64 0, .int .i64 0, .int .i64 0, .slice none 0 0, .int .i64 0, .int .i64 0, .int .i64 0, .int .i64 0, .slice none 0 0, .int .i64 0, .int .i64 0, .int .i64 0, .int .i64 0]) ?_ 1 _ rfl; (with_reducible repeat (first | refine blk_drewN ?_ _ | refine blk_drew ?_ | refine blk_alloc ?_ _)); refine blk_put (cs := #[.string (⟨#[]⟩ : ByteArray), .bool false, .int .i64 0, .int .i64 0, .int .i64 0, .int .i64 0, .slice none 0 0, .int .i64 0, .int .i64 0, .int .i64 0, .int .i64 0, .slice none 0 0, .int .i64 0, .int .i64 0, .int .i64 0, .int .i64 0]) ?_ 0 _ rfl; (with_reducible repeat (first | refine blk_drewN ?_ _ | refine blk_drew ?_ | refine blk_alloc ?_ _)); exact BK244.out⟩
                              have n4_ : Aside0 (Below w.heap.size w ((((((((((((((((w33.setCell ⟨gb244, 0, none⟩ (.string t223)).setCell ⟨gb244, 1, none⟩ (.bool true)).setCell ⟨gb244, 2, none⟩ (.int .i64 t225)).setCell ⟨gb244, 3, none⟩ (.int .i64 t226)).setCell ⟨gb244, 4, none⟩ (.int .i64 t227)).setCell ⟨gb244, 5, none⟩ (.int .i64 t228)).setCell ⟨gb244, 6, none⟩ (.slice Ao35 t229.length co35)).setCell ⟨gb244, 7, none⟩ (.int .i64 t232)).setCell ⟨gb244, 8, none⟩ (.int .i64 t233)).setCell ⟨gb244, 9, none⟩ (.int .i64 t234)).setCell ⟨gb244, 10, none⟩ (.int .i64 t235)).setCell ⟨gb244, 11, none⟩ (.slice Ao36 t236.length co36)).setCell ⟨gb244, 12, none⟩ (.int .i64 t239)).setCell ⟨gb244, 13, none⟩ (.int .i64 t240)).setCell ⟨gb244, 14, none⟩ (.int .i64 t241)).setCell ⟨gb244, 15, none⟩ (.int .i64 t242))) := ⟨by repeat (first | (with_reducible first | exact HB.out | apply below_alloc | apply pw_below_drewN | apply below_drew1 | refine below_set ?_ GE244.out) | exact HB.out)⟩
                              (try clear HO_5)
                              (try clear HO231)
                              (try clear HO238)
                              (try clear BK244)
                              (try clear HB)
                              generalize ((((((((((((((((w33.setCell ⟨gb244, 0, none⟩ (.string t223)).setCell ⟨gb244, 1, none⟩ (.bool true)).setCell ⟨gb244, 2, none⟩ (.int .i64 t225)).setCell ⟨gb244, 3, none⟩ (.int .i64 t226)).setCell ⟨gb244, 4, none⟩ (.int .i64 t227)).setCell ⟨gb244, 5, none⟩ (.int .i64 t228)).setCell ⟨gb244, 6, none⟩ (.slice Ao35 t229.length co35)).setCell ⟨gb244, 7, none⟩ (.int .i64 t232)).setCell ⟨gb244, 8, none⟩ (.int .i64 t233)).setCell ⟨gb244, 9, none⟩ (.int .i64 t234)).setCell ⟨gb244, 10, none⟩ (.int .i64 t235)).setCell ⟨gb244, 11, none⟩ (.slice Ao36 t236.length co36)).setCell ⟨gb244, 12, none⟩ (.int .i64 t239)).setCell ⟨gb244, 13, none⟩ (.int .i64 t240)).setCell ⟨gb244, 14, none⟩ (.int .i64 t241)).setCell ⟨gb244, 15, none⟩ (.int .i64 t242)) = w37 at n0_ n1_ n2_ n3_ n4_ ⊢
                              have HO_5 := n0_
                              have HO231 := n1_
                              have HO238 := n2_
                              have BK244 := n3_
                              have HB := n4_
                              clear n0_ n1_ n2_ n3_ n4_
                              have n0_ := Aside0.mk (Kd.N_drew HO_5.out)
                              have n1_ := Aside0.mk (Kd.R_drew HO231.out)
                              have n2_ := Aside0.mk (Kd.R_drew HO238.out)
                              have n3_ := Aside0.mk (blk_drew BK244.out)
                              have n4_ := Aside0.mk (below_drew1 HB.out)
                              clear HO_5
                              clear HO231
                              clear HO238
                              clear BK244
                              clear HB
                              have HO_5 := n0_
                              have HO231 := n1_
                              have HO238 := n2_
                              have BK244 := n3_
                              have HB := n4_
                              clear n0_ n1_ n2_ n3_ n4_
                              have p245 : 0 ≤ (x6_1 : Int) := of_decide_eq_true (by first | (with_reducible assumption) | assumption)
                              have q245 : x6_1 < (t217.length : Int) := of_decide_eq_true (by first | (with_reducible assumption) | assumption)
                              obtain ⟨ad245, A245_6, c245_6, A245_11, c245_11, e245, hx245_0, hx245_1, hx245_2, hx245_3, hx245_4, hx245_5, hx245_6, hx245_7, hx245_8, hx245_9, hx245_10, hx245_11, hx245_12, hx245_13, hx245_14, hx245_15, hl245_6, hi245_6, hl245_11, hi245_11⟩ := at_T32 (Kd.N_reads' HO_5.out).2.2 x6_1 p245 q245
                              obtain rfl : ad221 = ad245 := (by injection e245)
                              obtain ⟨ce245, hce245, hMe245, hcc245⟩ := Kd.N_get HO_5.out z32 x6_1 p245 (by first | exact q245 | exact of_decide_eq_true (by first | (with_reducible assumption) | assumption) | (have e_ := (Kd.N_reads' HO_5.out).1; omega))
                              obtain ⟨ua245_6, uc245_6, ua245_11, uc245_11, rfl, ul245_6, ge245_6, ul245_11, ge245_11⟩ := k32_openF hMe245
                              have hv245_6 := hcc245 6 _ rfl
                              rw [add_field _ _ 6 (by omega)] at hv245_6
                              replace hv245_6 := Option.some.inj (hv245_6.symm.trans hx245_6)
                              injection hv245_6 with hva_ hvn_ hvc_
                              rw [hva_] at ge245_6
                              rw [hvc_] at ul245_6
                              have HL245_6 := Aside0.mk (show Kd.V k83 83 _ w.heap.size _ _ ((rd_T32 t217 x6_1).f3) from Kd.V_mk ul245_6 ge245_6)
                              clear hva_ hvn_ hvc_ ge245_6 ul245_6
                              have hv245_11 := hcc245 11 _ rfl
                              rw [add_field _ _ 11 (by omega)] at hv245_11
                              replace hv245_11 := Option.some.inj (hv245_11.symm.trans hx245_11)
                              injection hv245_11 with hva_ hvn_ hvc_
                              rw [hva_] at ge245_11
                              rw [hvc_] at ul245_11
                              have HL245_11 := Aside0.mk (show Kd.V (Kd.int .i64) 2 _ w.heap.size _ _ ((rd_T32 t217 x6_1).f5) from Kd.V_mk ul245_11 ge245_11)
                              clear hva_ hvn_ hvc_ ge245_11 ul245_11
                              clear hcc245 hce245
                              have HR245_6 := Aside0.mk hi245_6
                              have HC245_6 := Aside0.mk hl245_6
                              clear hi245_6 hl245_6
                              have HR245_11 := Aside0.mk hi245_11
                              have HC245_11 := Aside0.mk hl245_11
                              clear hi245_11 hl245_11
                              replace p245 := eq_true p245
                              replace q245 := eq_true q245
                              refine start_ (n := 18) (S := fun w' => w'.cell? ⟨gb244, 0, none⟩ = some (.string t223) ∧ w'.cell? ⟨gb244, 1, none⟩ = some (.bool true) ∧ w'.cell? ⟨gb244, 2, none⟩ = some (.int .i64 t225) ∧ w'.cell? ⟨gb244, 3, none⟩ = some (.int .i64 t226) ∧ w'.cell? ⟨gb244, 4, none⟩ = some (.int .i64 t227) ∧ w'.cell? ⟨gb244, 5, none⟩ = some (.int .i64 t228) ∧ w'.cell? ⟨gb244, 6, none⟩ = some (.slice Ao35 t229.length co35) ∧ w'.cell? ⟨gb244, 7, none⟩ = some (.int .i64 t232) ∧ w'.cell? ⟨gb244, 8, none⟩ = some (.int .i64 t233) ∧ w'.cell? ⟨gb244, 9, none⟩ = some (.int .i64 t234) ∧ w'.cell? ⟨gb244, 10, none⟩ = some (.int .i64 t235) ∧ w'.cell? ⟨gb244, 11, none⟩ = some (.slice Ao36 t236.length co36) ∧ w'.cell? ⟨gb244, 12, none⟩ = some (.int .i64 t239) ∧ w'.cell? ⟨gb244, 13, none⟩ = some (.int .i64 t240) ∧ w'.cell? ⟨gb244, 14, none⟩ = some (.int .i64 t241) ∧ w'.cell? ⟨gb244, 15, none⟩ = some (.int .i64 t242) ∧ w'.cell? (ad221.add ((x6_1).toNat * 16)) = some (.string ((rd_T32 t217 x6_1).f0)) ∧ w'.cell? ⟨(ad221.add ((x6_1).toNat * 16)).block, (ad221.add ((x6_1).toNat * 16)).off + 1, none⟩ = some (.bool ((rd_T32 t217 x6_1).f1)) ∧ w'.cell? ⟨(ad221.add ((x6_1).toNat * 16)).block, (ad221.add ((x6_1).toNat * 16)).off + 2, none⟩ = some (.int .i64 ((rd_T32 t217 x6_1).f2.f0)) ∧ w'.cell? ⟨(ad221.add ((x6_1).toNat * 16)).block, (ad221.add ((x6_1).toNat * 16)).off + 3, none⟩ = some (.int .i64 ((rd_T32 t217 x6_1).f2.f1)) ∧ w'.cell? ⟨(ad221.add ((x6_1).toNat * 16)).block, (ad221.add ((x6_1).toNat * 16)).off + 4, none⟩ = some (.int .i64 ((rd_T32 t217 x6_1).f2.f2)) ∧ w'.cell? ⟨(ad221.add ((x6_1).toNat * 16)).block, (ad221.add ((x6_1).toNat * 16)).off + 5, none⟩ = some (.int .i64 ((rd_T32 t217 x6_1).f2.f3)) ∧ w'.cell? ⟨(ad221.add ((x6_1).toNat * 16)).block, (ad221.add ((x6_1).toNat * 16)).off + 6, none⟩ = some (.slice A245_6 ((rd_T32 t217 x6_1).f3).length c245_6) ∧ w'.cell? ⟨(ad221.add ((x6_1).toNat * 16)).block, (ad221.add ((x6_1).toNat * 16)).off + 7, none⟩ = some (.int .i64 ((rd_T32 t217 x6_1).f4.f0)) ∧ w'.cell? ⟨(ad221.add ((x6_1).toNat * 16)).block, (ad221.add ((x6_1).toNat * 16)).off + 8, none⟩ = some (.int .i64 ((rd_T32 t217 x6_1).f4.f1)) ∧ w'.cell? ⟨(ad221.add ((x6_1).toNat * 16)).block, (ad221.add ((x6_1).toNat * 16)).off + 9, none⟩ = some (.int .i64 ((rd_T32 t217 x6_1).f4.f2)) ∧ w'.cell? ⟨(ad221.add ((x6_1).toNat * 16)).block, (ad221.add ((x6_1).toNat * 16)).off + 10, none⟩ = some (.int .i64 ((rd_T32 t217 x6_1).f4.f3)) ∧ w'.cell? ⟨(ad221.add ((x6_1).toNat * 16)).block, (ad221.add ((x6_1).toNat * 16)).off + 11, none⟩ = some (.slice A245_11 ((rd_T32 t217 x6_1).f5).length c245_11) ∧ w'.cell? ⟨(ad221.add ((x6_1).toNat * 16)).block, (ad221.add ((x6_1).toNat * 16)).off + 12, none⟩ = some (.int .i64 ((rd_T32 t217 x6_1).f6.f0)) ∧ w'.cell? ⟨(ad221.add ((x6_1).toNat * 16)).block, (ad221.add ((x6_1).toNat * 16)).off + 13, none⟩ = some (.int .i64 ((rd_T32 t217 x6_1).f6.f1)) ∧ w'.cell? ⟨(ad221.add ((x6_1).toNat * 16)).block, (ad221.add ((x6_1).toNat * 16)).off + 14, none⟩ = some (.int .i64 ((rd_T32 t217 x6_1).f6.f2)) ∧ w'.cell? ⟨(ad221.add ((x6_1).toNat * 16)).block, (ad221.add ((x6_1).toNat * 16)).off + 15, none⟩ = some (.int .i64 ((rd_T32 t217 x6_1).f6.f3))) (ds := []) #[false, false, false, false, false, false, false, false, false, false, false, false, false, false, false, false, false, false] (by kernel_rfl) rfl rfl ⟨(blk_cell BK244.out 0).trans rfl, (blk_cell BK244.out 1).trans rfl, (blk_cell BK244.out 2).trans rfl, (blk_cell BK244.out 3).trans rfl, (blk_cell BK244.out 4).trans rfl, (blk_cell BK244.out 5).trans rfl, (blk_cell BK244.out 6).trans rfl, (blk_cell BK244.out 7).trans rfl, (blk_cell BK244.out 8).trans rfl, (blk_cell BK244.out 9).trans rfl, (blk_cell BK244.out 10).trans rfl, (blk_cell BK244.out 11).trans rfl, (blk_cell BK244.out 12).trans rfl, (blk_cell BK244.out 13).trans rfl, (blk_cell BK244.out 14).trans rfl, (blk_cell BK244.out 15).trans rfl, hx245_0, hx245_1, hx245_2, hx245_3, hx245_4, hx245_5, hx245_6, hx245_7, hx245_8, hx245_9, hx245_10, hx245_11, hx245_12, hx245_13, hx245_14, hx245_15⟩ (fun hHeld => ?_); refine with_tabW donjonlaw11_TreeRises.tab13 donjonlaw11_TreeRises.bits13 (fun HT_ HW_ => ?_)
                              generalize w37.drew = w38 at HO_5 HO231 HO238 BK244 HB HL245_11 HL245_6 HR245_11 HR245_6 hx245_0 hx245_1 hx245_10 hx245_11 hx245_12 hx245_13 hx245_14 hx245_15 hx245_2 hx245_3 hx245_4 hx245_5 hx245_6 hx245_7 hx245_8 hx245_9 hHeld ⊢
                              refine pure_ (i := 0) (N := some 40) (v := ?_) (a' := ?_) #[true, false, false, false, false, false, false, false, false, false, false, false, false, false, false, false, false, false] rfl rfl (any_of HT_.out (by kernel_rfl)) (fun _ _ _ h => h) (Or.inl ⟨by rfl, ?_⟩) ?_ ?_
                              rotate_left
                              · intro w'
                                go_simp
                                with_reducible rfl
                              rotate_left
                              · simp only [Act.put, List.setIfInBounds_toArray, List.set_cons_zero, List.set_cons_succ, i64_w, i32_w]
                                rfl
                              refine pure_ (i := 1) (N := some 41) (v := ?_) (a' := ?_) #[true, true, false, false, false, false, false, false, false, false, false, false, false, false, false, false, false, false] rfl rfl (any_of HT_.out (by kernel_rfl)) (fun _ _ _ h => h) (Or.inl ⟨by rfl, ?_⟩) ?_ ?_
                              rotate_left
                              · intro w'
                                go_simp
                                with_reducible rfl
                              rotate_left
                              · simp only [Act.put, List.setIfInBounds_toArray, List.set_cons_zero, List.set_cons_succ, i64_w, i32_w]
                                rfl
                              refine pure_ (i := 2) (N := some 42) (v := ?_) (a' := ?_) #[true, true, true, false, false, false, false, false, false, false, false, false, false, false, false, false, false, false] rfl rfl (any_of HT_.out (by kernel_rfl)) (fun _ _ _ h => h) (Or.inl ⟨by rfl, ?_⟩) ?_ ?_
                              rotate_left
                              · intro w'
                                go_simp
                                with_reducible rfl
                              rotate_left
                              · simp only [Act.put, List.setIfInBounds_toArray, List.set_cons_zero, List.set_cons_succ, i64_w, i32_w]
                                rfl
                              refine pure_ (i := 3) (N := some 43) (v := ?_) (a' := ?_) #[true, true, true, true, false, false, false, false, false, false, false, false, false, false, false, false, false, false] rfl rfl (any_of HT_.out (by kernel_rfl)) (fun _ _ _ h => h) (Or.inl ⟨by rfl, ?_⟩) ?_ ?_
                              rotate_left
                              · intro w'
                                go_simp
                                with_reducible rfl
                              rotate_left
                              · simp only [Act.put, List.setIfInBounds_toArray, List.set_cons_zero, List.set_cons_succ, i64_w, i32_w]
                                rfl
                              refine take_ (i := 4) (N := some 44) (v := ?_) (a' := ?_) #[true, true, true, true, true, false, false, false, false, false, false, false, false, false, false, false, false, false] rfl rfl (take_ofW HT_.out HW_.out (by kernel_rfl)) (fun _ _ _ h => h) (Or.inl ⟨by rfl, ?_⟩) hHeld ?_ ?_
                              rotate_left
                              · rintro w' ⟨s0, s1, s2, s3, s4, s5, s6, s7, s8, s9, s10, s11, s12, s13, s14, s15, s16, s17, s18, s19, s20, s21, s22, s23, s24, s25, s26, s27, s28, s29, s30, s31⟩
                                go_simp
                                with_reducible rfl
                              rotate_left
                              · simp only [Act.put, List.setIfInBounds_toArray, List.set_cons_zero, List.set_cons_succ, i64_w, i32_w]
                                rfl
                              refine pure_ (i := 5) (N := some 45) (v := ?_) (a' := ?_) #[true, true, true, true, true, true, false, false, false, false, false, false, false, false, false, false, false, false] rfl rfl (any_of HT_.out (by kernel_rfl)) (fun _ _ _ h => h) (Or.inl ⟨by rfl, ?_⟩) ?_ ?_
                              rotate_left
                              · intro w'
                                go_simp
                                with_reducible rfl
                              rotate_left
                              · simp only [Act.put, List.setIfInBounds_toArray, List.set_cons_zero, List.set_cons_succ, i64_w, i32_w]
                                rfl
                              refine pure_ (i := 6) (N := some 46) (v := ?_) (a' := ?_) #[true, true, true, true, true, true, true, false, false, false, false, false, false, false, false, false, false, false] rfl rfl (any_of HT_.out (by kernel_rfl)) (fun _ _ _ h => h) (Or.inl ⟨by rfl, ?_⟩) ?_ ?_
                              rotate_left
                              · intro w'
                                go_simp
                                with_reducible rfl
                              rotate_left
                              · simp only [Act.put, List.setIfInBounds_toArray, List.set_cons_zero, List.set_cons_succ, i64_w, i32_w]
                                rfl
                              refine pure_ (i := 7) (N := some 47) (v := ?_) (a' := ?_) #[true, true, true, true, true, true, true, true, false, false, false, false, false, false, false, false, false, false] rfl rfl (any_of HT_.out (by kernel_rfl)) (fun _ _ _ h => h) (Or.inl ⟨by rfl, ?_⟩) ?_ ?_
                              rotate_left
                              · intro w'
                                go_simp
                                with_reducible rfl
                              rotate_left
                              · simp only [Act.put, List.setIfInBounds_toArray, List.set_cons_zero, List.set_cons_succ, i64_w, i32_w]
                                rfl
                              refine pure_ (i := 8) (N := some 48) (v := ?_) (a' := ?_) #[true, true, true, true, true, true, true, true, true, false, false, false, false, false, false, false, false, false] rfl rfl (any_of HT_.out (by kernel_rfl)) (fun _ _ _ h => h) (Or.inl ⟨by rfl, ?_⟩) ?_ ?_
                              rotate_left
                              · intro w'
                                go_simp
                                with_reducible rfl
                              rotate_left
                              · simp only [Act.put, List.setIfInBounds_toArray, List.set_cons_zero, List.set_cons_succ, i64_w, i32_w]
                                rfl
                              refine pure_ (i := 9) (N := some 49) (v := ?_) (a' := ?_) #[true, true, true, true, true, true, true, true, true, true, false, false, false, false, false, false, false, false] rfl rfl (any_of HT_.out (by kernel_rfl)) (fun _ _ _ h => h) (Or.inl ⟨by rfl, ?_⟩) ?_ ?_
                              rotate_left
                              · intro w'
                                go_simp
                                with_reducible rfl
                              rotate_left
                              · simp only [Act.put, List.setIfInBounds_toArray, List.set_cons_zero, List.set_cons_succ, i64_w, i32_w]
                                rfl
                              refine pure_ (i := 10) (N := some 50) (v := ?_) (a' := ?_) #[true, true, true, true, true, true, true, true, true, true, true, false, false, false, false, false, false, false] rfl rfl (any_of HT_.out (by kernel_rfl)) (fun _ _ _ h => h) (Or.inl ⟨by rfl, ?_⟩) ?_ ?_
                              rotate_left
                              · intro w'
                                go_simp
                                with_reducible rfl
                              rotate_left
                              · simp only [Act.put, List.setIfInBounds_toArray, List.set_cons_zero, List.set_cons_succ, i64_w, i32_w]
                                rfl
                              refine pure_ (i := 11) (N := some 51) (v := ?_) (a' := ?_) #[true, true, true, true, true, true, true, true, true, true, true, true, false, false, false, false, false, false] rfl rfl (any_of HT_.out (by kernel_rfl)) (fun _ _ _ h => h) (Or.inl ⟨by rfl, ?_⟩) ?_ ?_
                              rotate_left
                              · intro w'
                                go_simp
                                with_reducible rfl
                              rotate_left
                              · simp only [Act.put, List.setIfInBounds_toArray, List.set_cons_zero, List.set_cons_succ, i64_w, i32_w]
                                rfl
                              refine pure_ (i := 13) (N := some 53) (v := ?_) (a' := ?_) #[true, true, true, true, true, true, true, true, true, true, true, true, false, true, false, false, false, false] rfl rfl (any_of HT_.out (by kernel_rfl)) (fun _ _ _ h => h) (Or.inl ⟨by rfl, ?_⟩) ?_ ?_
                              rotate_left
                              · intro w'
                                go_simp
                                with_reducible rfl
                              rotate_left
                              · simp only [Act.put, List.setIfInBounds_toArray, List.set_cons_zero, List.set_cons_succ, i64_w, i32_w]
                                rfl
                              refine take_ (i := 12) (N := some 52) (v := ?_) (a' := ?_) #[true, true, true, true, true, true, true, true, true, true, true, true, true, true, false, false, false, false] rfl rfl (take_ofW HT_.out HW_.out (by kernel_rfl)) (fun _ _ _ h => h) (Or.inl ⟨by rfl, ?_⟩) hHeld ?_ ?_
                              rotate_left
                              · rintro w' ⟨s0, s1, s2, s3, s4, s5, s6, s7, s8, s9, s10, s11, s12, s13, s14, s15, s16, s17, s18, s19, s20, s21, s22, s23, s24, s25, s26, s27, s28, s29, s30, s31⟩
                                go_simp
                                with_reducible rfl
                              rotate_left
                              · simp only [Act.put, List.setIfInBounds_toArray, List.set_cons_zero, List.set_cons_succ, i64_w, i32_w]
                                rfl
                              refine take_ (i := 14) (N := some 54) (v := ?_) (a' := ?_) #[true, true, true, true, true, true, true, true, true, true, true, true, true, true, true, false, false, false] rfl rfl (take_ofW HT_.out HW_.out (by kernel_rfl)) (fun _ _ _ h => h) (Or.inl ⟨by rfl, ?_⟩) hHeld ?_ ?_
                              rotate_left
                              · rintro w' ⟨s0, s1, s2, s3, s4, s5, s6, s7, s8, s9, s10, s11, s12, s13, s14, s15, s16, s17, s18, s19, s20, s21, s22, s23, s24, s25, s26, s27, s28, s29, s30, s31⟩
                                go_simp
                                with_reducible rfl
                              rotate_left
                              · simp only [Act.put, List.setIfInBounds_toArray, List.set_cons_zero, List.set_cons_succ, i64_w, i32_w]
                                rfl
                              refine one_ (i := 15) (N := some 55) #[true, true, true, true, true, true, true, true, true, true, true, true, true, true, true, true, false, false] rfl rfl (one_of HT_.out (by kernel_rfl)) (by decide) (fun K hK => ?_)
                              refine goes_ Tryd.func17 (by kernel_rfl) rfl #[.agg #[.int .i64 ((rd_T32 t217 x6_1).f2.f0), .int .i64 ((rd_T32 t217 x6_1).f2.f1), .int .i64 ((rd_T32 t217 x6_1).f2.f2), .int .i64 ((rd_T32 t217 x6_1).f2.f3)], .agg #[.int .i64 t225, .int .i64 t226, .int .i64 t227, .int .i64 t228]] (by rfl) rfl rfl (by (try simp only [List.map_toArray, List.map_cons, List.map_nil]); first | done | rfl | (simp only [List.length_drop, List.length_take]; rfl)) ?_
                              with_reducible refine (donjonref4_Over.calls ((rd_T32 t217 x6_1).f2.f0) ((rd_T32 t217 x6_1).f2.f1) ((rd_T32 t217 x6_1).f2.f2) ((rd_T32 t217 x6_1).f2.f3) t225 t226 t227 t228 false _ A21.out).mono ?_
                              rintro e w39 ⟨rfl, hb⟩
                              have HS16_ := (hb.cell (World.block_lt_of_cell? _ _ (hHeld.2.2.2.2.2.2.2.2.2.2.2.2.2.2.2.2.1))).trans (hHeld.2.2.2.2.2.2.2.2.2.2.2.2.2.2.2.2.1)
                              have HS17_ := (hb.cell (World.block_lt_of_cell? _ _ (hHeld.2.2.2.2.2.2.2.2.2.2.2.2.2.2.2.2.2.1))).trans (hHeld.2.2.2.2.2.2.2.2.2.2.2.2.2.2.2.2.2.1)
                              have HS18_ := (hb.cell (World.block_lt_of_cell? _ _ (hHeld.2.2.2.2.2.2.2.2.2.2.2.2.2.2.2.2.2.2.1))).trans (hHeld.2.2.2.2.2.2.2.2.2.2.2.2.2.2.2.2.2.2.1)
                              have HS19_ := (hb.cell (World.block_lt_of_cell? _ _ (hHeld.2.2.2.2.2.2.2.2.2.2.2.2.2.2.2.2.2.2.2.1))).trans (hHeld.2.2.2.2.2.2.2.2.2.2.2.2.2.2.2.2.2.2.2.1)
                              have HS20_ := (hb.cell (World.block_lt_of_cell? _ _ (hHeld.2.2.2.2.2.2.2.2.2.2.2.2.2.2.2.2.2.2.2.2.1))).trans (hHeld.2.2.2.2.2.2.2.2.2.2.2.2.2.2.2.2.2.2.2.2.1)
                              have HS21_ := (hb.cell (World.block_lt_of_cell? _ _ (hHeld.2.2.2.2.2.2.2.2.2.2.2.2.2.2.2.2.2.2.2.2.2.1))).trans (hHeld.2.2.2.2.2.2.2.2.2.2.2.2.2.2.2.2.2.2.2.2.2.1)
                              have HS22_ := (hb.cell (World.block_lt_of_cell? _ _ (hHeld.2.2.2.2.2.2.2.2.2.2.2.2.2.2.2.2.2.2.2.2.2.2.1))).trans (hHeld.2.2.2.2.2.2.2.2.2.2.2.2.2.2.2.2.2.2.2.2.2.2.1)
                              have HS23_ := (hb.cell (World.block_lt_of_cell? _ _ (hHeld.2.2.2.2.2.2.2.2.2.2.2.2.2.2.2.2.2.2.2.2.2.2.2.1))).trans (hHeld.2.2.2.2.2.2.2.2.2.2.2.2.2.2.2.2.2.2.2.2.2.2.2.1)
                              have HS24_ := (hb.cell (World.block_lt_of_cell? _ _ (hHeld.2.2.2.2.2.2.2.2.2.2.2.2.2.2.2.2.2.2.2.2.2.2.2.2.1))).trans (hHeld.2.2.2.2.2.2.2.2.2.2.2.2.2.2.2.2.2.2.2.2.2.2.2.2.1)
                              have HS25_ := (hb.cell (World.block_lt_of_cell? _ _ (hHeld.2.2.2.2.2.2.2.2.2.2.2.2.2.2.2.2.2.2.2.2.2.2.2.2.2.1))).trans (hHeld.2.2.2.2.2.2.2.2.2.2.2.2.2.2.2.2.2.2.2.2.2.2.2.2.2.1)
                              have HS26_ := (hb.cell (World.block_lt_of_cell? _ _ (hHeld.2.2.2.2.2.2.2.2.2.2.2.2.2.2.2.2.2.2.2.2.2.2.2.2.2.2.1))).trans (hHeld.2.2.2.2.2.2.2.2.2.2.2.2.2.2.2.2.2.2.2.2.2.2.2.2.2.2.1)
                              have HS27_ := (hb.cell (World.block_lt_of_cell? _ _ (hHeld.2.2.2.2.2.2.2.2.2.2.2.2.2.2.2.2.2.2.2.2.2.2.2.2.2.2.2.1))).trans (hHeld.2.2.2.2.2.2.2.2.2.2.2.2.2.2.2.2.2.2.2.2.2.2.2.2.2.2.2.1)
                              have HS28_ := (hb.cell (World.block_lt_of_cell? _ _ (hHeld.2.2.2.2.2.2.2.2.2.2.2.2.2.2.2.2.2.2.2.2.2.2.2.2.2.2.2.2.1))).trans (hHeld.2.2.2.2.2.2.2.2.2.2.2.2.2.2.2.2.2.2.2.2.2.2.2.2.2.2.2.2.1)
                              have HS29_ := (hb.cell (World.block_lt_of_cell? _ _ (hHeld.2.2.2.2.2.2.2.2.2.2.2.2.2.2.2.2.2.2.2.2.2.2.2.2.2.2.2.2.2.1))).trans (hHeld.2.2.2.2.2.2.2.2.2.2.2.2.2.2.2.2.2.2.2.2.2.2.2.2.2.2.2.2.2.1)
                              have HS30_ := (hb.cell (World.block_lt_of_cell? _ _ (hHeld.2.2.2.2.2.2.2.2.2.2.2.2.2.2.2.2.2.2.2.2.2.2.2.2.2.2.2.2.2.2.1))).trans (hHeld.2.2.2.2.2.2.2.2.2.2.2.2.2.2.2.2.2.2.2.2.2.2.2.2.2.2.2.2.2.2.1)
                              have HS31_ := (hb.cell (World.block_lt_of_cell? _ _ (hHeld.2.2.2.2.2.2.2.2.2.2.2.2.2.2.2.2.2.2.2.2.2.2.2.2.2.2.2.2.2.2.2))).trans (hHeld.2.2.2.2.2.2.2.2.2.2.2.2.2.2.2.2.2.2.2.2.2.2.2.2.2.2.2.2.2.2.2)
                              refine ⟨_, rfl, ?_⟩
                              have n0_ := Aside0.mk (Kd.N_below (by (with_reducible repeat (first | apply Kd.N_alloc | apply Kd.N_drewN | apply Kd.N_drew)); exact HO_5.out) hb)
                              have n1_ := Aside0.mk (Kd.R_below (by (with_reducible repeat (first | apply Kd.R_alloc | apply Kd.R_drewN | apply Kd.R_drew)); exact HO231.out) hb)
                              have n2_ := Aside0.mk (Kd.R_below (by (with_reducible repeat (first | apply Kd.R_alloc | apply Kd.R_drewN | apply Kd.R_drew)); exact HO238.out) hb)
                              have n3_ := Aside0.mk (Kd.V_below (by (with_reducible repeat (first | apply Kd.V_alloc | apply Kd.V_drewN | apply Kd.V_drew)); exact HL245_6.out) hb)
                              have n4_ := Aside0.mk (Kd.V_below (by (with_reducible repeat (first | apply Kd.V_alloc | apply Kd.V_drewN | apply Kd.V_drew)); exact HL245_11.out) hb)
                              have n5_ := Aside0.mk (blk_below (g := gb244) (o := .cells #[.string t223, .bool true, .int .i64 t225, .int .i64 t226, .int .i64 t227, .int .i64 t228, .slice Ao35 t229.length co35, .int .i64 t232, .int .i64 t233, .int .i64 t234, .int .i64 t235, .slice Ao36 t236.length co36, .int .i64 t239, .int .i64 t240, .int .i64 t241, .int .i64 t242] 32 (0, 0)) (by (with_reducible repeat (first | refine blk_drewN ?_ _ | refine blk_drew ?_ | refine blk_alloc ?_ _)); exact BK244.out) hb)
                              have n6_ := Aside0.mk (Kd.C_below (by repeat (first | (with_reducible exact HR245_6.out) | (with_reducible refine Kd.C_alloc ?_ _) | (with_reducible refine Kd.C_drewN ?_ _) | (with_reducible refine Kd.C_drew ?_) | exact HR245_6.out)) hb)
                              have n7_ := Aside0.mk (Kd.C_below (by repeat (first | (with_reducible exact HR245_11.out) | (with_reducible refine Kd.C_alloc ?_ _) | (with_reducible refine Kd.C_drewN ?_ _) | (with_reducible refine Kd.C_drew ?_) | exact HR245_11.out)) hb)
                              have n8_ := Aside0.mk (below_step (by repeat (first | (with_reducible first | exact HB.out | apply below_alloc | apply pw_below_drewN | apply below_drew1 | refine below_set ?_ GE244.out) | exact HB.out)) hb)
                              clear HO_5
                              clear HO231
                              clear HO238
                              clear HL245_6
                              clear HL245_11
                              clear BK244
                              clear HR245_6
                              clear HR245_11
                              clear HB
                              have HO_5 := n0_
                              have HO231 := n1_
                              have HO238 := n2_
                              have HL245_6 := n3_
                              have HL245_11 := n4_
                              have BK244 := n5_
                              have HR245_6 := n6_
                              have HR245_11 := n7_
                              have HB := n8_
                              clear n0_ n1_ n2_ n3_ n4_ n5_ n6_ n7_ n8_
                              (try clear hb)
                              (try clear hb2)
                              (try clear hk)
                              (try clear hi)
                              refine hK.out _ _ ⟨(blk_cell BK244.out 0).trans rfl, (blk_cell BK244.out 1).trans rfl, (blk_cell BK244.out 2).trans rfl, (blk_cell BK244.out 3).trans rfl, (blk_cell BK244.out 4).trans rfl, (blk_cell BK244.out 5).trans rfl, (blk_cell BK244.out 6).trans rfl, (blk_cell BK244.out 7).trans rfl, (blk_cell BK244.out 8).trans rfl, (blk_cell BK244.out 9).trans rfl, (blk_cell BK244.out 10).trans rfl, (blk_cell BK244.out 11).trans rfl, (blk_cell BK244.out 12).trans rfl, (blk_cell BK244.out 13).trans rfl, (blk_cell BK244.out 14).trans rfl, (blk_cell BK244.out 15).trans rfl, HS16_, HS17_, HS18_, HS19_, HS20_, HS21_, HS22_, HS23_, HS24_, HS25_, HS26_, HS27_, HS28_, HS29_, HS30_, HS31_⟩ (fun hHeld => ?_)
                              clear hK K
                              refine norm_ (a' := ?_) ?_ ?_
                              rotate_left
                              · show Act.put _ (some 55) _ = _
                                simp only [Act.put, List.setIfInBounds_toArray, List.set_cons_zero, List.set_cons_succ, i64_w, i32_w]
                                rfl
                              refine pure_ (i := 16) (N := some 56) (v := ?_) (a' := ?_) #[true, true, true, true, true, true, true, true, true, true, true, true, true, true, true, true, true, false] rfl rfl (any_of HT_.out (by kernel_rfl)) (fun _ _ _ h => h) (Or.inl ⟨by rfl, ?_⟩) ?_ ?_
                              rotate_left
                              · intro w'
                                go_simp
                                with_reducible rfl
                              rotate_left
                              · simp only [Act.put, List.setIfInBounds_toArray, List.set_cons_zero, List.set_cons_succ, i64_w, i32_w]
                                rfl
                              refine pure_ (i := 17) (N := some 57) (v := ?_) (a' := ?_) #[true, true, true, true, true, true, true, true, true, true, true, true, true, true, true, true, true, true] rfl rfl (any_of HT_.out (by kernel_rfl)) (fun _ _ _ h => h) (Or.inl ⟨by rfl, ?_⟩) ?_ ?_
                              rotate_left
                              · intro w'
                                go_simp
                                with_reducible rfl
                              rotate_left
                              · simp only [Act.put, List.setIfInBounds_toArray, List.set_cons_zero, List.set_cons_succ, i64_w, i32_w]
                                rfl
                              refine done_ (done_of HT_.out (by kernel_rfl)) ?_
                              try go_wp2
                              go_ret
                              exact ⟨by first | rfl | (simp [errW_none, errW_some] <;> rfl) | (simp [*, errW_none, errW_some] <;> rfl), by repeat (first | (with_reducible first | exact HB.out | apply below_alloc | apply pw_below_drewN | apply below_drew1 | refine below_set ?_ GE244.out) | exact HB.out)⟩
                          · rw [if_neg c20] at H
                            exact absurd H (by simp)
                        · rw [if_neg c19] at H
                          exact absurd H (by simp)
                      · replace c18 := Bool.eq_false_iff.mpr c18
                        subst c18
                        have H1 : (some false) = some r := by rw [if_neg (show ¬ (false = true) by decide)] at H; exact H
                        clear H
                        have H := H1
                        clear H1
                        obtain rfl := Option.some.inj H
                        try go_wp2_with (first | ((with_reducible refine gate_callee (f := 14) rfl ?_); refine goesL_ (some 37) rfl rfl Tryd.func14 (by kernel_rfl) rfl #[.slice (some ad221) t217.length co10, .string x7_2] rfl (by (try simp only [List.map_toArray, List.map_cons, List.map_nil]); first | done | rfl | (simp only [List.length_drop, List.length_take]; rfl)) ?_; (with_reducible refine (tree_Find.calls _ _ t217 x7_2 t223 false t225 t226 t227 t228 t229 t232 t233 t234 t235 t236 t239 t240 t241 t242 true _ ?side1 ?side2 A16.out).mono ?_); (case side1 => repeat (first | exact (Kd.N_reads' HO_5.out).2.2 | (with_reducible refine Kd.C_alloc ?_ _) | (with_reducible refine Kd.C_drewN ?_ _) | (with_reducible refine Kd.C_drew ?_))); (case side2 => exact (Kd.N_reads' HO_5.out).2.1); rintro e w40 ⟨v230, v237, rfl, ho0, ho1, hb⟩; refine ⟨_, rfl, ?_⟩; have n0_ := Aside0.mk (Kd.N_mono (Kd.N_told (Kd.N_told (Kd.N_old (by (with_reducible repeat (first | apply Kd.N_alloc | apply Kd.N_drewN | apply Kd.N_drew)); exact HO_5.out) hb) (Kd.R_base ho0)) (Kd.R_base ho1)) (fun _ h_ => h_.1)); have n1_ := Aside0.mk (Kd.R_lower ho0 (below_size (by repeat (first | (with_reducible first | exact HB.out | apply below_alloc | apply pw_below_drewN | apply below_drew1) | exact HB.out)))); have n2_ := Aside0.mk (Kd.R_lower ho1 (below_size (by repeat (first | (with_reducible first | exact HB.out | apply below_alloc | apply pw_below_drewN | apply below_drew1) | exact HB.out)))); have n3_ := Aside0.mk (below_step (by repeat (first | (with_reducible first | exact HB.out | apply below_alloc | apply pw_below_drewN | apply below_drew1) | exact HB.out)) hb); clear HO_5; clear HB; have HO_5 := n0_; have HO231 := n1_; have HO238 := n2_; have HB := n3_; clear n0_ n1_ n2_ n3_; (try clear hb); (try clear hb2); (try clear hk); (try clear hi); (try clear ho0); (try clear ho1)) | ((with_reducible refine gate_dst (N := 8) rfl ?_); refine box_event ?hg (N := 8) ?hd (cs := #[.string (⟨#[]⟩ : ByteArray), .bool false, .int .i64 0, .int .i64 0, .int .i64 0, .int .i64 0, .slice none 0 0, .int .i64 0, .int .i64 0, .int .i64 0, .int .i64 0, .slice none 0 0, .int .i64 0, .int .i64 0, .int .i64 0, .int .i64 0]) (t := 32) ?hr ?_; (case hd => rfl); (case hg => rfl); (case hr => first | (go_simp; done) | (go_simp; rfl)); intro gb244 hg w41 hbox hb; have n0_ := Aside0.mk (Kd.N_below (Kd.N_elderB (by (with_reducible repeat (first | apply Kd.N_alloc | apply Kd.N_drewN | apply Kd.N_drew)); exact HO_5.out) gb244 (Nat.le_of_eq hg.symm)) hb); have n1_ := Aside0.mk (Kd.R_below (by (with_reducible repeat (first | apply Kd.R_alloc | apply Kd.R_drewN | apply Kd.R_drew)); exact HO231.out) hb); have n2_ := Aside0.mk (Kd.R_below (by (with_reducible repeat (first | apply Kd.R_alloc | apply Kd.R_drewN | apply Kd.R_drew)); exact HO238.out) hb); have n3_ := Aside0.mk (below_step (by repeat (first | (with_reducible first | exact HB.out | apply below_alloc | apply pw_below_drewN | apply below_drew1) | exact HB.out)) hb); have n4_ := Aside0.mk (hbox); have n5_ := Aside0.mk ((by rw [hg]; exact (below_size (by repeat (first | (with_reducible first | exact HB.out | apply below_alloc | apply pw_below_drewN | apply below_drew1) | exact HB.out))) : w.heap.size ≤ gb244)); have n6_ := Aside0.mk ((by rw [hg]; exact (below_size (by repeat (first | (with_reducible first | exact HB.out | apply below_alloc | apply pw_below_drewN | apply below_drew1) | exact HB.out))) : w.heap.size ≤ gb244)); clear HO_5; clear HO231; clear HO238; clear HB; have HO_5 := n0_; have HO231 := n1_; have HO238 := n2_; have HB := n3_; have BK244 := n4_; have GW244 := n5_; have GE244 := n6_; clear n0_ n1_ n2_ n3_ n4_ n5_ n6_; clear hb hbox hg; have hcz42_0 : w41.cell? ⟨gb244, 0, none⟩ = some (.string (⟨#[]⟩ : ByteArray)) := (blk_cell BK244.out 0).trans rfl; have hcz42_1 : w41.cell? ⟨gb244, 1, none⟩ = some (.bool false) := (blk_cell BK244.out 1).trans rfl; have hcz42_2 : w41.cell? ⟨gb244, 2, none⟩ = some (.int .i64 0) := (blk_cell BK244.out 2).trans rfl; have hcz42_3 : w41.cell? ⟨gb244, 3, none⟩ = some (.int .i64 0) := (blk_cell BK244.out 3).trans rfl; have hcz42_4 : w41.cell? ⟨gb244, 4, none⟩ = some (.int .i64 0) := (blk_cell BK244.out 4).trans rfl; have hcz42_5 : w41.cell? ⟨gb244, 5, none⟩ = some (.int .i64 0) := (blk_cell BK244.out 5).trans rfl; have hcz42_6 : w41.cell? ⟨gb244, 6, none⟩ = some (.slice none 0 0) := (blk_cell BK244.out 6).trans rfl; have hcz42_7 : w41.cell? ⟨gb244, 7, none⟩ = some (.int .i64 0) := (blk_cell BK244.out 7).trans rfl; have hcz42_8 : w41.cell? ⟨gb244, 8, none⟩ = some (.int .i64 0) := (blk_cell BK244.out 8).trans rfl; have hcz42_9 : w41.cell? ⟨gb244, 9, none⟩ = some (.int .i64 0) := (blk_cell BK244.out 9).trans rfl; have hcz42_10 : w41.cell? ⟨gb244, 10, none⟩ = some (.int .i64 0) := (blk_cell BK244.out 10).trans rfl; have hcz42_11 : w41.cell? ⟨gb244, 11, none⟩ = some (.slice none 0 0) := (blk_cell BK244.out 11).trans rfl; have hcz42_12 : w41.cell? ⟨gb244, 12, none⟩ = some (.int .i64 0) := (blk_cell BK244.out 12).trans rfl; have hcz42_13 : w41.cell? ⟨gb244, 13, none⟩ = some (.int .i64 0) := (blk_cell BK244.out 13).trans rfl; have hcz42_14 : w41.cell? ⟨gb244, 14, none⟩ = some (.int .i64 0) := (blk_cell BK244.out 14).trans rfl; have hcz42_15 : w41.cell? ⟨gb244, 15, none⟩ = some (.int .i64 0) := (blk_cell BK244.out 15).trans rfl; have hfz42_0 := blk_frozen BK244.out 0; have hfz42_1 := blk_frozen BK244.out 1; have hfz42_2 := blk_frozen BK244.out 2; have hfz42_3 := blk_frozen BK244.out 3; have hfz42_4 := blk_frozen BK244.out 4; have hfz42_5 := blk_frozen BK244.out 5; have hfz42_6 := blk_frozen BK244.out 6; have hfz42_7 := blk_frozen BK244.out 7; have hfz42_8 := blk_frozen BK244.out 8; have hfz42_9 := blk_frozen BK244.out 9; have hfz42_10 := blk_frozen BK244.out 10; have hfz42_11 := blk_frozen BK244.out 11; have hfz42_12 := blk_frozen BK244.out 12; have hfz42_13 := blk_frozen BK244.out 13; have hfz42_14 := blk_frozen BK244.out 14; have hfz42_15 := blk_frozen BK244.out 15; obtain ⟨Ao43, co43, eo43⟩ := Kd.R_slice HO231.out; subst eo43; obtain ⟨Ao44, co44, eo44⟩ := Kd.R_slice HO238.out; subst eo44))
                        have n0_ : Aside0 (Kd.N k32 32 ((((((((((((((((w41.setCell ⟨gb244, 0, none⟩ (.string t223)).setCell ⟨gb244, 1, none⟩ (.bool false)).setCell ⟨gb244, 2, none⟩ (.int .i64 t225)).setCell ⟨gb244, 3, none⟩ (.int .i64 t226)).setCell ⟨gb244, 4, none⟩ (.int .i64 t227)).setCell ⟨gb244, 5, none⟩ (.int .i64 t228)).setCell ⟨gb244, 6, none⟩ (.slice Ao43 t229.length co43)).setCell ⟨gb244, 7, none⟩ (.int .i64 t232)).setCell ⟨gb244, 8, none⟩ (.int .i64 t233)).setCell ⟨gb244, 9, none⟩ (.int .i64 t234)).setCell ⟨gb244, 10, none⟩ (.int .i64 t235)).setCell ⟨gb244, 11, none⟩ (.slice Ao44 t236.length co44)).setCell ⟨gb244, 12, none⟩ (.int .i64 t239)).setCell ⟨gb244, 13, none⟩ (.int .i64 t240)).setCell ⟨gb244, 14, none⟩ (.int .i64 t241)).setCell ⟨gb244, 15, none⟩ (.int .i64 t242)) w.heap.size (fun k_ => some k_ ≠ (.slice Ao43 t229.length co43 : Value).ownBlock ∧ some k_ ≠ (.slice Ao44 t236.length co44 : Value).ownBlock ∧ k_ ≠ gb244) (.slice (some ad221) t217.length co10) t217) := ⟨by (with_reducible repeat (first | apply Kd.N_alloc | apply Kd.N_drewN | apply Kd.N_drew)); exact Kd.N_mono (Kd.N_far (p := ⟨gb244, 15, none⟩) (Kd.N_far (p := ⟨gb244, 14, none⟩) (Kd.N_far (p := ⟨gb244, 13, none⟩) (Kd.N_far (p := ⟨gb244, 12, none⟩) (Kd.N_far (p := ⟨gb244, 11, none⟩) (Kd.N_far (p := ⟨gb244, 10, none⟩) (Kd.N_far (p := ⟨gb244, 9, none⟩) (Kd.N_far (p := ⟨gb244, 8, none⟩) (Kd.N_far (p := ⟨gb244, 7, none⟩) (Kd.N_far (p := ⟨gb244, 6, none⟩) (Kd.N_far (p := ⟨gb244, 5, none⟩) (Kd.N_far (p := ⟨gb244, 4, none⟩) (Kd.N_far (p := ⟨gb244, 3, none⟩) (Kd.N_far (p := ⟨gb244, 2, none⟩) (Kd.N_far (p := ⟨gb244, 1, none⟩) (Kd.N_far (p := ⟨gb244, 0, none⟩) (Kd.N_mono HO_5.out (fun k_ hk => (⟨hk, hk.2⟩ : _ ∧ k_ ≠ gb244))) (fun _ hk => hk.2) (.string t223)) (fun _ hk => hk.2) (.bool false)) (fun _ hk => hk.2) (.int .i64 t225)) (fun _ hk => hk.2) (.int .i64 t226)) (fun _ hk => hk.2) (.int .i64 t227)) (fun _ hk => hk.2) (.int .i64 t228)) (fun _ hk => hk.2) (.slice Ao43 t229.length co43)) (fun _ hk => hk.2) (.int .i64 t232)) (fun _ hk => hk.2) (.int .i64 t233)) (fun _ hk => hk.2) (.int .i64 t234)) (fun _ hk => hk.2) (.int .i64 t235)) (fun _ hk => hk.2) (.slice Ao44 t236.length co44)) (fun _ hk => hk.2) (.int .i64 t239)) (fun _ hk => hk.2) (.int .i64 t240)) (fun _ hk => hk.2) (.int .i64 t241)) (fun _ hk => hk.2) (.int .i64 t242)) (fun _ hk => ⟨hk.1.1.1.2, ⟨hk.1.1.2, hk.1.2⟩⟩)⟩
                        have n1_ : Aside0 (Kd.R k83 83 ((((((((((((((((w41.setCell ⟨gb244, 0, none⟩ (.string t223)).setCell ⟨gb244, 1, none⟩ (.bool false)).setCell ⟨gb244, 2, none⟩ (.int .i64 t225)).setCell ⟨gb244, 3, none⟩ (.int .i64 t226)).setCell ⟨gb244, 4, none⟩ (.int .i64 t227)).setCell ⟨gb244, 5, none⟩ (.int .i64 t228)).setCell ⟨gb244, 6, none⟩ (.slice Ao43 t229.length co43)).setCell ⟨gb244, 7, none⟩ (.int .i64 t232)).setCell ⟨gb244, 8, none⟩ (.int .i64 t233)).setCell ⟨gb244, 9, none⟩ (.int .i64 t234)).setCell ⟨gb244, 10, none⟩ (.int .i64 t235)).setCell ⟨gb244, 11, none⟩ (.slice Ao44 t236.length co44)).setCell ⟨gb244, 12, none⟩ (.int .i64 t239)).setCell ⟨gb244, 13, none⟩ (.int .i64 t240)).setCell ⟨gb244, 14, none⟩ (.int .i64 t241)).setCell ⟨gb244, 15, none⟩ (.int .i64 t242)) w.heap.size (fun _ => True) (.slice Ao43 t229.length co43) t229) := ⟨by (with_reducible repeat (first | apply Kd.R_alloc | apply Kd.R_drewN | apply Kd.R_drew)); exact Kd.R_mono (Kd.R_far (p := ⟨gb244, 15, none⟩) (Kd.R_far (p := ⟨gb244, 14, none⟩) (Kd.R_far (p := ⟨gb244, 13, none⟩) (Kd.R_far (p := ⟨gb244, 12, none⟩) (Kd.R_far (p := ⟨gb244, 11, none⟩) (Kd.R_far (p := ⟨gb244, 10, none⟩) (Kd.R_far (p := ⟨gb244, 9, none⟩) (Kd.R_far (p := ⟨gb244, 8, none⟩) (Kd.R_far (p := ⟨gb244, 7, none⟩) (Kd.R_far (p := ⟨gb244, 6, none⟩) (Kd.R_far (p := ⟨gb244, 5, none⟩) (Kd.R_far (p := ⟨gb244, 4, none⟩) (Kd.R_far (p := ⟨gb244, 3, none⟩) (Kd.R_far (p := ⟨gb244, 2, none⟩) (Kd.R_far (p := ⟨gb244, 1, none⟩) (Kd.R_far (p := ⟨gb244, 0, none⟩) (Kd.R_types HO231.out BK244.out (by decide)) (fun _ hk => hk.2) (.string t223)) (fun _ hk => hk.2) (.bool false)) (fun _ hk => hk.2) (.int .i64 t225)) (fun _ hk => hk.2) (.int .i64 t226)) (fun _ hk => hk.2) (.int .i64 t227)) (fun _ hk => hk.2) (.int .i64 t228)) (fun _ hk => hk.2) (.slice Ao43 t229.length co43)) (fun _ hk => hk.2) (.int .i64 t232)) (fun _ hk => hk.2) (.int .i64 t233)) (fun _ hk => hk.2) (.int .i64 t234)) (fun _ hk => hk.2) (.int .i64 t235)) (fun _ hk => hk.2) (.slice Ao44 t236.length co44)) (fun _ hk => hk.2) (.int .i64 t239)) (fun _ hk => hk.2) (.int .i64 t240)) (fun _ hk => hk.2) (.int .i64 t241)) (fun _ hk => hk.2) (.int .i64 t242)) (fun _ hk => trivial)⟩
                        have n2_ : Aside0 (Kd.R (Kd.int .i64) 2 ((((((((((((((((w41.setCell ⟨gb244, 0, none⟩ (.string t223)).setCell ⟨gb244, 1, none⟩ (.bool false)).setCell ⟨gb244, 2, none⟩ (.int .i64 t225)).setCell ⟨gb244, 3, none⟩ (.int .i64 t226)).setCell ⟨gb244, 4, none⟩ (.int .i64 t227)).setCell ⟨gb244, 5, none⟩ (.int .i64 t228)).setCell ⟨gb244, 6, none⟩ (.slice Ao43 t229.length co43)).setCell ⟨gb244, 7, none⟩ (.int .i64 t232)).setCell ⟨gb244, 8, none⟩ (.int .i64 t233)).setCell ⟨gb244, 9, none⟩ (.int .i64 t234)).setCell ⟨gb244, 10, none⟩ (.int .i64 t235)).setCell ⟨gb244, 11, none⟩ (.slice Ao44 t236.length co44)).setCell ⟨gb244, 12, none⟩ (.int .i64 t239)).setCell ⟨gb244, 13, none⟩ (.int .i64 t240)).setCell ⟨gb244, 14, none⟩ (.int .i64 t241)).setCell ⟨gb244, 15, none⟩ (.int .i64 t242)) w.heap.size (fun _ => True) (.slice Ao44 t236.length co44) t236) := ⟨by (with_reducible repeat (first | apply Kd.R_alloc | apply Kd.R_drewN | apply Kd.R_drew)); exact Kd.R_mono (Kd.R_far (p := ⟨gb244, 15, none⟩) (Kd.R_far (p := ⟨gb244, 14, none⟩) (Kd.R_far (p := ⟨gb244, 13, none⟩) (Kd.R_far (p := ⟨gb244, 12, none⟩) (Kd.R_far (p := ⟨gb244, 11, none⟩) (Kd.R_far (p := ⟨gb244, 10, none⟩) (Kd.R_far (p := ⟨gb244, 9, none⟩) (Kd.R_far (p := ⟨gb244, 8, none⟩) (Kd.R_far (p := ⟨gb244, 7, none⟩) (Kd.R_far (p := ⟨gb244, 6, none⟩) (Kd.R_far (p := ⟨gb244, 5, none⟩) (Kd.R_far (p := ⟨gb244, 4, none⟩) (Kd.R_far (p := ⟨gb244, 3, none⟩) (Kd.R_far (p := ⟨gb244, 2, none⟩) (Kd.R_far (p := ⟨gb244, 1, none⟩) (Kd.R_far (p := ⟨gb244, 0, none⟩) (Kd.R_types HO238.out BK244.out (by decide)) (fun _ hk => hk.2) (.string t223)) (fun _ hk => hk.2) (.bool false)) (fun _ hk => hk.2) (.int .i64 t225)) (fun _ hk => hk.2) (.int .i64 t226)) (fun _ hk => hk.2) (.int .i64 t227)) (fun _ hk => hk.2) (.int .i64 t228)) (fun _ hk => hk.2) (.slice Ao43 t229.length co43)) (fun _ hk => hk.2) (.int .i64 t232)) (fun _ hk => hk.2) (.int .i64 t233)) (fun _ hk => hk.2) (.int .i64 t234)) (fun _ hk => hk.2) (.int .i64 t235)) (fun _ hk => hk.2) (.slice Ao44 t236.length co44)) (fun _ hk => hk.2) (.int .i64 t239)) (fun _ hk => hk.2) (.int .i64 t240)) (fun _ hk => hk.2) (.int .i64 t241)) (fun _ hk => hk.2) (.int .i64 t242)) (fun _ hk => trivial)⟩
                        have n3_ : Aside0 (((((((((((((((((w41.setCell ⟨gb244, 0, none⟩ (.string t223)).setCell ⟨gb244, 1, none⟩ (.bool false)).setCell ⟨gb244, 2, none⟩ (.int .i64 t225)).setCell ⟨gb244, 3, none⟩ (.int .i64 t226)).setCell ⟨gb244, 4, none⟩ (.int .i64 t227)).setCell ⟨gb244, 5, none⟩ (.int .i64 t228)).setCell ⟨gb244, 6, none⟩ (.slice Ao43 t229.length co43)).setCell ⟨gb244, 7, none⟩ (.int .i64 t232)).setCell ⟨gb244, 8, none⟩ (.int .i64 t233)).setCell ⟨gb244, 9, none⟩ (.int .i64 t234)).setCell ⟨gb244, 10, none⟩ (.int .i64 t235)).setCell ⟨gb244, 11, none⟩ (.slice Ao44 t236.length co44)).setCell ⟨gb244, 12, none⟩ (.int .i64 t239)).setCell ⟨gb244, 13, none⟩ (.int .i64 t240)).setCell ⟨gb244, 14, none⟩ (.int .i64 t241)).setCell ⟨gb244, 15, none⟩ (.int .i64 t242)).heap[gb244]? = some (.cells #[.string t223, .bool false, .int .i64 t225, .int .i64 t226, .int .i64 t227, .int .i64 t228, .slice Ao43 t229.length co43, .int .i64 t232, .int .i64 t233, .int .i64 t234, .int .i64 t235, .slice Ao44 t236.length co44, .int .i64 t239, .int .i64 t240, .int .i64 t241, .int .i64 t242] 32 (0, 0))) := ⟨by (with_reducible repeat (first | refine blk_drewN ?_ _ | refine blk_drew ?_ | refine blk_alloc ?_ _)); refine blk_put (cs := #[.string t223, .bool false, .int .i64 t225, .int .i64 t226, .int .i64 t227, .int .i64 t228, .slice Ao43 t229.length co43, .int .i64 t232, .int .i64 t233, .int .i64 t234, .int .i64 t235, .slice Ao44 t236.length co44, .int .i64 t239, .int .i64 t240, .int .i64 t241, .int .i64 0]) ?_ 15 _ rfl; (with_reducible repeat (first | refine blk_drewN ?_ _ | refine blk_drew ?_ | refine blk_alloc ?_ _)); refine blk_put (cs := #[.string t223, .bool false, .int .i64 t225, .int .i64 t226, .int .i64 t227, .int .i64 t228, .slice Ao43 t229.length co43, .int .i64 t232, .int .i64 t233, .int .i64 t234, .int .i64 t235, .slice Ao44 t236.length co44, .int .i64 t239, .int .i64 t240, .int .i64 0, .int .i64 0]) ?_ 14 _ rfl; (with_reducible repeat (first | refine blk_drewN ?_ _ | refine blk_drew ?_ | refine blk_alloc ?_ _)); refine blk_put (cs := #[.string t223, .bool false, .int .i64 t225, .int .i64 t226, .int .i64 t227, .int .i64 t228, .slice Ao43 t229.length co43, .int .i64 t232, .int .i64 t233, .int .i64 t234, .int .i64 t235, .slice Ao44 t236.length co44, .int .i64 t239, .int .i64 0, .int .i64 0, .int .i64 0]) ?_ 13 _ rfl; (with_reducible repeat (first | refine blk_drewN ?_ _ | refine blk_drew ?_ | refine blk_alloc ?_ _)); refine blk_put (cs := #[.string t223, .bool false, .int .i64 t225, .int .i64 t226, .int .i64 t227, .int .i64 t228, .slice Ao43 t229.length co43, .int .i64 t232, .int .i64 t233, .int .i64 t234, .int .i64 t235, .slice Ao44 t236.length co44, .int .i64 0, .int .i64 0, .int .i64 0, .int .i64 0]) ?_ 12 _ rfl; (with_reducible repeat (first | refine blk_drewN ?_ _ | refine blk_drew ?_ | refine blk_alloc ?_ _)); refine blk_put (cs := #[.string t223, .bool false, .int .i64 t225, .int .i64 t226, .int .i64 t227, .int .i64 t228, .slice Ao43 t229.length co43, .int .i64 t232, .int .i64 t233, .int .i64 t234, .int .i64 t235, .slice none 0 0, .int .i64 0, .int .i64 0, .int .i64 0, .int .i64 0]) ?_ 11 _ rfl; (with_reducible repeat (first | refine blk_drewN ?_ _ | refine blk_drew ?_ | refine blk_alloc ?_ _)); refine blk_put (cs := #[.string t223, .bool false, .int .i64 t225, .int .i64 t226, .int .i64 t227, .int .i64 t228, .slice Ao43 t229.length co43, .int .i64 t232, .int .i64 t233, .int .i64 t234, .int .i64 0, .slice none 0 0, .int .i64 0, .int .i64 0, .int .i64 0, .int .i64 0]) ?_ 10 _ rfl; (with_reducible repeat (first | refine blk_drewN ?_ _ | refine blk_drew ?_ | refine blk_alloc ?_ _)); refine blk_put (cs := #[.string t223, .bool false, .int .i64 t225, .int .i64 t226, .int .i64 t227, .int .i64 t228, .slice Ao43 t229.length co43, .int .i64 t232, .int .i64 t233, .int .i64 0, .int .i64 0, .slice none 0 0, .int .i64 0, .int .i64 0, .int .i64 0, .int .i64 0]) ?_ 9 _ rfl; (with_reducible repeat (first | refine blk_drewN ?_ _ | refine blk_drew ?_ | refine blk_alloc ?_ _)); refine blk_put (cs := #[.string t223, .bool false, .int .i64 t225, .int .i64 t226, .int .i64 t227, .int .i64 t228, .slice Ao43 t229.length co43, .int .i64 t232, .int .i64 0, .int .i64 0, .int .i64 0, .slice none 0 0, .int .i64 0, .int .i64 0, .int .i64 0, .int .i64 0]) ?_ 8 _ rfl; (with_reducible repeat (first | refine blk_drewN ?_ _ | refine blk_drew ?_ | refine blk_alloc ?_ _)); refine blk_put (cs := #[.string t223, .bool false, .int .i64 t225, .int .i64 t226, .int .i64 t227, .int .i64 t228, .slice Ao43 t229.length co43, .int .i64 0, .int .i64 0, .int .i64 0, .int .i64 0, .slice none 0 0, .int .i64 0, .int .i64 0, .int .i64 0, .int .i64 0]) ?_ 7 _ rfl; (with_reducible repeat (first | refine blk_drewN ?_ _ | refine blk_drew ?_ | refine blk_alloc ?_ _)); refine blk_put (cs := #[.string t223, .bool false, .int .i64 t225, .int .i64 t226, .int .i64 t227, .int .i64 t228, .slice none 0 0, .int .i64 0, .int .i64 0, .int .i64 0, .int .i64 0, .slice none 0 0, .int .i64 0, .int .i64 0, .int .i64 0, .int .i64 0]) ?_ 6 _ rfl; (with_reducible repeat (first | refine blk_drewN ?_ _ | refine blk_drew ?_ | refine blk_alloc ?_ _)); refine blk_put (cs := #[.string t223, .bool false, .int .i64 t225, .int .i64 t226, .int .i64 t227, .int .i64 0, .slice none 0 0, .int .i64 0, .int .i64 0, .int .i64 0, .int .i64 0, .slice none 0 0, .int .i64 0, .int .i64 0, .int .i64 0, .int .i64 0]) ?_ 5 _ rfl; (with_reducible repeat (first | refine blk_drewN ?_ _ | refine blk_drew ?_ | refine blk_alloc ?_ _)); refine blk_put (cs := #[.string t223, .bool false, .int .i64 t225, .int .i64 t226, .int .i64 0, .int .i64 0, .slice none 0 0, .int .i64 0, .int .i64 0, .int .i64 0, .int .i64 0, .slice none 0 0, .int .i64 0, .int .i64 0, .int .i64 0, .int .i64 0]) ?_ 4 _ rfl; (with_reducible repeat (first | refine blk_drewN ?_ _ | refine blk_drew ?_ | refine blk_alloc ?_ _)); refine blk_put (cs := #[.string t223, .bool false, .int .i64 t225, .int .i64 0, .int .i64 0, .int .i64 0, .slice none 0 0, .int .i64 0, .int .i64 0, .int .i64 0, .int .i64 0, .slice none 0 0, .int .i64 0, .int .i64 0, .int .i64 0, .int .i64 0]) ?_ 3 _ rfl; (with_reducible repeat (first | refine blk_drewN ?_ _ | refine blk_drew ?_ | refine blk_alloc ?_ _)); refine blk_put (cs := #[.string t223, .bool false, .int .i64 0, .int .i64 0, .int .i64 0, .int .i64 0, .slice none 0 0, .int .i64 0, .int .i64 0, .int .i64 0, .int .i64 0, .slice none 0 0, .int .i64 0, .int .i64 0, .int .i64 0, .int .i64 0]) ?_ 2 _ rfl; (with_reducible repeat (first | refine blk_drewN ?_ _ | refine blk_drew ?_ | refine blk_alloc ?_ _)); refine blk_put (cs := #[.string t223, .bool false, .int .i64 0, .int .i64 0, .int .i64 0, .int .i64 0, .slice none 0 0, .int .i64 0, .int .i64 0, .int .i64 0, .int .i64 0, .slice none 0 0, .int .i64 0, .int .i64 0, .int .i64 0, .int .i64 0]) ?_ 1 _ rfl; (with_reducible repeat (first | refine blk_drewN ?_ _ | refine blk_drew ?_ | refine blk_alloc ?_ _)); refine blk_put (cs := #[.string (⟨#[]⟩ : ByteArray), .bool false, .int .i64 0, .int .i64 0, .int .i64 0, .int .i64 0, .slice none 0 0, .int .i64 0, .int .i64 0, .int .i64 0, .int .i64 0, .slice none 0 0, .int .i64 0, .int .i64 0, .int .i64 0, .int .i64 0]) ?_ 0 _ rfl; (with_reducible repeat (first | refine blk_drewN ?_ _ | refine blk_drew ?_ | refine blk_alloc ?_ _)); exact BK244.out⟩
                        have n4_ : Aside0 (Below w.heap.size w ((((((((((((((((w41.setCell ⟨gb244, 0, none⟩ (.string t223)).setCell ⟨gb244, 1, none⟩ (.bool false)).setCell ⟨gb244, 2, none⟩ (.int .i64 t225)).setCell ⟨gb244, 3, none⟩ (.int .i64 t226)).setCell ⟨gb244, 4, none⟩ (.int .i64 t227)).setCell ⟨gb244, 5, none⟩ (.int .i64 t228)).setCell ⟨gb244, 6, none⟩ (.slice Ao43 t229.length co43)).setCell ⟨gb244, 7, none⟩ (.int .i64 t232)).setCell ⟨gb244, 8, none⟩ (.int .i64 t233)).setCell ⟨gb244, 9, none⟩ (.int .i64 t234)).setCell ⟨gb244, 10, none⟩ (.int .i64 t235)).setCell ⟨gb244, 11, none⟩ (.slice Ao44 t236.length co44)).setCell ⟨gb244, 12, none⟩ (.int .i64 t239)).setCell ⟨gb244, 13, none⟩ (.int .i64 t240)).setCell ⟨gb244, 14, none⟩ (.int .i64 t241)).setCell ⟨gb244, 15, none⟩ (.int .i64 t242))) := ⟨by repeat (first | (with_reducible first | exact HB.out | apply below_alloc | apply pw_below_drewN | apply below_drew1 | refine below_set ?_ GE244.out) | exact HB.out)⟩
                        (try clear HO_5)
                        (try clear HO231)
                        (try clear HO238)
                        (try clear BK244)
                        (try clear HB)
                        generalize ((((((((((((((((w41.setCell ⟨gb244, 0, none⟩ (.string t223)).setCell ⟨gb244, 1, none⟩ (.bool false)).setCell ⟨gb244, 2, none⟩ (.int .i64 t225)).setCell ⟨gb244, 3, none⟩ (.int .i64 t226)).setCell ⟨gb244, 4, none⟩ (.int .i64 t227)).setCell ⟨gb244, 5, none⟩ (.int .i64 t228)).setCell ⟨gb244, 6, none⟩ (.slice Ao43 t229.length co43)).setCell ⟨gb244, 7, none⟩ (.int .i64 t232)).setCell ⟨gb244, 8, none⟩ (.int .i64 t233)).setCell ⟨gb244, 9, none⟩ (.int .i64 t234)).setCell ⟨gb244, 10, none⟩ (.int .i64 t235)).setCell ⟨gb244, 11, none⟩ (.slice Ao44 t236.length co44)).setCell ⟨gb244, 12, none⟩ (.int .i64 t239)).setCell ⟨gb244, 13, none⟩ (.int .i64 t240)).setCell ⟨gb244, 14, none⟩ (.int .i64 t241)).setCell ⟨gb244, 15, none⟩ (.int .i64 t242)) = w45 at n0_ n1_ n2_ n3_ n4_ ⊢
                        have HO_5 := n0_
                        have HO231 := n1_
                        have HO238 := n2_
                        have BK244 := n3_
                        have HB := n4_
                        clear n0_ n1_ n2_ n3_ n4_
                        have n0_ := Aside0.mk (Kd.N_drew HO_5.out)
                        have n1_ := Aside0.mk (Kd.R_drew HO231.out)
                        have n2_ := Aside0.mk (Kd.R_drew HO238.out)
                        have n3_ := Aside0.mk (blk_drew BK244.out)
                        have n4_ := Aside0.mk (below_drew1 HB.out)
                        clear HO_5
                        clear HO231
                        clear HO238
                        clear BK244
                        clear HB
                        have HO_5 := n0_
                        have HO231 := n1_
                        have HO238 := n2_
                        have BK244 := n3_
                        have HB := n4_
                        clear n0_ n1_ n2_ n3_ n4_
                        refine start_ (n := 18) (S := fun w' => w'.cell? ⟨gb244, 0, none⟩ = some (.string t223) ∧ w'.cell? ⟨gb244, 1, none⟩ = some (.bool false) ∧ w'.cell? ⟨gb244, 2, none⟩ = some (.int .i64 t225) ∧ w'.cell? ⟨gb244, 3, none⟩ = some (.int .i64 t226) ∧ w'.cell? ⟨gb244, 4, none⟩ = some (.int .i64 t227) ∧ w'.cell? ⟨gb244, 5, none⟩ = some (.int .i64 t228) ∧ w'.cell? ⟨gb244, 6, none⟩ = some (.slice Ao43 t229.length co43) ∧ w'.cell? ⟨gb244, 7, none⟩ = some (.int .i64 t232) ∧ w'.cell? ⟨gb244, 8, none⟩ = some (.int .i64 t233) ∧ w'.cell? ⟨gb244, 9, none⟩ = some (.int .i64 t234) ∧ w'.cell? ⟨gb244, 10, none⟩ = some (.int .i64 t235) ∧ w'.cell? ⟨gb244, 11, none⟩ = some (.slice Ao44 t236.length co44) ∧ w'.cell? ⟨gb244, 12, none⟩ = some (.int .i64 t239) ∧ w'.cell? ⟨gb244, 13, none⟩ = some (.int .i64 t240) ∧ w'.cell? ⟨gb244, 14, none⟩ = some (.int .i64 t241) ∧ w'.cell? ⟨gb244, 15, none⟩ = some (.int .i64 t242)) (ds := []) #[false, false, false, false, false, false, false, false, false, false, false, false, false, false, false, false, false, false] (by kernel_rfl) rfl rfl ⟨(blk_cell BK244.out 0).trans rfl, (blk_cell BK244.out 1).trans rfl, (blk_cell BK244.out 2).trans rfl, (blk_cell BK244.out 3).trans rfl, (blk_cell BK244.out 4).trans rfl, (blk_cell BK244.out 5).trans rfl, (blk_cell BK244.out 6).trans rfl, (blk_cell BK244.out 7).trans rfl, (blk_cell BK244.out 8).trans rfl, (blk_cell BK244.out 9).trans rfl, (blk_cell BK244.out 10).trans rfl, (blk_cell BK244.out 11).trans rfl, (blk_cell BK244.out 12).trans rfl, (blk_cell BK244.out 13).trans rfl, (blk_cell BK244.out 14).trans rfl, (blk_cell BK244.out 15).trans rfl⟩ (fun hHeld => ?_); refine with_tabW donjonlaw11_TreeRises.tab13 donjonlaw11_TreeRises.bits13 (fun HT_ HW_ => ?_)
                        generalize w45.drew = w46 at HO_5 HO231 HO238 BK244 HB hHeld ⊢
                        refine pure_ (i := 0) (N := some 40) (v := ?_) (a' := ?_) #[true, false, false, false, false, false, false, false, false, false, false, false, false, false, false, false, false, false] rfl rfl (any_of HT_.out (by kernel_rfl)) (fun _ _ _ h => h) (Or.inl ⟨by rfl, ?_⟩) ?_ ?_
                        rotate_left
                        · intro w'
                          go_simp
                          with_reducible rfl
                        rotate_left
                        · simp only [Act.put, List.setIfInBounds_toArray, List.set_cons_zero, List.set_cons_succ, i64_w, i32_w]
                          rfl
                        refine pure_ (i := 1) (N := some 41) (v := ?_) (a' := ?_) #[true, true, false, false, false, false, false, false, false, false, false, false, false, false, false, false, false, false] rfl rfl (any_of HT_.out (by kernel_rfl)) (fun _ _ _ h => h) (Or.inl ⟨by rfl, ?_⟩) ?_ ?_
                        rotate_left
                        · intro w'
                          go_simp
                          with_reducible rfl
                        rotate_left
                        · simp only [Act.put, List.setIfInBounds_toArray, List.set_cons_zero, List.set_cons_succ, i64_w, i32_w]
                          rfl
                        refine pure_ (i := 2) (N := some 42) (v := ?_) (a' := ?_) #[true, true, true, false, false, false, false, false, false, false, false, false, false, false, false, false, false, false] rfl rfl (any_of HT_.out (by kernel_rfl)) (fun _ _ _ h => h) (Or.inl ⟨by rfl, ?_⟩) ?_ ?_
                        rotate_left
                        · intro w'
                          go_simp
                          with_reducible rfl
                        rotate_left
                        · simp only [Act.put, List.setIfInBounds_toArray, List.set_cons_zero, List.set_cons_succ, i64_w, i32_w]
                          rfl
                        refine pure_ (i := 3) (N := some 43) (v := ?_) (a' := ?_) #[true, true, true, true, false, false, false, false, false, false, false, false, false, false, false, false, false, false] rfl rfl (any_of HT_.out (by kernel_rfl)) (fun _ _ _ h => h) (Or.inl ⟨by rfl, ?_⟩) ?_ ?_
                        rotate_left
                        · intro w'
                          go_simp
                          with_reducible rfl
                        rotate_left
                        · simp only [Act.put, List.setIfInBounds_toArray, List.set_cons_zero, List.set_cons_succ, i64_w, i32_w]
                          rfl
                        refine take_ (i := 4) (N := some 44) (v := ?_) (a' := ?_) #[true, true, true, true, true, false, false, false, false, false, false, false, false, false, false, false, false, false] rfl rfl (take_ofW HT_.out HW_.out (by kernel_rfl)) (fun _ _ _ h => h) (Or.inl ⟨by rfl, ?_⟩) hHeld ?_ ?_
                        rotate_left
                        · rintro w' ⟨s0, s1, s2, s3, s4, s5, s6, s7, s8, s9, s10, s11, s12, s13, s14, s15⟩
                          go_simp
                          with_reducible rfl
                        rotate_left
                        · simp only [Act.put, List.setIfInBounds_toArray, List.set_cons_zero, List.set_cons_succ, i64_w, i32_w]
                          rfl
                        refine pure_ (i := 5) (N := some 45) (v := ?_) (a' := ?_) #[true, true, true, true, true, true, false, false, false, false, false, false, false, false, false, false, false, false] rfl rfl (any_of HT_.out (by kernel_rfl)) (fun _ _ _ h => h) (Or.inl ⟨by rfl, ?_⟩) ?_ ?_
                        rotate_left
                        · intro w'
                          go_simp
                          with_reducible rfl
                        rotate_left
                        · simp only [Act.put, List.setIfInBounds_toArray, List.set_cons_zero, List.set_cons_succ, i64_w, i32_w]
                          rfl
                        refine pure_ (i := 6) (N := some 46) (v := ?_) (a' := ?_) #[true, true, true, true, true, true, true, false, false, false, false, false, false, false, false, false, false, false] rfl rfl (any_of HT_.out (by kernel_rfl)) (fun _ _ _ h => h) (Or.inl ⟨by rfl, ?_⟩) ?_ ?_
                        rotate_left
                        · intro w'
                          go_simp
                          with_reducible rfl
                        rotate_left
                        · simp only [Act.put, List.setIfInBounds_toArray, List.set_cons_zero, List.set_cons_succ, i64_w, i32_w]
                          rfl
                        refine pure_ (i := 7) (N := some 47) (v := ?_) (a' := ?_) #[true, true, true, true, true, true, true, true, false, false, false, false, false, false, false, false, false, false] rfl rfl (any_of HT_.out (by kernel_rfl)) (fun _ _ _ h => h) (Or.inl ⟨by rfl, ?_⟩) ?_ ?_
                        rotate_left
                        · intro w'
                          go_simp
                          with_reducible rfl
                        rotate_left
                        · simp only [Act.put, List.setIfInBounds_toArray, List.set_cons_zero, List.set_cons_succ, i64_w, i32_w]
                          rfl
                        refine pure_ (i := 8) (N := some 48) (v := undef) (a' := ?_) #[true, true, true, true, true, true, true, true, true, false, false, false, false, false, false, false, false, false] rfl rfl (any_of HT_.out (by kernel_rfl)) (fun _ _ _ h => h) (Or.inr ⟨by rfl, rfl⟩) ?_ ?_
                        rotate_left
                        · simp only [Act.put, List.setIfInBounds_toArray, List.set_cons_zero, List.set_cons_succ, i64_w, i32_w]
                          rfl
                        refine pure_ (i := 9) (N := some 49) (v := undef) (a' := ?_) #[true, true, true, true, true, true, true, true, true, true, false, false, false, false, false, false, false, false] rfl rfl (any_of HT_.out (by kernel_rfl)) (fun _ _ _ h => h) (Or.inr ⟨by rfl, rfl⟩) ?_ ?_
                        rotate_left
                        · simp only [Act.put, List.setIfInBounds_toArray, List.set_cons_zero, List.set_cons_succ, i64_w, i32_w]
                          rfl
                        refine pure_ (i := 10) (N := some 50) (v := undef) (a' := ?_) #[true, true, true, true, true, true, true, true, true, true, true, false, false, false, false, false, false, false] rfl rfl (any_of HT_.out (by kernel_rfl)) (fun _ _ _ h => h) (Or.inr ⟨by rfl, rfl⟩) ?_ ?_
                        rotate_left
                        · simp only [Act.put, List.setIfInBounds_toArray, List.set_cons_zero, List.set_cons_succ, i64_w, i32_w]
                          rfl
                        refine pure_ (i := 11) (N := some 51) (v := undef) (a' := ?_) #[true, true, true, true, true, true, true, true, true, true, true, true, false, false, false, false, false, false] rfl rfl (any_of HT_.out (by kernel_rfl)) (fun _ _ _ h => h) (Or.inr ⟨by rfl, rfl⟩) ?_ ?_
                        rotate_left
                        · simp only [Act.put, List.setIfInBounds_toArray, List.set_cons_zero, List.set_cons_succ, i64_w, i32_w]
                          rfl
                        refine pure_ (i := 12) (N := some 52) (v := undef) (a' := ?_) #[true, true, true, true, true, true, true, true, true, true, true, true, true, false, false, false, false, false] rfl rfl (any_of HT_.out (by kernel_rfl)) (fun _ _ _ h => h) (Or.inr ⟨by rfl, rfl⟩) ?_ ?_
                        rotate_left
                        · simp only [Act.put, List.setIfInBounds_toArray, List.set_cons_zero, List.set_cons_succ, i64_w, i32_w]
                          rfl
                        refine pure_ (i := 13) (N := some 53) (v := undef) (a' := ?_) #[true, true, true, true, true, true, true, true, true, true, true, true, true, true, false, false, false, false] rfl rfl (any_of HT_.out (by kernel_rfl)) (fun _ _ _ h => h) (Or.inr ⟨by rfl, rfl⟩) ?_ ?_
                        rotate_left
                        · simp only [Act.put, List.setIfInBounds_toArray, List.set_cons_zero, List.set_cons_succ, i64_w, i32_w]
                          rfl
                        refine pure_ (i := 14) (N := some 54) (v := undef) (a' := ?_) #[true, true, true, true, true, true, true, true, true, true, true, true, true, true, true, false, false, false] rfl rfl (any_of HT_.out (by kernel_rfl)) (fun _ _ _ h => h) (Or.inr ⟨by rfl, rfl⟩) ?_ ?_
                        rotate_left
                        · simp only [Act.put, List.setIfInBounds_toArray, List.set_cons_zero, List.set_cons_succ, i64_w, i32_w]
                          rfl
                        refine pure_ (i := 15) (N := some 55) (v := undef) (a' := ?_) #[true, true, true, true, true, true, true, true, true, true, true, true, true, true, true, true, false, false] rfl rfl (any_of HT_.out (by kernel_rfl)) (fun _ _ _ h => h) (Or.inr ⟨by rfl, rfl⟩) ?_ ?_
                        rotate_left
                        · simp only [Act.put, List.setIfInBounds_toArray, List.set_cons_zero, List.set_cons_succ, i64_w, i32_w]
                          rfl
                        refine pure_ (i := 16) (N := some 56) (v := undef) (a' := ?_) #[true, true, true, true, true, true, true, true, true, true, true, true, true, true, true, true, true, false] rfl rfl (any_of HT_.out (by kernel_rfl)) (fun _ _ _ h => h) (Or.inr ⟨by rfl, rfl⟩) ?_ ?_
                        rotate_left
                        · simp only [Act.put, List.setIfInBounds_toArray, List.set_cons_zero, List.set_cons_succ, i64_w, i32_w]
                          rfl
                        refine pure_ (i := 17) (N := some 57) (v := ?_) (a' := ?_) #[true, true, true, true, true, true, true, true, true, true, true, true, true, true, true, true, true, true] rfl rfl (any_of HT_.out (by kernel_rfl)) (fun _ _ _ h => h) (Or.inl ⟨by rfl, ?_⟩) ?_ ?_
                        rotate_left
                        · intro w'
                          go_simp
                          with_reducible rfl
                        rotate_left
                        · simp only [Act.put, List.setIfInBounds_toArray, List.set_cons_zero, List.set_cons_succ, i64_w, i32_w]
                          rfl
                        refine done_ (done_of HT_.out (by kernel_rfl)) ?_
                        try go_wp2
                        go_ret
                        exact ⟨by first | rfl | (simp [errW_none, errW_some] <;> rfl) | (simp [*, errW_none, errW_some] <;> rfl), by repeat (first | (with_reducible first | exact HB.out | apply below_alloc | apply pw_below_drewN | apply below_drew1 | refine below_set ?_ GE244.out) | exact HB.out)⟩
                    · replace c17 := Bool.eq_false_iff.mpr c17
                      subst c17
                      have H1 : (some false) = some r := by rw [if_neg (show ¬ (false = true) by decide)] at H; exact H
                      clear H
                      have H := H1
                      clear H1
                      obtain rfl := Option.some.inj H
                      try go_wp2_with (first | ((with_reducible refine gate_callee (f := 14) rfl ?_); refine goesL_ (some 37) rfl rfl Tryd.func14 (by kernel_rfl) rfl #[.slice (some ad221) t217.length co10, .string x7_2] rfl (by (try simp only [List.map_toArray, List.map_cons, List.map_nil]); first | done | rfl | (simp only [List.length_drop, List.length_take]; rfl)) ?_; (with_reducible refine (tree_Find.calls _ _ t217 x7_2 t223 t224 t225 t226 t227 t228 t229 t232 t233 t234 t235 t236 t239 t240 t241 t242 false _ ?side1 ?side2 A16.out).mono ?_); (case side1 => repeat (first | exact (Kd.N_reads' HO_5.out).2.2 | (with_reducible refine Kd.C_alloc ?_ _) | (with_reducible refine Kd.C_drewN ?_ _) | (with_reducible refine Kd.C_drew ?_))); (case side2 => exact (Kd.N_reads' HO_5.out).2.1); rintro e w47 ⟨v230, v237, rfl, ho0, ho1, hb⟩; refine ⟨_, rfl, ?_⟩; have n0_ := Aside0.mk (Kd.N_mono (Kd.N_told (Kd.N_told (Kd.N_old (by (with_reducible repeat (first | apply Kd.N_alloc | apply Kd.N_drewN | apply Kd.N_drew)); exact HO_5.out) hb) (Kd.R_base ho0)) (Kd.R_base ho1)) (fun _ h_ => h_.1)); have n1_ := Aside0.mk (Kd.R_lower ho0 (below_size (by repeat (first | (with_reducible first | exact HB.out | apply below_alloc | apply pw_below_drewN | apply below_drew1) | exact HB.out)))); have n2_ := Aside0.mk (Kd.R_lower ho1 (below_size (by repeat (first | (with_reducible first | exact HB.out | apply below_alloc | apply pw_below_drewN | apply below_drew1) | exact HB.out)))); have n3_ := Aside0.mk (below_step (by repeat (first | (with_reducible first | exact HB.out | apply below_alloc | apply pw_below_drewN | apply below_drew1) | exact HB.out)) hb); clear HO_5; clear HB; have HO_5 := n0_; have HO231 := n1_; have HO238 := n2_; have HB := n3_; clear n0_ n1_ n2_ n3_; (try clear hb); (try clear hb2); (try clear hk); (try clear hi); (try clear ho0); (try clear ho1)) | ((with_reducible refine gate_dst (N := 8) rfl ?_); refine box_event ?hg (N := 8) ?hd (cs := #[.string (⟨#[]⟩ : ByteArray), .bool false, .int .i64 0, .int .i64 0, .int .i64 0, .int .i64 0, .slice none 0 0, .int .i64 0, .int .i64 0, .int .i64 0, .int .i64 0, .slice none 0 0, .int .i64 0, .int .i64 0, .int .i64 0, .int .i64 0]) (t := 32) ?hr ?_; (case hd => rfl); (case hg => rfl); (case hr => first | (go_simp; done) | (go_simp; rfl)); intro gb244 hg w48 hbox hb; have n0_ := Aside0.mk (Kd.N_below (Kd.N_elderB (by (with_reducible repeat (first | apply Kd.N_alloc | apply Kd.N_drewN | apply Kd.N_drew)); exact HO_5.out) gb244 (Nat.le_of_eq hg.symm)) hb); have n1_ := Aside0.mk (Kd.R_below (by (with_reducible repeat (first | apply Kd.R_alloc | apply Kd.R_drewN | apply Kd.R_drew)); exact HO231.out) hb); have n2_ := Aside0.mk (Kd.R_below (by (with_reducible repeat (first | apply Kd.R_alloc | apply Kd.R_drewN | apply Kd.R_drew)); exact HO238.out) hb); have n3_ := Aside0.mk (below_step (by repeat (first | (with_reducible first | exact HB.out | apply below_alloc | apply pw_below_drewN | apply below_drew1) | exact HB.out)) hb); have n4_ := Aside0.mk (hbox); have n5_ := Aside0.mk ((by rw [hg]; exact (below_size (by repeat (first | (with_reducible first | exact HB.out | apply below_alloc | apply pw_below_drewN | apply below_drew1) | exact HB.out))) : w.heap.size ≤ gb244)); have n6_ := Aside0.mk ((by rw [hg]; exact (below_size (by repeat (first | (with_reducible first | exact HB.out | apply below_alloc | apply pw_below_drewN | apply below_drew1) | exact HB.out))) : w.heap.size ≤ gb244)); clear HO_5; clear HO231; clear HO238; clear HB; have HO_5 := n0_; have HO231 := n1_; have HO238 := n2_; have HB := n3_; have BK244 := n4_; have GW244 := n5_; have GE244 := n6_; clear n0_ n1_ n2_ n3_ n4_ n5_ n6_; clear hb hbox hg; have hcz49_0 : w48.cell? ⟨gb244, 0, none⟩ = some (.string (⟨#[]⟩ : ByteArray)) := (blk_cell BK244.out 0).trans rfl; have hcz49_1 : w48.cell? ⟨gb244, 1, none⟩ = some (.bool false) := (blk_cell BK244.out 1).trans rfl; have hcz49_2 : w48.cell? ⟨gb244, 2, none⟩ = some (.int .i64 0) := (blk_cell BK244.out 2).trans rfl; have hcz49_3 : w48.cell? ⟨gb244, 3, none⟩ = some (.int .i64 0) := (blk_cell BK244.out 3).trans rfl; have hcz49_4 : w48.cell? ⟨gb244, 4, none⟩ = some (.int .i64 0) := (blk_cell BK244.out 4).trans rfl; have hcz49_5 : w48.cell? ⟨gb244, 5, none⟩ = some (.int .i64 0) := (blk_cell BK244.out 5).trans rfl; have hcz49_6 : w48.cell? ⟨gb244, 6, none⟩ = some (.slice none 0 0) := (blk_cell BK244.out 6).trans rfl; have hcz49_7 : w48.cell? ⟨gb244, 7, none⟩ = some (.int .i64 0) := (blk_cell BK244.out 7).trans rfl; have hcz49_8 : w48.cell? ⟨gb244, 8, none⟩ = some (.int .i64 0) := (blk_cell BK244.out 8).trans rfl; have hcz49_9 : w48.cell? ⟨gb244, 9, none⟩ = some (.int .i64 0) := (blk_cell BK244.out 9).trans rfl; have hcz49_10 : w48.cell? ⟨gb244, 10, none⟩ = some (.int .i64 0) := (blk_cell BK244.out 10).trans rfl; have hcz49_11 : w48.cell? ⟨gb244, 11, none⟩ = some (.slice none 0 0) := (blk_cell BK244.out 11).trans rfl; have hcz49_12 : w48.cell? ⟨gb244, 12, none⟩ = some (.int .i64 0) := (blk_cell BK244.out 12).trans rfl; have hcz49_13 : w48.cell? ⟨gb244, 13, none⟩ = some (.int .i64 0) := (blk_cell BK244.out 13).trans rfl; have hcz49_14 : w48.cell? ⟨gb244, 14, none⟩ = some (.int .i64 0) := (blk_cell BK244.out 14).trans rfl; have hcz49_15 : w48.cell? ⟨gb244, 15, none⟩ = some (.int .i64 0) := (blk_cell BK244.out 15).trans rfl; have hfz49_0 := blk_frozen BK244.out 0; have hfz49_1 := blk_frozen BK244.out 1; have hfz49_2 := blk_frozen BK244.out 2; have hfz49_3 := blk_frozen BK244.out 3; have hfz49_4 := blk_frozen BK244.out 4; have hfz49_5 := blk_frozen BK244.out 5; have hfz49_6 := blk_frozen BK244.out 6; have hfz49_7 := blk_frozen BK244.out 7; have hfz49_8 := blk_frozen BK244.out 8; have hfz49_9 := blk_frozen BK244.out 9; have hfz49_10 := blk_frozen BK244.out 10; have hfz49_11 := blk_frozen BK244.out 11; have hfz49_12 := blk_frozen BK244.out 12; have hfz49_13 := blk_frozen BK244.out 13; have hfz49_14 := blk_frozen BK244.out 14; have hfz49_15 := blk_frozen BK244.out 15; obtain ⟨Ao50, co50, eo50⟩ := Kd.R_slice HO231.out; subst eo50; obtain ⟨Ao51, co51, eo51⟩ := Kd.R_slice HO238.out; subst eo51))
                      have n0_ : Aside0 (Kd.N k32 32 ((((((((((((((((w48.setCell ⟨gb244, 0, none⟩ (.string t223)).setCell ⟨gb244, 1, none⟩ (.bool t224)).setCell ⟨gb244, 2, none⟩ (.int .i64 t225)).setCell ⟨gb244, 3, none⟩ (.int .i64 t226)).setCell ⟨gb244, 4, none⟩ (.int .i64 t227)).setCell ⟨gb244, 5, none⟩ (.int .i64 t228)).setCell ⟨gb244, 6, none⟩ (.slice Ao50 t229.length co50)).setCell ⟨gb244, 7, none⟩ (.int .i64 t232)).setCell ⟨gb244, 8, none⟩ (.int .i64 t233)).setCell ⟨gb244, 9, none⟩ (.int .i64 t234)).setCell ⟨gb244, 10, none⟩ (.int .i64 t235)).setCell ⟨gb244, 11, none⟩ (.slice Ao51 t236.length co51)).setCell ⟨gb244, 12, none⟩ (.int .i64 t239)).setCell ⟨gb244, 13, none⟩ (.int .i64 t240)).setCell ⟨gb244, 14, none⟩ (.int .i64 t241)).setCell ⟨gb244, 15, none⟩ (.int .i64 t242)) w.heap.size (fun k_ => some k_ ≠ (.slice Ao50 t229.length co50 : Value).ownBlock ∧ some k_ ≠ (.slice Ao51 t236.length co51 : Value).ownBlock ∧ k_ ≠ gb244) (.slice (some ad221) t217.length co10) t217) := ⟨by (with_reducible repeat (first | apply Kd.N_alloc | apply Kd.N_drewN | apply Kd.N_drew)); exact Kd.N_mono (Kd.N_far (p := ⟨gb244, 15, none⟩) (Kd.N_far (p := ⟨gb244, 14, none⟩) (Kd.N_far (p := ⟨gb244, 13, none⟩) (Kd.N_far (p := ⟨gb244, 12, none⟩) (Kd.N_far (p := ⟨gb244, 11, none⟩) (Kd.N_far (p := ⟨gb244, 10, none⟩) (Kd.N_far (p := ⟨gb244, 9, none⟩) (Kd.N_far (p := ⟨gb244, 8, none⟩) (Kd.N_far (p := ⟨gb244, 7, none⟩) (Kd.N_far (p := ⟨gb244, 6, none⟩) (Kd.N_far (p := ⟨gb244, 5, none⟩) (Kd.N_far (p := ⟨gb244, 4, none⟩) (Kd.N_far (p := ⟨gb244, 3, none⟩) (Kd.N_far (p := ⟨gb244, 2, none⟩) (Kd.N_far (p := ⟨gb244, 1, none⟩) (Kd.N_far (p := ⟨gb244, 0, none⟩) (Kd.N_mono HO_5.out (fun k_ hk => (⟨hk, hk.2⟩ : _ ∧ k_ ≠ gb244))) (fun _ hk => hk.2) (.string t223)) (fun _ hk => hk.2) (.bool t224)) (fun _ hk => hk.2) (.int .i64 t225)) (fun _ hk => hk.2) (.int .i64 t226)) (fun _ hk => hk.2) (.int .i64 t227)) (fun _ hk => hk.2) (.int .i64 t228)) (fun _ hk => hk.2) (.slice Ao50 t229.length co50)) (fun _ hk => hk.2) (.int .i64 t232)) (fun _ hk => hk.2) (.int .i64 t233)) (fun _ hk => hk.2) (.int .i64 t234)) (fun _ hk => hk.2) (.int .i64 t235)) (fun _ hk => hk.2) (.slice Ao51 t236.length co51)) (fun _ hk => hk.2) (.int .i64 t239)) (fun _ hk => hk.2) (.int .i64 t240)) (fun _ hk => hk.2) (.int .i64 t241)) (fun _ hk => hk.2) (.int .i64 t242)) (fun _ hk => ⟨hk.1.1.1.2, ⟨hk.1.1.2, hk.1.2⟩⟩)⟩
                      have n1_ : Aside0 (Kd.R k83 83 ((((((((((((((((w48.setCell ⟨gb244, 0, none⟩ (.string t223)).setCell ⟨gb244, 1, none⟩ (.bool t224)).setCell ⟨gb244, 2, none⟩ (.int .i64 t225)).setCell ⟨gb244, 3, none⟩ (.int .i64 t226)).setCell ⟨gb244, 4, none⟩ (.int .i64 t227)).setCell ⟨gb244, 5, none⟩ (.int .i64 t228)).setCell ⟨gb244, 6, none⟩ (.slice Ao50 t229.length co50)).setCell ⟨gb244, 7, none⟩ (.int .i64 t232)).setCell ⟨gb244, 8, none⟩ (.int .i64 t233)).setCell ⟨gb244, 9, none⟩ (.int .i64 t234)).setCell ⟨gb244, 10, none⟩ (.int .i64 t235)).setCell ⟨gb244, 11, none⟩ (.slice Ao51 t236.length co51)).setCell ⟨gb244, 12, none⟩ (.int .i64 t239)).setCell ⟨gb244, 13, none⟩ (.int .i64 t240)).setCell ⟨gb244, 14, none⟩ (.int .i64 t241)).setCell ⟨gb244, 15, none⟩ (.int .i64 t242)) w.heap.size (fun _ => True) (.slice Ao50 t229.length co50) t229) := ⟨by (with_reducible repeat (first | apply Kd.R_alloc | apply Kd.R_drewN | apply Kd.R_drew)); exact Kd.R_mono (Kd.R_far (p := ⟨gb244, 15, none⟩) (Kd.R_far (p := ⟨gb244, 14, none⟩) (Kd.R_far (p := ⟨gb244, 13, none⟩) (Kd.R_far (p := ⟨gb244, 12, none⟩) (Kd.R_far (p := ⟨gb244, 11, none⟩) (Kd.R_far (p := ⟨gb244, 10, none⟩) (Kd.R_far (p := ⟨gb244, 9, none⟩) (Kd.R_far (p := ⟨gb244, 8, none⟩) (Kd.R_far (p := ⟨gb244, 7, none⟩) (Kd.R_far (p := ⟨gb244, 6, none⟩) (Kd.R_far (p := ⟨gb244, 5, none⟩) (Kd.R_far (p := ⟨gb244, 4, none⟩) (Kd.R_far (p := ⟨gb244, 3, none⟩) (Kd.R_far (p := ⟨gb244, 2, none⟩) (Kd.R_far (p := ⟨gb244, 1, none⟩) (Kd.R_far (p := ⟨gb244, 0, none⟩) (Kd.R_types HO231.out BK244.out (by decide)) (fun _ hk => hk.2) (.string t223)) (fun _ hk => hk.2) (.bool t224)) (fun _ hk => hk.2) (.int .i64 t225)) (fun _ hk => hk.2) (.int .i64 t226)) (fun _ hk => hk.2) (.int .i64 t227)) (fun _ hk => hk.2) (.int .i64 t228)) (fun _ hk => hk.2) (.slice Ao50 t229.length co50)) (fun _ hk => hk.2) (.int .i64 t232)) (fun _ hk => hk.2) (.int .i64 t233)) (fun _ hk => hk.2) (.int .i64 t234)) (fun _ hk => hk.2) (.int .i64 t235)) (fun _ hk => hk.2) (.slice Ao51 t236.length co51)) (fun _ hk => hk.2) (.int .i64 t239)) (fun _ hk => hk.2) (.int .i64 t240)) (fun _ hk => hk.2) (.int .i64 t241)) (fun _ hk => hk.2) (.int .i64 t242)) (fun _ hk => trivial)⟩
                      have n2_ : Aside0 (Kd.R (Kd.int .i64) 2 ((((((((((((((((w48.setCell ⟨gb244, 0, none⟩ (.string t223)).setCell ⟨gb244, 1, none⟩ (.bool t224)).setCell ⟨gb244, 2, none⟩ (.int .i64 t225)).setCell ⟨gb244, 3, none⟩ (.int .i64 t226)).setCell ⟨gb244, 4, none⟩ (.int .i64 t227)).setCell ⟨gb244, 5, none⟩ (.int .i64 t228)).setCell ⟨gb244, 6, none⟩ (.slice Ao50 t229.length co50)).setCell ⟨gb244, 7, none⟩ (.int .i64 t232)).setCell ⟨gb244, 8, none⟩ (.int .i64 t233)).setCell ⟨gb244, 9, none⟩ (.int .i64 t234)).setCell ⟨gb244, 10, none⟩ (.int .i64 t235)).setCell ⟨gb244, 11, none⟩ (.slice Ao51 t236.length co51)).setCell ⟨gb244, 12, none⟩ (.int .i64 t239)).setCell ⟨gb244, 13, none⟩ (.int .i64 t240)).setCell ⟨gb244, 14, none⟩ (.int .i64 t241)).setCell ⟨gb244, 15, none⟩ (.int .i64 t242)) w.heap.size (fun _ => True) (.slice Ao51 t236.length co51) t236) := ⟨by (with_reducible repeat (first | apply Kd.R_alloc | apply Kd.R_drewN | apply Kd.R_drew)); exact Kd.R_mono (Kd.R_far (p := ⟨gb244, 15, none⟩) (Kd.R_far (p := ⟨gb244, 14, none⟩) (Kd.R_far (p := ⟨gb244, 13, none⟩) (Kd.R_far (p := ⟨gb244, 12, none⟩) (Kd.R_far (p := ⟨gb244, 11, none⟩) (Kd.R_far (p := ⟨gb244, 10, none⟩) (Kd.R_far (p := ⟨gb244, 9, none⟩) (Kd.R_far (p := ⟨gb244, 8, none⟩) (Kd.R_far (p := ⟨gb244, 7, none⟩) (Kd.R_far (p := ⟨gb244, 6, none⟩) (Kd.R_far (p := ⟨gb244, 5, none⟩) (Kd.R_far (p := ⟨gb244, 4, none⟩) (Kd.R_far (p := ⟨gb244, 3, none⟩) (Kd.R_far (p := ⟨gb244, 2, none⟩) (Kd.R_far (p := ⟨gb244, 1, none⟩) (Kd.R_far (p := ⟨gb244, 0, none⟩) (Kd.R_types HO238.out BK244.out (by decide)) (fun _ hk => hk.2) (.string t223)) (fun _ hk => hk.2) (.bool t224)) (fun _ hk => hk.2) (.int .i64 t225)) (fun _ hk => hk.2) (.int .i64 t226)) (fun _ hk => hk.2) (.int .i64 t227)) (fun _ hk => hk.2) (.int .i64 t228)) (fun _ hk => hk.2) (.slice Ao50 t229.length co50)) (fun _ hk => hk.2) (.int .i64 t232)) (fun _ hk => hk.2) (.int .i64 t233)) (fun _ hk => hk.2) (.int .i64 t234)) (fun _ hk => hk.2) (.int .i64 t235)) (fun _ hk => hk.2) (.slice Ao51 t236.length co51)) (fun _ hk => hk.2) (.int .i64 t239)) (fun _ hk => hk.2) (.int .i64 t240)) (fun _ hk => hk.2) (.int .i64 t241)) (fun _ hk => hk.2) (.int .i64 t242)) (fun _ hk => trivial)⟩
                      have n3_ : Aside0 (((((((((((((((((w48.setCell ⟨gb244, 0, none⟩ (.string t223)).setCell ⟨gb244, 1, none⟩ (.bool t224)).setCell ⟨gb244, 2, none⟩ (.int .i64 t225)).setCell ⟨gb244, 3, none⟩ (.int .i64 t226)).setCell ⟨gb244, 4, none⟩ (.int .i64 t227)).setCell ⟨gb244, 5, none⟩ (.int .i64 t228)).setCell ⟨gb244, 6, none⟩ (.slice Ao50 t229.length co50)).setCell ⟨gb244, 7, none⟩ (.int .i64 t232)).setCell ⟨gb244, 8, none⟩ (.int .i64 t233)).setCell ⟨gb244, 9, none⟩ (.int .i64 t234)).setCell ⟨gb244, 10, none⟩ (.int .i64 t235)).setCell ⟨gb244, 11, none⟩ (.slice Ao51 t236.length co51)).setCell ⟨gb244, 12, none⟩ (.int .i64 t239)).setCell ⟨gb244, 13, none⟩ (.int .i64 t240)).setCell ⟨gb244, 14, none⟩ (.int .i64 t241)).setCell ⟨gb244, 15, none⟩ (.int .i64 t242)).heap[gb244]? = some (.cells #[.string t223, .bool t224, .int .i64 t225, .int .i64 t226, .int .i64 t227, .int .i64 t228, .slice Ao50 t229.length co50, .int .i64 t232, .int .i64 t233, .int .i64 t234, .int .i64 t235, .slice Ao51 t236.length co51, .int .i64 t239, .int .i64 t240, .int .i64 t241, .int .i64 t242] 32 (0, 0))) := ⟨by (with_reducible repeat (first | refine blk_drewN ?_ _ | refine blk_drew ?_ | refine blk_alloc ?_ _)); refine blk_put (cs := #[.string t223, .bool t224, .int .i64 t225, .int .i64 t226, .int .i64 t227, .int .i64 t228, .slice Ao50 t229.length co50, .int .i64 t232, .int .i64 t233, .int .i64 t234, .int .i64 t235, .slice Ao51 t236.length co51, .int .i64 t239, .int .i64 t240, .int .i64 t241, .int .i64 0]) ?_ 15 _ rfl; (with_reducible repeat (first | refine blk_drewN ?_ _ | refine blk_drew ?_ | refine blk_alloc ?_ _)); refine blk_put (cs := #[.string t223, .bool t224, .int .i64 t225, .int .i64 t226, .int .i64 t227, .int .i64 t228, .slice Ao50 t229.length co50, .int .i64 t232, .int .i64 t233, .int .i64 t234, .int .i64 t235, .slice Ao51 t236.length co51, .int .i64 t239, .int .i64 t240, .int .i64 0, .int .i64 0]) ?_ 14 _ rfl; (with_reducible repeat (first | refine blk_drewN ?_ _ | refine blk_drew ?_ | refine blk_alloc ?_ _)); refine blk_put (cs := #[.string t223, .bool t224, .int .i64 t225, .int .i64 t226, .int .i64 t227, .int .i64 t228, .slice Ao50 t229.length co50, .int .i64 t232, .int .i64 t233, .int .i64 t234, .int .i64 t235, .slice Ao51 t236.length co51, .int .i64 t239, .int .i64 0, .int .i64 0, .int .i64 0]) ?_ 13 _ rfl; (with_reducible repeat (first | refine blk_drewN ?_ _ | refine blk_drew ?_ | refine blk_alloc ?_ _)); refine blk_put (cs := #[.string t223, .bool t224, .int .i64 t225, .int .i64 t226, .int .i64 t227, .int .i64 t228, .slice Ao50 t229.length co50, .int .i64 t232, .int .i64 t233, .int .i64 t234, .int .i64 t235, .slice Ao51 t236.length co51, .int .i64 0, .int .i64 0, .int .i64 0, .int .i64 0]) ?_ 12 _ rfl; (with_reducible repeat (first | refine blk_drewN ?_ _ | refine blk_drew ?_ | refine blk_alloc ?_ _)); refine blk_put (cs := #[.string t223, .bool t224, .int .i64 t225, .int .i64 t226, .int .i64 t227, .int .i64 t228, .slice Ao50 t229.length co50, .int .i64 t232, .int .i64 t233, .int .i64 t234, .int .i64 t235, .slice none 0 0, .int .i64 0, .int .i64 0, .int .i64 0, .int .i64 0]) ?_ 11 _ rfl; (with_reducible repeat (first | refine blk_drewN ?_ _ | refine blk_drew ?_ | refine blk_alloc ?_ _)); refine blk_put (cs := #[.string t223, .bool t224, .int .i64 t225, .int .i64 t226, .int .i64 t227, .int .i64 t228, .slice Ao50 t229.length co50, .int .i64 t232, .int .i64 t233, .int .i64 t234, .int .i64 0, .slice none 0 0, .int .i64 0, .int .i64 0, .int .i64 0, .int .i64 0]) ?_ 10 _ rfl; (with_reducible repeat (first | refine blk_drewN ?_ _ | refine blk_drew ?_ | refine blk_alloc ?_ _)); refine blk_put (cs := #[.string t223, .bool t224, .int .i64 t225, .int .i64 t226, .int .i64 t227, .int .i64 t228, .slice Ao50 t229.length co50, .int .i64 t232, .int .i64 t233, .int .i64 0, .int .i64 0, .slice none 0 0, .int .i64 0, .int .i64 0, .int .i64 0, .int .i64 0]) ?_ 9 _ rfl; (with_reducible repeat (first | refine blk_drewN ?_ _ | refine blk_drew ?_ | refine blk_alloc ?_ _)); refine blk_put (cs := #[.string t223, .bool t224, .int .i64 t225, .int .i64 t226, .int .i64 t227, .int .i64 t228, .slice Ao50 t229.length co50, .int .i64 t232, .int .i64 0, .int .i64 0, .int .i64 0, .slice none 0 0, .int .i64 0, .int .i64 0, .int .i64 0, .int .i64 0]) ?_ 8 _ rfl; (with_reducible repeat (first | refine blk_drewN ?_ _ | refine blk_drew ?_ | refine blk_alloc ?_ _)); refine blk_put (cs := #[.string t223, .bool t224, .int .i64 t225, .int .i64 t226, .int .i64 t227, .int .i64 t228, .slice Ao50 t229.length co50, .int .i64 0, .int .i64 0, .int .i64 0, .int .i64 0, .slice none 0 0, .int .i64 0, .int .i64 0, .int .i64 0, .int .i64 0]) ?_ 7 _ rfl; (with_reducible repeat (first | refine blk_drewN ?_ _ | refine blk_drew ?_ | refine blk_alloc ?_ _)); refine blk_put (cs := #[.string t223, .bool t224, .int .i64 t225, .int .i64 t226, .int .i64 t227, .int .i64 t228, .slice none 0 0, .int .i64 0, .int .i64 0, .int .i64 0, .int .i64 0, .slice none 0 0, .int .i64 0, .int .i64 0, .int .i64 0, .int .i64 0]) ?_ 6 _ rfl; (with_reducible repeat (first | refine blk_drewN ?_ _ | refine blk_drew ?_ | refine blk_alloc ?_ _)); refine blk_put (cs := #[.string t223, .bool t224, .int .i64 t225, .int .i64 t226, .int .i64 t227, .int .i64 0, .slice none 0 0, .int .i64 0, .int .i64 0, .int .i64 0, .int .i64 0, .slice none 0 0, .int .i64 0, .int .i64 0, .int .i64 0, .int .i64 0]) ?_ 5 _ rfl; (with_reducible repeat (first | refine blk_drewN ?_ _ | refine blk_drew ?_ | refine blk_alloc ?_ _)); refine blk_put (cs := #[.string t223, .bool t224, .int .i64 t225, .int .i64 t226, .int .i64 0, .int .i64 0, .slice none 0 0, .int .i64 0, .int .i64 0, .int .i64 0, .int .i64 0, .slice none 0 0, .int .i64 0, .int .i64 0, .int .i64 0, .int .i64 0]) ?_ 4 _ rfl; (with_reducible repeat (first | refine blk_drewN ?_ _ | refine blk_drew ?_ | refine blk_alloc ?_ _)); refine blk_put (cs := #[.string t223, .bool t224, .int .i64 t225, .int .i64 0, .int .i64 0, .int .i64 0, .slice none 0 0, .int .i64 0, .int .i64 0, .int .i64 0, .int .i64 0, .slice none 0 0, .int .i64 0, .int .i64 0, .int .i64 0, .int .i64 0]) ?_ 3 _ rfl; (with_reducible repeat (first | refine blk_drewN ?_ _ | refine blk_drew ?_ | refine blk_alloc ?_ _)); refine blk_put (cs := #[.string t223, .bool t224, .int .i64 0, .int .i64 0, .int .i64 0, .int .i64 0, .slice none 0 0, .int .i64 0, .int .i64 0, .int .i64 0, .int .i64 0, .slice none 0 0, .int .i64 0, .int .i64 0, .int .i64 0, .int .i64 0]) ?_ 2 _ rfl; (with_reducible repeat (first | refine blk_drewN ?_ _ | refine blk_drew ?_ | refine blk_alloc ?_ _)); refine blk_put (cs := #[.string t223, .bool false, .int .i64 0, .int .i64 0, .int .i64 0, .int .i64 0, .slice none 0 0, .int .i64 0, .int .i64 0, .int .i64 0, .int .i64 0, .slice none 0 0, .int .i64 0, .int .i64 0, .int .i64 0, .int .i64 0]) ?_ 1 _ rfl; (with_reducible repeat (first | refine blk_drewN ?_ _ | refine blk_drew ?_ | refine blk_alloc ?_ _)); refine blk_put (cs := #[.string (⟨#[]⟩ : ByteArray), .bool false, .int .i64 0, .int .i64 0, .int .i64 0, .int .i64 0, .slice none 0 0, .int .i64 0, .int .i64 0, .int .i64 0, .int .i64 0, .slice none 0 0, .int .i64 0, .int .i64 0, .int .i64 0, .int .i64 0]) ?_ 0 _ rfl; (with_reducible repeat (first | refine blk_drewN ?_ _ | refine blk_drew ?_ | refine blk_alloc ?_ _)); exact BK244.out⟩
                      have n4_ : Aside0 (Below w.heap.size w ((((((((((((((((w48.setCell ⟨gb244, 0, none⟩ (.string t223)).setCell ⟨gb244, 1, none⟩ (.bool t224)).setCell ⟨gb244, 2, none⟩ (.int .i64 t225)).setCell ⟨gb244, 3, none⟩ (.int .i64 t226)).setCell ⟨gb244, 4, none⟩ (.int .i64 t227)).setCell ⟨gb244, 5, none⟩ (.int .i64 t228)).setCell ⟨gb244, 6, none⟩ (.slice Ao50 t229.length co50)).setCell ⟨gb244, 7, none⟩ (.int .i64 t232)).setCell ⟨gb244, 8, none⟩ (.int .i64 t233)).setCell ⟨gb244, 9, none⟩ (.int .i64 t234)).setCell ⟨gb244, 10, none⟩ (.int .i64 t235)).setCell ⟨gb244, 11, none⟩ (.slice Ao51 t236.length co51)).setCell ⟨gb244, 12, none⟩ (.int .i64 t239)).setCell ⟨gb244, 13, none⟩ (.int .i64 t240)).setCell ⟨gb244, 14, none⟩ (.int .i64 t241)).setCell ⟨gb244, 15, none⟩ (.int .i64 t242))) := ⟨by repeat (first | (with_reducible first | exact HB.out | apply below_alloc | apply pw_below_drewN | apply below_drew1 | refine below_set ?_ GE244.out) | exact HB.out)⟩
                      (try clear HO_5)
                      (try clear HO231)
                      (try clear HO238)
                      (try clear BK244)
                      (try clear HB)
                      generalize ((((((((((((((((w48.setCell ⟨gb244, 0, none⟩ (.string t223)).setCell ⟨gb244, 1, none⟩ (.bool t224)).setCell ⟨gb244, 2, none⟩ (.int .i64 t225)).setCell ⟨gb244, 3, none⟩ (.int .i64 t226)).setCell ⟨gb244, 4, none⟩ (.int .i64 t227)).setCell ⟨gb244, 5, none⟩ (.int .i64 t228)).setCell ⟨gb244, 6, none⟩ (.slice Ao50 t229.length co50)).setCell ⟨gb244, 7, none⟩ (.int .i64 t232)).setCell ⟨gb244, 8, none⟩ (.int .i64 t233)).setCell ⟨gb244, 9, none⟩ (.int .i64 t234)).setCell ⟨gb244, 10, none⟩ (.int .i64 t235)).setCell ⟨gb244, 11, none⟩ (.slice Ao51 t236.length co51)).setCell ⟨gb244, 12, none⟩ (.int .i64 t239)).setCell ⟨gb244, 13, none⟩ (.int .i64 t240)).setCell ⟨gb244, 14, none⟩ (.int .i64 t241)).setCell ⟨gb244, 15, none⟩ (.int .i64 t242)) = w52 at n0_ n1_ n2_ n3_ n4_ ⊢
                      have HO_5 := n0_
                      have HO231 := n1_
                      have HO238 := n2_
                      have BK244 := n3_
                      have HB := n4_
                      clear n0_ n1_ n2_ n3_ n4_
                      have n0_ := Aside0.mk (Kd.N_drew HO_5.out)
                      have n1_ := Aside0.mk (Kd.R_drew HO231.out)
                      have n2_ := Aside0.mk (Kd.R_drew HO238.out)
                      have n3_ := Aside0.mk (blk_drew BK244.out)
                      have n4_ := Aside0.mk (below_drew1 HB.out)
                      clear HO_5
                      clear HO231
                      clear HO238
                      clear BK244
                      clear HB
                      have HO_5 := n0_
                      have HO231 := n1_
                      have HO238 := n2_
                      have BK244 := n3_
                      have HB := n4_
                      clear n0_ n1_ n2_ n3_ n4_
                      refine start_ (n := 18) (S := fun w' => True) (ds := []) #[false, false, false, false, false, false, false, false, false, false, false, false, false, false, false, false, false, false] (by kernel_rfl) rfl rfl trivial (fun hHeld => ?_); refine with_tabW donjonlaw11_TreeRises.tab13 donjonlaw11_TreeRises.bits13 (fun HT_ HW_ => ?_)
                      generalize w52.drew = w53 at HO_5 HO231 HO238 BK244 HB hHeld ⊢
                      refine pure_ (i := 0) (N := some 40) (v := ?_) (a' := ?_) #[true, false, false, false, false, false, false, false, false, false, false, false, false, false, false, false, false, false] rfl rfl (any_of HT_.out (by kernel_rfl)) (fun _ _ _ h => h) (Or.inl ⟨by rfl, ?_⟩) ?_ ?_
                      rotate_left
                      · intro w'
                        go_simp
                        with_reducible rfl
                      rotate_left
                      · simp only [Act.put, List.setIfInBounds_toArray, List.set_cons_zero, List.set_cons_succ, i64_w, i32_w]
                        rfl
                      refine pure_ (i := 1) (N := some 41) (v := ?_) (a' := ?_) #[true, true, false, false, false, false, false, false, false, false, false, false, false, false, false, false, false, false] rfl rfl (any_of HT_.out (by kernel_rfl)) (fun _ _ _ h => h) (Or.inl ⟨by rfl, ?_⟩) ?_ ?_
                      rotate_left
                      · intro w'
                        go_simp
                        with_reducible rfl
                      rotate_left
                      · simp only [Act.put, List.setIfInBounds_toArray, List.set_cons_zero, List.set_cons_succ, i64_w, i32_w]
                        rfl
                      refine pure_ (i := 2) (N := some 42) (v := ?_) (a' := ?_) #[true, true, true, false, false, false, false, false, false, false, false, false, false, false, false, false, false, false] rfl rfl (any_of HT_.out (by kernel_rfl)) (fun _ _ _ h => h) (Or.inl ⟨by rfl, ?_⟩) ?_ ?_
                      rotate_left
                      · intro w'
                        go_simp
                        with_reducible rfl
                      rotate_left
                      · simp only [Act.put, List.setIfInBounds_toArray, List.set_cons_zero, List.set_cons_succ, i64_w, i32_w]
                        rfl
                      refine pure_ (i := 3) (N := some 43) (v := undef) (a' := ?_) #[true, true, true, true, false, false, false, false, false, false, false, false, false, false, false, false, false, false] rfl rfl (any_of HT_.out (by kernel_rfl)) (fun _ _ _ h => h) (Or.inr ⟨by rfl, rfl⟩) ?_ ?_
                      rotate_left
                      · simp only [Act.put, List.setIfInBounds_toArray, List.set_cons_zero, List.set_cons_succ, i64_w, i32_w]
                        rfl
                      refine pure_ (i := 4) (N := some 44) (v := undef) (a' := ?_) #[true, true, true, true, true, false, false, false, false, false, false, false, false, false, false, false, false, false] rfl rfl (any_of HT_.out (by kernel_rfl)) (fun _ _ _ h => h) (Or.inr ⟨by rfl, rfl⟩) ?_ ?_
                      rotate_left
                      · simp only [Act.put, List.setIfInBounds_toArray, List.set_cons_zero, List.set_cons_succ, i64_w, i32_w]
                        rfl
                      refine pure_ (i := 5) (N := some 45) (v := undef) (a' := ?_) #[true, true, true, true, true, true, false, false, false, false, false, false, false, false, false, false, false, false] rfl rfl (any_of HT_.out (by kernel_rfl)) (fun _ _ _ h => h) (Or.inr ⟨by rfl, rfl⟩) ?_ ?_
                      rotate_left
                      · simp only [Act.put, List.setIfInBounds_toArray, List.set_cons_zero, List.set_cons_succ, i64_w, i32_w]
                        rfl
                      refine pure_ (i := 6) (N := some 46) (v := ?_) (a' := ?_) #[true, true, true, true, true, true, true, false, false, false, false, false, false, false, false, false, false, false] rfl rfl (any_of HT_.out (by kernel_rfl)) (fun _ _ _ h => h) (Or.inl ⟨by rfl, ?_⟩) ?_ ?_
                      rotate_left
                      · intro w'
                        go_simp
                        with_reducible rfl
                      rotate_left
                      · simp only [Act.put, List.setIfInBounds_toArray, List.set_cons_zero, List.set_cons_succ, i64_w, i32_w]
                        rfl
                      refine pure_ (i := 7) (N := some 47) (v := ?_) (a' := ?_) #[true, true, true, true, true, true, true, true, false, false, false, false, false, false, false, false, false, false] rfl rfl (any_of HT_.out (by kernel_rfl)) (fun _ _ _ h => h) (Or.inl ⟨by rfl, ?_⟩) ?_ ?_
                      rotate_left
                      · intro w'
                        go_simp
                        with_reducible rfl
                      rotate_left
                      · simp only [Act.put, List.setIfInBounds_toArray, List.set_cons_zero, List.set_cons_succ, i64_w, i32_w]
                        rfl
                      refine pure_ (i := 8) (N := some 48) (v := undef) (a' := ?_) #[true, true, true, true, true, true, true, true, true, false, false, false, false, false, false, false, false, false] rfl rfl (any_of HT_.out (by kernel_rfl)) (fun _ _ _ h => h) (Or.inr ⟨by rfl, rfl⟩) ?_ ?_
                      rotate_left
                      · simp only [Act.put, List.setIfInBounds_toArray, List.set_cons_zero, List.set_cons_succ, i64_w, i32_w]
                        rfl
                      refine pure_ (i := 9) (N := some 49) (v := undef) (a' := ?_) #[true, true, true, true, true, true, true, true, true, true, false, false, false, false, false, false, false, false] rfl rfl (any_of HT_.out (by kernel_rfl)) (fun _ _ _ h => h) (Or.inr ⟨by rfl, rfl⟩) ?_ ?_
                      rotate_left
                      · simp only [Act.put, List.setIfInBounds_toArray, List.set_cons_zero, List.set_cons_succ, i64_w, i32_w]
                        rfl
                      refine pure_ (i := 10) (N := some 50) (v := undef) (a' := ?_) #[true, true, true, true, true, true, true, true, true, true, true, false, false, false, false, false, false, false] rfl rfl (any_of HT_.out (by kernel_rfl)) (fun _ _ _ h => h) (Or.inr ⟨by rfl, rfl⟩) ?_ ?_
                      rotate_left
                      · simp only [Act.put, List.setIfInBounds_toArray, List.set_cons_zero, List.set_cons_succ, i64_w, i32_w]
                        rfl
                      refine pure_ (i := 11) (N := some 51) (v := undef) (a' := ?_) #[true, true, true, true, true, true, true, true, true, true, true, true, false, false, false, false, false, false] rfl rfl (any_of HT_.out (by kernel_rfl)) (fun _ _ _ h => h) (Or.inr ⟨by rfl, rfl⟩) ?_ ?_
                      rotate_left
                      · simp only [Act.put, List.setIfInBounds_toArray, List.set_cons_zero, List.set_cons_succ, i64_w, i32_w]
                        rfl
                      refine pure_ (i := 12) (N := some 52) (v := undef) (a' := ?_) #[true, true, true, true, true, true, true, true, true, true, true, true, true, false, false, false, false, false] rfl rfl (any_of HT_.out (by kernel_rfl)) (fun _ _ _ h => h) (Or.inr ⟨by rfl, rfl⟩) ?_ ?_
                      rotate_left
                      · simp only [Act.put, List.setIfInBounds_toArray, List.set_cons_zero, List.set_cons_succ, i64_w, i32_w]
                        rfl
                      refine pure_ (i := 13) (N := some 53) (v := undef) (a' := ?_) #[true, true, true, true, true, true, true, true, true, true, true, true, true, true, false, false, false, false] rfl rfl (any_of HT_.out (by kernel_rfl)) (fun _ _ _ h => h) (Or.inr ⟨by rfl, rfl⟩) ?_ ?_
                      rotate_left
                      · simp only [Act.put, List.setIfInBounds_toArray, List.set_cons_zero, List.set_cons_succ, i64_w, i32_w]
                        rfl
                      refine pure_ (i := 14) (N := some 54) (v := undef) (a' := ?_) #[true, true, true, true, true, true, true, true, true, true, true, true, true, true, true, false, false, false] rfl rfl (any_of HT_.out (by kernel_rfl)) (fun _ _ _ h => h) (Or.inr ⟨by rfl, rfl⟩) ?_ ?_
                      rotate_left
                      · simp only [Act.put, List.setIfInBounds_toArray, List.set_cons_zero, List.set_cons_succ, i64_w, i32_w]
                        rfl
                      refine pure_ (i := 15) (N := some 55) (v := undef) (a' := ?_) #[true, true, true, true, true, true, true, true, true, true, true, true, true, true, true, true, false, false] rfl rfl (any_of HT_.out (by kernel_rfl)) (fun _ _ _ h => h) (Or.inr ⟨by rfl, rfl⟩) ?_ ?_
                      rotate_left
                      · simp only [Act.put, List.setIfInBounds_toArray, List.set_cons_zero, List.set_cons_succ, i64_w, i32_w]
                        rfl
                      refine pure_ (i := 16) (N := some 56) (v := undef) (a' := ?_) #[true, true, true, true, true, true, true, true, true, true, true, true, true, true, true, true, true, false] rfl rfl (any_of HT_.out (by kernel_rfl)) (fun _ _ _ h => h) (Or.inr ⟨by rfl, rfl⟩) ?_ ?_
                      rotate_left
                      · simp only [Act.put, List.setIfInBounds_toArray, List.set_cons_zero, List.set_cons_succ, i64_w, i32_w]
                        rfl
                      refine pure_ (i := 17) (N := some 57) (v := ?_) (a' := ?_) #[true, true, true, true, true, true, true, true, true, true, true, true, true, true, true, true, true, true] rfl rfl (any_of HT_.out (by kernel_rfl)) (fun _ _ _ h => h) (Or.inl ⟨by rfl, ?_⟩) ?_ ?_
                      rotate_left
                      · intro w'
                        go_simp
                        with_reducible rfl
                      rotate_left
                      · simp only [Act.put, List.setIfInBounds_toArray, List.set_cons_zero, List.set_cons_succ, i64_w, i32_w]
                        rfl
                      refine done_ (done_of HT_.out (by kernel_rfl)) ?_
                      try go_wp2
                      go_ret
                      exact ⟨by first | rfl | (simp [errW_none, errW_some] <;> rfl) | (simp [*, errW_none, errW_some] <;> rfl), by repeat (first | (with_reducible first | exact HB.out | apply below_alloc | apply pw_below_drewN | apply below_drew1 | refine below_set ?_ GE244.out) | exact HB.out)⟩
            · rw [if_neg c13] at H
              exact absurd H (by simp)
          · rw [if_neg c12] at H
            have c12b0 : decide (x6_1 < (t217.length : Int)) = false := decide_eq_false c12
            clear c12
            obtain rfl := Option.some.inj H
            go_wp2
            go_ret
            exact ⟨by first | rfl | (simp [errW_none, errW_some] <;> rfl) | (simp [*, errW_none, errW_some] <;> rfl), by repeat (first | (with_reducible first | exact HB.out | apply below_alloc | apply pw_below_drewN | apply below_drew1) | exact HB.out)⟩
    · rw [if_neg c7] at H
      have c7b0 : (t220 == 0) = false := beq_eq_false_iff_ne.mpr c7
      have c7b1 : (t220 != 0) = true := bne_iff_ne.mpr c7
      obtain rfl := Option.some.inj H
      go_enter Tryd.func5, Tryd.ntmps5
      go_wp2_with (first | ((with_reducible refine gate_callee (f := 8) rfl ?_); refine goesL_ (some 10) rfl rfl Tryd.func8 (by kernel_rfl) rfl #[] rfl (by (try simp only [List.map_toArray, List.map_cons, List.map_nil]); first | done | rfl | (simp only [List.length_drop, List.length_take]; rfl)) ?_; (with_reducible refine (donjonlaw11_known.calls  true _ A3.out).mono ?_); rintro e w54 ⟨rfl, hb⟩; refine ⟨_, rfl, ?_⟩; have n0_ := Aside0.mk (below_step (by repeat (first | (with_reducible first | exact HB.out | apply below_alloc | apply pw_below_drewN | apply below_drew1) | exact HB.out)) hb); clear HB; have HB := n0_; clear n0_; (try clear hb); (try clear hb2); (try clear hk); (try clear hi)) | ((with_reducible refine gate_callee (f := 11) rfl ?_); refine goesL_ (some 14) rfl rfl Tryd.func11 (by kernel_rfl) rfl #[.slice A0 l0.length c0, .slice A1 l1.length c1] rfl (by (try simp only [List.map_toArray, List.map_cons, List.map_nil]); first | done | rfl | (simp only [List.length_drop, List.length_take]; rfl)) ?_; (with_reducible refine (donjonlaw11_Grow.calls _ _ l0 _ _ l1 t217 _ ?side1 ?side2 ?side3 ?side4 A5.out).mono ?_); (case side1 => repeat (first | exact (Kd.C_below HR0.out HB.out) | (with_reducible refine Kd.C_alloc ?_ _) | (with_reducible refine Kd.C_drewN ?_ _) | (with_reducible refine Kd.C_drew ?_))); (case side2 => exact HC0.out); (case side3 => repeat (first | exact (Kd.C_below HR1.out HB.out) | (with_reducible refine Kd.C_alloc ?_ _) | (with_reducible refine Kd.C_drewN ?_ _) | (with_reducible refine Kd.C_drew ?_))); (case side4 => exact HC1.out); rintro e w55 ⟨v218, rfl, ho0, hb⟩; refine ⟨_, rfl, ?_⟩; have n0_ := Aside0.mk (Kd.N_lower (Kd.N_mono (ok' := fun k_ => True) ho0 (fun k_ hk_ => trivial)) (below_size (by repeat (first | (with_reducible first | exact HB.out | apply below_alloc | apply pw_below_drewN | apply below_drew1) | exact HB.out)))); have n1_ := Aside0.mk (below_step (by repeat (first | (with_reducible first | exact HB.out | apply below_alloc | apply pw_below_drewN | apply below_drew1) | exact HB.out)) hb); clear HB; have HO219 := n0_; have HB := n1_; clear n0_ n1_; (try clear hb); (try clear hb2); (try clear hk); (try clear hi); (try clear ho0); obtain ⟨Ao56, co56, eo56⟩ := Kd.N_slice HO219.out; subst eo56) | ((with_reducible refine gate_callee (f := 9) rfl ?_); refine goesL_ (some 16) rfl rfl Tryd.func9 (by kernel_rfl) rfl #[.slice Ao56 t217.length co56] rfl (by (try simp only [List.map_toArray, List.map_cons, List.map_nil]); first | done | rfl | (simp only [List.length_drop, List.length_take]; rfl)) ?_; (with_reducible refine (tree_Check.calls _ _ t217 t220 _ ?side1 ?side2 A6.out).mono ?_); (case side1 => repeat (first | exact (Kd.N_reads' HO219.out).2.2 | (with_reducible refine Kd.C_alloc ?_ _) | (with_reducible refine Kd.C_drewN ?_ _) | (with_reducible refine Kd.C_drew ?_))); (case side2 => exact (Kd.N_reads' HO219.out).2.1); rintro e w57 ⟨rfl, hb⟩; refine ⟨_, rfl, ?_⟩; have n0_ := Aside0.mk (Kd.N_below (by (with_reducible repeat (first | apply Kd.N_alloc | apply Kd.N_drewN | apply Kd.N_drew)); exact HO219.out) hb); have n1_ := Aside0.mk (below_step (by repeat (first | (with_reducible first | exact HB.out | apply below_alloc | apply pw_below_drewN | apply below_drew1) | exact HB.out)) hb); clear HO219; clear HB; have HO219 := n0_; have HB := n1_; clear n0_ n1_; (try clear hb); (try clear hb2); (try clear hk); (try clear hi)))
      go_ret
      exact ⟨by first | rfl | (simp [errW_none, errW_some] <;> rfl) | (simp [*, errW_none, errW_some] <;> rfl), by repeat (first | (with_reducible first | exact HB.out | apply below_alloc | apply pw_below_drewN | apply below_drew1) | exact HB.out)⟩
  · replace c4 := Bool.eq_false_iff.mpr c4
    subst c4
    have H1 : (some false) = some r := by rw [if_neg (show ¬ (false = true) by decide)] at H; exact H
    clear H
    have H := H1
    clear H1
    obtain rfl := Option.some.inj H
    go_enter Tryd.func5, Tryd.ntmps5
    go_wp2_with (first | ((with_reducible refine gate_callee (f := 8) rfl ?_); refine goesL_ (some 10) rfl rfl Tryd.func8 (by kernel_rfl) rfl #[] rfl (by (try simp only [List.map_toArray, List.map_cons, List.map_nil]); first | done | rfl | (simp only [List.length_drop, List.length_take]; rfl)) ?_; (with_reducible refine (donjonlaw11_known.calls  false _ A3.out).mono ?_); rintro e w58 ⟨rfl, hb⟩; refine ⟨_, rfl, ?_⟩; have n0_ := Aside0.mk (below_step (by repeat (first | (with_reducible first | exact HB.out | apply below_alloc | apply pw_below_drewN | apply below_drew1) | exact HB.out)) hb); clear HB; have HB := n0_; clear n0_; (try clear hb); (try clear hb2); (try clear hk); (try clear hi)))
    go_ret
    exact ⟨by first | rfl | (simp [errW_none, errW_some] <;> rfl) | (simp [*, errW_none, errW_some] <;> rfl), by repeat (first | (with_reducible first | exact HB.out | apply below_alloc | apply pw_below_drewN | apply below_drew1) | exact HB.out)⟩
end Go.Proofs.YtpdflhgcdehmoaaDoor.T
