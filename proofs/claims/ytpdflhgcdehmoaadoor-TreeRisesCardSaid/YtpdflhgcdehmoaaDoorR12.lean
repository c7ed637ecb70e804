/- Part of the proof that TreeRises comes to true: printed and written texts, merged by a program. -/
import Derived.Test.YtpdflhgcdehmoaaDoorR3
namespace Go.Proofs.YtpdflhgcdehmoaaDoor.T
open Go.RowKit Go.Proofs.YtpdflhgcdehmoaaDoorW.PrintWords Go.Proofs.YtpdflhgcdehmoaaDoorW.PrintLast Go.Proofs.YtpdflhgcdehmoaaDoorW.PrintMore
attribute [local go_sem] max2_int min2_int max_two min_two max_three min_three max_four min_four
set_option linter.unusedVariables false
set_option linter.unusedSimpArgs false
def donjonref11_Drop.l0 : Nat → List (S32) → ByteArray → List (S32) → Int → Option ((List (S32)))
  | 0, _, _, _, _ => none
  | k + 1, x0, x1, x5, x6 => if x6 < (x0.length : Int) then (if 0 ≤ x6 then (if ((rd_T32 x0 x6).f0).toList = x1.toList then (donjonref11_Drop.l0 k x0 x1 x5 (wrap64 (x6 + 1))) else (if x5.length < 837723144972 then (donjonref11_Drop.l0 k x0 x1 (x5 ++ [(⟨(rd_T32 x0 x6).f0, (rd_T32 x0 x6).f1, (⟨(rd_T32 x0 x6).f2.f0, (rd_T32 x0 x6).f2.f1, (rd_T32 x0 x6).f2.f2, (rd_T32 x0 x6).f2.f3⟩ : S26), (rd_T32 x0 x6).f3, (⟨(rd_T32 x0 x6).f4.f0, (rd_T32 x0 x6).f4.f1, (rd_T32 x0 x6).f4.f2, (rd_T32 x0 x6).f4.f3⟩ : S29), (rd_T32 x0 x6).f5, (⟨(rd_T32 x0 x6).f6.f0, (rd_T32 x0 x6).f6.f1, (rd_T32 x0 x6).f6.f2, (rd_T32 x0 x6).f6.f3⟩ : S26)⟩ : S32)]) (wrap64 (x6 + 1))) else (none))) else (none)) else (some x5)
def donjonref11_Drop.f (k : Nat) (l0 : List (S32)) (a1 : ByteArray) : Option ((List (S32))) := donjonref11_Drop.l0 k l0 a1 ([] : List (S32)) 0
theorem donjonref11_Drop.mono_l : ∀ k, (∀ y0 y1 y2 y3, LeO (donjonref11_Drop.l0 k y0 y1 y2 y3) (donjonref11_Drop.l0 (k + 1) y0 y1 y2 y3))
  | 0 => fun _ _ _ _ r h => by simp [donjonref11_Drop.l0] at h
  | k + 1 => by
    have ih0 := donjonref11_Drop.mono_l k
    · intro y0 y1 y2 y3
      unfold donjonref11_Drop.l0
      repeat' first
      | (with_reducible exact ih0 _ _ _ _)
      | (with_reducible exact LeO.refl _)
      | (with_reducible exact LeO.none _)
      | (with_reducible refine LeO.ite ?_ ?_)
      | (with_reducible refine LeO.bind ?_ (fun _ => ?_))
      | exact ih0 _ _ _ _
      | exact LeO.none _
      | refine LeO.ite ?_ ?_
      | refine LeO.bind ?_ (fun _ => ?_)
theorem donjonref11_Drop.mono : ∀ a0 a1 k, LeO (donjonref11_Drop.f k a0 a1) (donjonref11_Drop.f (k + 1) a0 a1) := by
  intro a0 a1 k
  have ih0 := donjonref11_Drop.mono_l k
  unfold donjonref11_Drop.f
  repeat' first
      | (with_reducible exact ih0 _ _ _ _)
      | (with_reducible exact LeO.refl _)
      | (with_reducible exact LeO.none _)
      | (with_reducible refine LeO.ite ?_ ?_)
      | (with_reducible refine LeO.bind ?_ (fun _ => ?_))
      | exact ih0 _ _ _ _
      | exact LeO.none _
      | refine LeO.ite ?_ ?_
      | refine LeO.bind ?_ (fun _ => ?_)
set_option maxHeartbeats 8000000 in
set_option maxRecDepth 100000 in
theorem donjonref11_Drop.calls (k : Nat) (P0_ : Nat → Prop) (A0 : Option Addr) (c0 : Nat) (l0 : List (S32)) (a1 : ByteArray) (r : List (S32)) (w : World) (hs0 : Kd.V k32 32 w w.heap.size (fun k_ => P0_ k_) (.slice A0 l0.length c0) l0) (h : donjonref11_Drop.f k l0 a1 = some r) :
    Calls Tryd.prog 27 #[.slice A0 l0.length c0, .string a1] w fun e w' => ∃ v0_ : Value, e = .returned (v0_) ∧ Kd.N k32 32 w' w.heap.size (fun k_ => (P0_ k_ ∨ w.heap.size ≤ k_)) v0_ r ∧ Below w.heap.size w w' := by
  have hu32 := Tryd.underlying32
  have HO0 := Aside0.mk (show Kd.V k32 32 w w.heap.size (fun k_ => (P0_ k_ ∨ w.heap.size ≤ k_)) (.slice A0 l0.length c0) l0 from Kd.V_mono hs0 (fun k_ hk => .inl hk))
  have HB := Aside0.mk (Below.refl w.heap.size w)
  have H : (donjonref11_Drop.l0 k l0 a1 ([] : List (S32)) 0) = some r := h
  clear h
  have H' := Aside0.mk H
  clear H
  go_enter Tryd.func27, Tryd.ntmps27
  go_wp2
  go_loopg [5, 6] k (fun kq v5 v6 w' => ∃ (x5_1 : List (S32)) (x6_1 : Int), v6 = .int .i64 x6_1 ∧ Aside0 (donjonref11_Drop.l0 kq l0 a1 x5_1 x6_1 = some r) ∧ Aside0 (kq ≤ k) ∧ Aside0 (Kd.V k32 32 w' w.heap.size (fun k_ => (P0_ k_ ∨ w.heap.size ≤ k_) ∧ some k_ ≠ (v5 : Value).ownBlock) (.slice A0 l0.length c0) l0) ∧ Aside0 (Kd.N k32 32 w' w.heap.size (fun k_ => (P0_ k_ ∨ w.heap.size ≤ k_)) v5 x5_1) ∧ Aside0 (Below w.heap.size w w'))
  case atStart => exact ⟨(([] : List (S32))), (0), (by first | rfl | (simp; done) | (simp [*]; done)), H', ⟨Nat.le_refl _⟩, ⟨by (with_reducible repeat (first | apply Kd.V_alloc | apply Kd.V_drewN | apply Kd.V_drew)); exact Kd.V_mono HO0.out (fun _ hk => ⟨hk, (by simp [Value.ownBlock])⟩)⟩, ⟨by first | exact Kd.S_nil _ _ _ _ _ | exact Kd.N_nil _ _ _ _ _ | exact Kd.V_nil _ _ _ _ _ | exact Kd.Q_nil _ _ _ _ _ | exact Kd.R_nil _ _ _ _ _⟩, ⟨by repeat (first | (with_reducible first | exact HB.out | apply below_alloc | apply pw_below_drewN | apply below_drew1) | exact HB.out)⟩⟩
  case round =>
    clear H'
    try clear c2
    try clear p2
    obtain ⟨x5_1, x6_1, rfl, HA, HK1, HO_0, HO_5, HB⟩ := hrel
    cases gk with
    | zero => exact absurd HA.out (by simp [donjonref11_Drop.l0])
    | succ k1 =>
      have H := HA.out
      clear HA
      simp only [donjonref11_Drop.l0] at H
      by_cases c3 : x6_1 < (l0.length : Int)
      · rw [if_pos c3] at H
        have c3b0 : decide (x6_1 < (l0.length : Int)) = true := decide_eq_true c3
        clear c3
        by_cases c4 : 0 ≤ x6_1
        · rw [if_pos c4] at H
          have c4b0 : decide (0 ≤ x6_1) = true := decide_eq_true c4
          clear c4
          by_cases c5 : ((rd_T32 l0 x6_1).f0).toList = a1.toList
          · rw [if_pos c5] at H
            have c5b0 : (((rd_T32 l0 x6_1).f0).toList == a1.toList) = true := beq_iff_eq.mpr c5
            have c5b1 : (((rd_T32 l0 x6_1).f0).toList != a1.toList) = false := bne_eq_false_iff_eq.mpr c5
            clear c5
            have H' := Aside0.mk H
            clear H
            have p164 : 0 ≤ (x6_1 : Int) := of_decide_eq_true (by first | (with_reducible assumption) | assumption)
            have q164 : x6_1 < (l0.length : Int) := of_decide_eq_true (by first | (with_reducible assumption) | assumption)
            obtain ⟨ad164, A164_6, c164_6, A164_11, c164_11, e164, hx164_0, hx164_1, hx164_2, hx164_3, hx164_4, hx164_5, hx164_6, hx164_7, hx164_8, hx164_9, hx164_10, hx164_11, hx164_12, hx164_13, hx164_14, hx164_15, hl164_6, hi164_6, hl164_11, hi164_11⟩ := at_T32 (Kd.V_reads' HO_0.out).2.2 x6_1 p164 q164
            cases e164
            obtain ⟨ce164, hce164, hMe164, hcc164⟩ := Kd.V_get HO_0.out z32 x6_1 p164 (by first | exact q164 | exact of_decide_eq_true (by first | (with_reducible assumption) | assumption) | (have e_ := (Kd.V_reads' HO_0.out).1; omega))
            obtain ⟨ua164_6, uc164_6, ua164_11, uc164_11, rfl, ul164_6, ge164_6, ul164_11, ge164_11⟩ := k32_openF hMe164
            have hv164_6 := hcc164 6 _ rfl
            rw [add_field _ _ 6 (by omega)] at hv164_6
            replace hv164_6 := Option.some.inj (hv164_6.symm.trans hx164_6)
            injection hv164_6 with hva_ hvn_ hvc_
            rw [hva_] at ge164_6
            rw [hvc_] at ul164_6
            have HL164_6 := Aside0.mk (show Kd.V k83 83 _ w.heap.size _ _ ((rd_T32 l0 x6_1).f3) from Kd.V_mk ul164_6 ge164_6)
            clear hva_ hvn_ hvc_ ge164_6 ul164_6
            have hv164_11 := hcc164 11 _ rfl
            rw [add_field _ _ 11 (by omega)] at hv164_11
            replace hv164_11 := Option.some.inj (hv164_11.symm.trans hx164_11)
            injection hv164_11 with hva_ hvn_ hvc_
            rw [hva_] at ge164_11
            rw [hvc_] at ul164_11
            have HL164_11 := Aside0.mk (show Kd.V (Kd.int .i64) 2 _ w.heap.size _ _ ((rd_T32 l0 x6_1).f5) from Kd.V_mk ul164_11 ge164_11)
            clear hva_ hvn_ hvc_ ge164_11 ul164_11
            clear hcc164 hce164
            have HR164_6 := Aside0.mk hi164_6
            have HC164_6 := Aside0.mk hl164_6
            clear hi164_6 hl164_6
            have HR164_11 := Aside0.mk hi164_11
            have HC164_11 := Aside0.mk hl164_11
            clear hi164_11 hl164_11
            replace p164 := eq_true p164
            replace q164 := eq_true q164
            go_wp2
            go_roundg k1
            case measure => have := HK1.out; omega
            case rel => exact ⟨(x5_1), (wrap64 (x6_1 + 1)), (by first | rfl | (simp; done) | (simp [*]; done)), H', ⟨by have := HK1.out; omega⟩, ⟨by (with_reducible repeat (first | apply Kd.V_alloc | apply Kd.V_drewN | apply Kd.V_drew)); exact HO_0.out⟩, ⟨by (with_reducible repeat (first | apply Kd.N_alloc | apply Kd.N_drewN | apply Kd.N_drew)); exact HO_5.out⟩, ⟨by repeat (first | (with_reducible first | exact HB.out | apply below_alloc | apply pw_below_drewN | apply below_drew1) | exact HB.out)⟩⟩
          · rw [if_neg c5] at H
            have c5b0 : (((rd_T32 l0 x6_1).f0).toList == a1.toList) = false := beq_eq_false_iff_ne.mpr c5
            have c5b1 : (((rd_T32 l0 x6_1).f0).toList != a1.toList) = true := bne_iff_ne.mpr c5
            by_cases c6 : x5_1.length < 837723144972
            · rw [if_pos c6] at H
              have LMc6 := Aside0.mk c6
              clear c6
              obtain ⟨y166, hy166⟩ : ∃ y_ : List (S32), y_ = (x5_1 ++ [(⟨(rd_T32 l0 x6_1).f0, (rd_T32 l0 x6_1).f1, (⟨(rd_T32 l0 x6_1).f2.f0, (rd_T32 l0 x6_1).f2.f1, (rd_T32 l0 x6_1).f2.f2, (rd_T32 l0 x6_1).f2.f3⟩ : S26), (rd_T32 l0 x6_1).f3, (⟨(rd_T32 l0 x6_1).f4.f0, (rd_T32 l0 x6_1).f4.f1, (rd_T32 l0 x6_1).f4.f2, (rd_T32 l0 x6_1).f4.f3⟩ : S29), (rd_T32 l0 x6_1).f5, (⟨(rd_T32 l0 x6_1).f6.f0, (rd_T32 l0 x6_1).f6.f1, (rd_T32 l0 x6_1).f6.f2, (rd_T32 l0 x6_1).f6.f3⟩ : S26)⟩ : S32)]) := ⟨_, rfl⟩
              replace H : (donjonref11_Drop.l0 k1 l0 a1 y166 (wrap64 (x6_1 + 1))) = some r := by first | (rw [hy166]; with_reducible exact H) | (have H2_ := (Option.bind_some _ _).symm.trans H; rw [hy166]; with_reducible exact H2_) | (have H2_ := (Option.bind_some _ _).symm.trans H; with_reducible exact H2_) | with_reducible exact H | (rw [hy166]; exact H) | exact H
              have Ny166 := Aside0.mk hy166
              clear hy166
              have H' := Aside0.mk H
              clear H
              have p164 : 0 ≤ (x6_1 : Int) := of_decide_eq_true (by first | (with_reducible assumption) | assumption)
              have q164 : x6_1 < (l0.length : Int) := of_decide_eq_true (by first | (with_reducible assumption) | assumption)
              obtain ⟨ad164, A164_6, c164_6, A164_11, c164_11, e164, hx164_0, hx164_1, hx164_2, hx164_3, hx164_4, hx164_5, hx164_6, hx164_7, hx164_8, hx164_9, hx164_10, hx164_11, hx164_12, hx164_13, hx164_14, hx164_15, hl164_6, hi164_6, hl164_11, hi164_11⟩ := at_T32 (Kd.V_reads' HO_0.out).2.2 x6_1 p164 q164
              cases e164
              obtain ⟨ce164, hce164, hMe164, hcc164⟩ := Kd.V_get HO_0.out z32 x6_1 p164 (by first | exact q164 | exact of_decide_eq_true (by first | (with_reducible assumption) | assumption) | (have e_ := (Kd.V_reads' HO_0.out).1; omega))
              obtain ⟨ua164_6, uc164_6, ua164_11, uc164_11, rfl, ul164_6, ge164_6, ul164_11, ge164_11⟩ := k32_openF hMe164
              have hv164_6 := hcc164 6 _ rfl
              rw [add_field _ _ 6 (by omega)] at hv164_6
              replace hv164_6 := Option.some.inj (hv164_6.symm.trans hx164_6)
              injection hv164_6 with hva_ hvn_ hvc_
              rw [hva_] at ge164_6
              rw [hvc_] at ul164_6
              have HL164_6 := Aside0.mk (show Kd.V k83 83 _ w.heap.size _ _ ((rd_T32 l0 x6_1).f3) from Kd.V_mk ul164_6 ge164_6)
              clear hva_ hvn_ hvc_ ge164_6 ul164_6
              have hv164_11 := hcc164 11 _ rfl
              rw [add_field _ _ 11 (by omega)] at hv164_11
              replace hv164_11 := Option.some.inj (hv164_11.symm.trans hx164_11)
              injection hv164_11 with hva_ hvn_ hvc_
              rw [hva_] at ge164_11
              rw [hvc_] at ul164_11
              have HL164_11 := Aside0.mk (show Kd.V (Kd.int .i64) 2 _ w.heap.size _ _ ((rd_T32 l0 x6_1).f5) from Kd.V_mk ul164_11 ge164_11)
              clear hva_ hvn_ hvc_ ge164_11 ul164_11
              clear hcc164 hce164
              have HR164_6 := Aside0.mk hi164_6
              have HC164_6 := Aside0.mk hl164_6
              clear hi164_6 hl164_6
              have HR164_11 := Aside0.mk hi164_11
              have HC164_11 := Aside0.mk hl164_11
              clear hi164_11 hl164_11
              replace p164 := eq_true p164
              replace q164 := eq_true q164
              have p165 : 0 ≤ (x6_1 : Int) := of_decide_eq_true (by first | (with_reducible assumption) | assumption)
              have q165 : x6_1 < (l0.length : Int) := of_decide_eq_true (by first | (with_reducible assumption) | assumption)
              obtain ⟨ad165, A165_6, c165_6, A165_11, c165_11, e165, hx165_0, hx165_1, hx165_2, hx165_3, hx165_4, hx165_5, hx165_6, hx165_7, hx165_8, hx165_9, hx165_10, hx165_11, hx165_12, hx165_13, hx165_14, hx165_15, hl165_6, hi165_6, hl165_11, hi165_11⟩ := at_T32 (Kd.V_reads' HO_0.out).2.2 x6_1 p165 q165
              obtain rfl : ad164 = ad165 := (by injection e165)
              obtain ⟨ce165, hce165, hMe165, hcc165⟩ := Kd.V_get HO_0.out z32 x6_1 p165 (by first | exact q165 | exact of_decide_eq_true (by first | (with_reducible assumption) | assumption) | (have e_ := (Kd.V_reads' HO_0.out).1; omega))
              obtain ⟨ua165_6, uc165_6, ua165_11, uc165_11, rfl, ul165_6, ge165_6, ul165_11, ge165_11⟩ := k32_openF hMe165
              have hv165_6 := hcc165 6 _ rfl
              rw [add_field _ _ 6 (by omega)] at hv165_6
              replace hv165_6 := Option.some.inj (hv165_6.symm.trans hx165_6)
              injection hv165_6 with hva_ hvn_ hvc_
              rw [hva_] at ge165_6
              rw [hvc_] at ul165_6
              have HL165_6 := Aside0.mk (show Kd.V k83 83 _ w.heap.size _ _ ((rd_T32 l0 x6_1).f3) from Kd.V_mk ul165_6 ge165_6)
              clear hva_ hvn_ hvc_ ge165_6 ul165_6
              have hv165_11 := hcc165 11 _ rfl
              rw [add_field _ _ 11 (by omega)] at hv165_11
              replace hv165_11 := Option.some.inj (hv165_11.symm.trans hx165_11)
              injection hv165_11 with hva_ hvn_ hvc_
              rw [hva_] at ge165_11
              rw [hvc_] at ul165_11
              have HL165_11 := Aside0.mk (show Kd.V (Kd.int .i64) 2 _ w.heap.size _ _ ((rd_T32 l0 x6_1).f5) from Kd.V_mk ul165_11 ge165_11)
              clear hva_ hvn_ hvc_ ge165_11 ul165_11
              clear hcc165 hce165
              have HR165_6 := Aside0.mk hi165_6
              have HC165_6 := Aside0.mk hl165_6
              clear hi165_6 hl165_6
              have HR165_11 := Aside0.mk hi165_11
              have HC165_11 := Aside0.mk hl165_11
              clear hi165_11 hl165_11
              replace p165 := eq_true p165
              replace q165 := eq_true q165
              have ea_ := Option.some.inj (hx164_6.symm.trans hx165_6)
              injection ea_ with ea_ en_ ec_
              subst ea_
              subst ec_
              clear en_
              have ea_ := Option.some.inj (hx164_11.symm.trans hx165_11)
              injection ea_ with ea_ en_ ec_
              subst ea_
              subst ec_
              clear en_
              go_wp2_with (first | ((with_reducible refine gate_builtin (b := .append) (xs := #[.tmp 20, .tmp 25]) rfl ?_); at_builtin; refine Kd.N_append k32 (w0 := w) w.heap.size rfl (.tmp 20) (.tmp 25) 22 32 (.agg #[(.string ⟨#[]⟩), (.bool false), (.int .i64 0), (.int .i64 0), (.int .i64 0), (.int .i64 0), (.slice none 0 0), (.int .i64 0), (.int .i64 0), (.int .i64 0), (.int .i64 0), (.slice none 0 0), (.int .i64 0), (.int .i64 0), (.int .i64 0), (.int .i64 0)]) 168 rfl Tryd.underlying22 info32 rfl (by decide) (by omega) u5 x5_1 (⟨(rd_T32 l0 x6_1).f0, (rd_T32 l0 x6_1).f1, (⟨(rd_T32 l0 x6_1).f2.f0, (rd_T32 l0 x6_1).f2.f1, (rd_T32 l0 x6_1).f2.f2, (rd_T32 l0 x6_1).f2.f3⟩ : S26), (rd_T32 l0 x6_1).f3, (⟨(rd_T32 l0 x6_1).f4.f0, (rd_T32 l0 x6_1).f4.f1, (rd_T32 l0 x6_1).f4.f2, (rd_T32 l0 x6_1).f4.f3⟩ : S29), (rd_T32 l0 x6_1).f5, (⟨(rd_T32 l0 x6_1).f6.f0, (rd_T32 l0 x6_1).f6.f1, (rd_T32 l0 x6_1).f6.f2, (rd_T32 l0 x6_1).f6.f3⟩ : S26)⟩ : S32) [.string ((rd_T32 l0 x6_1).f0), .bool ((rd_T32 l0 x6_1).f1), .int .i64 ((rd_T32 l0 x6_1).f2.f0), .int .i64 ((rd_T32 l0 x6_1).f2.f1), .int .i64 ((rd_T32 l0 x6_1).f2.f2), .int .i64 ((rd_T32 l0 x6_1).f2.f3), .slice A164_6 ((rd_T32 l0 x6_1).f3).length c164_6, .int .i64 ((rd_T32 l0 x6_1).f4.f0), .int .i64 ((rd_T32 l0 x6_1).f4.f1), .int .i64 ((rd_T32 l0 x6_1).f4.f2), .int .i64 ((rd_T32 l0 x6_1).f4.f3), .slice A164_11 ((rd_T32 l0 x6_1).f5).length c164_11, .int .i64 ((rd_T32 l0 x6_1).f6.f0), .int .i64 ((rd_T32 l0 x6_1).f6.f1), .int .i64 ((rd_T32 l0 x6_1).f6.f2), .int .i64 ((rd_T32 l0 x6_1).f6.f3)] (fun k_ => (P0_ k_ ∨ w.heap.size ≤ k_)) (fun k_ => ((fun k_ => (P0_ k_ ∨ w.heap.size ≤ k_))) k_ ∧ some k_ ≠ (u5 : Value).ownBlock) rfl rfl ?aP (fun _ hk => hk) ?aF ?aO ?aB ?aS ?aL ?_; (case aP => exact (k32_mkF _ _ (⟨(rd_T32 l0 x6_1).f0, (rd_T32 l0 x6_1).f1, (⟨(rd_T32 l0 x6_1).f2.f0, (rd_T32 l0 x6_1).f2.f1, (rd_T32 l0 x6_1).f2.f2, (rd_T32 l0 x6_1).f2.f3⟩ : S26), (rd_T32 l0 x6_1).f3, (⟨(rd_T32 l0 x6_1).f4.f0, (rd_T32 l0 x6_1).f4.f1, (rd_T32 l0 x6_1).f4.f2, (rd_T32 l0 x6_1).f4.f3⟩ : S29), (rd_T32 l0 x6_1).f5, (⟨(rd_T32 l0 x6_1).f6.f0, (rd_T32 l0 x6_1).f6.f1, (rd_T32 l0 x6_1).f6.f2, (rd_T32 l0 x6_1).f6.f3⟩ : S26)⟩ : S32) (Kd.V_reads' (Kd.V_mono (ok' := (fun k_ => ((fun k_ => (P0_ k_ ∨ w.heap.size ≤ k_))) k_ ∧ some k_ ≠ (u5 : Value).ownBlock)) (HL165_6.out) (fun k_ hk => ⟨hk.1, hk.2⟩))).2.1 (Kd.V_F (Kd.V_mono (ok' := (fun k_ => ((fun k_ => (P0_ k_ ∨ w.heap.size ≤ k_))) k_ ∧ some k_ ≠ (u5 : Value).ownBlock)) (HL165_6.out) (fun k_ hk => ⟨hk.1, hk.2⟩))) (Kd.V_reads' (Kd.V_mono (ok' := (fun k_ => ((fun k_ => (P0_ k_ ∨ w.heap.size ≤ k_))) k_ ∧ some k_ ≠ (u5 : Value).ownBlock)) (HL165_11.out) (fun k_ hk => ⟨hk.1, hk.2⟩))).2.1 (Kd.V_F (Kd.V_mono (ok' := (fun k_ => ((fun k_ => (P0_ k_ ∨ w.heap.size ≤ k_))) k_ ∧ some k_ ≠ (u5 : Value).ownBlock)) (HL165_11.out) (fun k_ hk => ⟨hk.1, hk.2⟩))))); (case aB => exact (by repeat (first | (with_reducible first | exact HB.out | apply below_alloc | apply pw_below_drewN | apply below_drew1) | exact HB.out))); (case aF => exact (fun k_ hk => (.inr (Nat.le_trans (below_size (by repeat (first | (with_reducible first | exact HB.out | apply below_alloc | apply pw_below_drewN | apply below_drew1) | exact HB.out))) hk)))); (case aO => exact (by (with_reducible repeat (first | apply Kd.N_alloc | apply Kd.N_drewN | apply Kd.N_drew)); exact HO_5.out)); (case aS => exact (below_size (by repeat (first | (with_reducible first | exact HB.out | apply below_alloc | apply pw_below_drewN | apply below_drew1) | exact HB.out)))); (case aL => have := LMc6.out; omega); intro v167 w7 ho hb hg hat; rw [← Ny166.out] at ho; have n0_ := Aside0.mk (Kd.V_afterv (ok := (fun k_ => (P0_ k_ ∨ w.heap.size ≤ k_))) (by (with_reducible repeat (first | apply Kd.V_alloc | apply Kd.V_drewN | apply Kd.V_drew)); exact HO_0.out) hg hat); have n1_ := Aside0.mk (Kd.V_afterv (ok := (fun k_ => (P0_ k_ ∨ w.heap.size ≤ k_))) (by (with_reducible repeat (first | apply Kd.V_alloc | apply Kd.V_drewN | apply Kd.V_drew)); exact HL164_6.out) hg hat); have n2_ := Aside0.mk (Kd.V_afterv (ok := (fun k_ => (P0_ k_ ∨ w.heap.size ≤ k_))) (by (with_reducible repeat (first | apply Kd.V_alloc | apply Kd.V_drewN | apply Kd.V_drew)); exact HL164_11.out) hg hat); have n3_ := Aside0.mk (Kd.V_afterv (ok := (fun k_ => (P0_ k_ ∨ w.heap.size ≤ k_))) (by (with_reducible repeat (first | apply Kd.V_alloc | apply Kd.V_drewN | apply Kd.V_drew)); exact HL165_6.out) hg hat); have n4_ := Aside0.mk (Kd.V_afterv (ok := (fun k_ => (P0_ k_ ∨ w.heap.size ≤ k_))) (by (with_reducible repeat (first | apply Kd.V_alloc | apply Kd.V_drewN | apply Kd.V_drew)); exact HL165_11.out) hg hat); have n5_ := Aside0.mk (hb); have n6_ := Aside0.mk (ho); clear HO_0; clear HL164_6; clear HL164_11; clear HL165_6; clear HL165_11; clear HB; clear HO_5; have HO_0 := n0_; have HL164_6 := n1_; have HL164_11 := n2_; have HL165_6 := n3_; have HL165_11 := n4_; have HB := n5_; have HO168 := n6_; clear n0_ n1_ n2_ n3_ n4_ n5_ n6_; clear ho hb hg hat))
              go_roundg k1
              case measure => have := HK1.out; omega
              case rel => exact ⟨(y166), (wrap64 (x6_1 + 1)), (by first | rfl | (simp; done) | (simp [*]; done)), H', ⟨by have := HK1.out; omega⟩, ⟨by (with_reducible repeat (first | apply Kd.V_alloc | apply Kd.V_drewN | apply Kd.V_drew)); exact HO_0.out⟩, ⟨by (with_reducible repeat (first | apply Kd.N_alloc | apply Kd.N_drewN | apply Kd.N_drew)); exact HO168.out⟩, ⟨by repeat (first | (with_reducible first | exact HB.out | apply below_alloc | apply pw_below_drewN | apply below_drew1) | exact HB.out)⟩⟩
            · rw [if_neg c6] at H
              exact absurd H (by simp)
        · rw [if_neg c4] at H
          exact absurd H (by simp)
      · rw [if_neg c3] at H
        have c3b0 : decide (x6_1 < (l0.length : Int)) = false := decide_eq_false c3
        clear c3
        obtain rfl := Option.some.inj H
        go_wp2
        go_ret
        exact ⟨_, by first | rfl | (simp [errW_none, errW_some] <;> rfl) | (simp [*, errW_none, errW_some] <;> rfl), by (with_reducible repeat (first | apply Kd.N_alloc | apply Kd.N_drewN | apply Kd.N_drew)); exact HO_5.out, by repeat (first | (with_reducible first | exact HB.out | apply below_alloc | apply pw_below_drewN | apply below_drew1) | exact HB.out)⟩
end Go.Proofs.YtpdflhgcdehmoaaDoor.T
