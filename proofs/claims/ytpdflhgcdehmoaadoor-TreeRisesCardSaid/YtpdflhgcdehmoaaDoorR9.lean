/- Part of the proof that TreeRises comes to true: printed and written texts, merged by a program. -/
import Derived.Lib.Hide
import Derived.Test.YtpdflhgcdehmoaaDoorR3
import Derived.Test.YtpdflhgcdehmoaaDoorR8
import Derived.Test.YtpdflhgcdehmoaaDoorR4
namespace Go.Proofs.YtpdflhgcdehmoaaDoor.T
open Go.RowKit Go.Proofs.YtpdflhgcdehmoaaDoorW.PrintWords Go.Proofs.YtpdflhgcdehmoaaDoorW.PrintLast Go.Proofs.YtpdflhgcdehmoaaDoorW.PrintMore
attribute [local go_sem] max2_int min2_int max_two min_two max_three min_three max_four min_four
set_option linter.unusedVariables false
set_option linter.unusedSimpArgs false
def donjonref7_Name.l0 : Nat → ByteArray → Int → Option (Bool)
  | 0, _, _ => none
  | k + 1, x0, x3 => if x3 < (x0.size : Int) then (if 0 ≤ x3 then (if (bt x0 x3) < 97 then (if (bt x0 x3) < 48 then (some false) else (if (bt x0 x3) > 57 then (some false) else (donjonref7_Name.l0 k x0 (wrap64 (x3 + 1))))) else (if (bt x0 x3) > 122 then (if (bt x0 x3) < 48 then (some false) else (if (bt x0 x3) > 57 then (some false) else (donjonref7_Name.l0 k x0 (wrap64 (x3 + 1))))) else (donjonref7_Name.l0 k x0 (wrap64 (x3 + 1))))) else (none)) else (if (x0.size : Int) ≥ 1 then (some (decide ((x0.size : Int) ≤ 12))) else (some false))
def donjonref7_Name.f (k : Nat) (a0 : ByteArray) : Option (Bool) := donjonref7_Name.l0 k a0 0
theorem donjonref7_Name.mono_l : ∀ k, (∀ y0 y1, LeO (donjonref7_Name.l0 k y0 y1) (donjonref7_Name.l0 (k + 1) y0 y1))
  | 0 => fun _ _ r h => by simp [donjonref7_Name.l0] at h
  | k + 1 => by
    have ih0 := donjonref7_Name.mono_l k
    · intro y0 y1
      unfold donjonref7_Name.l0
      repeat' first
      | (with_reducible exact ih0 _ _)
      | (with_reducible exact LeO.refl _)
      | (with_reducible exact LeO.none _)
      | (with_reducible refine LeO.ite ?_ ?_)
      | (with_reducible refine LeO.bind ?_ (fun _ => ?_))
      | exact ih0 _ _
      | exact LeO.none _
      | refine LeO.ite ?_ ?_
      | refine LeO.bind ?_ (fun _ => ?_)
theorem donjonref7_Name.mono : ∀ a0 k, LeO (donjonref7_Name.f k a0) (donjonref7_Name.f (k + 1) a0) := by
  intro a0 k
  have ih0 := donjonref7_Name.mono_l k
  unfold donjonref7_Name.f
  repeat' first
      | (with_reducible exact ih0 _ _)
      | (with_reducible exact LeO.refl _)
      | (with_reducible exact LeO.none _)
      | (with_reducible refine LeO.ite ?_ ?_)
      | (with_reducible refine LeO.bind ?_ (fun _ => ?_))
      | exact ih0 _ _
      | exact LeO.none _
      | refine LeO.ite ?_ ?_
      | refine LeO.bind ?_ (fun _ => ?_)
set_option maxHeartbeats 8000000 in
set_option maxRecDepth 100000 in
theorem donjonref7_Name.calls (k : Nat) (a0 : ByteArray) (r : Bool) (w : World) (h : donjonref7_Name.f k a0 = some r) :
    Calls Tryd.prog 48 #[.string a0] w fun e w' => e = .returned (.bool r) ∧ Drawn0 w w' := by
  have H : (donjonref7_Name.l0 k a0 0) = some r := h
  clear h
  have H' := Aside0.mk H
  clear H
  go_enter Tryd.func48, Tryd.ntmps48
  go_wp2
  go_loopg [3] k (fun kq v3 w' => ∃ (x3_1 : Int), v3 = .int .i64 x3_1 ∧ Aside0 (donjonref7_Name.l0 kq a0 x3_1 = some r) ∧ Aside0 (kq ≤ k) ∧ Drawn0 w w')
  case atStart => exact ⟨(0), (by first | rfl | (simp; done) | (simp [*]; done)), H', ⟨Nat.le_refl _⟩, by repeat (first | exact Drawn0.refl _ | apply Drawn0.step)⟩
  case round =>
    clear H'
    obtain ⟨x3_1, rfl, HA, HK1, ⟨m1, rfl⟩⟩ := hrel
    cases gk with
    | zero => exact absurd HA.out (by simp [donjonref7_Name.l0])
    | succ k1 =>
      have H := HA.out
      clear HA
      simp only [donjonref7_Name.l0] at H
      by_cases c2 : x3_1 < (a0.size : Int)
      · rw [if_pos c2] at H
        have c2b0 : decide (x3_1 < (a0.size : Int)) = true := decide_eq_true c2
        clear c2
        by_cases c3 : 0 ≤ x3_1
        · rw [if_pos c3] at H
          have c3b0 : decide (0 ≤ x3_1) = true := decide_eq_true c3
          clear c3
          by_cases c5 : (bt a0 x3_1) < 97
          · rw [if_pos c5] at H
            have c5b0 : decide ((bt a0 x3_1) < 97) = true := decide_eq_true c5
            clear c5
            by_cases c7 : (bt a0 x3_1) < 48
            · rw [if_pos c7] at H
              have c7b0 : decide ((bt a0 x3_1) < 48) = true := decide_eq_true c7
              clear c7
              obtain rfl := Option.some.inj H
              have p4 : 0 ≤ (x3_1 : Int) := of_decide_eq_true (by first | (with_reducible assumption) | assumption)
              have q4 : x3_1 < (a0.size : Int) := of_decide_eq_true (by first | (with_reducible assumption) | assumption)
              have hx4 := bt_at a0 x3_1
              replace p4 := eq_true p4
              replace q4 := eq_true q4
              have p6 : 0 ≤ (x3_1 : Int) := of_decide_eq_true (by first | (with_reducible assumption) | assumption)
              have q6 : x3_1 < (a0.size : Int) := of_decide_eq_true (by first | (with_reducible assumption) | assumption)
              have hx6 := bt_at a0 x3_1
              replace p6 := eq_true p6
              replace q6 := eq_true q6
              go_wp2
              go_ret
              exact ⟨by first | rfl | (simp; done) | (simp [*]; done), by repeat (first | exact Drawn0.refl _ | apply Drawn0.step)⟩
            · rw [if_neg c7] at H
              have c7b0 : decide ((bt a0 x3_1) < 48) = false := decide_eq_false c7
              clear c7
              by_cases c9 : (bt a0 x3_1) > 57
              · rw [if_pos c9] at H
                have c9b0 : decide (57 < (bt a0 x3_1)) = true := decide_eq_true c9
                clear c9
                obtain rfl := Option.some.inj H
                have p4 : 0 ≤ (x3_1 : Int) := of_decide_eq_true (by first | (with_reducible assumption) | assumption)
                have q4 : x3_1 < (a0.size : Int) := of_decide_eq_true (by first | (with_reducible assumption) | assumption)
                have hx4 := bt_at a0 x3_1
                replace p4 := eq_true p4
                replace q4 := eq_true q4
                have p6 : 0 ≤ (x3_1 : Int) := of_decide_eq_true (by first | (with_reducible assumption) | assumption)
                have q6 : x3_1 < (a0.size : Int) := of_decide_eq_true (by first | (with_reducible assumption) | assumption)
                have hx6 := bt_at a0 x3_1
                replace p6 := eq_true p6
                replace q6 := eq_true q6
                have p8 : 0 ≤ (x3_1 : Int) := of_decide_eq_true (by first | (with_reducible assumption) | assumption)
                have q8 : x3_1 < (a0.size : Int) := of_decide_eq_true (by first | (with_reducible assumption) | assumption)
                have hx8 := bt_at a0 x3_1
                replace p8 := eq_true p8
                replace q8 := eq_true q8
                go_wp2
                go_ret
                exact ⟨by first | rfl | (simp; done) | (simp [*]; done), by repeat (first | exact Drawn0.refl _ | apply Drawn0.step)⟩
              · rw [if_neg c9] at H
                have c9b0 : decide (57 < (bt a0 x3_1)) = false := decide_eq_false c9
                clear c9
                have H' := Aside0.mk H
                clear H
                have p4 : 0 ≤ (x3_1 : Int) := of_decide_eq_true (by first | (with_reducible assumption) | assumption)
                have q4 : x3_1 < (a0.size : Int) := of_decide_eq_true (by first | (with_reducible assumption) | assumption)
                have hx4 := bt_at a0 x3_1
                replace p4 := eq_true p4
                replace q4 := eq_true q4
                have p6 : 0 ≤ (x3_1 : Int) := of_decide_eq_true (by first | (with_reducible assumption) | assumption)
                have q6 : x3_1 < (a0.size : Int) := of_decide_eq_true (by first | (with_reducible assumption) | assumption)
                have hx6 := bt_at a0 x3_1
                replace p6 := eq_true p6
                replace q6 := eq_true q6
                have p8 : 0 ≤ (x3_1 : Int) := of_decide_eq_true (by first | (with_reducible assumption) | assumption)
                have q8 : x3_1 < (a0.size : Int) := of_decide_eq_true (by first | (with_reducible assumption) | assumption)
                have hx8 := bt_at a0 x3_1
                replace p8 := eq_true p8
                replace q8 := eq_true q8
                go_wp2
                go_roundg k1
                case measure => have := HK1.out; omega
                case rel => exact ⟨(wrap64 (x3_1 + 1)), (by first | rfl | (simp; done) | (simp [*]; done)), H', ⟨by have := HK1.out; omega⟩, by repeat (first | exact Drawn0.refl _ | apply Drawn0.step)⟩
          · rw [if_neg c5] at H
            have c5b0 : decide ((bt a0 x3_1) < 97) = false := decide_eq_false c5
            clear c5
            by_cases c11 : (bt a0 x3_1) > 122
            · rw [if_pos c11] at H
              have c11b0 : decide (122 < (bt a0 x3_1)) = true := decide_eq_true c11
              clear c11
              by_cases c13 : (bt a0 x3_1) < 48
              · rw [if_pos c13] at H
                have c13b0 : decide ((bt a0 x3_1) < 48) = true := decide_eq_true c13
                clear c13
                obtain rfl := Option.some.inj H
                have p4 : 0 ≤ (x3_1 : Int) := of_decide_eq_true (by first | (with_reducible assumption) | assumption)
                have q4 : x3_1 < (a0.size : Int) := of_decide_eq_true (by first | (with_reducible assumption) | assumption)
                have hx4 := bt_at a0 x3_1
                replace p4 := eq_true p4
                replace q4 := eq_true q4
                have p10 : 0 ≤ (x3_1 : Int) := of_decide_eq_true (by first | (with_reducible assumption) | assumption)
                have q10 : x3_1 < (a0.size : Int) := of_decide_eq_true (by first | (with_reducible assumption) | assumption)
                have hx10 := bt_at a0 x3_1
                replace p10 := eq_true p10
                replace q10 := eq_true q10
                have p12 : 0 ≤ (x3_1 : Int) := of_decide_eq_true (by first | (with_reducible assumption) | assumption)
                have q12 : x3_1 < (a0.size : Int) := of_decide_eq_true (by first | (with_reducible assumption) | assumption)
                have hx12 := bt_at a0 x3_1
                replace p12 := eq_true p12
                replace q12 := eq_true q12
                go_wp2
                go_ret
                exact ⟨by first | rfl | (simp; done) | (simp [*]; done), by repeat (first | exact Drawn0.refl _ | apply Drawn0.step)⟩
              · rw [if_neg c13] at H
                have c13b0 : decide ((bt a0 x3_1) < 48) = false := decide_eq_false c13
                clear c13
                by_cases c15 : (bt a0 x3_1) > 57
                · rw [if_pos c15] at H
                  have c15b0 : decide (57 < (bt a0 x3_1)) = true := decide_eq_true c15
                  clear c15
                  obtain rfl := Option.some.inj H
                  have p4 : 0 ≤ (x3_1 : Int) := of_decide_eq_true (by first | (with_reducible assumption) | assumption)
                  have q4 : x3_1 < (a0.size : Int) := of_decide_eq_true (by first | (with_reducible assumption) | assumption)
                  have hx4 := bt_at a0 x3_1
                  replace p4 := eq_true p4
                  replace q4 := eq_true q4
                  have p10 : 0 ≤ (x3_1 : Int) := of_decide_eq_true (by first | (with_reducible assumption) | assumption)
                  have q10 : x3_1 < (a0.size : Int) := of_decide_eq_true (by first | (with_reducible assumption) | assumption)
                  have hx10 := bt_at a0 x3_1
                  replace p10 := eq_true p10
                  replace q10 := eq_true q10
                  have p12 : 0 ≤ (x3_1 : Int) := of_decide_eq_true (by first | (with_reducible assumption) | assumption)
                  have q12 : x3_1 < (a0.size : Int) := of_decide_eq_true (by first | (with_reducible assumption) | assumption)
                  have hx12 := bt_at a0 x3_1
                  replace p12 := eq_true p12
                  replace q12 := eq_true q12
                  have p14 : 0 ≤ (x3_1 : Int) := of_decide_eq_true (by first | (with_reducible assumption) | assumption)
                  have q14 : x3_1 < (a0.size : Int) := of_decide_eq_true (by first | (with_reducible assumption) | assumption)
                  have hx14 := bt_at a0 x3_1
                  replace p14 := eq_true p14
                  replace q14 := eq_true q14
                  go_wp2
                  go_ret
                  exact ⟨by first | rfl | (simp; done) | (simp [*]; done), by repeat (first | exact Drawn0.refl _ | apply Drawn0.step)⟩
                · rw [if_neg c15] at H
                  have c15b0 : decide (57 < (bt a0 x3_1)) = false := decide_eq_false c15
                  clear c15
                  have H' := Aside0.mk H
                  clear H
                  have p4 : 0 ≤ (x3_1 : Int) := of_decide_eq_true (by first | (with_reducible assumption) | assumption)
                  have q4 : x3_1 < (a0.size : Int) := of_decide_eq_true (by first | (with_reducible assumption) | assumption)
                  have hx4 := bt_at a0 x3_1
                  replace p4 := eq_true p4
                  replace q4 := eq_true q4
                  have p10 : 0 ≤ (x3_1 : Int) := of_decide_eq_true (by first | (with_reducible assumption) | assumption)
                  have q10 : x3_1 < (a0.size : Int) := of_decide_eq_true (by first | (with_reducible assumption) | assumption)
                  have hx10 := bt_at a0 x3_1
                  replace p10 := eq_true p10
                  replace q10 := eq_true q10
                  have p12 : 0 ≤ (x3_1 : Int) := of_decide_eq_true (by first | (with_reducible assumption) | assumption)
                  have q12 : x3_1 < (a0.size : Int) := of_decide_eq_true (by first | (with_reducible assumption) | assumption)
                  have hx12 := bt_at a0 x3_1
                  replace p12 := eq_true p12
                  replace q12 := eq_true q12
                  have p14 : 0 ≤ (x3_1 : Int) := of_decide_eq_true (by first | (with_reducible assumption) | assumption)
                  have q14 : x3_1 < (a0.size : Int) := of_decide_eq_true (by first | (with_reducible assumption) | assumption)
                  have hx14 := bt_at a0 x3_1
                  replace p14 := eq_true p14
                  replace q14 := eq_true q14
                  go_wp2
                  go_roundg k1
                  case measure => have := HK1.out; omega
                  case rel => exact ⟨(wrap64 (x3_1 + 1)), (by first | rfl | (simp; done) | (simp [*]; done)), H', ⟨by have := HK1.out; omega⟩, by repeat (first | exact Drawn0.refl _ | apply Drawn0.step)⟩
            · rw [if_neg c11] at H
              have c11b0 : decide (122 < (bt a0 x3_1)) = false := decide_eq_false c11
              clear c11
              have H' := Aside0.mk H
              clear H
              have p4 : 0 ≤ (x3_1 : Int) := of_decide_eq_true (by first | (with_reducible assumption) | assumption)
              have q4 : x3_1 < (a0.size : Int) := of_decide_eq_true (by first | (with_reducible assumption) | assumption)
              have hx4 := bt_at a0 x3_1
              replace p4 := eq_true p4
              replace q4 := eq_true q4
              have p10 : 0 ≤ (x3_1 : Int) := of_decide_eq_true (by first | (with_reducible assumption) | assumption)
              have q10 : x3_1 < (a0.size : Int) := of_decide_eq_true (by first | (with_reducible assumption) | assumption)
              have hx10 := bt_at a0 x3_1
              replace p10 := eq_true p10
              replace q10 := eq_true q10
              go_wp2
              go_roundg k1
              case measure => have := HK1.out; omega
              case rel => exact ⟨(wrap64 (x3_1 + 1)), (by first | rfl | (simp; done) | (simp [*]; done)), H', ⟨by have := HK1.out; omega⟩, by repeat (first | exact Drawn0.refl _ | apply Drawn0.step)⟩
        · rw [if_neg c3] at H
          exact absurd H (by simp)
      · rw [if_neg c2] at H
        have c2b0 : decide (x3_1 < (a0.size : Int)) = false := decide_eq_false c2
        clear c2
        by_cases c16 : (a0.size : Int) ≥ 1
        · rw [if_pos c16] at H
          have c16b0 : decide (1 ≤ (a0.size : Int)) = true := decide_eq_true c16
          have c16b1 : decide (1 ≤ a0.size) = true := decide_eq_true (by omega)
          clear c16
          obtain rfl := Option.some.inj H
          go_wp2
          go_ret
          exact ⟨by first | rfl | (simp; done) | (simp [*]; done), by repeat (first | exact Drawn0.refl _ | apply Drawn0.step)⟩
        · rw [if_neg c16] at H
          have c16b0 : decide (1 ≤ (a0.size : Int)) = false := decide_eq_false c16
          have c16b1 : decide (1 ≤ a0.size) = false := decide_eq_false (by omega)
          clear c16
          obtain rfl := Option.some.inj H
          go_wp2
          go_ret
          exact ⟨by first | rfl | (simp; done) | (simp [*]; done), by repeat (first | exact Drawn0.refl _ | apply Drawn0.step)⟩
end Go.Proofs.YtpdflhgcdehmoaaDoor.T
namespace Go.Proofs.YtpdflhgcdehmoaaDoor.T
open Go.RowKit Go.Proofs.YtpdflhgcdehmoaaDoorW.PrintWords Go.Proofs.YtpdflhgcdehmoaaDoorW.PrintLast Go.Proofs.YtpdflhgcdehmoaaDoorW.PrintMore
attribute [local go_sem] max2_int min2_int max_two min_two max_three min_three max_four min_four
set_option linter.unusedVariables false
set_option linter.unusedSimpArgs false
mutual
def donjonref7_Check.j0 : Nat → ByteArray → Bool → Option (Int)
  | 0, _, _ => none
  | k + 1, x0, x17 => if x17 = true then (some 1) else ((donjonref7_Parts.f k x0).bind fun t142 => (if (t142.length : Int) > 6 then (some 1) else (donjonref7_Check.l0 k t142 0)))
def donjonref7_Check.l0 : Nat → List ByteArray → Int → Option (Int)
  | 0, _, _ => none
  | k + 1, x3, x4 => if x4 < (x3.length : Int) then (if 0 ≤ x4 then ((donjonref7_Name.f k (rdOf ByteArray.empty x3 x4)).bind fun t146 => (if t146 = true then (donjonref7_Check.l0 k x3 (wrap64 (x4 + 1))) else (some 1))) else (none)) else (some 0)
end
def donjonref7_Check.f (k : Nat) (a0 : ByteArray) : Option (Int) := if (a0.size : Int) > 78 then (some 5) else (if a0.toList = ([47] : List UInt8) then (some 0) else (if (a0.size : Int) < 2 then (donjonref7_Check.j0 k a0 true) else (if 0 < (a0.size : Int) then (donjonref7_Check.j0 k a0 ((bt a0 0) != 47)) else (none))))
theorem donjonref7_Check.mono_l : ∀ k, (∀ y0 y1, LeO (donjonref7_Check.j0 k y0 y1) (donjonref7_Check.j0 (k + 1) y0 y1)) ∧ (∀ y0 y1, LeO (donjonref7_Check.l0 k y0 y1) (donjonref7_Check.l0 (k + 1) y0 y1))
  | 0 => ⟨fun _ _ r h => by simp [donjonref7_Check.j0] at h, fun _ _ r h => by simp [donjonref7_Check.l0] at h⟩
  | k + 1 => by
    obtain ⟨ih0, ih1⟩ := donjonref7_Check.mono_l k
    refine ⟨?_, ?_⟩
    · intro y0 y1
      unfold donjonref7_Check.j0
      repeat' first
      | (with_reducible exact ih0 _ _)
      | (with_reducible exact ih1 _ _)
      | (with_reducible exact donjonref7_Name.mono _ _)
      | (with_reducible exact donjonref7_Parts.mono _ _)
      | (with_reducible exact LeO.refl _)
      | (with_reducible exact LeO.none _)
      | (with_reducible refine LeO.ite ?_ ?_)
      | (with_reducible refine LeO.bind ?_ (fun _ => ?_))
      | exact ih0 _ _
      | exact ih1 _ _
      | exact donjonref7_Name.mono _ _
      | exact donjonref7_Parts.mono _ _
      | exact LeO.none _
      | refine LeO.ite ?_ ?_
      | refine LeO.bind ?_ (fun _ => ?_)
    · intro y0 y1
      unfold donjonref7_Check.l0
      repeat' first
      | (with_reducible exact ih0 _ _)
      | (with_reducible exact ih1 _ _)
      | (with_reducible exact donjonref7_Name.mono _ _)
      | (with_reducible exact donjonref7_Parts.mono _ _)
      | (with_reducible exact LeO.refl _)
      | (with_reducible exact LeO.none _)
      | (with_reducible refine LeO.ite ?_ ?_)
      | (with_reducible refine LeO.bind ?_ (fun _ => ?_))
      | exact ih0 _ _
      | exact ih1 _ _
      | exact donjonref7_Name.mono _ _
      | exact donjonref7_Parts.mono _ _
      | exact LeO.none _
      | refine LeO.ite ?_ ?_
      | refine LeO.bind ?_ (fun _ => ?_)
theorem donjonref7_Check.mono : ∀ a0 k, LeO (donjonref7_Check.f k a0) (donjonref7_Check.f (k + 1) a0) := by
  intro a0 k
  obtain ⟨ih0, ih1⟩ := donjonref7_Check.mono_l k
  unfold donjonref7_Check.f
  repeat' first
      | (with_reducible exact ih0 _ _)
      | (with_reducible exact ih1 _ _)
      | (with_reducible exact donjonref7_Name.mono _ _)
      | (with_reducible exact donjonref7_Parts.mono _ _)
      | (with_reducible exact LeO.refl _)
      | (with_reducible exact LeO.none _)
      | (with_reducible refine LeO.ite ?_ ?_)
      | (with_reducible refine LeO.bind ?_ (fun _ => ?_))
      | exact ih0 _ _
      | exact ih1 _ _
      | exact donjonref7_Name.mono _ _
      | exact donjonref7_Parts.mono _ _
      | exact LeO.none _
      | refine LeO.ite ?_ ?_
      | refine LeO.bind ?_ (fun _ => ?_)
set_option maxHeartbeats 8000000 in
set_option maxRecDepth 100000 in
theorem donjonref7_Check.calls (k : Nat) (a0 : ByteArray) (r : Int) (w : World) (h : donjonref7_Check.f k a0 = some r) :
    Calls Tryd.prog 19 #[.string a0] w fun e w' => e = .returned (.int .i64 r) ∧ Below w.heap.size w w' := by
  have HB := Aside0.mk (Below.refl w.heap.size w)
  have H : (if (a0.size : Int) > 78 then (some 5) else (if a0.toList = ([47] : List UInt8) then (some 0) else (if (a0.size : Int) < 2 then (donjonref7_Check.j0 k a0 true) else (if 0 < (a0.size : Int) then (donjonref7_Check.j0 k a0 ((bt a0 0) != 47)) else (none))))) = some r := h
  clear h
  by_cases c2 : (a0.size : Int) > 78
  · rw [if_pos c2] at H
    have c2b0 : decide (78 < (a0.size : Int)) = true := decide_eq_true c2
    have c2b1 : decide (78 < a0.size) = true := decide_eq_true (by omega)
    clear c2
    obtain rfl := Option.some.inj H
    go_enter Tryd.func19, Tryd.ntmps19
    go_wp2
    go_ret
    exact ⟨by first | rfl | (simp [errW_none, errW_some] <;> rfl) | (simp [*, errW_none, errW_some] <;> rfl), by repeat (first | (with_reducible first | exact HB.out | apply below_alloc | apply pw_below_drewN | apply below_drew1) | exact HB.out)⟩
  · rw [if_neg c2] at H
    have c2b0 : decide (78 < (a0.size : Int)) = false := decide_eq_false c2
    have c2b1 : decide (78 < a0.size) = false := decide_eq_false (by omega)
    clear c2
    by_cases c3 : a0.toList = ([47] : List UInt8)
    · rw [if_pos c3] at H
      have c3b0 : (a0.toList == ([47] : List UInt8)) = true := beq_iff_eq.mpr c3
      have c3b1 : (a0.toList != ([47] : List UInt8)) = false := bne_eq_false_iff_eq.mpr c3
      clear c3
      obtain rfl := Option.some.inj H
      go_enter Tryd.func19, Tryd.ntmps19
      go_wp2
      go_ret
      exact ⟨by first | rfl | (simp [errW_none, errW_some] <;> rfl) | (simp [*, errW_none, errW_some] <;> rfl), by repeat (first | (with_reducible first | exact HB.out | apply below_alloc | apply pw_below_drewN | apply below_drew1) | exact HB.out)⟩
    · rw [if_neg c3] at H
      have c3b0 : (a0.toList == ([47] : List UInt8)) = false := beq_eq_false_iff_ne.mpr c3
      have c3b1 : (a0.toList != ([47] : List UInt8)) = true := bne_iff_ne.mpr c3
      have HC4 := Aside0.mk H
      clear H
      go_enter Tryd.func19, Tryd.ntmps19
      go_upto_region 5 with (fail)
      go_cut [17] (fun v17 wc => ∃ (kq : Nat) (x17_3 : Bool), v17 = .bool x17_3 ∧ Aside0 (donjonref7_Check.j0 kq a0 x17_3 = some r) ∧ Aside0 (kq ≤ k) ∧ Aside0 (Below w.heap.size w wc))
      case first =>
        have H := HC4.out
        clear HC4
        by_cases c5 : (a0.size : Int) < 2
        · rw [if_pos c5] at H
          have c5b0 : decide ((a0.size : Int) < 2) = true := decide_eq_true c5
          have c5b1 : decide (a0.size < 2) = true := decide_eq_true (by omega)
          clear c5
          (first | rw [c5b0] | (simp only [i64_w, i32_w]; rw [c5b0]) | skip)
          have H' := Aside0.mk H
          clear H
          go_wp2
          go_meet
          case rel => exact ⟨_, (true), (by first | rfl | (simp; done) | (simp [*]; done)), H', ⟨by first | omega | exact Nat.le_refl _⟩, ⟨by repeat (first | (with_reducible first | exact HB.out | apply below_alloc | apply pw_below_drewN | apply below_drew1) | exact HB.out)⟩⟩
        · rw [if_neg c5] at H
          have c5b0 : decide ((a0.size : Int) < 2) = false := decide_eq_false c5
          have c5b1 : decide (a0.size < 2) = false := decide_eq_false (by omega)
          clear c5
          (first | rw [c5b0] | (simp only [i64_w, i32_w]; rw [c5b0]) | skip)
          by_cases c6 : 0 < (a0.size : Int)
          · rw [if_pos c6] at H
            have c6b0 : decide (0 < (a0.size : Int)) = true := decide_eq_true c6
            have c6b1 : decide (0 < a0.size) = true := decide_eq_true (by omega)
            clear c6
            have H' := Aside0.mk H
            clear H
            have p7 : 0 ≤ (0 : Int) := (by omega)
            have q7 : 0 < a0.size := (by have : (0 : Int) < (a0.size : Int) := of_decide_eq_true (by first | (with_reducible assumption) | assumption); omega)
            have hx7 : ∀ h : 0 < a0.size, ((a0[0]'h).toNat : Int) = bt a0 0 := bt_at a0 0
            clear p7
            have qi7 : (0 < (a0.size : Int)) = True := eq_true (of_decide_eq_true (by first | (with_reducible assumption) | assumption))
            replace q7 := eq_true q7
            go_wp2
            go_meet
            case rel => exact ⟨_, (((bt a0 0) != 47)), (by first | rfl | (simp; done) | (simp [*]; done)), H', ⟨by first | omega | exact Nat.le_refl _⟩, ⟨by repeat (first | (with_reducible first | exact HB.out | apply below_alloc | apply pw_below_drewN | apply below_drew1) | exact HB.out)⟩⟩
          · rw [if_neg c6] at H
            exact absurd H (by simp)
      case rest =>
        clear HC4
        try clear c1
        try clear c2
        try clear c2b0
        try clear c2b1
        try clear p2
        try clear c3
        try clear c3b0
        try clear c3b1
        try clear c5
        try clear c5b0
        try clear c5b1
        try clear c6
        try clear c6b0
        try clear c6b1
        try clear p7
        try clear q7
        try clear hx7
        try clear qi7
        try clear p7
        try clear q7
        obtain ⟨kq, x17_3, rfl, HA, HJ3, HB⟩ := hcut
        cases kq with
        | zero => exact absurd HA.out (by simp [donjonref7_Check.j0])
        | succ kj3 =>
          have H := HA.out
          clear HA
          simp only [donjonref7_Check.j0] at H
          by_cases c8 : x17_3 = true
          · subst c8
            have H1 : (some 1) = some r := by rw [if_pos rfl] at H; exact H
            clear H
            have H := H1
            clear H1
            obtain rfl := Option.some.inj H
            go_wp2
            go_ret
            exact ⟨by first | rfl | (simp [errW_none, errW_some] <;> rfl) | (simp [*, errW_none, errW_some] <;> rfl), by repeat (first | (with_reducible first | exact HB.out | apply below_alloc | apply pw_below_drewN | apply below_drew1) | exact HB.out)⟩
          · replace c8 := Bool.eq_false_iff.mpr c8
            subst c8
            have H1 : ((donjonref7_Parts.f kj3 a0).bind fun t142 => (if (t142.length : Int) > 6 then (some 1) else (donjonref7_Check.l0 kj3 t142 0))) = some r := by rw [if_neg (show ¬ (false = true) by decide)] at H; exact H
            clear H
            have H := H1
            clear H1
            replace H := Option.bind_eq_some_iff.mp H
            obtain ⟨t142, A90, H⟩ := H
            replace H : (if (t142.length : Int) > 6 then (some 1) else (donjonref7_Check.l0 kj3 t142 0)) = some r := H
            have A9 := Aside0.mk A90
            clear A90
            by_cases c10 : (t142.length : Int) > 6
            · rw [if_pos c10] at H
              have c10b0 : decide (6 < (t142.length : Int)) = true := decide_eq_true c10
              have c10b1 : decide (6 < t142.length) = true := decide_eq_true (by omega)
              clear c10
              obtain rfl := Option.some.inj H
              go_wp2_with (first | ((with_reducible refine gate_callee (f := 47) rfl ?_); refine goesL_ (some 19) rfl rfl Tryd.func47 (by kernel_rfl) rfl #[.string a0] rfl (by (try simp only [List.map_toArray, List.map_cons, List.map_nil]); first | done | rfl | (simp only [List.length_drop, List.length_take]; rfl)) ?_; (with_reducible refine (donjonref7_Parts.calls kj3 a0 t142 _ A9.out).mono ?_); rintro e w11 ⟨v143, rfl, ho0, hb⟩; refine ⟨_, rfl, ?_⟩; have n0_ := Aside0.mk (Kd.R_lower ho0 (below_size (by repeat (first | (with_reducible first | exact HB.out | apply below_alloc | apply pw_below_drewN | apply below_drew1) | exact HB.out)))); have n1_ := Aside0.mk (below_step (by repeat (first | (with_reducible first | exact HB.out | apply below_alloc | apply pw_below_drewN | apply below_drew1) | exact HB.out)) hb); clear HB; have HO144 := n0_; have HB := n1_; clear n0_ n1_; (try clear hb); (try clear hb2); (try clear hk); (try clear hi); (try clear ho0); obtain ⟨Ao12, co12, eo12⟩ := Kd.R_slice HO144.out; subst eo12))
              go_ret
              exact ⟨by first | rfl | (simp [errW_none, errW_some] <;> rfl) | (simp [*, errW_none, errW_some] <;> rfl), by repeat (first | (with_reducible first | exact HB.out | apply below_alloc | apply pw_below_drewN | apply below_drew1) | exact HB.out)⟩
            · rw [if_neg c10] at H
              have c10b0 : decide (6 < (t142.length : Int)) = false := decide_eq_false c10
              have c10b1 : decide (6 < t142.length) = false := decide_eq_false (by omega)
              clear c10
              have H' := Aside0.mk H
              clear H
              go_wp2_with (first | ((with_reducible refine gate_callee (f := 47) rfl ?_); refine goesL_ (some 19) rfl rfl Tryd.func47 (by kernel_rfl) rfl #[.string a0] rfl (by (try simp only [List.map_toArray, List.map_cons, List.map_nil]); first | done | rfl | (simp only [List.length_drop, List.length_take]; rfl)) ?_; (with_reducible refine (donjonref7_Parts.calls kj3 a0 t142 _ A9.out).mono ?_); rintro e w13 ⟨v143, rfl, ho0, hb⟩; refine ⟨_, rfl, ?_⟩; have n0_ := Aside0.mk (Kd.R_lower ho0 (below_size (by repeat (first | (with_reducible first | exact HB.out | apply below_alloc | apply pw_below_drewN | apply below_drew1) | exact HB.out)))); have n1_ := Aside0.mk (below_step (by repeat (first | (with_reducible first | exact HB.out | apply below_alloc | apply pw_below_drewN | apply below_drew1) | exact HB.out)) hb); clear HB; have HO144 := n0_; have HB := n1_; clear n0_ n1_; (try clear hb); (try clear hb2); (try clear hk); (try clear hi); (try clear ho0); obtain ⟨Ao14, co14, eo14⟩ := Kd.R_slice HO144.out; subst eo14))
              go_loopg [4] kj3 (fun kq v4 w' => ∃ (x4_2 : Int), v4 = .int .i64 x4_2 ∧ Aside0 (donjonref7_Check.l0 kq t142 x4_2 = some r) ∧ Aside0 (kq ≤ kj3) ∧ Aside0 (Kd.R Kd.string 9 w' w.heap.size (fun _ => True) (.slice Ao14 t142.length co14) t142) ∧ Aside0 (Below w.heap.size w w'))
              case atStart => exact ⟨(0), (by first | rfl | (simp; done) | (simp [*]; done)), H', ⟨Nat.le_refl _⟩, ⟨by (with_reducible repeat (first | apply Kd.R_alloc | apply Kd.R_drewN | apply Kd.R_drew)); exact HO144.out⟩, ⟨by repeat (first | (with_reducible first | exact HB.out | apply below_alloc | apply pw_below_drewN | apply below_drew1) | exact HB.out)⟩⟩
              case round =>
                clear H'
                try clear c1
                try clear c2
                try clear c2b0
                try clear c2b1
                try clear p2
                try clear c3
                try clear c3b0
                try clear c3b1
                try clear c4
                try clear c5
                try clear c5b0
                try clear c5b1
                try clear c6
                try clear c6b0
                try clear c6b1
                try clear p7
                try clear q7
                try clear hx7
                try clear qi7
                try clear c8
                try clear c10
                try clear c10b0
                try clear c10b1
                try clear p2
                try clear p7
                try clear q7
                obtain ⟨x4_2, rfl, HA, HK2, HO_3, HB⟩ := hrel
                cases gk with
                | zero => exact absurd HA.out (by simp [donjonref7_Check.l0])
                | succ k2 =>
                  have H := HA.out
                  clear HA
                  simp only [donjonref7_Check.l0] at H
                  by_cases c15 : x4_2 < (t142.length : Int)
                  · rw [if_pos c15] at H
                    have c15b0 : decide (x4_2 < (t142.length : Int)) = true := decide_eq_true c15
                    clear c15
                    by_cases c16 : 0 ≤ x4_2
                    · rw [if_pos c16] at H
                      have c16b0 : decide (0 ≤ x4_2) = true := decide_eq_true c16
                      clear c16
                      replace H := Option.bind_eq_some_iff.mp H
                      obtain ⟨t146, A170, H⟩ := H
                      replace H : (if t146 = true then (donjonref7_Check.l0 k2 t142 (wrap64 (x4_2 + 1))) else (some 1)) = some r := H
                      have A17 := Aside0.mk A170
                      clear A170
                      by_cases c18 : t146 = true
                      · subst c18
                        have H1 : (donjonref7_Check.l0 k2 t142 (wrap64 (x4_2 + 1))) = some r := by rw [if_pos rfl] at H; exact H
                        clear H
                        have H := H1
                        clear H1
                        have H' := Aside0.mk H
                        clear H
                        have p145 : 0 ≤ (x4_2 : Int) := of_decide_eq_true (by first | (with_reducible assumption) | assumption)
                        have q145 : x4_2 < (t142.length : Int) := of_decide_eq_true (by first | (with_reducible assumption) | assumption)
                        obtain ⟨ad145, e145, hx145_0⟩ := Kd.at_string (Kd.R_reads' HO_3.out).2.2 x4_2 p145 q145
                        cases e145
                        replace p145 := eq_true p145
                        replace q145 := eq_true q145
                        go_wp2_with (first | ((with_reducible refine gate_callee (f := 48) rfl ?_); refine goesL_ (some 33) rfl rfl Tryd.func48 (by kernel_rfl) rfl #[.string (rdOf ByteArray.empty t142 x4_2)] rfl (by (try simp only [List.map_toArray, List.map_cons, List.map_nil]); first | done | rfl | (simp only [List.length_drop, List.length_take]; rfl)) ?_; (with_reducible refine (donjonref7_Name.calls k2 (rdOf ByteArray.empty t142 x4_2) true _ A17.out).mono ?_); rintro e w' ⟨rfl, ⟨nd, rfl⟩⟩; refine ⟨_, rfl, ?_⟩))
                        go_roundg k2
                        case measure => have := HJ3.out; have := HK2.out; omega
                        case rel => exact ⟨(wrap64 (x4_2 + 1)), (by first | rfl | (simp; done) | (simp [*]; done)), H', ⟨by have := HJ3.out; have := HK2.out; omega⟩, ⟨by (with_reducible repeat (first | apply Kd.R_alloc | apply Kd.R_drewN | apply Kd.R_drew)); exact HO_3.out⟩, ⟨by repeat (first | (with_reducible first | exact HB.out | apply below_alloc | apply pw_below_drewN | apply below_drew1) | exact HB.out)⟩⟩
                      · replace c18 := Bool.eq_false_iff.mpr c18
                        subst c18
                        have H1 : (some 1) = some r := by rw [if_neg (show ¬ (false = true) by decide)] at H; exact H
                        clear H
                        have H := H1
                        clear H1
                        obtain rfl := Option.some.inj H
                        have p145 : 0 ≤ (x4_2 : Int) := of_decide_eq_true (by first | (with_reducible assumption) | assumption)
                        have q145 : x4_2 < (t142.length : Int) := of_decide_eq_true (by first | (with_reducible assumption) | assumption)
                        obtain ⟨ad145, e145, hx145_0⟩ := Kd.at_string (Kd.R_reads' HO_3.out).2.2 x4_2 p145 q145
                        cases e145
                        replace p145 := eq_true p145
                        replace q145 := eq_true q145
                        go_wp2_with (first | ((with_reducible refine gate_callee (f := 48) rfl ?_); refine goesL_ (some 33) rfl rfl Tryd.func48 (by kernel_rfl) rfl #[.string (rdOf ByteArray.empty t142 x4_2)] rfl (by (try simp only [List.map_toArray, List.map_cons, List.map_nil]); first | done | rfl | (simp only [List.length_drop, List.length_take]; rfl)) ?_; (with_reducible refine (donjonref7_Name.calls k2 (rdOf ByteArray.empty t142 x4_2) false _ A17.out).mono ?_); rintro e w' ⟨rfl, ⟨nd, rfl⟩⟩; refine ⟨_, rfl, ?_⟩))
                        go_ret
                        exact ⟨by first | rfl | (simp [errW_none, errW_some] <;> rfl) | (simp [*, errW_none, errW_some] <;> rfl), by repeat (first | (with_reducible first | exact HB.out | apply below_alloc | apply pw_below_drewN | apply below_drew1) | exact HB.out)⟩
                    · rw [if_neg c16] at H
                      exact absurd H (by simp)
                  · rw [if_neg c15] at H
                    have c15b0 : decide (x4_2 < (t142.length : Int)) = false := decide_eq_false c15
                    clear c15
                    obtain rfl := Option.some.inj H
                    go_wp2
                    go_ret
                    exact ⟨by first | rfl | (simp [errW_none, errW_some] <;> rfl) | (simp [*, errW_none, errW_some] <;> rfl), by repeat (first | (with_reducible first | exact HB.out | apply below_alloc | apply pw_below_drewN | apply below_drew1) | exact HB.out)⟩
end Go.Proofs.YtpdflhgcdehmoaaDoor.T
namespace Go.Proofs.YtpdflhgcdehmoaaDoor.T
open Go.RowKit Go.Proofs.YtpdflhgcdehmoaaDoorW.PrintWords Go.Proofs.YtpdflhgcdehmoaaDoorW.PrintLast Go.Proofs.YtpdflhgcdehmoaaDoorW.PrintMore
attribute [local go_sem] max2_int min2_int max_two min_two max_three min_three max_four min_four
set_option linter.unusedVariables false
set_option linter.unusedSimpArgs false
theorem segs_app (cur r : List UInt8) (hc : ∀ c ∈ cur, c ≠ 47) {x : List UInt8} {xs : List (List UInt8)} (h : segs r = x :: xs) : segs (cur ++ r) = (cur ++ x) :: xs := by
  induction cur with
  | nil => exact h
  | cons c cur ih =>
    have h1 := ih (fun d hd => hc d (List.mem_cons_of_mem _ hd))
    rw [List.cons_append]
    unfold segs
    rw [if_neg (hc c List.mem_cons_self), h1]
    rfl
theorem name7_l0 (s : ByteArray) (hs : s.size ≤ 9223372036854775807) (d : Nat) : ∀ (k i : Nat), s.size - i = d → d < k → i ≤ s.size → (∀ j (h : j < s.size), j < i → okB s[j] = true) → donjonref7_Name.l0 k s (i : Int) = some (nameP s) := by
  induction d with
  | zero =>
    intro k i hd hk hi hok
    obtain ⟨k, rfl⟩ : ∃ m, k = m + 1 := ⟨k - 1, by omega⟩
    obtain rfl : i = s.size := by omega
    have hall := all_ok s fun j h => hok j h h
    simp only [donjonref7_Name.l0]
    rw [if_neg (by omega)]
    unfold nameP
    rw [hall]
    by_cases h1 : (s.size : Int) ≥ 1
    · rw [if_pos h1]
      congr 1
      rw [Bool.eq_iff_iff]
      simp
      omega
    · rw [if_neg h1]
      congr 1
      simp
      omega
  | succ d ih =>
    intro k i hd hk hi hok
    obtain ⟨k, rfl⟩ : ∃ m, k = m + 1 := ⟨k - 1, by omega⟩
    have hlt : i < s.size := by omega
    have hw : wrap64 ((i : Int) + 1) = ((i + 1 : Nat) : Int) := by unfold wrap64; omega
    simp only [donjonref7_Name.l0]
    rw [if_pos (by omega), if_pos (by omega), bt_okB s i hlt, hw]
    by_cases hb : okB s[i] = true
    · have hn := ih k (i + 1) (by omega) (by omega) (by omega) (fun j h hj => by
        rcases Nat.lt_or_ge j i with h1 | h1
        · exact hok j h h1
        · obtain rfl : j = i := by omega
          exact hb)
      have hr := okB_range hb
      rw [hn]
      repeat' split
      all_goals first | rfl | (exfalso; omega)
    · have hr := okB_not hb
      rw [nameP_no s i hlt (by simpa using hb)]
      repeat' split
      all_goals first | rfl | (exfalso; omega)
theorem name7_is (s : ByteArray) (hs : s.size ≤ 9223372036854775807) : Ev (fun k => donjonref7_Name.f k s) (nameP s) :=
  ⟨s.size + 1, fun k hk => name7_l0 s hs s.size k 0 (by omega) (by omega) (by omega) (fun j _ h => absurd h (Nat.not_lt_zero _))⟩
theorem take_drop_snoc (l : List UInt8) (a i : Nat) (ha : a ≤ i) (hi : i < l.length) : (l.drop a).take (i + 1 - a) = (l.drop a).take (i - a) ++ [l[i]] := by
  rw [show i + 1 - a = (i - a) + 1 by omega, List.take_succ_eq_append_getElem (by rw [List.length_drop]; omega)]
  simp only [List.getElem_drop]
  congr 3
  omega
theorem parts_l0 (s : ByteArray) (hs : s.size ≤ 78) (h1 : 1 < s.size) (d : Nat) : ∀ (i a : Nat) (acc : List ByteArray), s.size - i = d → a ≤ i → i ≤ s.size → acc.length ≤ a → (∀ c ∈ (s.data.toList.drop a).take (i - a), c ≠ 47) →
    ∃ r : List ByteArray, Ev (fun k => donjonref7_Parts.l0 k s acc (a : Int) (i : Int)) (acc ++ r) ∧ r.map (·.data.toList) = segs (s.data.toList.drop a) := by
  have hlen := data_length s
  induction d with
  | zero =>
    intro i a acc hd ha hi hacc hno
    obtain rfl : i = s.size := by omega
    have hw : wrap64 ((s.size : Int) + 1) = ((s.size + 1 : Nat) : Int) := by unfold wrap64; omega
    refine ⟨[s.extract a s.size], ?_, ?_⟩
    · refine Ev.step (f := fun k => donjonref7_Parts.j1 k s acc (a : Int) (s.size : Int) true) (fun k => ?_) ?_
      · simp only [donjonref7_Parts.l0]
        rw [if_pos (by omega)]
        congr 1
        exact decide_eq_true (by omega)
      · refine Ev.step (f := fun k => donjonref7_Parts.l0 k s (acc ++ [s.extract a s.size]) ((s.size + 1 : Nat) : Int) ((s.size + 1 : Nat) : Int)) (fun k => ?_) ?_
        · simp only [donjonref7_Parts.j1]
          rw [if_pos trivial, if_pos trivial, if_pos (by omega), if_pos (by omega), if_pos (by omega), if_pos (by omega), hw]
          simp
        · refine Ev.step (f := fun k => donjonref7_Parts.j1 k s (acc ++ [s.extract a s.size]) ((s.size + 1 : Nat) : Int) ((s.size + 1 : Nat) : Int) false) (fun k => ?_) ?_
          · simp only [donjonref7_Parts.l0]
            rw [if_neg (by omega)]
          · refine Ev.step (f := fun _ => some (acc ++ [s.extract a s.size])) (fun k => ?_) (Ev.now _)
            simp only [donjonref7_Parts.j1]
            rw [if_neg (by simp)]
    · have hcur : (s.data.toList.drop a).take (s.size - a) = s.data.toList.drop a := List.take_of_length_le (by rw [List.length_drop, hlen]; omega)
      rw [hcur] at hno
      have h2 := segs_app (s.data.toList.drop a) [] hno (x := []) (xs := []) rfl
      simp only [List.append_nil] at h2
      rw [h2, List.map_cons, List.map_nil]
      congr 1
      rw [Lib.extract_to_end]
  | succ d ih =>
    intro i a acc hd ha hi hacc hno
    have hlt : i < s.size := by omega
    have hl : i < s.data.toList.length := by omega
    have hw : wrap64 ((i : Int) + 1) = ((i + 1 : Nat) : Int) := by unfold wrap64; omega
    have hst := take_drop_snoc s.data.toList a i ha hl
    have hbt : bt s (i : Int) = ((s.data.toList[i]).toNat : Int) := bt_okB s i hlt
    by_cases h47 : s.data.toList[i] = 47
    · obtain ⟨r, hr, hm⟩ := ih (i + 1) (i + 1) (acc ++ [s.extract a i]) (by omega) (by omega) (by omega) (by simp; omega) (by simp)
      refine ⟨s.extract a i :: r, ?_, ?_⟩
      · refine Ev.step (f := fun k => donjonref7_Parts.j1 k s acc (a : Int) (i : Int) true) (fun k => ?_) ?_
        · simp only [donjonref7_Parts.l0]
          rw [if_pos (by omega)]
          congr 1
          exact decide_eq_true (by omega)
        · refine Ev.step (f := fun k => donjonref7_Parts.l0 k s (acc ++ [s.extract a i]) ((i + 1 : Nat) : Int) ((i + 1 : Nat) : Int)) (fun k => ?_) (by simpa using hr)
          simp only [donjonref7_Parts.j1]
          rw [if_pos trivial, if_neg (by omega), if_pos (by omega), if_pos (by omega), if_pos (by rw [hbt, h47]; rfl), if_pos (by omega), if_pos (by omega), if_pos (by omega), if_pos (by omega), hw]
          simp
      · rw [List.map_cons, hm]
        have hdr : s.data.toList.drop a = (s.data.toList.drop a).take (i - a) ++ (47 :: s.data.toList.drop (i + 1)) := by
          conv => lhs; rw [← List.take_append_drop (i - a) (s.data.toList.drop a)]
          rw [List.drop_drop, show a + (i - a) = i by omega, List.drop_eq_getElem_cons hl, h47]
        conv => rhs; rw [hdr]
        rw [segs_app _ _ hno (x := []) (xs := segs (s.data.toList.drop (i + 1))) (by rw [segs, if_pos rfl]), List.append_nil]
        congr 1
        rw [Lib.extract_data]
    · obtain ⟨r, hr, hm⟩ := ih (i + 1) a acc (by omega) (by omega) (by omega) hacc (by
        rw [hst]
        intro c hc
        rcases List.mem_append.1 hc with hc | hc
        · exact hno c hc
        · rw [List.mem_singleton.1 hc]; exact h47)
      refine ⟨r, ?_, hm⟩
      refine Ev.step (f := fun k => donjonref7_Parts.j1 k s acc (a : Int) (i : Int) true) (fun k => ?_) ?_
      · simp only [donjonref7_Parts.l0]
        rw [if_pos (by omega)]
        congr 1
        exact decide_eq_true (by omega)
      · refine Ev.step (f := fun k => donjonref7_Parts.l0 k s acc (a : Int) ((i + 1 : Nat) : Int)) (fun k => ?_) hr
        simp only [donjonref7_Parts.j1]
        rw [if_pos trivial, if_neg (by omega), if_pos (by omega), if_pos (by omega), if_neg (by
          rw [hbt]
          intro h
          refine h47 (UInt8.toNat_inj.1 ?_)
          have : (47 : UInt8).toNat = 47 := rfl
          omega), hw]
theorem parts_is (s : ByteArray) (hs : s.size ≤ 78) (h1 : 1 < s.size) : ∃ r : List ByteArray, Ev (fun k => donjonref7_Parts.f k s) r ∧ r.map (·.data.toList) = segs (s.data.toList.drop 1) :=
  parts_l0 s hs h1 (s.size - 1) 1 1 [] rfl (Nat.le_refl _) (by omega) (by simp) (by simp)
theorem names_l0 (l : List ByteArray) (hl : l.length ≤ 6) (hs : ∀ x ∈ l, x.size ≤ 9223372036854775807) (d : Nat) : ∀ i : Nat, l.length - i = d → i ≤ l.length →
    Ev (fun k => donjonref7_Check.l0 k l (i : Int)) (if (l.drop i).all nameP = true then 0 else 1) := by
  induction d with
  | zero =>
    intro i hd hi
    obtain rfl : i = l.length := by omega
    refine Ev.step (f := fun _ => some 0) (fun k => ?_) ?_
    · simp only [donjonref7_Check.l0]
      rw [if_neg (by omega)]
    · simp
      exact Ev.now _
  | succ d ih =>
    intro i hd hi
    have hlt : i < l.length := by omega
    have hw : wrap64 ((i : Int) + 1) = ((i + 1 : Nat) : Int) := by unfold wrap64; omega
    have hx : rdOf ByteArray.empty l (i : Int) = l[i] := by simp [rdOf, hlt]
    refine Ev.step (f := fun k => (donjonref7_Name.f k l[i]).bind fun t => if t = true then donjonref7_Check.l0 k l ((i + 1 : Nat) : Int) else some 1) (fun k => ?_) ?_
    · simp only [donjonref7_Check.l0]
      rw [if_pos (by omega), if_pos (by omega), hx, hw]
    · refine Ev.bind (name7_is _ (hs _ (List.getElem_mem hlt))) ?_
      rw [List.drop_eq_getElem_cons hlt, List.all_cons]
      cases hn : nameP l[i] with
      | true => simpa using ih (i + 1) (by omega) (by omega)
      | false =>
        simp
        exact Ev.now _
theorem segs_head {c : UInt8} (hc : c ≠ 47) (r : List UInt8) : ∃ x xs, segs (c :: r) = (c :: x) :: xs := by
  unfold segs
  rw [if_neg hc]
  split
  · exact ⟨[], [], rfl⟩
  · exact ⟨_, _, rfl⟩
theorem seg_le (l : List UInt8) : ∀ x ∈ segs l, x.length ≤ l.length := by
  induction l with
  | nil => intro x hx; simp [segs] at hx; simp [hx]
  | cons c r ih =>
    intro x hx
    unfold segs at hx
    split at hx
    · rcases List.mem_cons.1 hx with rfl | hx
      · simp
      · have := ih x hx; simp; omega
    · split at hx
      · simp at hx; simp [hx]
      · rename_i y ys he
        rcases List.mem_cons.1 hx with rfl | hx
        · have := ih y (by rw [he]; simp); simp; omega
        · have := ih x (by rw [he]; simp [hx]); simp; omega
theorem check7_is (s : ByteArray) : Ev (fun k => donjonref7_Check.f k s) (pathChk s) := by
  have hlen := data_length s
  unfold donjonref7_Check.f pathChk
  by_cases h78 : 78 < s.size
  · rw [if_pos h78]
    refine Ev.congr (f := fun _ => some 5) (fun k => ?_) (Ev.now _)
    rw [if_pos (by omega)]
  · rw [if_neg h78]
    by_cases hr : s.data.toList = [47]
    · rw [if_pos hr]
      refine Ev.congr (f := fun _ => some 0) (fun k => ?_) (Ev.now _)
      rw [if_neg (by omega), if_pos (by rw [bts_eq]; exact hr)]
    · rw [if_neg hr]
      have hr2 : ¬ s.toList = [47] := by rw [bts_eq]; exact hr
      have hbad : ∀ k, donjonref7_Check.j0 (k + 1) s true = some 1 := fun k => by simp only [donjonref7_Check.j0]; rw [if_pos trivial]
      cases hl : s.data.toList with
      | nil =>
        have h0 : s.size = 0 := by rw [← hlen, hl]; rfl
        refine Ev.step (f := fun _ => some 1) (fun k => ?_) (by simpa [segs] using Ev.now _)
        rw [if_neg (by omega), if_neg hr2, if_pos (by omega), hbad]
      | cons c r =>
        have hsz : s.size = r.length + 1 := by rw [← hlen, hl]; rfl
        have hc0 : bt s 0 = (c.toNat : Int) := by
          have h := bt_okB s 0 (by omega)
          have e : s[0] = c := by
            have : s.data.toList[0]'(by rw [hl]; simp) = c := by simp [hl]
            exact this
          rw [e] at h
          exact h
        by_cases hc : c = 47
        · subst hc
          have hr0 : r ≠ [] := by rintro rfl; exact hr hl
          have h2 : 1 < s.size := by
            cases r with
            | nil => exact absurd rfl hr0
            | cons _ _ => simp at hsz; omega
          obtain ⟨p, hp, hm⟩ := parts_is s (by omega) h2
          rw [hl, List.drop_succ_cons, List.drop_zero] at hm
          have hseg : segs (47 :: r) = [] :: segs r := by rw [segs, if_pos rfl]
          rw [hseg]
          simp only
          have hpl : p.length = (segs r).length := by rw [← hm, List.length_map]
          have hp1 : 1 ≤ p.length := by
            rw [hpl]
            cases h : segs r with
            | nil => exact absurd h (segs_ne r)
            | cons _ _ => simp
          refine Ev.step (f := fun k => (donjonref7_Parts.f k s).bind fun t => if (t.length : Int) > 6 then some 1 else donjonref7_Check.l0 k t 0) (fun k => ?_) ?_
          · rw [if_neg (by omega), if_neg hr2, if_neg (by omega), if_pos (by omega), hc0]
            simp only [donjonref7_Check.j0]
            rw [if_neg (by decide)]
          · refine Ev.bind hp ?_
            by_cases h6 : 6 < p.length
            · rw [if_neg (by omega)]
              refine Ev.congr (f := fun _ => some 1) (fun k => ?_) (Ev.now _)
              rw [if_pos (by omega)]
            · have hss : ∀ x ∈ p, x.size ≤ 9223372036854775807 := fun x hx => by
                have h5 := seg_le r x.data.toList (by rw [← hm]; exact List.mem_map_of_mem hx)
                rw [data_length] at h5
                omega
              have h7 := names_l0 p (by omega) hss p.length 0 rfl (Nat.zero_le _)
              have hall : (segs r).all nameL = p.all nameP := by
                rw [← hm, List.all_map]
                congr 1
              have e : (if True ∧ 1 ≤ (segs r).length ∧ (segs r).length ≤ 6 ∧ (segs r).all nameL = true then (0 : Int) else 1) = if (p.drop 0).all nameP = true then 0 else 1 := by
                rw [hall, List.drop_zero]
                by_cases ha : p.all nameP = true
                · rw [if_pos ⟨trivial, by omega, by omega, ha⟩, if_pos ha]
                · rw [if_neg (fun h => ha h.2.2.2), if_neg ha]
              rw [e]
              refine Ev.congr (fun k => ?_) h7
              rw [if_neg (by omega)]
              rfl
        · obtain ⟨x, xs, hx⟩ := segs_head hc r
          rw [hx]
          simp only
          rw [if_neg (by simp)]
          refine Ev.step (f := fun _ => some 1) (fun k => ?_) (Ev.now _)
          rw [if_neg (by omega), if_neg hr2]
          have hne : (bt s 0 != 47) = true := by
            rw [hc0, bne_iff_ne]
            intro h
            refine hc (UInt8.toNat_inj.1 ?_)
            have : (47 : UInt8).toNat = 47 := rfl
            omega
          rw [hne, hbad]
          split
          · rfl
          · rw [if_pos (by omega)]
end Go.Proofs.YtpdflhgcdehmoaaDoor.T
