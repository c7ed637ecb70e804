/- Part of the proof that TreeRises comes to true: printed and written texts, merged by a program. -/
import Derived.Lib.Hide
import Derived.Test.YtpdflhgcdehmoaaDoorR3
import Derived.Test.YtpdflhgcdehmoaaDoorR11
import Derived.Test.YtpdflhgcdehmoaaDoorR14
namespace Go.Proofs.YtpdflhgcdehmoaaDoor.T
open Go.RowKit Go.Proofs.YtpdflhgcdehmoaaDoorW.PrintWords Go.Proofs.YtpdflhgcdehmoaaDoorW.PrintLast Go.Proofs.YtpdflhgcdehmoaaDoorW.PrintMore
attribute [local go_sem] max2_int min2_int max_two min_two max_three min_three max_four min_four
set_option linter.unusedVariables false
set_option linter.unusedSimpArgs false
mutual
def donjonlaw7_Of.l0 : Nat → List Int → ByteArray → Int → Option (ByteArray)
  | 0, _, _, _ => none
  | k + 1, x0, x3, x4 => if x4 < (x0.length : Int) then (donjonlaw7_Of.j1 k x0 x3 x4 (decide (x4 < 6))) else (donjonlaw7_Of.j1 k x0 x3 x4 false)
def donjonlaw7_Of.j1 : Nat → List Int → ByteArray → Int → Bool → Option (ByteArray)
  | 0, _, _, _, _ => none
  | k + 1, x0, x3, x4, x13 => if x13 = true then (if x3.size + 1 ≤ 9223372036854775807 then (donjonlaw7_Of.l1 k x0 (x3 ++ (⟨#[47]⟩ : ByteArray)) x4 0) else (none)) else (if x3.toList = ([] : List UInt8) then (some (⟨#[47]⟩ : ByteArray)) else (some x3))
def donjonlaw7_Of.l1 : Nat → List Int → ByteArray → Int → Int → Option (ByteArray)
  | 0, _, _, _, _ => none
  | k + 1, x0, x3, x4, x5 => if 0 ≤ x4 then (if x4 < (x0.length : Int) then ((donjonlaw7_within.f (rd x0 x4) 3).bind fun t158 => (if x5 ≤ t158 then ((donjonlaw7_within.f (wrap64 (Int.tdiv (rd x0 x4) 3)) 5).bind fun t160 => ((some (([(wrap64 (97 + t160)) % 256] : List Int) : List Int)).bind fun y161 => (if x3.size + (strOfNums y161).size ≤ 9223372036854775807 then (donjonlaw7_Of.l1 k x0 (x3 ++ (strOfNums y161)) x4 (wrap64 (x5 + 1))) else (none)))) else (donjonlaw7_Of.l0 k x0 x3 (wrap64 (x4 + 1))))) else (none)) else (none)
end
def donjonlaw7_Of.f (k : Nat) (l0 : List Int) : Option (ByteArray) := donjonlaw7_Of.l0 k l0 (⟨#[]⟩ : ByteArray) 0
theorem donjonlaw7_Of.mono_l : ∀ k, (∀ y0 y1 y2, LeO (donjonlaw7_Of.l0 k y0 y1 y2) (donjonlaw7_Of.l0 (k + 1) y0 y1 y2)) ∧ (∀ y0 y1 y2 y3, LeO (donjonlaw7_Of.j1 k y0 y1 y2 y3) (donjonlaw7_Of.j1 (k + 1) y0 y1 y2 y3)) ∧ (∀ y0 y1 y2 y3, LeO (donjonlaw7_Of.l1 k y0 y1 y2 y3) (donjonlaw7_Of.l1 (k + 1) y0 y1 y2 y3))
  | 0 => ⟨fun _ _ _ r h => by simp [donjonlaw7_Of.l0] at h, fun _ _ _ _ r h => by simp [donjonlaw7_Of.j1] at h, fun _ _ _ _ r h => by simp [donjonlaw7_Of.l1] at h⟩
  | k + 1 => by
    obtain ⟨ih0, ih1, ih2⟩ := donjonlaw7_Of.mono_l k
    refine ⟨?_, ?_, ?_⟩
    · intro y0 y1 y2
      unfold donjonlaw7_Of.l0
      repeat' first
      | (with_reducible exact ih0 _ _ _)
      | (with_reducible exact ih1 _ _ _ _)
      | (with_reducible exact ih2 _ _ _ _)
      | (with_reducible exact LeO.refl _)
      | (with_reducible exact LeO.none _)
      | (with_reducible refine LeO.ite ?_ ?_)
      | (with_reducible refine LeO.bind ?_ (fun _ => ?_))
      | exact ih0 _ _ _
      | exact ih1 _ _ _ _
      | exact ih2 _ _ _ _
      | exact LeO.none _
      | refine LeO.ite ?_ ?_
      | refine LeO.bind ?_ (fun _ => ?_)
    · intro y0 y1 y2 y3
      unfold donjonlaw7_Of.j1
      repeat' first
      | (with_reducible exact ih0 _ _ _)
      | (with_reducible exact ih1 _ _ _ _)
      | (with_reducible exact ih2 _ _ _ _)
      | (with_reducible exact LeO.refl _)
      | (with_reducible exact LeO.none _)
      | (with_reducible refine LeO.ite ?_ ?_)
      | (with_reducible refine LeO.bind ?_ (fun _ => ?_))
      | exact ih0 _ _ _
      | exact ih1 _ _ _ _
      | exact ih2 _ _ _ _
      | exact LeO.none _
      | refine LeO.ite ?_ ?_
      | refine LeO.bind ?_ (fun _ => ?_)
    · intro y0 y1 y2 y3
      unfold donjonlaw7_Of.l1
      repeat' first
      | (with_reducible exact ih0 _ _ _)
      | (with_reducible exact ih1 _ _ _ _)
      | (with_reducible exact ih2 _ _ _ _)
      | (with_reducible exact LeO.refl _)
      | (with_reducible exact LeO.none _)
      | (with_reducible refine LeO.ite ?_ ?_)
      | (with_reducible refine LeO.bind ?_ (fun _ => ?_))
      | exact ih0 _ _ _
      | exact ih1 _ _ _ _
      | exact ih2 _ _ _ _
      | exact LeO.none _
      | refine LeO.ite ?_ ?_
      | refine LeO.bind ?_ (fun _ => ?_)
theorem donjonlaw7_Of.mono : ∀ a0 k, LeO (donjonlaw7_Of.f k a0) (donjonlaw7_Of.f (k + 1) a0) := by
  intro a0 k
  obtain ⟨ih0, ih1, ih2⟩ := donjonlaw7_Of.mono_l k
  unfold donjonlaw7_Of.f
  repeat' first
      | (with_reducible exact ih0 _ _ _)
      | (with_reducible exact ih1 _ _ _ _)
      | (with_reducible exact ih2 _ _ _ _)
      | (with_reducible exact LeO.refl _)
      | (with_reducible exact LeO.none _)
      | (with_reducible refine LeO.ite ?_ ?_)
      | (with_reducible refine LeO.bind ?_ (fun _ => ?_))
      | exact ih0 _ _ _
      | exact ih1 _ _ _ _
      | exact ih2 _ _ _ _
      | exact LeO.none _
      | refine LeO.ite ?_ ?_
      | refine LeO.bind ?_ (fun _ => ?_)
set_option maxHeartbeats 8000000 in
set_option maxRecDepth 100000 in
theorem donjonlaw7_Of.calls (k : Nat) (A0 : Option Addr) (c0 : Nat) (l0 : List Int) (r : ByteArray) (w : World) (hr0 : Kd.C (Kd.int .i64) w A0 l0.length l0) (hc0 : l0.length ≤ c0) (h : donjonlaw7_Of.f k l0 = some r) :
    Calls Tryd.prog 22 #[.slice A0 l0.length c0] w fun e w' => e = .returned (.string r) ∧ Below w.heap.size w w' := by
  have HR0 := Aside0.mk hr0
  have HC0 := Aside0.mk hc0
  clear hr0 hc0
  have HB := Aside0.mk (Below.refl w.heap.size w)
  have H : (donjonlaw7_Of.l0 k l0 (⟨#[]⟩ : ByteArray) 0) = some r := h
  clear h
  have H' := Aside0.mk H
  clear H
  go_enter Tryd.func22, Tryd.ntmps22
  go_wp2
  go_loopg [3, 4] k (fun kq v3 v4 w' => ∃ (x3_1 : ByteArray) (x4_1 : Int), v3 = .string x3_1 ∧ v4 = .int .i64 x4_1 ∧ Aside0 (donjonlaw7_Of.l0 kq l0 x3_1 x4_1 = some r) ∧ Aside0 (kq ≤ k) ∧ Aside0 (Below w.heap.size w w'))
  case atStart => exact ⟨((⟨#[]⟩ : ByteArray)), (0), (by first | rfl | (simp; done) | (simp [*]; done)), (by first | rfl | (simp; done) | (simp [*]; done)), H', ⟨Nat.le_refl _⟩, ⟨by repeat (first | (with_reducible first | exact HB.out | apply below_alloc | apply pw_below_drewN | apply below_drew1) | exact HB.out)⟩⟩
  case round =>
    clear H'
    obtain ⟨x3_1, x4_1, rfl, rfl, HA, HK1, HB⟩ := hrel
    cases gk with
    | zero => exact absurd HA.out (by simp [donjonlaw7_Of.l0])
    | succ k1 =>
      have H := HA.out
      clear HA
      simp only [donjonlaw7_Of.l0] at H
      have HC2 := Aside0.mk H
      clear H
      go_upto_region 3 with (fail)
      go_cut [13] (fun v13 wc => ∃ (kq : Nat) (x13_1 : Bool), v13 = .bool x13_1 ∧ Aside0 (donjonlaw7_Of.j1 kq l0 x3_1 x4_1 x13_1 = some r) ∧ Aside0 (kq ≤ k1) ∧ Aside0 (Below w.heap.size w wc))
      case first =>
        have H := HC2.out
        clear HC2
        by_cases c3 : x4_1 < (l0.length : Int)
        · rw [if_pos c3] at H
          have c3b0 : decide (x4_1 < (l0.length : Int)) = true := decide_eq_true c3
          clear c3
          (first | rw [c3b0] | (simp only [i64_w, i32_w]; rw [c3b0]) | skip)
          have H' := Aside0.mk H
          clear H
          go_wp2
          go_meet
          case rel => exact ⟨_, (decide (x4_1 < 6)), (by first | rfl | (simp; done) | (simp [*]; done)), H', ⟨by have := HK1.out; first | omega | exact Nat.le_refl _⟩, ⟨by repeat (first | (with_reducible first | exact HB.out | apply below_alloc | apply pw_below_drewN | apply below_drew1) | exact HB.out)⟩⟩
        · rw [if_neg c3] at H
          have c3b0 : decide (x4_1 < (l0.length : Int)) = false := decide_eq_false c3
          clear c3
          (first | rw [c3b0] | (simp only [i64_w, i32_w]; rw [c3b0]) | skip)
          have H' := Aside0.mk H
          clear H
          go_wp2
          go_meet
          case rel => exact ⟨_, (false), (by first | rfl | (simp; done) | (simp [*]; done)), H', ⟨by have := HK1.out; first | omega | exact Nat.le_refl _⟩, ⟨by repeat (first | (with_reducible first | exact HB.out | apply below_alloc | apply pw_below_drewN | apply below_drew1) | exact HB.out)⟩⟩
      case rest =>
        clear HC2
        try clear c2
        try clear p2
        try clear c3
        try clear c3b0
        obtain ⟨kq, x13_1, rfl, HA, HJ1, HB⟩ := hcut
        cases kq with
        | zero => exact absurd HA.out (by simp [donjonlaw7_Of.j1])
        | succ kj1 =>
          have H := HA.out
          clear HA
          simp only [donjonlaw7_Of.j1] at H
          by_cases c4 : x13_1 = true
          · subst c4
            have H1 : (if x3_1.size + 1 ≤ 9223372036854775807 then (donjonlaw7_Of.l1 kj1 l0 (x3_1 ++ (⟨#[47]⟩ : ByteArray)) x4_1 0) else (none)) = some r := by rw [if_pos rfl] at H; exact H
            clear H
            have H := H1
            clear H1
            by_cases c5 : x3_1.size + 1 ≤ 9223372036854775807
            · rw [if_pos c5] at H
              have c5b0 := eq_true c5
              have c5b1 : decide (x3_1.size + 1 ≤ 9223372036854775807) = true := decide_eq_true c5
              try have c5b2 : (9223372036854775807 < x3_1.size + 1) = False := eq_false (Nat.not_lt.2 c5)
              have H' := Aside0.mk H
              clear H
              go_wp2
              go_loopg [3, 5] kj1 (fun kq v3 v5 w' => ∃ (x3_3 : ByteArray) (x5_3 : Int), v3 = .string x3_3 ∧ v5 = .int .i64 x5_3 ∧ Aside0 (donjonlaw7_Of.l1 kq l0 x3_3 x4_1 x5_3 = some r) ∧ Aside0 (kq ≤ kj1) ∧ Aside0 (Below w.heap.size w w'))
              case atStart => exact ⟨(x3_1 ++ (⟨#[47]⟩ : ByteArray)), (0), (by first | rfl | (simp; done) | (simp [*]; done)), (by first | rfl | (simp; done) | (simp [*]; done)), H', ⟨Nat.le_refl _⟩, ⟨by repeat (first | (with_reducible first | exact HB.out | apply below_alloc | apply pw_below_drewN | apply below_drew1) | exact HB.out)⟩⟩
              case round =>
                clear H'
                try clear c2
                try clear p2
                try clear c3
                try clear c3b0
                try clear c4
                try clear c5
                try clear c5b0
                try clear c5b1
                try clear c5b2
                try clear p2
                obtain ⟨x3_3, x5_3, rfl, rfl, HA, HK3, HB⟩ := hrel
                cases gk with
                | zero => exact absurd HA.out (by simp [donjonlaw7_Of.l1])
                | succ k3 =>
                  have H := HA.out
                  clear HA
                  simp only [donjonlaw7_Of.l1] at H
                  by_cases c6 : 0 ≤ x4_1
                  · rw [if_pos c6] at H
                    have c6b0 : decide (0 ≤ x4_1) = true := decide_eq_true c6
                    clear c6
                    by_cases c7 : x4_1 < (l0.length : Int)
                    · rw [if_pos c7] at H
                      have c7b0 : decide (x4_1 < (l0.length : Int)) = true := decide_eq_true c7
                      clear c7
                      replace H := Option.bind_eq_some_iff.mp H
                      obtain ⟨t158, A80, H⟩ := H
                      replace H : (if x5_3 ≤ t158 then ((donjonlaw7_within.f (wrap64 (Int.tdiv (rd l0 x4_1) 3)) 5).bind fun t160 => ((some (([(wrap64 (97 + t160)) % 256] : List Int) : List Int)).bind fun y161 => (if x3_3.size + (strOfNums y161).size ≤ 9223372036854775807 then (donjonlaw7_Of.l1 k3 l0 (x3_3 ++ (strOfNums y161)) x4_1 (wrap64 (x5_3 + 1))) else (none)))) else (donjonlaw7_Of.l0 k3 l0 x3_3 (wrap64 (x4_1 + 1)))) = some r := H
                      have A8 := Aside0.mk A80
                      clear A80
                      by_cases c9 : x5_3 ≤ t158
                      · rw [if_pos c9] at H
                        have c9b0 : decide (x5_3 ≤ t158) = true := decide_eq_true c9
                        clear c9
                        replace H := Option.bind_eq_some_iff.mp H
                        obtain ⟨t160, A100, H⟩ := H
                        replace H : ((some (([(wrap64 (97 + t160)) % 256] : List Int) : List Int)).bind fun y161 => (if x3_3.size + (strOfNums y161).size ≤ 9223372036854775807 then (donjonlaw7_Of.l1 k3 l0 (x3_3 ++ (strOfNums y161)) x4_1 (wrap64 (x5_3 + 1))) else (none))) = some r := H
                        have A10 := Aside0.mk A100
                        clear A100
                        obtain ⟨y161, hy161⟩ : ∃ y_ : List Int, y_ = (([(wrap64 (97 + t160)) % 256] : List Int)) := ⟨_, rfl⟩
                        replace H : (if x3_3.size + (strOfNums y161).size ≤ 9223372036854775807 then (donjonlaw7_Of.l1 k3 l0 (x3_3 ++ (strOfNums y161)) x4_1 (wrap64 (x5_3 + 1))) else (none)) = some r := by first | (rw [hy161]; with_reducible exact H) | (have H2_ := (Option.bind_some _ _).symm.trans H; rw [hy161]; with_reducible exact H2_) | (have H2_ := (Option.bind_some _ _).symm.trans H; with_reducible exact H2_) | with_reducible exact H | (rw [hy161]; exact H) | exact H
                        have Ny161 := Aside0.mk hy161
                        clear hy161
                        by_cases c11 : x3_3.size + (strOfNums y161).size ≤ 9223372036854775807
                        · rw [if_pos c11] at H
                          have c11b0 := eq_true c11
                          have c11b1 : decide (x3_3.size + (strOfNums y161).size ≤ 9223372036854775807) = true := decide_eq_true c11
                          try have c11b2 : (9223372036854775807 < x3_3.size + (strOfNums y161).size) = False := eq_false (Nat.not_lt.2 c11)
                          have H' := Aside0.mk H
                          clear H
                          have p157 : 0 ≤ (x4_1 : Int) := of_decide_eq_true (by first | (with_reducible assumption) | assumption)
                          have q157 : x4_1 < (l0.length : Int) := of_decide_eq_true (by first | (with_reducible assumption) | assumption)
                          obtain ⟨ad157, e157, hx157_0⟩ := Kd.at_int HR0.out x4_1 p157 q157
                          cases e157
                          replace hx157_0 := (HB.out.cell (World.block_lt_of_cell? w _ hx157_0)).trans hx157_0
                          replace p157 := eq_true p157
                          replace q157 := eq_true q157
                          go_wp2_with (first | ((with_reducible refine gate_callee (f := 51) rfl ?_); refine goesL_ (some 23) rfl rfl Tryd.func51 (by kernel_rfl) rfl #[.int .i64 (rd l0 x4_1), .int .i64 3] rfl (by (try simp only [List.map_toArray, List.map_cons, List.map_nil]); first | done | rfl | (simp only [List.length_drop, List.length_take]; rfl)) ?_; (with_reducible refine (donjonlaw7_within.calls (rd l0 x4_1) 3 t158 _ A8.out).mono ?_); rintro e w' ⟨rfl, ⟨nd, rfl⟩⟩; refine ⟨_, rfl, ?_⟩; have p159 : 0 ≤ (x4_1 : Int) := of_decide_eq_true (by first | (with_reducible assumption) | assumption); have q159 : x4_1 < (l0.length : Int) := of_decide_eq_true (by first | (with_reducible assumption) | assumption); obtain ⟨ad159, e159, hx159_0⟩ := Kd.at_int HR0.out x4_1 p159 q159; obtain rfl : ad157 = ad159 := (by injection e159); replace hx159_0 := (HB.out.cell (World.block_lt_of_cell? w _ hx159_0)).trans hx159_0; replace p159 := eq_true p159; replace q159 := eq_true q159) | ((with_reducible refine gate_callee (f := 51) rfl ?_); refine goesL_ (some 33) rfl rfl Tryd.func51 (by kernel_rfl) rfl #[.int .i64 (wrap64 (Int.tdiv (rd l0 x4_1) 3)), .int .i64 5] rfl (by (try simp only [List.map_toArray, List.map_cons, List.map_nil]); first | done | rfl | (simp only [List.length_drop, List.length_take]; rfl)) ?_; (with_reducible refine (donjonlaw7_within.calls (wrap64 (Int.tdiv (rd l0 x4_1) 3)) 5 t160 _ A10.out).mono ?_); rintro e w' ⟨rfl, ⟨nd, rfl⟩⟩; refine ⟨_, rfl, ?_⟩) | ((with_reducible refine gate_dst (N := 36) rfl ?_); refine Kd.R_lit (Kd.int .u8) _ 5 ?hg (N := 36) ?hd (xs := ([(wrap64 (97 + t160)) % 256] : List Int)) (inner := [.int .u8 ((wrap64 (97 + t160)) % 256)]) (ok := fun _ => True) (okp := fun _ => True) ?hr ?hp (fun _ hk => hk) trivial (Below.refl _ _) (Nat.le_refl _) (by simp) ?_; (case hd => rfl); (case hg => rfl); (case hr => first | (go_simp; done) | (go_simp; rfl)); (case hp => exact (Reps.one (show Kd.M (Kd.int .u8) _ _ _ ((wrap64 (97 + t160)) % 256) [.int .u8 ((wrap64 (97 + t160)) % 256)] from rfl) (Reps.none _ _))); intro v162 w12 ho13 hb hg_ hnew_; clear hg_ hnew_; (first | rw [← Ny161.out] at ho13 | (simp only [Int.reduceToNat] at ho13; rw [← Ny161.out] at ho13)); have n0_ := Aside0.mk (Kd.R_lower ho13 (below_size (by repeat (first | (with_reducible first | exact HB.out | apply below_alloc | apply pw_below_drewN | apply below_drew1) | exact HB.out)))); have n1_ := Aside0.mk (below_step (by repeat (first | (with_reducible first | exact HB.out | apply below_alloc | apply pw_below_drewN | apply below_drew1) | exact HB.out)) hb); clear HB; have HO163 := n0_; have HB := n1_; clear n0_ n1_; clear hb ho13; have hcv14 := own_string (P := Tryd.prog) Tryd.underlying80 Tryd.underlying5 Tryd.underlying9 (Kd.own_of_R HO163.out)))
                          go_roundg k3
                          case measure => have := HK1.out; have := HJ1.out; have := HK3.out; omega
                          case rel => exact ⟨(x3_3 ++ (strOfNums y161)), (wrap64 (x5_3 + 1)), (by first | rfl | (simp; done) | (simp [*]; done)), (by first | rfl | (simp; done) | (simp [*]; done)), H', ⟨by have := HK1.out; have := HJ1.out; have := HK3.out; omega⟩, ⟨by repeat (first | (with_reducible first | exact HB.out | apply below_alloc | apply pw_below_drewN | apply below_drew1) | exact HB.out)⟩⟩
                        · rw [if_neg c11] at H
                          exact absurd H (by simp)
                      · rw [if_neg c9] at H
                        have c9b0 : decide (x5_3 ≤ t158) = false := decide_eq_false c9
                        clear c9
                        have H' := Aside0.mk H
                        clear H
                        have p157 : 0 ≤ (x4_1 : Int) := of_decide_eq_true (by first | (with_reducible assumption) | assumption)
                        have q157 : x4_1 < (l0.length : Int) := of_decide_eq_true (by first | (with_reducible assumption) | assumption)
                        obtain ⟨ad157, e157, hx157_0⟩ := Kd.at_int HR0.out x4_1 p157 q157
                        cases e157
                        replace hx157_0 := (HB.out.cell (World.block_lt_of_cell? w _ hx157_0)).trans hx157_0
                        replace p157 := eq_true p157
                        replace q157 := eq_true q157
                        go_wp2_with (first | ((with_reducible refine gate_callee (f := 51) rfl ?_); refine goesL_ (some 23) rfl rfl Tryd.func51 (by kernel_rfl) rfl #[.int .i64 (rd l0 x4_1), .int .i64 3] rfl (by (try simp only [List.map_toArray, List.map_cons, List.map_nil]); first | done | rfl | (simp only [List.length_drop, List.length_take]; rfl)) ?_; (with_reducible refine (donjonlaw7_within.calls (rd l0 x4_1) 3 t158 _ A8.out).mono ?_); rintro e w' ⟨rfl, ⟨nd, rfl⟩⟩; refine ⟨_, rfl, ?_⟩))
                        go_roundg k3
                        case measure => have := HK1.out; have := HJ1.out; have := HK3.out; omega
                        case rel => exact ⟨(x3_3), (wrap64 (x4_1 + 1)), (by first | rfl | (simp; done) | (simp [*]; done)), (by first | rfl | (simp; done) | (simp [*]; done)), H', ⟨by have := HK1.out; have := HJ1.out; have := HK3.out; omega⟩, ⟨by repeat (first | (with_reducible first | exact HB.out | apply below_alloc | apply pw_below_drewN | apply below_drew1) | exact HB.out)⟩⟩
                    · rw [if_neg c7] at H
                      exact absurd H (by simp)
                  · rw [if_neg c6] at H
                    exact absurd H (by simp)
            · rw [if_neg c5] at H
              exact absurd H (by simp)
          · replace c4 := Bool.eq_false_iff.mpr c4
            subst c4
            have H1 : (if x3_1.toList = ([] : List UInt8) then (some (⟨#[47]⟩ : ByteArray)) else (some x3_1)) = some r := by rw [if_neg (show ¬ (false = true) by decide)] at H; exact H
            clear H
            have H := H1
            clear H1
            by_cases c15 : x3_1.toList = ([] : List UInt8)
            · rw [if_pos c15] at H
              have c15b0 : (x3_1.toList == ([] : List UInt8)) = true := beq_iff_eq.mpr c15
              have c15b1 : (x3_1.toList != ([] : List UInt8)) = false := bne_eq_false_iff_eq.mpr c15
              clear c15
              obtain rfl := Option.some.inj H
              go_wp2
              go_ret
              exact ⟨by first | rfl | (simp [errW_none, errW_some] <;> rfl) | (simp [*, errW_none, errW_some] <;> rfl), by repeat (first | (with_reducible first | exact HB.out | apply below_alloc | apply pw_below_drewN | apply below_drew1) | exact HB.out)⟩
            · rw [if_neg c15] at H
              have c15b0 : (x3_1.toList == ([] : List UInt8)) = false := beq_eq_false_iff_ne.mpr c15
              have c15b1 : (x3_1.toList != ([] : List UInt8)) = true := bne_iff_ne.mpr c15
              obtain rfl := Option.some.inj H
              go_wp2
              go_ret
              exact ⟨by first | rfl | (simp [errW_none, errW_some] <;> rfl) | (simp [*, errW_none, errW_some] <;> rfl), by repeat (first | (with_reducible first | exact HB.out | apply below_alloc | apply pw_below_drewN | apply below_drew1) | exact HB.out)⟩
end Go.Proofs.YtpdflhgcdehmoaaDoor.T
namespace Go.Proofs.YtpdflhgcdehmoaaDoor.T
open Go.RowKit Go.Proofs.YtpdflhgcdehmoaaDoorW.PrintWords Go.Proofs.YtpdflhgcdehmoaaDoorW.PrintLast Go.Proofs.YtpdflhgcdehmoaaDoorW.PrintMore
attribute [local go_sem] max2_int min2_int max_two min_two max_three min_three max_four min_four
set_option linter.unusedVariables false
set_option linter.unusedSimpArgs false
theorem of_l1 (l : List Int) (i : Nat) (hi : i < l.length) (hi6 : i < 6) (x : Int) (hx : l[i] = x) (R : List UInt8) (hR : ∀ s : ByteArray, 0 < s.size → s.size ≤ 4 * (i + 1) → Ev (fun k => donjonlaw7_Of.l0 k l s ((i + 1 : Nat) : Int)) ⟨(s.data.toList ++ R).toArray⟩) (m : Nat) (hm : wth x 3 = (m : Int)) (hm3 : m < 3) (d : Nat) : ∀ (j : Nat) (s : ByteArray), m + 1 - j = d → j ≤ m + 1 → 0 < s.size → s.size ≤ 4 * i + 1 + j →
    Ev (fun k => donjonlaw7_Of.l1 k l s (i : Int) (j : Int)) ⟨(s.data.toList ++ (segP x (m + 1 - j) ++ R)).toArray⟩ := by
  have hw5 := wth_in (wrap64 (Int.tdiv x 3)) 5 (by decide)
  have hrd : rd l (i : Int) = x := by rw [← hx]; simp [rd, List.getD_eq_getElem?_getD, hi]
  have HWI := Lib.hid (show wrap64 ((i : Int) + 1) = ((i + 1 : Nat) : Int) by unfold wrap64; omega)
  have e7 : donjonlaw7_within.f x 3 = some (m : Int) := by rw [within7_is _ _ (by decide) (by decide), hm]
  have e5 := within7_is (wrap64 (Int.tdiv x 3)) 5 (by decide) (by decide)
  have hone := str_one _ hw5.1 hw5.2
  generalize hb : UInt8.ofNat (97 + wth (wrap64 (Int.tdiv x 3)) 5).toNat = b at hone
  have hseg : ∀ q, segP x q = List.replicate q b := fun q => by unfold segP; rw [hb]
  generalize wth (wrap64 (Int.tdiv x 3)) 5 = y at *
  have hs1 := Lib.hid (show (⟨#[b]⟩ : ByteArray).size = 1 from rfl)
  induction d with
  | zero =>
    intro j s hd hj hp hs
    obtain rfl : j = m + 1 := by omega
    refine Ev.step (f := fun k => donjonlaw7_Of.l0 k l s ((i + 1 : Nat) : Int)) (fun k => ?_) ?_
    · simp only [donjonlaw7_Of.l1]
      rw [if_pos (by omega), if_pos (by omega), hrd, e7, Option.bind_some, if_neg (by omega), HWI.out]
    · have h9 := hR s hp (by omega)
      rw [Nat.sub_self, hseg]
      exact h9
  | succ d ih =>
    intro j s hd hj hp hs
    have HWJ := Lib.hid (show wrap64 ((j : Int) + 1) = ((j + 1 : Nat) : Int) by unfold wrap64; omega)
    have hsz := Lib.hid (show (s ++ (⟨#[b]⟩ : ByteArray)).size = s.size + 1 by rw [ByteArray.size_append, hs1.out])
    refine Ev.step (f := fun k => donjonlaw7_Of.l1 k l (s ++ (⟨#[b]⟩ : ByteArray)) (i : Int) ((j + 1 : Nat) : Int)) (fun k => ?_) ?_
    · simp only [donjonlaw7_Of.l1]
      rw [if_pos (by omega), if_pos (by omega), hrd, e7, Option.bind_some, if_pos (by omega), e5, Option.bind_some, Option.bind_some, hone, if_pos (by rw [hs1.out]; omega), HWJ.out]
    · have h9 := ih (j + 1) (s ++ (⟨#[b]⟩ : ByteArray)) (by omega) (by omega) (by rw [hsz.out]; omega) (by rw [hsz.out]; omega)
      have e : (s ++ (⟨#[b]⟩ : ByteArray)).data.toList ++ (segP x (m + 1 - (j + 1)) ++ R) = s.data.toList ++ (segP x (m + 1 - j) ++ R) := by
        rw [show m + 1 - j = (m + 1 - (j + 1)) + 1 by omega, hseg, hseg, List.replicate_succ]
        simp
      rw [e] at h9
      exact h9
theorem of_l0 (l : List Int) (d : Nat) : ∀ (i : Nat) (s : ByteArray), min l.length 6 - i = d → i ≤ min l.length 6 → s.size ≤ 4 * i →
    Ev (fun k => donjonlaw7_Of.l0 k l s (i : Int)) (ofF (s.data.toList ++ ofL ((l.take 6).drop i))) := by
  induction d with
  | zero =>
    intro i s hd hi hs
    obtain rfl : i = min l.length 6 := by omega
    have hdr : (l.take 6).drop (min l.length 6) = [] := List.drop_of_length_le (by simp; omega)
    rw [hdr]
    simp only [ofL, List.append_nil]
    have hj : ∀ k, donjonlaw7_Of.l0 (k + 1) l s ((min l.length 6 : Nat) : Int) = donjonlaw7_Of.j1 k l s ((min l.length 6 : Nat) : Int) false := fun k => by
      simp only [donjonlaw7_Of.l0]
      by_cases h : ((min l.length 6 : Nat) : Int) < (l.length : Int)
      · rw [if_pos h]
        congr 1
        exact decide_eq_false (by omega)
      · rw [if_neg h]
    refine Ev.step hj (Ev.step (f := fun _ => some _) (fun k => ?_) (Ev.now _))
    simp only [donjonlaw7_Of.j1]
    rw [if_neg (by simp), Lib.toList_data]
    unfold ofF
    by_cases hz : s.data.toList = []
    · rw [if_pos hz, if_pos hz]
    · rw [if_neg hz, if_neg hz, Lib.mk_data]
  | succ d ih =>
    intro i s hd hi hs
    have hlt : i < l.length := by omega
    have hdr : (l.take 6).drop i = l[i] :: (l.take 6).drop (i + 1) := by
      rw [List.drop_eq_getElem_cons (by simp; omega)]
      simp
    rw [hdr]
    simp only [ofL]
    rw [ofF_ne (by simp)]
    refine Ev.step (f := fun k => donjonlaw7_Of.j1 k l s (i : Int) true) (fun k => ?_) ?_
    · simp only [donjonlaw7_Of.l0]
      rw [if_pos (by omega)]
      congr 1
      exact decide_eq_true (by omega)
    · refine Ev.step (f := fun k => donjonlaw7_Of.l1 k l (s ++ (⟨#[47]⟩ : ByteArray)) (i : Int) ((0 : Nat) : Int)) (fun k => ?_) ?_
      · simp only [donjonlaw7_Of.j1]
        rw [if_pos trivial, if_pos (by omega)]
        rfl
      · have hsz : (s ++ (⟨#[47]⟩ : ByteArray)).size = s.size + 1 := by rw [ByteArray.size_append]; rfl
        have hw3 := wth_in l[i] 3 (by decide)
        have h9 := of_l1 l i hlt (by omega) l[i] rfl (ofL ((l.take 6).drop (i + 1))) (fun s' hp' hs' => by
          have h1 := ih (i + 1) s' (by omega) (by omega) (by omega)
          rw [ofF_ne (fun h => by
            have h2 := congrArg List.length h
            have h3 : s'.data.toList.length = s'.size := by simp
            simp only [List.length_append, List.length_nil] at h2
            omega)] at h1
          exact h1) (wth l[i] 3).toNat (by omega) (by omega) _ 0 (s ++ (⟨#[47]⟩ : ByteArray)) rfl (Nat.zero_le _) (by rw [hsz]; omega) (by rw [hsz]; omega)
        have e : (s ++ (⟨#[47]⟩ : ByteArray)).data.toList ++ (segP l[i] ((wth l[i] 3).toNat + 1 - 0) ++ ofL ((l.take 6).drop (i + 1))) = s.data.toList ++ 47 :: (segP l[i] ((wth l[i] 3).toNat + 1) ++ ofL ((l.take 6).drop (i + 1))) := by simp
        rw [e] at h9
        exact h9
theorem of_is (l : List Int) : ∃ k, donjonlaw7_Of.f k l = some (ofP l) := by
  have h := of_l0 l (min l.length 6) 0 ⟨#[]⟩ rfl (Nat.zero_le _) (Nat.le_refl _)
  have e : ofF ((⟨#[]⟩ : ByteArray).data.toList ++ ofL ((l.take 6).drop 0)) = ofP l := by
    unfold ofP
    simp
  rw [e] at h
  exact h.rounds
theorem segP_length (x : Int) (m : Nat) : (segP x m).length = m := by simp [segP]
theorem ofL_le : ∀ l : List Int, (ofL l).length ≤ 4 * l.length
  | [] => by simp [ofL]
  | x :: r => by
    have := ofL_le r
    have h3 := wth_in x 3 (by decide)
    simp only [ofL, List.length_cons, List.length_append, segP_length]
    omega
theorem ofP_size (l : List Int) : (ofP l).size ≤ 24 := by
  have h := ofL_le (l.take 6)
  have h2 : (l.take 6).length ≤ 6 := by simp; omega
  unfold ofP ofF
  split
  · decide
  · show (ofL (l.take 6)).toArray.size ≤ 24
    simp
    omega
end Go.Proofs.YtpdflhgcdehmoaaDoor.T
namespace Go.Proofs.YtpdflhgcdehmoaaDoor.T
open Go.RowKit Go.Proofs.YtpdflhgcdehmoaaDoorW.PrintWords Go.Proofs.YtpdflhgcdehmoaaDoorW.PrintLast Go.Proofs.YtpdflhgcdehmoaaDoorW.PrintMore
attribute [local go_sem] max2_int min2_int max_two min_two max_three min_three max_four min_four
set_option linter.unusedVariables false
set_option linter.unusedSimpArgs false
def donjonlaw11_within.f (a0 : Int) (a1 : Int) : Option (Int) := if a1 = 0 then (none) else (if (Int.tmod a0 a1) < 0 then (some (wrap64 ((Int.tmod a0 a1) + a1))) else (some (Int.tmod a0 a1)))
set_option maxHeartbeats 8000000 in
set_option maxRecDepth 100000 in
theorem donjonlaw11_within.calls (a0 : Int) (a1 : Int) (r : Int) (w : World) (h : donjonlaw11_within.f a0 a1 = some r) :
    Calls Tryd.prog 12 #[.int .i64 a0, .int .i64 a1] w fun e w' => e = .returned (.int .i64 r) ∧ Drawn0 w w' := by
  have H : (if a1 = 0 then (none) else (if (Int.tmod a0 a1) < 0 then (some (wrap64 ((Int.tmod a0 a1) + a1))) else (some (Int.tmod a0 a1)))) = some r := h
  clear h
  by_cases c3 : a1 = 0
  · rw [if_pos c3] at H
    exact absurd H (by simp)
  · rw [if_neg c3] at H
    have c3b0 : (a1 == 0) = false := beq_eq_false_iff_ne.mpr c3
    have c3b1 : (a1 != 0) = true := bne_iff_ne.mpr c3
    by_cases c4 : (Int.tmod a0 a1) < 0
    · rw [if_pos c4] at H
      have c4b0 : decide ((Int.tmod a0 a1) < 0) = true := decide_eq_true c4
      clear c4
      obtain rfl := Option.some.inj H
      go_enter Tryd.func12, Tryd.ntmps12
      go_wp2
      go_ret
      exact ⟨by first | rfl | (simp; done) | (simp [*]; done), by repeat (first | exact Drawn0.refl _ | apply Drawn0.step)⟩
    · rw [if_neg c4] at H
      have c4b0 : decide ((Int.tmod a0 a1) < 0) = false := decide_eq_false c4
      clear c4
      obtain rfl := Option.some.inj H
      go_enter Tryd.func12, Tryd.ntmps12
      go_wp2
      go_ret
      exact ⟨by first | rfl | (simp; done) | (simp [*]; done), by repeat (first | exact Drawn0.refl _ | apply Drawn0.step)⟩
end Go.Proofs.YtpdflhgcdehmoaaDoor.T
