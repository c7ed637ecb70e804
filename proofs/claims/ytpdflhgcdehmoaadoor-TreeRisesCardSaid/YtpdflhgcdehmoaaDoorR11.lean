/- Part of the proof that TreeRises comes to true: printed and written texts, merged by a program. -/
import Derived.Lib.Hide
import Derived.Test.YtpdflhgcdehmoaaDoorR3
import Derived.Test.YtpdflhgcdehmoaaDoorR6
import Derived.Test.YtpdflhgcdehmoaaDoorR5
import Derived.Test.YtpdflhgcdehmoaaDoorR7
import Derived.Test.YtpdflhgcdehmoaaDoorR8
import Derived.Test.YtpdflhgcdehmoaaDoorR10
import Derived.Test.YtpdflhgcdehmoaaDoorR4
namespace Go.Proofs.YtpdflhgcdehmoaaDoor.T
open Go.RowKit Go.Proofs.YtpdflhgcdehmoaaDoorW.PrintWords Go.Proofs.YtpdflhgcdehmoaaDoorW.PrintLast Go.Proofs.YtpdflhgcdehmoaaDoorW.PrintMore
attribute [local go_sem] max2_int min2_int max_two min_two max_three min_three max_four min_four
set_option linter.unusedVariables false
set_option linter.unusedSimpArgs false
attribute [local go_sem high] eqA26
attribute [local go_sem ↓] loadS_is storeS_is
attribute [local go_sem] storeS_new loadQ_is loadQ_at loadR_some cellsQ_alloc_at cellsQ_alloc_past
def overP (a b : S26) : Bool := (donjonref4_Over.f a.f0 a.f1 a.f2 a.f3 b.f0 b.f1 b.f2 b.f3).getD false
theorem overP_is (a b : S26) : donjonref4_Over.f a.f0 a.f1 a.f2 a.f3 b.f0 b.f1 b.f2 b.f3 = some (overP a b) := by
  unfold overP donjonref4_Over.f
  repeat' split
  all_goals rfl
def hangR (l : List S32) (n : S32) : Int :=
  if n.f0.toList = [47] then 0 else
  match findN l (parR n.f0) with
  | none => 2
  | some d => if d.f1 = false then 3 else if overP n.f2 d.f2 = false ∨ n.f1 = false ∧ labEq n.f2 d.f2 = false then 15 else 0
def treeR (l : List S32) : Int :=
  if scan (rowBad l) 0 l.length ≠ 0 then scan (rowBad l) 0 l.length else
  match findN l ⟨#[47]⟩ with
  | none => 2
  | some r =>
    if scan (fun i => hangR l (rd_T32 l i)) 0 l.length ≠ 0 then scan (fun i => hangR l (rd_T32 l i)) 0 l.length
    else if labEq r.f2 ⟨0, 0, 3, 255⟩ = false then 15 else 0
def treeFits (l : List S32) : Bool := l.all fun n => aclFits n.f3
theorem treeFits_at {l : List S32} (h : treeFits l = true) (k : Nat) (hk : k < l.length) : aclFits (rd_T32 l (k : Int)).f3 = true := by
  unfold treeFits at h
  rw [List.all_eq_true] at h
  rw [rd_get l k hk]
  exact h _ (List.getElem_mem hk)
def donjonref11_Check.f (l0 : List (S32)) : Option (Int) := if l0.length < 4611686018427387904 ∧ treeFits l0 = true then some (treeR l0) else none
set_option maxHeartbeats 4000000 in
set_option maxRecDepth 100000 in
theorem donjonref11_Check.calls (A0 : Option Addr) (c0 : Nat) (l0 : List (S32)) (r : Int) (w : World) (hr0 : Kd.C k32 w A0 l0.length l0) (hc0 : l0.length ≤ c0) (h : donjonref11_Check.f l0 = some r) :
    Calls Tryd.prog 10 #[.slice A0 l0.length c0] w fun e w' => e = .returned (.int .i64 r) ∧ Below w.heap.size w w' := by
  have hfit : l0.length < 4611686018427387904 ∧ treeFits l0 = true := by
    unfold donjonref11_Check.f at h
    by_cases hf : l0.length < 4611686018427387904 ∧ treeFits l0 = true
    · exact hf
    · rw [if_neg hf] at h; cases h
  obtain rfl : treeR l0 = r := by
    unfold donjonref11_Check.f at h
    rw [if_pos hfit] at h
    exact Option.some.inj h
  clear h
  have HR := Lib.hid hr0
  clear hr0
  have hlen := hfit.1
  have HTF := Lib.hid hfit.2
  clear hfit
  have hu := Tryd.underlying32
  have hul := Tryd.underlying26
  go_enter Tryd.func10, Tryd.ntmps10
  go_wp2
  go_loopw [3] (fun n w' => ∃ k : Nat, n = .int .i64 k ∧ k ≤ l0.length ∧ Aside0 (∀ i, i < k → rowBad l0 i = 0) ∧ Below w.heap.size w w') (fun n _ => l0.length - (intOf n).toNat)
  case atStart => exact ⟨0, rfl, Nat.zero_le _, ⟨fun i h => absurd h (Nat.not_lt_zero _)⟩, Below.refl _ _⟩
  case round =>
    obtain ⟨k, rfl, hk, HA, hB⟩ := hrel
    by_cases hlt : k < l0.length
    · obtain ⟨ad, A6, c6, A11, c11, rfl, hbk, hq, hx0, hx1, hl6, hC6, hl11, hC11⟩ := node_at HR.out k hlt
      have hsz := hB.size
      obtain ⟨hcr, hfr⟩ := below_rules hB
      have hqr := below_rulesQ hB
      have HC6 := Lib.hid hC6
      have HC11 := Lib.hid hC11
      clear hC6 hC11
      have hrow := Lib.hid (rowBad.eq_1 l0 k)
      have HFT := Lib.hid (treeFits_at HTF.out k hlt)
      have HN : Aside0 (rowBad l0 k = 0 → _) := ⟨fun h => all_next HA.out h⟩
      generalize rd_T32 l0 k = d at *
      go_wp2_with fail
      refine (node10_calls d A6 c6 A11 c11 _ (Kd.C_below HC6.out hB) hl6 (Kd.C_below HC11.out hB) hl11 HFT.out).mono ?_
      rintro e w1 ⟨rfl, hb⟩
      have hB1 := below_on hB hb
      obtain ⟨hc1, hf1⟩ := below_rules hB1
      have hsz1 := hB1.size
      clear hb
      by_cases hn : nodeChk d = 0
      · have hnb : (nodeChk d != 0) = false := by rw [hn]; rfl
        rcases hk0 : decide (0 < k) with _ | _
        · have hk2 : decide ((0 : Int) < (k : Int)) = false := by simpa using hk0
          have HZ := Lib.hid (show rowBad l0 k = 0 by rw [hrow.out, if_neg (by rw [hn]; simp), if_neg (by rintro ⟨h, -⟩; simp [h] at hk0)])
          clear hn
          go_wp2
          refine wp_region_below (by kernel_rfl) (by kernel_rfl) ?_
          repeat (first | go_big_quiet_skip | (go_big_quiet_want; apply quiet_one; (focus (intro w2 hC; obtain ⟨hc2, hf2⟩ := below_rules hC; obtain ⟨hc3, hf3⟩ := below_rules (below_on hB1 hC); go_simp; first | rfl | exact ⟨rfl, rfl⟩)); simp only [Act.put, List.setIfInBounds_toArray, List.set_cons_zero, List.set_cons_succ]; go_big_quiet_on))
          refine wpQuiet_nil ?_
          intro w2 hC2
          have hB2 := below_on hB1 hC2
          clear hC2
          go_wp2
          go_roundw
          case rel => exact ⟨k + 1, by go_num, hlt, ⟨HN.out HZ.out⟩, hB2⟩
          case measure => simp [intOf]; omega
        · have hk1 : 0 < k := by simpa using hk0
          obtain ⟨ad', A6', c6', A11', c11', e', hbk', -, hp0, -⟩ := node_at HR.out (k - 1) (by omega)
          obtain rfl := Option.some.inj e'
          clear e'
          rw [show ((k - 1 : Nat) : Int) = (k : Int) - 1 by omega] at hp0
          have hk2 : decide ((0 : Int) < (k : Int)) = true := by simpa using hk1
          have hkw : IntKind.i64.wrap ((k : Int) - 1) = (k : Int) - 1 := IntWalk.i64_in _ (by omega)
          have hkn : ((k : Int) - 1).toNat = k - 1 := by omega
          have hk3 : (0 : Int) ≤ (k : Int) - 1 := by omega
          have hk4 : (1 : Int) ≤ (k : Int) := by omega
          have hk5 : (k : Int) - 1 < (l0.length : Int) := by omega
          generalize rd_T32 l0 ((k : Int) - 1) = d' at *
          have hle := bytes_le d.f0.toList d'.f0.toList
          rcases hbl : Op.bytesLess d'.f0.toList d.f0.toList with _ | _
          · have HT := Lib.hid (show treeR l0 = 1 by
              have hz : rowBad l0 k = 1 := by rw [hrow.out, if_neg (by rw [hn]; simp), if_pos ⟨hk1, by rw [bytes_lt] at hbl; simpa using hbl⟩]
              have hs := scan_at (rowBad l0) 0 l0.length k hlt (fun j hj => by rw [Nat.zero_add]; exact HA.out j hj) (by rw [Nat.zero_add, hz]; simp)
              rw [Nat.zero_add, hz] at hs
              unfold treeR
              rw [hs, if_pos (by simp)])
            rw [hbl] at hle
            clear hn
            go_wp2
            refine wp_region_below (by kernel_rfl) (by kernel_rfl) ?_
            repeat (first | go_big_quiet_skip | (go_big_quiet_want; apply quiet_one; (focus (intro w2 hC; obtain ⟨hc2, hf2⟩ := below_rules hC; obtain ⟨hc3, hf3⟩ := below_rules (below_on hB1 hC); go_simp; first | rfl | exact ⟨rfl, rfl⟩)); simp only [Act.put, List.setIfInBounds_toArray, List.set_cons_zero, List.set_cons_succ]; go_big_quiet_on))
            refine wpQuiet_nil ?_
            intro w2 hC2
            have hB2 := below_on hB1 hC2
            clear hC2
            go_wp2
            go_ret
            exact ⟨ret_int HT.out.symm, hB2⟩
          · have HZ := Lib.hid (show rowBad l0 k = 0 by rw [hrow.out, if_neg (by rw [hn]; simp), if_neg (by rintro ⟨-, h⟩; rw [bytes_lt] at hbl; simp at hbl; exact h hbl)])
            rw [hbl] at hle
            clear hn
            go_wp2
            refine wp_region_below (by kernel_rfl) (by kernel_rfl) ?_
            repeat (first | go_big_quiet_skip | (go_big_quiet_want; apply quiet_one; (focus (intro w2 hC; obtain ⟨hc2, hf2⟩ := below_rules hC; obtain ⟨hc3, hf3⟩ := below_rules (below_on hB1 hC); go_simp; first | rfl | exact ⟨rfl, rfl⟩)); simp only [Act.put, List.setIfInBounds_toArray, List.set_cons_zero, List.set_cons_succ]; go_big_quiet_on))
            refine wpQuiet_nil ?_
            intro w2 hC2
            have hB2 := below_on hB1 hC2
            clear hC2
            go_wp2
            go_roundw
            case rel => exact ⟨k + 1, by go_num, hlt, ⟨HN.out HZ.out⟩, hB2⟩
            case measure => simp [intOf]; omega
      · have hnb : (nodeChk d != 0) = true := by simpa using hn
        have HT := Lib.hid (show treeR l0 = nodeChk d by
          have hz : rowBad l0 k = nodeChk d := by rw [hrow.out, if_pos hn]
          have hs := scan_at (rowBad l0) 0 l0.length k hlt (fun j hj => by rw [Nat.zero_add]; exact HA.out j hj) (by rw [Nat.zero_add, hz]; exact hn)
          rw [Nat.zero_add, hz] at hs
          unfold treeR
          rw [hs, if_pos hn])
        clear hn
        go_wp2
        go_ret
        exact ⟨ret_int HT.out.symm, hB1⟩
    · obtain rfl : k = l0.length := by omega
      have HS := Lib.hid (show scan (rowBad l0) 0 l0.length = 0 from scan_zero _ _ _ fun j hj => by rw [Nat.zero_add]; exact HA.out j hj)
      have HSZ := Lib.hid (fun j hj => row_size (HA.out j hj))
      have HT : Aside0 (treeR l0 = _) := ⟨by unfold treeR; rw [HS.out, if_neg (by simp)]⟩
      go_wp2_with fail
      refine (find_calls A0 c0 l0 _ _ (Kd.C_below HR.out hB) hc0 hlen).mono ?_
      rintro e w1 ⟨hb, ⟨hf, rfl⟩ | ⟨n, A6, c6, A11, c11, hf, rfl, hl6, hC6, hl11, hC11⟩⟩
      · have HT2 := Lib.hid (HT.out.trans (by rw [hf]))
        have hB1 := below_on hB hb
        clear hb hf HT
        go_wp2
        go_ret
        exact ⟨ret_int HT2.out.symm, below_alloc hB1 _⟩
      · have HT2 : Aside0 (treeR l0 = _) := ⟨HT.out.trans (by rw [hf])⟩
        have hB1 := below_on hB hb
        clear hb hf HT hC6 hC11
        go_wp2
        obtain ⟨W1, hW1, hbox⟩ : ∃ W1, W1 = w1.alloc (.cells #[.string n.f0, .bool n.f1, .int .i64 n.f2.f0, .int .i64 n.f2.f1, .int .i64 n.f2.f2, .int .i64 n.f2.f3, .slice A6 n.f3.length c6, .int .i64 n.f4.f0, .int .i64 n.f4.f1, .int .i64 n.f4.f2, .int .i64 n.f4.f3, .slice A11 n.f5.length c11, .int .i64 n.f6.f0, .int .i64 n.f6.f1, .int .i64 n.f6.f2, .int .i64 n.f6.f3] 32) ∧ ∀ j, W1.cell? ⟨w1.heap.size, j, none⟩ = (#[.string n.f0, .bool n.f1, .int .i64 n.f2.f0, .int .i64 n.f2.f1, .int .i64 n.f2.f2, .int .i64 n.f2.f3, .slice A6 n.f3.length c6, .int .i64 n.f4.f0, .int .i64 n.f4.f1, .int .i64 n.f4.f2, .int .i64 n.f4.f3, .slice A11 n.f5.length c11, .int .i64 n.f6.f0, .int .i64 n.f6.f1, .int .i64 n.f6.f2, .int .i64 n.f6.f3] : Array Value)[j]? := ⟨_, rfl, fun j => World.cell?_alloc_at _ _ _ _ rfl⟩
        rw [← hW1]
        have hBW : Below w.heap.size w W1 := by rw [hW1]; exact below_alloc hB1 _
        have hsW : w1.heap.size < W1.heap.size := by rw [hW1]; simp
        have hsw : w.heap.size ≤ w1.heap.size := hB1.size
        have HBOX := Lib.hid hbox
        clear hW1 hbox
        go_loopw [7] (fun v w' => ∃ k : Nat, v = .int .i64 k ∧ k ≤ l0.length ∧ Aside0 (∀ i, i < k → hangR l0 (rd_T32 l0 (i : Nat)) = 0) ∧ Below W1.heap.size W1 w') (fun v _ => l0.length - (intOf v).toNat)
        case atStart => exact ⟨0, rfl, Nat.zero_le _, ⟨fun i h => absurd h (Nat.not_lt_zero _)⟩, Below.refl _ _⟩
        case round =>
          obtain ⟨k, rfl, hk, HA2, hB2⟩ := hrel
          have hB3 := hBW.trans (hB2.mono hBW.size)
          obtain ⟨hcr, hfr⟩ := below_rules hB3
          have hsz := hB3.size
          by_cases hlt : k < l0.length
          · obtain ⟨ad, _, _, _, _, rfl, hx0, hx1, hx2, hx3, hx4, hx5, -⟩ := at_T32 HR.out (k : Int) (by omega) (by omega)
            simp only [Int.toNat_natCast] at hx0 hx1 hx2 hx3 hx4 hx5
            have hbk := World.block_lt_of_cell? _ _ hx0
            have HN : Aside0 (hangR l0 (rd_T32 l0 (k : Nat)) = 0 → _) := ⟨fun h => all_next HA2.out h⟩
            have HSC : Aside0 (hangR l0 (rd_T32 l0 (k : Nat)) ≠ 0 → treeR l0 = hangR l0 (rd_T32 l0 (k : Nat))) := ⟨fun h => by
              have hs := scan_at (fun i => hangR l0 (rd_T32 l0 i)) 0 l0.length k hlt (fun j hj => by rw [Nat.zero_add]; exact HA2.out j hj) (by rw [Nat.zero_add]; exact h)
              rw [Nat.zero_add] at hs
              rw [HT2.out]
              show (if scan (fun i => hangR l0 (rd_T32 l0 i)) 0 l0.length ≠ 0 then _ else _) = _
              rw [hs, if_pos h]⟩
            have HSK := Lib.hid (HSZ.out k hlt)
            have HH : Aside0 (hangR l0 (rd_T32 l0 (k : Nat)) = _) := ⟨rfl⟩
            generalize rd_T32 l0 k = d at *
            unfold hangR at HH
            by_cases hp : d.f0.toList = [47]
            · have hpb : (d.f0.toList == [47]) = true := by rw [hp]; rfl
              have HZ := Lib.hid (HH.out.trans (if_pos hp))
              clear hp
              go_wp2
              go_roundw
              case rel => exact ⟨k + 1, by go_num, hlt, ⟨HN.out HZ.out⟩, hB2⟩
              case measure => simp [intOf]; omega
            · have hpb : (d.f0.toList == [47]) = false := by simpa using hp
              have HH2 : Aside0 (hangR l0 d = _) := ⟨HH.out.trans (if_neg hp)⟩
              clear hp HH
              have HP := Lib.hid (parR_is d.f0 (Nat.le_trans HSK.out (by decide)))
              generalize parR d.f0 = P at *
              go_wp2_with fail
              refine (donjonref7_Parent.calls _ _ _ _ HP.out).mono ?_
              rintro e w2 ⟨rfl, hd⟩
              have hB4 := below_on hB2 hd.below
              have hB5 := hBW.trans (hB4.mono hBW.size)
              clear hd
              go_wp2_with fail
              refine (find_calls _ c0 l0 P _ (Kd.C_below HR.out hB5) hc0 hlen).mono ?_
              rintro e w3 ⟨hb, ⟨hf, rfl⟩ | ⟨p, B6, b6, B11, b11, hf, rfl, hm6, hD6, hm11, hD11⟩⟩
              · have HZ := Lib.hid (HH2.out.trans (by rw [hf]))
                have hB6 := below_on hB5 hb
                have HT3 := Lib.hid (HSC.out (by rw [HZ.out]; simp))
                clear hb hf
                go_wp2
                go_ret
                exact ⟨ret_int (by rw [HT3.out, HZ.out]), below_alloc hB6 _⟩
              · have HZ : Aside0 (hangR l0 d = _) := ⟨HH2.out.trans (by rw [hf])⟩
                have hB6 := below_on hB4 (hb.mono (Nat.le_refl _))
                have hB7 := hBW.trans (hB6.mono hBW.size)
                have hlt3 : w.heap.size ≤ w3.heap.size := hB7.size
                have hlt4 : W1.heap.size ≤ w3.heap.size := hB6.size
                obtain ⟨hc7, hf7⟩ := below_rules hB7
                clear hb hf HH2 hD6 hD11
                cases hd : p.f1 with
                | false =>
                  have HT3 := Lib.hid (show treeR l0 = 3 by
                    have hz : hangR l0 d = 3 := HZ.out.trans (if_pos hd)
                    rw [HSC.out (by rw [hz]; simp), hz])
                  clear HZ HSC hcr hfr
                  go_wp2
                  go_ret
                  exact ⟨ret_int HT3.out.symm, below_alloc hB7 _⟩
                | true =>
                  have HZ2 : Aside0 (hangR l0 d = _) := ⟨HZ.out.trans (if_neg (by rw [hd]; simp))⟩
                  clear HZ hcr hfr
                  have HO := Lib.hid (overP_is d.f2 p.f2)
                  have HE := Lib.hid (show labEq d.f2 p.f2 = (d.f2.f0 == p.f2.f0 && (d.f2.f1 == p.f2.f1 && (d.f2.f2 == p.f2.f2 && (d.f2.f3 == p.f2.f3)))) from rfl)
                  generalize labEq d.f2 p.f2 = q at *
                  go_wp2_with fail
                  rcases ho : overP d.f2 p.f2 with _ | _ <;> rcases hn : d.f1 with _ | _ <;> rcases q with _ | _
                  all_goals
                    rw [ho, hn] at HZ2
                    rw [hn] at hx1
                    have HZ3 := Lib.hid HZ2.out
                    simp only [Bool.false_eq_true, Bool.true_eq_false, true_or, false_or, or_true, or_false, true_and, false_and, and_true, and_false, if_true, if_false] at HZ3
                    rw [ho] at HO
                    have hq := HE.out.symm
                    clear HE HZ2 ho hn
                    refine wp_region_below (by kernel_rfl) (by kernel_rfl) ?_
                    repeat (first | go_big_quiet_skip | (go_big_quiet_want; apply quiet_one; (focus (intro w4 hC; obtain ⟨hc8, hf8⟩ := below_rules hC; obtain ⟨hc9, hf9⟩ := below_rules (below_on (below_alloc hB7 _) hC); go_simp; first | rfl | exact ⟨rfl, rfl⟩ | (refine quiet_call hC (by simp) (donjonref4_Over.calls _ _ _ _ _ _ _ _ _ _ HO.out)))); simp only [Act.put, List.setIfInBounds_toArray, List.set_cons_zero, List.set_cons_succ]; go_big_quiet_on))
                    refine wpQuiet_nil ?_
                    intro w4 hC4
                    have hB8 := below_on (below_alloc hB7 _) hC4
                    have hB9 := below_on (below_alloc hB6 _) hC4
                    clear hC4
                    go_wp2
                    first
                    | (go_ret; exact ⟨ret_int (by rw [HSC.out (by rw [HZ3.out]; simp), HZ3.out]), hB8⟩)
                    | (go_roundw; (case rel => exact ⟨k + 1, by go_num, hlt, ⟨HN.out HZ3.out⟩, hB9⟩); (case measure => (simp [intOf]; omega)))
          · obtain rfl : k = l0.length := by omega
            have HS2 := Lib.hid (show scan (fun i => hangR l0 (rd_T32 l0 i)) 0 l0.length = 0 from scan_zero _ _ _ fun j hj => by rw [Nat.zero_add]; exact HA2.out j hj)
            have HT3 : Aside0 (treeR l0 = _) := ⟨HT2.out.trans (if_neg (by rw [HS2.out]; simp))⟩
            clear HS2 HT2 hcr hfr
            obtain ⟨hc2, hf2⟩ := below_rules hB2
            have hbox := HBOX.out
            rcases hq : labEq n.f2 ⟨0, 0, 3, 255⟩ with _ | _
            all_goals
              rw [hq] at HT3
              have hq' : (n.f2.f0 == 0 && (n.f2.f1 == 0 && (n.f2.f2 == 3 && (n.f2.f3 == 255)))) = _ := hq
              clear hq
              go_wp2_with fail
              refine wp_region_below (by kernel_rfl) (by kernel_rfl) ?_
              repeat (first | go_big_quiet_skip | (go_big_quiet_want; apply quiet_one; (focus (intro w4 hC; obtain ⟨hc3, hf3⟩ := below_rules (below_on hB2 hC); go_simp; first | rfl | exact ⟨rfl, rfl⟩ | (refine quiet_call hC (by simp) (donjonref4_Bottom.calls _ _ _ _ _ rfl)))); simp only [Act.put, List.setIfInBounds_toArray, List.set_cons_zero, List.set_cons_succ]; go_big_quiet_on))
              refine wpQuiet_nil ?_
              intro w4 hC4
              have hB4 := below_on hB3 hC4
              clear hC4
              go_wp2
              go_ret
              exact ⟨ret_int (by rw [HT3.out]; rfl), hB4⟩
end Go.Proofs.YtpdflhgcdehmoaaDoor.T
namespace Go.Proofs.YtpdflhgcdehmoaaDoor.T
open Go.RowKit Go.Proofs.YtpdflhgcdehmoaaDoorW.PrintWords Go.Proofs.YtpdflhgcdehmoaaDoorW.PrintLast Go.Proofs.YtpdflhgcdehmoaaDoorW.PrintMore
attribute [local go_sem] max2_int min2_int max_two min_two max_three min_three max_four min_four
set_option linter.unusedVariables false
set_option linter.unusedSimpArgs false
theorem nodeChk_path {n : S32} (h : nodeChk n = 0) : pathChk n.f0 = 0 ∧ labChk n.f2 = 0 := by
  unfold nodeChk firstOf at h
  by_cases h0 : pathChk n.f0 = 0
  · by_cases h1 : labChk n.f2 = 0
    · exact ⟨h0, h1⟩
    · simp [h0, h1] at h
  · simp [h0] at h
theorem row_node {l : List S32} {j : Nat} (h : rowBad l j = 0) : nodeChk (rd_T32 l j) = 0 := by
  unfold rowBad at h
  by_cases h0 : nodeChk (rd_T32 l j) = 0
  · exact h0
  · rw [if_pos h0] at h; exact absurd h h0
theorem scan_zero_all {f : Nat → Int} {k m : Nat} (h : scan f k m = 0) : ∀ j, j < m → f (k + j) = 0 := by
  induction m generalizing k with
  | zero => intro j hj; omega
  | succ m ih =>
    intro j hj
    unfold scan at h
    by_cases h0 : f k = 0
    · rw [if_neg (by rw [h0]; simp)] at h
      cases j with
      | zero => exact h0
      | succ j => have := ih h j (by omega); rwa [show k + (j + 1) = k + 1 + j by omega]
    · rw [if_pos h0] at h; exact absurd h h0
theorem scan_eq {f g : Nat → Int} {k m : Nat} (h : ∀ j, j < m → f (k + j) = g (k + j)) : scan f k m = scan g k m := by
  induction m generalizing k with
  | zero => rfl
  | succ m ih =>
    unfold scan
    have h0 := h 0 (Nat.succ_pos _)
    rw [Nat.add_zero] at h0
    rw [h0, ih fun j hj => by have := h (j + 1) (by omega); rwa [show k + 1 + j = k + (j + 1) by omega]]
theorem path_head {s : ByteArray} (h : pathChk s = 0) : ∃ r, s.toList = 47 :: r := by
  unfold pathChk at h
  rw [Lib.toList_data]
  by_cases h78 : 78 < s.size
  · rw [if_pos h78] at h; cases h
  · rw [if_neg h78] at h
    by_cases hr : s.data.toList = [47]
    · exact ⟨[], hr⟩
    · rw [if_neg hr] at h
      cases hs : s.data.toList with
      | nil => rw [hs] at h; simp [segs] at h
      | cons c r =>
        rw [hs] at h
        unfold segs at h
        by_cases hc : c = 47
        · exact ⟨r, by rw [hc]⟩
        · rw [if_neg hc] at h
          cases hr2 : segs r <;> rw [hr2] at h <;> simp at h
theorem root_least {s : ByteArray} (h : pathChk s = 0) : ¬ s.toList < ([47] : List UInt8) := by
  obtain ⟨r, hr⟩ := path_head h
  rw [hr, List.cons_lt_cons_iff]
  rintro (h1 | ⟨-, h1⟩)
  · exact absurd h1 (by decide)
  · exact absurd h1 (List.not_lt_nil _)
theorem ba_eq {a b : ByteArray} (h : a.toList = b.toList) : a = b := by
  rw [Lib.toList_data, Lib.toList_data] at h
  rw [← Lib.mk_data a, ← Lib.mk_data b, h]
theorem par_eq {s : ByteArray} (h : pathChk s = 0) : parD s = parR s := by
  obtain ⟨r, hr⟩ := path_head h
  have hsz : s.size = r.length + 1 := by
    have := congrArg List.length hr
    rw [Lib.toList_data] at this
    simpa using this
  unfold parD parR slashP
  by_cases h1 : r = []
  · subst h1
    rw [if_pos hr, if_pos (by rw [hsz]; simp)]
  · have hl : 0 < r.length := List.length_pos_iff.2 h1
    have h2 : ¬ s.size < 2 := by omega
    rw [if_neg (by rw [hr]; simpa using h1), if_neg h2]
    have h47 : ((s.data[0]!).toNat : Int) = 47 := by
      have h0 : s.data.toList = 47 :: r := by rw [← Lib.toList_data]; exact hr
      rw [getElem!_pos s.data 0 (by have : s.data.size = s.size := rfl; omega)]
      have h3 : s.data.toList[0]'(by simp; have : s.data.size = s.size := rfl; omega) = 47 := by simp [h0]
      rw [← Array.getElem_toList, h3]
      rfl
    rcases Lib.lastIndexByte_spec s 47 with ⟨e, hn⟩ | ⟨i, hi, e, -⟩
    · exact absurd h47 (hn 0 (by omega))
    · rw [e]
      have hi1 : ¬ (i : Int) < 0 := by omega
      rw [if_neg hi1]
      simp only [Int.toNat_natCast]
      by_cases hi0 : i = 0
      · subst hi0
        rw [if_pos rfl]
        apply ba_eq
        rw [Lib.toList_data, Lib.toList_data]
        have h0 : s.data.toList = 47 :: r := by rw [← Lib.toList_data]; exact hr
        simp [ByteArray.data_extract, h0]
      · rw [if_neg hi0, show max i 1 = i by omega]
theorem lessN_at {l : List S32} (hs : risesP l = true) {i : Nat} (hi : i < l.length) {p : ByteArray} (hp : (rd_T32 l i).f0.toList = p.toList) : lessN l p = i := by
  rw [← lessN_range]
  have hr : ∀ t, t < l.length → (List.range l.length)[t]! = t := fun t ht => by rw [getElem!_pos _ t (by simpa using ht)]; simp
  refine Lib.countP_boundary _ (List.range l.length) i (by simp; omega) (fun t ht => ?_) (fun t h3 h4 => ?_)
  · rw [hr t (by omega), bytes_lt, ← hp]
    simp [rises_lt hs ht hi]
  · have h4' : t < l.length := by simpa using h4
    rw [hr t h4', bytes_lt, ← hp]
    simp only [Bool.not_not, decide_eq_false_iff_not]
    rcases Nat.lt_or_eq_of_le h3 with h5 | rfl
    · exact fun h6 => List.lt_asymm h6 (rises_lt hs h5 h4')
    · exact List.lt_irrefl _
theorem find_place {l : List S32} (hs : risesP l = true) (p : ByteArray) : findN l p = if atP l p = true then some (rd_T32 l (lessN l p)) else none := by
  by_cases h : atP l p = true
  · rw [if_pos h]
    unfold atP at h
    rw [Bool.and_eq_true, decide_eq_true_eq] at h
    refine findN_at h.1 (fun i hi => ?_) h.2
    have hp : (rd_T32 l (lessN l p)).f0.toList = p.toList := by simpa using h.2
    have := rises_lt hs hi h.1
    rw [hp] at this
    simp only [beq_eq_false_iff_ne, ne_eq]
    intro h3
    rw [h3] at this
    exact List.lt_irrefl _ this
  · rw [if_neg h]
    refine findN_none fun i hi => ?_
    simp only [beq_eq_false_iff_ne, ne_eq]
    intro hp
    apply h
    unfold atP
    rw [lessN_at hs hi hp, hp]
    simp [hi]
theorem or_and (a b : Nat) : a ||| b = a ↔ a &&& b = b := by
  constructor
  · intro h
    apply Nat.eq_of_testBit_eq
    intro i
    have := congrArg (Nat.testBit · i) h
    simp only [Nat.testBit_or, Nat.testBit_and] at this ⊢
    revert this
    cases a.testBit i <;> cases b.testBit i <;> simp
  · intro h
    apply Nat.eq_of_testBit_eq
    intro i
    have := congrArg (Nat.testBit · i) h
    simp only [Nat.testBit_or, Nat.testBit_and] at this ⊢
    revert this
    cases a.testBit i <;> cases b.testBit i <;> simp
theorem wraps8 (n : Int) (h₀ : 0 ≤ n) (h₁ : n < 2 ^ 8) : IntKind.i64.wrap n = n := by rw [IntKind.wrap_i64]; omega
theorem lab_of {a : S26} (h : labChk a = 0) : (0 ≤ a.f0 ∧ a.f0 ≤ 3) ∧ (0 ≤ a.f2 ∧ a.f2 ≤ 3) ∧ (0 ≤ a.f1 ∧ a.f1 ≤ 255) ∧ 0 ≤ a.f3 ∧ a.f3 ≤ 255 := by
  unfold labChk at h
  split at h
  · assumption
  · cases h
theorem over_eq {a b : S26} (ha : labChk a = 0) (hb : labChk b = 0) : overJ a b = overP a b := by
  have h1 := lab_of ha
  have h2 := lab_of hb
  obtain ⟨a0, a1, a2, a3⟩ := a
  obtain ⟨b0, b1, b2, b3⟩ := b
  simp only at h1 h2
  obtain ⟨m, rfl⟩ : ∃ m : Nat, a1 = m := ⟨a1.toNat, by omega⟩
  obtain ⟨n, rfl⟩ : ∃ n : Nat, b1 = n := ⟨b1.toNat, by omega⟩
  have hbn := bits_nat .i64 8 (by decide) wraps8 m n (by omega) (by omega)
  have hoa := or_and m n
  unfold overJ overP label_Over.f label_Join.f donjonref4_Over.f
  simp only [Option.bind_some, Option.getD_some]
  rw [hbn.1, hbn.2]
  have e0 : (mx a0 b0 == a0) = decide (a0 ≥ b0) := by
    unfold mx
    rw [Bool.eq_iff_iff, beq_iff_eq, decide_eq_true_eq]
    split <;> omega
  have e1 : (((m ||| n : Nat) : Int) == (m : Int)) = decide (((m &&& n : Nat) : Int) = (n : Int)) := by
    rw [Bool.eq_iff_iff, beq_iff_eq, decide_eq_true_eq]
    omega
  have e2 : (mn a2 b2 == a2) = decide (a2 ≤ b2) := by
    unfold mn
    rw [Bool.eq_iff_iff, beq_iff_eq, decide_eq_true_eq]
    split <;> omega
  rw [e0, e1, e2]
  by_cases c0 : a0 ≥ b0 <;> by_cases c1 : ((m &&& n : Nat) : Int) = (n : Int) <;> by_cases c2 : a2 ≤ b2 <;> simp [c0, c1, c2]
theorem nodes_ne {l : List S32} (hs : risesP l = true) {i j : Nat} (hij : i < j) (hj : j < l.length) : (rd_T32 l i).f0.toList ≠ (rd_T32 l j).f0.toList := by
  intro h
  have := rises_lt hs hij hj
  rw [h] at this
  exact List.lt_irrefl _ this
theorem hang_eq {l : List S32} (hr : ∀ j, j < l.length → rowBad l j = 0) {i : Nat} (hi : i < l.length) (hn : (rd_T32 l i).f0.toList ≠ [47]) : hangChk l (rd_T32 l i) = hangR l (rd_T32 l i) := by
  have hs := rises_of_rows hr
  have hni := nodeChk_path (row_node (hr i hi))
  unfold hangR
  rw [if_neg hn, ← par_eq hni.1, find_place hs]
  unfold hangChk
  by_cases ha : atP l (parD (rd_T32 l i).f0) = true
  · have hk : lessN l (parD (rd_T32 l i).f0) < l.length := by
      unfold atP at ha
      rw [Bool.and_eq_true, decide_eq_true_eq] at ha
      exact ha.1
    have hnk := nodeChk_path (row_node (hr _ hk))
    rw [if_neg (by rw [ha]; simp), if_pos ha]
    simp only
    rw [over_eq hni.2 hnk.2]
  · rw [if_pos (by simpa using ha), if_neg ha]
theorem tree_eq (l : List S32) : treeChk l = treeR l := by
  unfold treeChk treeR
  by_cases hs : scan (rowBad l) 0 l.length = 0
  · have hs' : ¬ scan (rowBad l) 0 l.length ≠ 0 := by rw [hs]; simp
    rw [if_neg hs', if_neg hs']
    have hr : ∀ j, j < l.length → rowBad l j = 0 := fun j hj => by have := scan_zero_all hs j hj; rwa [Nat.zero_add] at this
    have hsrt := rises_of_rows hr
    by_cases h0 : l.length = 0 ∨ (rd_T32 l 0).f0.toList ≠ [47]
    · rw [if_pos h0]
      have hf : findN l ⟨#[47]⟩ = none := findN_none fun i hi => by
        simp only [beq_eq_false_iff_ne, ne_eq]
        intro h
        have h47 : (rd_T32 l i).f0.toList = [47] := by rw [h, Lib.toList_data]
        rcases h0 with h0 | h0
        · omega
        · rcases Nat.eq_zero_or_pos i with rfl | hp
          · exact h0 h47
          · have h1 := rises_lt hsrt hp hi
            rw [h47] at h1
            exact root_least (nodeChk_path (row_node (hr 0 (by omega)))).1 h1
      rw [hf]
    · rw [if_neg h0]
      have hl : 0 < l.length := by omega
      have h47 : (rd_T32 l 0).f0.toList = [47] := by
        by_cases h : (rd_T32 l 0).f0.toList = [47]
        · exact h
        · exact absurd (Or.inr h) h0
      have hf : findN l ⟨#[47]⟩ = some (rd_T32 l 0) := findN_at hl (fun i hi => absurd hi (Nat.not_lt_zero _)) (by
        show ((rd_T32 l 0).f0.toList == _) = true
        rw [h47, Lib.toList_data]; rfl)
      rw [hf]
      have he : scan (fun i => hangR l (rd_T32 l i)) 0 l.length = scan (fun i => hangChk l (rd_T32 l i)) 1 (l.length - 1) := by
        obtain ⟨m, hm⟩ : ∃ m, l.length = m + 1 := ⟨l.length - 1, by omega⟩
        rw [hm, Nat.add_sub_cancel]
        conv => lhs; unfold scan
        have hz : hangR l (rd_T32 l ((0 : Nat) : Int)) = 0 := by
          unfold hangR
          exact if_pos h47
        rw [if_neg (by rw [hz]; simp)]
        refine (scan_eq fun j hj => ?_).symm
        rw [Nat.zero_add]
        exact hang_eq hr (by omega) (fun h => nodes_ne hsrt (show 0 < 1 + j by omega) (by omega) (by rw [h]; exact h47))
      rw [he]
  · rw [if_pos hs, if_pos hs]
end Go.Proofs.YtpdflhgcdehmoaaDoor.T
namespace Go.Proofs.YtpdflhgcdehmoaaDoor.T
open Go.RowKit Go.Proofs.YtpdflhgcdehmoaaDoorW.PrintWords Go.Proofs.YtpdflhgcdehmoaaDoorW.PrintLast Go.Proofs.YtpdflhgcdehmoaaDoorW.PrintMore
attribute [local go_sem] max2_int min2_int max_two min_two max_three min_three max_four min_four
set_option linter.unusedVariables false
set_option linter.unusedSimpArgs false
def donjonlaw4_within.f (a0 : Int) (a1 : Int) : Option (Int) := if a1 = 0 then (none) else (if (Int.tmod a0 a1) < 0 then (some (wrap64 ((Int.tmod a0 a1) + a1))) else (some (Int.tmod a0 a1)))
set_option maxHeartbeats 8000000 in
set_option maxRecDepth 100000 in
theorem donjonlaw4_within.calls (a0 : Int) (a1 : Int) (r : Int) (w : World) (h : donjonlaw4_within.f a0 a1 = some r) :
    Calls Tryd.prog 46 #[.int .i64 a0, .int .i64 a1] w fun e w' => e = .returned (.int .i64 r) ∧ Drawn0 w w' := by
  have H : (if a1 = 0 then (none) else (if (Int.tmod a0 a1) < 0 then (some (wrap64 ((Int.tmod a0 a1) + a1))) else (some (Int.tmod a0 a1)))) = some r := h
  clear h
  by_cases c3 : a1 = 0
  · rw [if_pos c3] at H
    exact absurd H (by simp)
  · rw [if_neg c3] at H
    have c3b0 : (a1 == 0) = false := beq_eq_false_iff_ne.mpr c3
    have c3b1 : (a1 != 0) = true := bne_iff_ne.mpr c3
    by_cases c4 : (Int.tmod a0 a1) < 0
    · rw [if_pos c4] at H
      have c4b0 : decide ((Int.tmod a0 a1) < 0) = true := decide_eq_true c4
      clear c4
      obtain rfl := Option.some.inj H
      go_enter Tryd.func46, Tryd.ntmps46
      go_wp2
      go_ret
      exact ⟨by first | rfl | (simp; done) | (simp [*]; done), by repeat (first | exact Drawn0.refl _ | apply Drawn0.step)⟩
    · rw [if_neg c4] at H
      have c4b0 : decide ((Int.tmod a0 a1) < 0) = false := decide_eq_false c4
      clear c4
      obtain rfl := Option.some.inj H
      go_enter Tryd.func46, Tryd.ntmps46
      go_wp2
      go_ret
      exact ⟨by first | rfl | (simp; done) | (simp [*]; done), by repeat (first | exact Drawn0.refl _ | apply Drawn0.step)⟩
end Go.Proofs.YtpdflhgcdehmoaaDoor.T
namespace Go.Proofs.YtpdflhgcdehmoaaDoor.T
open Go.RowKit Go.Proofs.YtpdflhgcdehmoaaDoorW.PrintWords Go.Proofs.YtpdflhgcdehmoaaDoorW.PrintLast Go.Proofs.YtpdflhgcdehmoaaDoorW.PrintMore
attribute [local go_sem] max2_int min2_int max_two min_two max_three min_three max_four min_four
set_option linter.unusedVariables false
set_option linter.unusedSimpArgs false
def donjonlaw4_Good.f (a0_0 : Int) (a0_1 : Int) (a0_2 : Int) (a0_3 : Int) : Option (Int × Int × Int × Int) := (donjonlaw4_within.f a0_0 4).bind fun t153 => ((donjonlaw4_within.f a0_1 256).bind fun t154 => ((donjonlaw4_within.f a0_2 4).bind fun t155 => ((donjonlaw4_within.f a0_3 256).bind fun t156 => (some (t153, t154, t155, t156)))))
def donjonlaw4_Good.T1 : Bool × List (List Nat × List Nat) := (true, [([], []), ([0], [0]), ([1], [1]), ([], []), ([3], [3]), ([4, 2], [4]), ([], []), ([6], [6]), ([7, 5], [7]), ([], []), ([9], [9]), ([10, 8], [10]), ([2, 5, 8, 11], [2, 5, 8, 11]), ([12, 11, 0, 1, 2, 3, 4, 5, 6, 7, 8, 9, 10, 11, 12], [12])])
def donjonlaw4_Good.B1 : List Nat := [0, 1, 3, 0, 8, 31, 0, 64, 255, 0, 512, 2047, 4095, 8191]
theorem donjonlaw4_Good.tab1 : rtab .any (opsOf Tryd.f18 1) = donjonlaw4_Good.T1 := by kernel_rfl
theorem donjonlaw4_Good.bits1 : waitsOk donjonlaw4_Good.T1.2 donjonlaw4_Good.B1 = true := by kernel_rfl
set_option maxHeartbeats 8000000 in
set_option maxRecDepth 100000 in
theorem donjonlaw4_Good.calls (a0_0 : Int) (a0_1 : Int) (a0_2 : Int) (a0_3 : Int) (r1 : Int) (r2 : Int) (r3 : Int) (r4 : Int) (w : World) (h : donjonlaw4_Good.f a0_0 a0_1 a0_2 a0_3 = some (r1, r2, r3, r4)) :
    Calls Tryd.prog 18 #[.agg #[.int .i64 a0_0, .int .i64 a0_1, .int .i64 a0_2, .int .i64 a0_3]] w fun e w' => e = .returned (.agg #[.int .i64 r1, .int .i64 r2, .int .i64 r3, .int .i64 r4]) ∧ Below w.heap.size w w' := by
  have hu26 := Tryd.underlying26
  have HB := Aside0.mk (Below.refl w.heap.size w)
  have H : ((donjonlaw4_within.f a0_0 4).bind fun t153 => ((donjonlaw4_within.f a0_1 256).bind fun t154 => ((donjonlaw4_within.f a0_2 4).bind fun t155 => ((donjonlaw4_within.f a0_3 256).bind fun t156 => (some (t153, t154, t155, t156)))))) = some (r1, r2, r3, r4) := h
  clear h
  replace H := Option.bind_eq_some_iff.mp H
  obtain ⟨t153, A20, H⟩ := H
  replace H : ((donjonlaw4_within.f a0_1 256).bind fun t154 => ((donjonlaw4_within.f a0_2 4).bind fun t155 => ((donjonlaw4_within.f a0_3 256).bind fun t156 => (some (t153, t154, t155, t156))))) = some (r1, r2, r3, r4) := H
  have A2 := Aside0.mk A20
  clear A20
  replace H := Option.bind_eq_some_iff.mp H
  obtain ⟨t154, A30, H⟩ := H
  replace H : ((donjonlaw4_within.f a0_2 4).bind fun t155 => ((donjonlaw4_within.f a0_3 256).bind fun t156 => (some (t153, t154, t155, t156)))) = some (r1, r2, r3, r4) := H
  have A3 := Aside0.mk A30
  clear A30
  replace H := Option.bind_eq_some_iff.mp H
  obtain ⟨t155, A40, H⟩ := H
  replace H : ((donjonlaw4_within.f a0_3 256).bind fun t156 => (some (t153, t154, t155, t156))) = some (r1, r2, r3, r4) := H
  have A4 := Aside0.mk A40
  clear A40
  replace H := Option.bind_eq_some_iff.mp H
  obtain ⟨t156, A50, H⟩ := H
  replace H : (some (t153, t154, t155, t156)) = some (r1, r2, r3, r4) := H
  have A5 := Aside0.mk A50
  clear A50
  simp only [Option.some.injEq, Prod.mk.injEq] at H
  obtain ⟨rfl, rfl, rfl, rfl⟩ := H
  go_enter Tryd.func18, Tryd.ntmps18
  try go_wp2_with (first | ((with_reducible refine gate_dst (N := 1) rfl ?_); refine box_event ?hg (N := 1) ?hd (cs := #[.int .i64 a0_0, .int .i64 a0_1, .int .i64 a0_2, .int .i64 a0_3]) (t := 26) ?hr ?_; (case hd => rfl); (case hg => rfl); (case hr => first | (go_simp; done) | (go_simp; rfl)); intro gb151 hg w6 hbox hb; have n0_ := Aside0.mk (below_step (by repeat (first | (with_reducible first | exact HB.out | apply below_alloc | apply pw_below_drewN | apply below_drew1) | exact HB.out)) hb); have n1_ := Aside0.mk (hbox); have n2_ := Aside0.mk ((by rw [hg]; exact (below_size (by repeat (first | (with_reducible first | exact HB.out | apply below_alloc | apply pw_below_drewN | apply below_drew1) | exact HB.out))) : w.heap.size ≤ gb151)); have n3_ := Aside0.mk ((by rw [hg]; exact (below_size (by repeat (first | (with_reducible first | exact HB.out | apply below_alloc | apply pw_below_drewN | apply below_drew1) | exact HB.out))) : w.heap.size ≤ gb151)); clear HB; have HB := n0_; have BK151 := n1_; have GW151 := n2_; have GE151 := n3_; clear n0_ n1_ n2_ n3_; clear hb hbox hg) | ((with_reducible refine gate_dst (N := 2) rfl ?_); refine box_event ?hg (N := 2) ?hd (cs := #[.int .i64 0, .int .i64 0, .int .i64 0, .int .i64 0]) (t := 26) ?hr ?_; (case hd => rfl); (case hg => rfl); (case hr => first | (go_simp; done) | (go_simp; rfl)); intro gb152 hg w7 hbox hb; have n0_ := Aside0.mk (blk_below (g := gb151) (o := .cells #[.int .i64 a0_0, .int .i64 a0_1, .int .i64 a0_2, .int .i64 a0_3] 26 (0, 0)) (by (with_reducible repeat (first | refine blk_drewN ?_ _ | refine blk_drew ?_ | refine blk_alloc ?_ _)); exact BK151.out) hb); have n1_ := Aside0.mk (below_step (by repeat (first | (with_reducible first | exact HB.out | apply below_alloc | apply pw_below_drewN | apply below_drew1 | refine below_set ?_ GE151.out) | exact HB.out)) hb); have n2_ := Aside0.mk (hbox); have n3_ := Aside0.mk ((by rw [hg]; exact (below_size (by repeat (first | (with_reducible first | exact HB.out | apply below_alloc | apply pw_below_drewN | apply below_drew1 | refine below_set ?_ GE151.out) | exact HB.out))) : w.heap.size ≤ gb152)); have n4_ := Aside0.mk ((by rw [hg]; exact (below_size (by repeat (first | (with_reducible first | exact HB.out | apply below_alloc | apply pw_below_drewN | apply below_drew1 | refine below_set ?_ GE151.out) | exact HB.out))) : w.heap.size ≤ gb152)); have n5_ := Aside0.mk ((by rw [hg]; exact Nat.ne_of_lt (blk_lt (g := gb151) (o := .cells #[.int .i64 a0_0, .int .i64 a0_1, .int .i64 a0_2, .int .i64 a0_3] 26 (0, 0)) (by (with_reducible repeat (first | refine blk_drewN ?_ _ | refine blk_drew ?_ | refine blk_alloc ?_ _)); exact BK151.out)) : gb151 ≠ gb152)); have n6_ := Aside0.mk ((by rw [hg]; exact Nat.ne_of_gt (blk_lt (g := gb151) (o := .cells #[.int .i64 a0_0, .int .i64 a0_1, .int .i64 a0_2, .int .i64 a0_3] 26 (0, 0)) (by (with_reducible repeat (first | refine blk_drewN ?_ _ | refine blk_drew ?_ | refine blk_alloc ?_ _)); exact BK151.out)) : gb152 ≠ gb151)); clear BK151; clear HB; have BK151 := n0_; have HB := n1_; have BK152 := n2_; have GW152 := n3_; have GE152 := n4_; have NB151_152 := n5_; have NB152_151 := n6_; clear n0_ n1_ n2_ n3_ n4_ n5_ n6_; clear hb hbox hg))
  have n0_ := Aside0.mk (blk_drew BK151.out)
  have n1_ := Aside0.mk (blk_drew BK152.out)
  have n2_ := Aside0.mk (below_drew1 HB.out)
  clear BK151
  clear BK152
  clear HB
  have BK151 := n0_
  have BK152 := n1_
  have HB := n2_
  clear n0_ n1_ n2_
  refine start_ (n := 14) (S := fun w' => w'.cell? ⟨gb151, 0, none⟩ = some (.int .i64 a0_0) ∧ w'.cell? ⟨gb151, 1, none⟩ = some (.int .i64 a0_1) ∧ w'.cell? ⟨gb151, 2, none⟩ = some (.int .i64 a0_2) ∧ w'.cell? ⟨gb151, 3, none⟩ = some (.int .i64 a0_3)) (ds := []) #[false, false, false, false, false, false, false, false, false, false, false, false, false, false] (by kernel_rfl) rfl rfl ⟨(blk_cell BK151.out 0).trans rfl, (blk_cell BK151.out 1).trans rfl, (blk_cell BK151.out 2).trans rfl, (blk_cell BK151.out 3).trans rfl⟩ (fun hHeld => ?_); refine with_tabW donjonlaw4_Good.tab1 donjonlaw4_Good.bits1 (fun HT_ HW_ => ?_)
  generalize w7.drew = w8 at BK151 BK152 HB hHeld ⊢
  refine pure_ (i := 0) (N := some 3) (v := ?_) (a' := ?_) #[true, false, false, false, false, false, false, false, false, false, false, false, false, false] rfl rfl (any_of HT_.out (by kernel_rfl)) (fun _ _ _ h => h) (Or.inl ⟨by rfl, ?_⟩) ?_ ?_
  rotate_left
  · intro w'
    go_simp
    with_reducible rfl
  rotate_left
  · simp only [Act.put, List.setIfInBounds_toArray, List.set_cons_zero, List.set_cons_succ, i64_w, i32_w]
    rfl
  refine pure_ (i := 3) (N := some 6) (v := ?_) (a' := ?_) #[true, false, false, true, false, false, false, false, false, false, false, false, false, false] rfl rfl (any_of HT_.out (by kernel_rfl)) (fun _ _ _ h => h) (Or.inl ⟨by rfl, ?_⟩) ?_ ?_
  rotate_left
  · intro w'
    go_simp
    with_reducible rfl
  rotate_left
  · simp only [Act.put, List.setIfInBounds_toArray, List.set_cons_zero, List.set_cons_succ, i64_w, i32_w]
    rfl
  refine pure_ (i := 6) (N := some 9) (v := ?_) (a' := ?_) #[true, false, false, true, false, false, true, false, false, false, false, false, false, false] rfl rfl (any_of HT_.out (by kernel_rfl)) (fun _ _ _ h => h) (Or.inl ⟨by rfl, ?_⟩) ?_ ?_
  rotate_left
  · intro w'
    go_simp
    with_reducible rfl
  rotate_left
  · simp only [Act.put, List.setIfInBounds_toArray, List.set_cons_zero, List.set_cons_succ, i64_w, i32_w]
    rfl
  refine pure_ (i := 9) (N := some 12) (v := ?_) (a' := ?_) #[true, false, false, true, false, false, true, false, false, true, false, false, false, false] rfl rfl (any_of HT_.out (by kernel_rfl)) (fun _ _ _ h => h) (Or.inl ⟨by rfl, ?_⟩) ?_ ?_
  rotate_left
  · intro w'
    go_simp
    with_reducible rfl
  rotate_left
  · simp only [Act.put, List.setIfInBounds_toArray, List.set_cons_zero, List.set_cons_succ, i64_w, i32_w]
    rfl
  refine take_ (i := 1) (N := some 4) (v := ?_) (a' := ?_) #[true, true, false, true, false, false, true, false, false, true, false, false, false, false] rfl rfl (take_ofW HT_.out HW_.out (by kernel_rfl)) (fun _ _ _ h => h) (Or.inl ⟨by rfl, ?_⟩) hHeld ?_ ?_
  rotate_left
  · rintro w' ⟨s0, s1, s2, s3⟩
    go_simp
    with_reducible rfl
  rotate_left
  · simp only [Act.put, List.setIfInBounds_toArray, List.set_cons_zero, List.set_cons_succ, i64_w, i32_w]
    rfl
  refine take_ (i := 4) (N := some 7) (v := ?_) (a' := ?_) #[true, true, false, true, true, false, true, false, false, true, false, false, false, false] rfl rfl (take_ofW HT_.out HW_.out (by kernel_rfl)) (fun _ _ _ h => h) (Or.inl ⟨by rfl, ?_⟩) hHeld ?_ ?_
  rotate_left
  · rintro w' ⟨s0, s1, s2, s3⟩
    go_simp
    with_reducible rfl
  rotate_left
  · simp only [Act.put, List.setIfInBounds_toArray, List.set_cons_zero, List.set_cons_succ, i64_w, i32_w]
    rfl
  refine take_ (i := 7) (N := some 10) (v := ?_) (a' := ?_) #[true, true, false, true, true, false, true, true, false, true, false, false, false, false] rfl rfl (take_ofW HT_.out HW_.out (by kernel_rfl)) (fun _ _ _ h => h) (Or.inl ⟨by rfl, ?_⟩) hHeld ?_ ?_
  rotate_left
  · rintro w' ⟨s0, s1, s2, s3⟩
    go_simp
    with_reducible rfl
  rotate_left
  · simp only [Act.put, List.setIfInBounds_toArray, List.set_cons_zero, List.set_cons_succ, i64_w, i32_w]
    rfl
  refine take_ (i := 10) (N := some 13) (v := ?_) (a' := ?_) #[true, true, false, true, true, false, true, true, false, true, true, false, false, false] rfl rfl (take_ofW HT_.out HW_.out (by kernel_rfl)) (fun _ _ _ h => h) (Or.inl ⟨by rfl, ?_⟩) hHeld ?_ ?_
  rotate_left
  · rintro w' ⟨s0, s1, s2, s3⟩
    go_simp
    with_reducible rfl
  rotate_left
  · simp only [Act.put, List.setIfInBounds_toArray, List.set_cons_zero, List.set_cons_succ, i64_w, i32_w]
    rfl
  refine one_ (i := 2) (N := some 5) #[true, true, true, true, true, false, true, true, false, true, true, false, false, false] rfl rfl (one_of HT_.out (by kernel_rfl)) (by decide) (fun K hK => ?_)
  refine goes_ Tryd.func46 (by kernel_rfl) rfl #[.int .i64 a0_0, .int .i64 4] (by rfl) rfl rfl (by (try simp only [List.map_toArray, List.map_cons, List.map_nil]); first | done | rfl | (simp only [List.length_drop, List.length_take]; rfl)) ?_
  with_reducible refine (donjonlaw4_within.calls a0_0 4 t153 _ A2.out).mono ?_
  rintro e w' ⟨rfl, ⟨nd, rfl⟩⟩
  refine ⟨_, rfl, ?_⟩
  refine hK.out _ _ ⟨(blk_cell BK151.out 0).trans rfl, (blk_cell BK151.out 1).trans rfl, (blk_cell BK151.out 2).trans rfl, (blk_cell BK151.out 3).trans rfl⟩ (fun hHeld => ?_)
  clear hK K
  refine norm_ (a' := ?_) ?_ ?_
  rotate_left
  · show Act.put _ (some 5) _ = _
    simp only [Act.put, List.setIfInBounds_toArray, List.set_cons_zero, List.set_cons_succ, i64_w, i32_w]
    rfl
  refine one_ (i := 5) (N := some 8) #[true, true, true, true, true, true, true, true, false, true, true, false, false, false] rfl rfl (one_of HT_.out (by kernel_rfl)) (by decide) (fun K hK => ?_)
  refine goes_ Tryd.func46 (by kernel_rfl) rfl #[.int .i64 a0_1, .int .i64 256] (by rfl) rfl rfl (by (try simp only [List.map_toArray, List.map_cons, List.map_nil]); first | done | rfl | (simp only [List.length_drop, List.length_take]; rfl)) ?_
  with_reducible refine (donjonlaw4_within.calls a0_1 256 t154 _ A3.out).mono ?_
  rintro e w' ⟨rfl, ⟨nd, rfl⟩⟩
  refine ⟨_, rfl, ?_⟩
  refine hK.out _ _ ⟨(blk_cell BK151.out 0).trans rfl, (blk_cell BK151.out 1).trans rfl, (blk_cell BK151.out 2).trans rfl, (blk_cell BK151.out 3).trans rfl⟩ (fun hHeld => ?_)
  clear hK K
  refine norm_ (a' := ?_) ?_ ?_
  rotate_left
  · show Act.put _ (some 8) _ = _
    simp only [Act.put, List.setIfInBounds_toArray, List.set_cons_zero, List.set_cons_succ, i64_w, i32_w]
    rfl
  refine one_ (i := 8) (N := some 11) #[true, true, true, true, true, true, true, true, true, true, true, false, false, false] rfl rfl (one_of HT_.out (by kernel_rfl)) (by decide) (fun K hK => ?_)
  refine goes_ Tryd.func46 (by kernel_rfl) rfl #[.int .i64 a0_2, .int .i64 4] (by rfl) rfl rfl (by (try simp only [List.map_toArray, List.map_cons, List.map_nil]); first | done | rfl | (simp only [List.length_drop, List.length_take]; rfl)) ?_
  with_reducible refine (donjonlaw4_within.calls a0_2 4 t155 _ A4.out).mono ?_
  rintro e w' ⟨rfl, ⟨nd, rfl⟩⟩
  refine ⟨_, rfl, ?_⟩
  refine hK.out _ _ ⟨(blk_cell BK151.out 0).trans rfl, (blk_cell BK151.out 1).trans rfl, (blk_cell BK151.out 2).trans rfl, (blk_cell BK151.out 3).trans rfl⟩ (fun hHeld => ?_)
  clear hK K
  refine norm_ (a' := ?_) ?_ ?_
  rotate_left
  · show Act.put _ (some 11) _ = _
    simp only [Act.put, List.setIfInBounds_toArray, List.set_cons_zero, List.set_cons_succ, i64_w, i32_w]
    rfl
  refine one_ (i := 11) (N := some 14) #[true, true, true, true, true, true, true, true, true, true, true, true, false, false] rfl rfl (one_of HT_.out (by kernel_rfl)) (by decide) (fun K hK => ?_)
  refine goes_ Tryd.func46 (by kernel_rfl) rfl #[.int .i64 a0_3, .int .i64 256] (by rfl) rfl rfl (by (try simp only [List.map_toArray, List.map_cons, List.map_nil]); first | done | rfl | (simp only [List.length_drop, List.length_take]; rfl)) ?_
  with_reducible refine (donjonlaw4_within.calls a0_3 256 t156 _ A5.out).mono ?_
  rintro e w' ⟨rfl, ⟨nd, rfl⟩⟩
  refine ⟨_, rfl, ?_⟩
  refine hK.out _ _ ⟨(blk_cell BK151.out 0).trans rfl, (blk_cell BK151.out 1).trans rfl, (blk_cell BK151.out 2).trans rfl, (blk_cell BK151.out 3).trans rfl⟩ (fun hHeld => ?_)
  clear hK K
  refine norm_ (a' := ?_) ?_ ?_
  rotate_left
  · show Act.put _ (some 14) _ = _
    simp only [Act.put, List.setIfInBounds_toArray, List.set_cons_zero, List.set_cons_succ, i64_w, i32_w]
    rfl
  refine pure_ (i := 12) (N := some 15) (v := ?_) (a' := ?_) #[true, true, true, true, true, true, true, true, true, true, true, true, true, false] rfl rfl (any_of HT_.out (by kernel_rfl)) (fun _ _ _ h => h) (Or.inl ⟨by rfl, ?_⟩) ?_ ?_
  rotate_left
  · intro w'
    go_simp
    with_reducible rfl
  rotate_left
  · simp only [Act.put, List.setIfInBounds_toArray, List.set_cons_zero, List.set_cons_succ, i64_w, i32_w]
    rfl
  refine one_ (i := 13) (N := none) #[true, true, true, true, true, true, true, true, true, true, true, true, true, true] rfl rfl (one_of HT_.out (by kernel_rfl)) (by decide) (fun K hK => ?_)
  have hs9 : w8.cell? ⟨gb152, 0, none⟩ = some (.int .i64 0) := (blk_cell BK152.out 0).trans rfl
  have hfs9 := blk_frozen BK152.out 0
  have hns9_0 := NB151_152.out
  have hms9_0 := NB152_151.out
  have hs10 : w8.cell? ⟨gb152, 1, none⟩ = some (.int .i64 0) := (blk_cell BK152.out 1).trans rfl
  have hfs10 := blk_frozen BK152.out 1
  have hns10_0 := NB151_152.out
  have hms10_0 := NB152_151.out
  have hs11 : w8.cell? ⟨gb152, 2, none⟩ = some (.int .i64 0) := (blk_cell BK152.out 2).trans rfl
  have hfs11 := blk_frozen BK152.out 2
  have hns11_0 := NB151_152.out
  have hms11_0 := NB152_151.out
  have hs12 : w8.cell? ⟨gb152, 3, none⟩ = some (.int .i64 0) := (blk_cell BK152.out 3).trans rfl
  have hfs12 := blk_frozen BK152.out 3
  have hns12_0 := NB151_152.out
  have hms12_0 := NB152_151.out
  refine skip_ (w1 := ?_) (by rfl) rfl ?_ ?_
  rotate_left
  · go_simp
    rfl
  refine hK.out _ _ ⟨((cell_far (p := ⟨gb152, _, none⟩) NB151_152.out _).trans (((cell_far (p := ⟨gb152, _, none⟩) NB151_152.out _).trans (((cell_far (p := ⟨gb152, _, none⟩) NB151_152.out _).trans (((cell_far (p := ⟨gb152, _, none⟩) NB151_152.out _).trans (hHeld.1)))))))), ((cell_far (p := ⟨gb152, _, none⟩) NB151_152.out _).trans (((cell_far (p := ⟨gb152, _, none⟩) NB151_152.out _).trans (((cell_far (p := ⟨gb152, _, none⟩) NB151_152.out _).trans (((cell_far (p := ⟨gb152, _, none⟩) NB151_152.out _).trans (hHeld.2.1)))))))), ((cell_far (p := ⟨gb152, _, none⟩) NB151_152.out _).trans (((cell_far (p := ⟨gb152, _, none⟩) NB151_152.out _).trans (((cell_far (p := ⟨gb152, _, none⟩) NB151_152.out _).trans (((cell_far (p := ⟨gb152, _, none⟩) NB151_152.out _).trans (hHeld.2.2.1)))))))), ((cell_far (p := ⟨gb152, _, none⟩) NB151_152.out _).trans (((cell_far (p := ⟨gb152, _, none⟩) NB151_152.out _).trans (((cell_far (p := ⟨gb152, _, none⟩) NB151_152.out _).trans (((cell_far (p := ⟨gb152, _, none⟩) NB151_152.out _).trans (hHeld.2.2.2))))))))⟩ (fun hHeld => ?_)
  clear hK K
  refine done_ (done_of HT_.out (by kernel_rfl)) ?_
  try go_wp2
  refine bodyPost_ret (results_cell_row rfl _ _ gb152 26 #[.int .i64 t153, .int .i64 t154, .int .i64 t155, .int .i64 t156] (0, 0) _ rfl (by (with_reducible repeat (first | refine blk_drewN ?_ _ | refine blk_drew ?_ | refine blk_alloc ?_ _)); refine blk_put (cs := #[.int .i64 t153, .int .i64 t154, .int .i64 t155, .int .i64 0]) ?_ 3 _ rfl; (with_reducible repeat (first | refine blk_drewN ?_ _ | refine blk_drew ?_ | refine blk_alloc ?_ _)); refine blk_put (cs := #[.int .i64 t153, .int .i64 t154, .int .i64 0, .int .i64 0]) ?_ 2 _ rfl; (with_reducible repeat (first | refine blk_drewN ?_ _ | refine blk_drew ?_ | refine blk_alloc ?_ _)); refine blk_put (cs := #[.int .i64 t153, .int .i64 0, .int .i64 0, .int .i64 0]) ?_ 1 _ rfl; (with_reducible repeat (first | refine blk_drewN ?_ _ | refine blk_drew ?_ | refine blk_alloc ?_ _)); refine blk_put (cs := #[.int .i64 0, .int .i64 0, .int .i64 0, .int .i64 0]) ?_ 0 _ rfl; (with_reducible repeat (first | refine blk_drewN ?_ _ | refine blk_drew ?_ | refine blk_alloc ?_ _)); exact BK152.out) Tryd.underlying26 rfl (by kernel_rfl)) rfl ?_
  exact ⟨by first | rfl | (simp [errW_none, errW_some] <;> rfl) | (simp [*, errW_none, errW_some] <;> rfl), by repeat (first | (with_reducible first | exact HB.out | apply below_alloc | apply pw_below_drewN | apply below_drew1 | refine below_set ?_ GE151.out | refine below_set ?_ GE152.out) | exact HB.out)⟩
end Go.Proofs.YtpdflhgcdehmoaaDoor.T
namespace Go.Proofs.YtpdflhgcdehmoaaDoor.T
open Go.RowKit Go.Proofs.YtpdflhgcdehmoaaDoorW.PrintWords Go.Proofs.YtpdflhgcdehmoaaDoorW.PrintLast Go.Proofs.YtpdflhgcdehmoaaDoorW.PrintMore
attribute [local go_sem] max2_int min2_int max_two min_two max_three min_three max_four min_four
set_option linter.unusedVariables false
set_option linter.unusedSimpArgs false
def donjonlaw7_within.f (a0 : Int) (a1 : Int) : Option (Int) := if a1 = 0 then (none) else (if (Int.tmod a0 a1) < 0 then (some (wrap64 ((Int.tmod a0 a1) + a1))) else (some (Int.tmod a0 a1)))
set_option maxHeartbeats 8000000 in
set_option maxRecDepth 100000 in
theorem donjonlaw7_within.calls (a0 : Int) (a1 : Int) (r : Int) (w : World) (h : donjonlaw7_within.f a0 a1 = some r) :
    Calls Tryd.prog 51 #[.int .i64 a0, .int .i64 a1] w fun e w' => e = .returned (.int .i64 r) ∧ Drawn0 w w' := by
  have H : (if a1 = 0 then (none) else (if (Int.tmod a0 a1) < 0 then (some (wrap64 ((Int.tmod a0 a1) + a1))) else (some (Int.tmod a0 a1)))) = some r := h
  clear h
  by_cases c3 : a1 = 0
  · rw [if_pos c3] at H
    exact absurd H (by simp)
  · rw [if_neg c3] at H
    have c3b0 : (a1 == 0) = false := beq_eq_false_iff_ne.mpr c3
    have c3b1 : (a1 != 0) = true := bne_iff_ne.mpr c3
    by_cases c4 : (Int.tmod a0 a1) < 0
    · rw [if_pos c4] at H
      have c4b0 : decide ((Int.tmod a0 a1) < 0) = true := decide_eq_true c4
      clear c4
      obtain rfl := Option.some.inj H
      go_enter Tryd.func51, Tryd.ntmps51
      go_wp2
      go_ret
      exact ⟨by first | rfl | (simp; done) | (simp [*]; done), by repeat (first | exact Drawn0.refl _ | apply Drawn0.step)⟩
    · rw [if_neg c4] at H
      have c4b0 : decide ((Int.tmod a0 a1) < 0) = false := decide_eq_false c4
      clear c4
      obtain rfl := Option.some.inj H
      go_enter Tryd.func51, Tryd.ntmps51
      go_wp2
      go_ret
      exact ⟨by first | rfl | (simp; done) | (simp [*]; done), by repeat (first | exact Drawn0.refl _ | apply Drawn0.step)⟩
end Go.Proofs.YtpdflhgcdehmoaaDoor.T
