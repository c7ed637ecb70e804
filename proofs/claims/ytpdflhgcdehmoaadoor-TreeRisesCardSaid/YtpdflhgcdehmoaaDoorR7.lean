/- Part of the proof that TreeRises comes to true: printed and written texts, merged by a program. -/
import Derived.Lib.Hide
import Derived.Test.YtpdflhgcdehmoaaDoorR3
import Derived.Test.YtpdflhgcdehmoaaDoorR6
import Derived.Test.YtpdflhgcdehmoaaDoorR4
import Derived.Test.YtpdflhgcdehmoaaDoorR5
namespace Go.Proofs.YtpdflhgcdehmoaaDoor.T
open Go.RowKit Go.Proofs.YtpdflhgcdehmoaaDoorW.PrintWords Go.Proofs.YtpdflhgcdehmoaaDoorW.PrintLast Go.Proofs.YtpdflhgcdehmoaaDoorW.PrintMore
attribute [local go_sem] max2_int min2_int max_two min_two max_three min_three max_four min_four
set_option linter.unusedVariables false
set_option linter.unusedSimpArgs false
attribute [local go_sem high] eqA26
attribute [local go_sem ↓] loadS_is storeS_is
attribute [local go_sem] storeS_new loadQ_is loadQ_at loadR_some cellsQ_alloc_at cellsQ_alloc_past
def scan (f : Nat → Int) (k : Nat) : Nat → Int
  | 0 => 0
  | m + 1 => if f k ≠ 0 then f k else scan f (k + 1) m
theorem scan_at (f : Nat → Int) (k m i : Nat) (h : i < m) (hz : ∀ j, j < i → f (k + j) = 0) (hb : f (k + i) ≠ 0) : scan f k m = f (k + i) := by
  induction m generalizing k i with
  | zero => omega
  | succ m ih =>
    unfold scan
    cases i with
    | zero => exact if_pos hb
    | succ i =>
      have h0 := hz 0 (Nat.succ_pos _)
      rw [Nat.add_zero] at h0
      rw [if_neg (by rw [h0]; simp), ih (k + 1) i (by omega) (fun j hj => by have := hz (j + 1) (by omega); rwa [show k + 1 + j = k + (j + 1) by omega]) (by rwa [show k + 1 + i = k + (i + 1) by omega])]
      rw [show k + 1 + i = k + (i + 1) by omega]
theorem scan_zero (f : Nat → Int) (k m : Nat) (hz : ∀ j, j < m → f (k + j) = 0) : scan f k m = 0 := by
  induction m generalizing k with
  | zero => rfl
  | succ m ih =>
    unfold scan
    have h0 := hz 0 (Nat.succ_pos _)
    rw [Nat.add_zero] at h0
    rw [if_neg (by rw [h0]; simp)]
    exact ih (k + 1) (fun j hj => by have := hz (j + 1) (by omega); rwa [show k + 1 + j = k + (j + 1) by omega])
def rowBad (l : List S32) (i : Nat) : Int :=
  if nodeChk (rd_T32 l i) ≠ 0 then nodeChk (rd_T32 l i) else if 0 < i ∧ ¬ (rd_T32 l ((i : Int) - 1)).f0.toList < (rd_T32 l i).f0.toList then 1 else 0
def treeChk (l : List S32) : Int :=
  if scan (rowBad l) 0 l.length ≠ 0 then scan (rowBad l) 0 l.length
  else if l.length = 0 ∨ (rd_T32 l 0).f0.toList ≠ [47] then 2
  else if scan (fun i => hangChk l (rd_T32 l i)) 1 (l.length - 1) ≠ 0 then scan (fun i => hangChk l (rd_T32 l i)) 1 (l.length - 1)
  else if labEq (rd_T32 l 0).f2 ⟨0, 0, 3, 255⟩ = false then 15 else 0
theorem add_field_ (a : Addr) (n : Nat) (h : n ≠ 0) : a.add n = ⟨a.block, a.off + n, none⟩ := by unfold Addr.add; rw [if_neg h]
theorem add0 (a : Addr) : a.add 0 = a := by unfold Addr.add; rw [if_pos rfl]
theorem row_size {l : List S32} {j : Nat} (h : rowBad l j = 0) : (rd_T32 l j).f0.size ≤ 78 := by
  have hn : nodeChk (rd_T32 l j) = 0 := by
    unfold rowBad at h
    by_cases h0 : nodeChk (rd_T32 l j) = 0
    · exact h0
    · rw [if_pos h0] at h; exact absurd h h0
  have hf : pathChk (rd_T32 l j).f0 = 0 := by
    unfold nodeChk at hn
    unfold firstOf at hn
    by_cases h0 : pathChk (rd_T32 l j).f0 = 0
    · exact h0
    · simp [h0] at hn
  unfold pathChk at hf
  by_cases h78 : 78 < (rd_T32 l j).f0.size
  · rw [if_pos (by omega)] at hf; cases hf
  · omega
theorem rises_of_rows {l : List S32} (h : ∀ j, j < l.length → rowBad l j = 0) : risesP l = true := by
  have hstep : ∀ j, j + 1 < l.length → (rd_T32 l (j : Nat)).f0.toList < (rd_T32 l ((j + 1 : Nat) : Int)).f0.toList := fun j hj => by
    have h1 := h (j + 1) hj
    unfold rowBad at h1
    by_cases h0 : nodeChk (rd_T32 l ((j + 1 : Nat) : Int)) = 0
    · rw [if_neg (by rw [h0]; simp)] at h1
      have e : ((j + 1 : Nat) : Int) - 1 = (j : Int) := by omega
      rw [e] at h1
      by_cases h2 : (rd_T32 l (j : Nat)).f0.toList < (rd_T32 l ((j + 1 : Nat) : Int)).f0.toList
      · exact h2
      · rw [if_pos ⟨Nat.succ_pos _, h2⟩] at h1; cases h1
    · rw [if_pos h0] at h1; exact absurd h1 h0
  have hall : ∀ n i, i + n + 1 < l.length → (rd_T32 l (i : Nat)).f0.toList < (rd_T32 l ((i + n + 1 : Nat) : Int)).f0.toList := by
    intro n
    induction n with
    | zero => intro i hi; exact hstep i hi
    | succ n ih => intro i hi; exact List.lt_trans (ih i (by omega)) (hstep (i + n + 1) (by omega))
  refine decide_eq_true (List.pairwise_iff_getElem.2 fun i j hi hj hij => ?_)
  have := hall (j - i - 1) i (by omega)
  rw [show i + (j - i - 1) + 1 = j by omega, rd_get l i hi, rd_get l j hj] at this
  exact this
def tree_Check.f (l0 : List (S32)) : Option (Int) := if l0.length < 4611686018427387904 then some (treeChk l0) else none
set_option maxHeartbeats 4000000 in
set_option maxRecDepth 100000 in
theorem tree_Check.calls (A0 : Option Addr) (c0 : Nat) (l0 : List (S32)) (r : Int) (w : World) (hr0 : Kd.C k32 w A0 l0.length l0) (hc0 : l0.length ≤ c0) (h : tree_Check.f l0 = some r) :
    Calls Tryd.prog 9 #[.slice A0 l0.length c0] w fun e w' => e = .returned (.int .i64 r) ∧ Below w.heap.size w w' := by
  have hlen : l0.length < 4611686018427387904 := by
    unfold tree_Check.f at h
    by_cases hf : l0.length < 4611686018427387904
    · exact hf
    · rw [if_neg hf] at h; cases h
  obtain rfl : treeChk l0 = r := by
    unfold tree_Check.f at h
    rw [if_pos hlen] at h
    exact Option.some.inj h
  clear h
  have HR := Lib.hid hr0
  clear hr0
  have hu := Tryd.underlying32
  have hul := Tryd.underlying26
  go_enter Tryd.func9, Tryd.ntmps9
  go_wp2
  go_loopw [11] (fun n w' => ∃ k : Nat, n = .int .i64 k ∧ k ≤ l0.length ∧ Aside0 (∀ i, i < k → rowBad l0 i = 0) ∧ Below w.heap.size w w') (fun n _ => l0.length - (intOf n).toNat)
  case atStart => exact ⟨0, rfl, Nat.zero_le _, ⟨fun i h => absurd h (Nat.not_lt_zero _)⟩, Below.refl _ _⟩
  case round =>
    obtain ⟨k, rfl, hk, HA, hB⟩ := hrel
    by_cases hlt : k < l0.length
    · obtain ⟨ad, A6, c6, A11, c11, rfl, hbk, hq, hx0, hx1, hl6, hC6, hl11, hC11⟩ := node_at HR.out k hlt
      have hsz := hB.size
      obtain ⟨hcr, hfr⟩ := below_rules hB
      have hqr := below_rulesQ hB
      have HC6 := Lib.hid hC6
      have HC11 := Lib.hid hC11
      clear hC6 hC11
      have hrow := Lib.hid (rowBad.eq_1 l0 k)
      generalize rd_T32 l0 k = d at *
      go_wp2_with fail
      refine (node_calls d A6 c6 A11 c11 _ (Kd.C_below HC6.out (below_alloc hB _)) hl6 (Kd.C_below HC11.out (below_alloc hB _)) hl11).mono ?_
      rintro e w1 ⟨rfl, hb⟩
      have hB1 := below_on (below_alloc hB _) hb
      have hlt1 : wr.heap.size < w1.heap.size := by
        have h1 := hb.size
        simp at h1
        omega
      obtain ⟨hc0', -⟩ := below_rules hb
      have hcr1 : ∀ p : Addr, p.block = wr.heap.size → w1.cell? p = _ := fun p hp => hc0' p (by simp; omega)
      obtain ⟨hc1, hf1⟩ := below_rules hB1
      clear hb hc0'
      by_cases hn : nodeChk d = 0
      · have hnb : (nodeChk d != 0) = false := by rw [hn]; rfl
        rcases hk0 : decide (0 < k) with _ | _
        · have hk2 : decide ((0 : Int) < (k : Int)) = false := by simpa using hk0
          have HZ := Lib.hid (show rowBad l0 k = 0 by rw [hrow.out, if_neg (by rw [hn]; simp), if_neg (by rintro ⟨h, -⟩; simp [h] at hk0)])
          clear hn
          go_wp2
          refine wp_region_below (by kernel_rfl) (by kernel_rfl) ?_
          repeat (first | go_big_quiet_skip | (go_big_quiet_want; apply quiet_one; (focus (intro w2 hC; obtain ⟨hc2, hf2⟩ := below_rules hC; obtain ⟨hc3, hf3⟩ := below_rules (below_on hB1 hC); go_simp; first | rfl | exact ⟨rfl, rfl⟩)); simp only [Act.put, List.setIfInBounds_toArray, List.set_cons_zero, List.set_cons_succ]; go_big_quiet_on))
          refine wpQuiet_nil ?_
          intro w2 hC2
          have hB2 := below_on hB1 hC2
          clear hC2
          go_wp2
          go_roundw
          case rel => exact ⟨k + 1, by go_num, hlt, ⟨fun i hi => by
            rcases Nat.lt_or_ge i k with h1 | h1
            · exact HA.out i h1
            · obtain rfl : i = k := by omega
              exact HZ.out⟩, hB2⟩
          case measure => simp [intOf]; omega
        · have hk1 : 0 < k := by simpa using hk0
          obtain ⟨ad', A6', c6', A11', c11', e', hbk', -, hp0, -⟩ := node_at HR.out (k - 1) (by omega)
          obtain rfl := Option.some.inj e'
          clear e'
          rw [show ((k - 1 : Nat) : Int) = (k : Int) - 1 by omega] at hp0
          have hk2 : decide ((0 : Int) < (k : Int)) = true := by simpa using hk1
          have hkw : IntKind.i64.wrap ((k : Int) - 1) = (k : Int) - 1 := IntWalk.i64_in _ (by omega)
          have hkn : ((k : Int) - 1).toNat = k - 1 := by omega
          have hk3 : (0 : Int) ≤ (k : Int) - 1 := by omega
          have hk4 : (1 : Int) ≤ (k : Int) := by omega
          have hk5 : (k : Int) - 1 < (l0.length : Int) := by omega
          generalize rd_T32 l0 ((k : Int) - 1) = d' at *
          rcases hbl : Op.bytesLess d'.f0.toList d.f0.toList with _ | _
          · have HZ := Lib.hid (show rowBad l0 k = 1 by rw [hrow.out, if_neg (by rw [hn]; simp), if_pos ⟨hk1, by rw [bytes_lt] at hbl; simpa using hbl⟩])
            clear hn
            go_wp2
            refine wp_region_below (by kernel_rfl) (by kernel_rfl) ?_
            repeat (first | go_big_quiet_skip | (go_big_quiet_want; apply quiet_one; (focus (intro w2 hC; obtain ⟨hc2, hf2⟩ := below_rules hC; obtain ⟨hc3, hf3⟩ := below_rules (below_on hB1 hC); go_simp; first | rfl | exact ⟨rfl, rfl⟩)); simp only [Act.put, List.setIfInBounds_toArray, List.set_cons_zero, List.set_cons_succ]; go_big_quiet_on))
            refine wpQuiet_nil ?_
            intro w2 hC2
            have hB2 := below_on hB1 hC2
            clear hC2
            go_wp2
            have HT := Lib.hid (show treeChk l0 = 1 by
              have hs := scan_at (rowBad l0) 0 l0.length k hlt (fun j hj => by rw [Nat.zero_add]; exact HA.out j hj) (by rw [Nat.zero_add, HZ.out]; simp)
              rw [Nat.zero_add, HZ.out] at hs
              unfold treeChk
              rw [hs, if_pos (by simp)])
            go_ret
            exact ⟨ret_int HT.out.symm, hB2⟩
          · have HZ := Lib.hid (show rowBad l0 k = 0 by rw [hrow.out, if_neg (by rw [hn]; simp), if_neg (by rintro ⟨-, h⟩; rw [bytes_lt] at hbl; simp at hbl; exact h hbl)])
            clear hn
            go_wp2
            refine wp_region_below (by kernel_rfl) (by kernel_rfl) ?_
            repeat (first | go_big_quiet_skip | (go_big_quiet_want; apply quiet_one; (focus (intro w2 hC; obtain ⟨hc2, hf2⟩ := below_rules hC; obtain ⟨hc3, hf3⟩ := below_rules (below_on hB1 hC); go_simp; first | rfl | exact ⟨rfl, rfl⟩)); simp only [Act.put, List.setIfInBounds_toArray, List.set_cons_zero, List.set_cons_succ]; go_big_quiet_on))
            refine wpQuiet_nil ?_
            intro w2 hC2
            have hB2 := below_on hB1 hC2
            clear hC2
            go_wp2
            go_roundw
            case rel => exact ⟨k + 1, by go_num, hlt, ⟨fun i hi => by
              rcases Nat.lt_or_ge i k with h1 | h1
              · exact HA.out i h1
              · obtain rfl : i = k := by omega
                exact HZ.out⟩, hB2⟩
            case measure => simp [intOf]; omega
      · have hnb : (nodeChk d != 0) = true := by simpa using hn
        have HZ := Lib.hid (show rowBad l0 k = nodeChk d by rw [hrow.out, if_pos hn])
        have HT := Lib.hid (show treeChk l0 = nodeChk d by
          have hs := scan_at (rowBad l0) 0 l0.length k hlt (fun j hj => by rw [Nat.zero_add]; exact HA.out j hj) (by rw [Nat.zero_add, HZ.out]; exact hn)
          rw [Nat.zero_add, HZ.out] at hs
          unfold treeChk
          rw [hs, if_pos hn])
        clear hn
        go_wp2
        go_ret
        exact ⟨ret_int HT.out.symm, hB1⟩
    · obtain rfl : k = l0.length := by omega
      have HS := Lib.hid (show scan (rowBad l0) 0 l0.length = 0 from scan_zero _ _ _ fun j hj => by rw [Nat.zero_add]; exact HA.out j hj)
      have HRI := Lib.hid (rises_of_rows (fun j hj => HA.out j hj))
      have HSZ := Lib.hid (fun j hj => row_size (HA.out j hj))
      have HT : Aside0 (treeChk l0 = _) := ⟨by unfold treeChk; rw [HS.out, if_neg (by simp)]⟩
      by_cases hl : l0.length = 0
      · have HT2 := Lib.hid (HT.out.trans (if_pos (Or.inl hl)))
        have hz : ((l0.length : Int) == 0) = true := by rw [hl]; rfl
        go_wp2
        go_ret
        exact ⟨ret_int HT2.out.symm, hB⟩
      · obtain ⟨ad, A6, c6, A11, c11, rfl, hbk, hq, hx0, hx1, -⟩ := node_at HR.out 0 (by omega)
        have hz : ((l0.length : Int) == 0) = false := by simpa using hl
        have hl0 : 0 < l0.length := by omega
        have hl1 : (0 : Int) < (l0.length : Int) := by omega
        have hsz := hB.size
        obtain ⟨hcr, hfr⟩ := below_rules hB
        obtain ⟨d, hd⟩ : ∃ d, d = rd_T32 l0 0 := ⟨_, rfl⟩
        have HD := Lib.hid hd
        simp only [Int.natCast_zero, Nat.zero_mul, add0] at hbk hq hx0 hx1
        rw [← hd] at hq hx0 hx1
        clear hd
        by_cases hp : d.f0.toList = [47]
        · have hpb : (d.f0.toList == [47]) = true := by rw [hp]; rfl
          have hpn : (d.f0.toList != [47]) = false := by rw [hp]; rfl
          have HT2 : Aside0 (treeChk l0 = _) := ⟨HT.out.trans (if_neg (fun h => h.elim hl fun h2 => h2 (by rw [← HD.out]; exact hp)))⟩
          clear hp HT
          go_wp2
          all_goals
            obtain ⟨v, hv, A2, c2, rfl, hA2⟩ : ∃ v : Value, v = (if 1 < c0 then Value.slice (some (⟨ad.block, ad.off + 16, none⟩ : Addr)) (l0.length - 1) (c0 - 1) else Value.slice (some ad) (l0.length - 1) 0) ∧ ∃ A2 c2, v = .slice (some A2) (l0.length - 1) c2 ∧ (1 < l0.length → A2 = ad.add 16) := by
              by_cases h : 1 < c0
              · exact ⟨_, rfl, _, _, if_pos h, fun _ => (add_field_ ad 16 (by omega)).symm⟩
              · exact ⟨_, rfl, _, _, if_neg h, fun h2 => absurd (show 1 < c0 by omega) h⟩
            first
            | (rw [if_pos (by omega)] at hv; rw [← hv])
            | (rw [if_neg (by omega)] at hv; rw [← hv])
            clear hv hq hx1
            go_loopw [48] (fun n w' => ∃ k : Nat, n = .int .i64 k ∧ k ≤ l0.length - 1 ∧ Aside0 (∀ i, i < k → hangChk l0 (rd_T32 l0 ((1 + i : Nat) : Int)) = 0) ∧ Below w.heap.size w w') (fun n _ => l0.length - 1 - (intOf n).toNat)
            case atStart => exact ⟨0, rfl, Nat.zero_le _, ⟨fun i h => absurd h (Nat.not_lt_zero _)⟩, hB⟩
            case round =>
              clear hB hcr hfr hsz
              obtain ⟨k, rfl, hk, HA2, hB⟩ := hrel
              have hsz := hB.size
              obtain ⟨hcr, hfr⟩ := below_rules hB
              have hqr := below_rulesQ hB
              by_cases hlt : k < l0.length - 1
              · try (exfalso; omega)
                all_goals
                  obtain ⟨ad', A6, c6, A11, c11, e', hbk2, hq2, hy0, hy1, hl6, hC6, hl11, hC11⟩ := node_at HR.out (1 + k) (by omega)
                  obtain rfl := Option.some.inj e'
                  clear e'
                  have hAA : ad.add ((1 + k) * 16) = A2.add (k * 16) := by rw [hA2 (by omega), add_add_addr]; congr 1; omega
                  rw [hAA] at hbk2 hq2 hy0 hy1
                  clear hAA
                  have HC6 := Lib.hid hC6
                  have HC11 := Lib.hid hC11
                  clear hC6 hC11
                  have HSK := Lib.hid (HSZ.out (1 + k) (by omega))
                  have HS1 := Lib.hid (show (fun (i : Nat) => hangChk l0 (rd_T32 l0 ↑i)) (1 + k) = hangChk l0 (rd_T32 l0 ((1 + k : Nat) : Int)) from rfl)
                  generalize rd_T32 l0 ((1 + k : Nat) : Int) = d' at *
                  have HFIT := Lib.hid (show risesP l0 = true ∧ l0.length < 4611686018427387904 ∧ d'.f0.size < 4611686018427387904 from ⟨HRI.out, hlen, Nat.lt_of_le_of_lt HSK.out (by decide)⟩)
                  have hlt3 : (k : Int) < ((l0.length - 1 : Nat) : Int) := by omega
                  go_wp2_with fail
                  refine (hang_calls (some ad) _ l0 d' A6 c6 A11 c11 _ (Kd.C_below HR.out (below_alloc hB _)) hc0 HFIT.out).mono ?_
                  rintro e w1 ⟨rfl, hb⟩
                  have hB1 := below_on (below_alloc hB _) hb
                  clear hb
                  by_cases hn : hangChk l0 d' = 0
                  · have hnb : (hangChk l0 d' != 0) = false := by rw [hn]; rfl
                    have HZ := Lib.hid (HS1.out.trans hn)
                    clear hn
                    go_wp2
                    go_roundw
                    case rel => exact ⟨k + 1, by go_num, by omega, ⟨fun i hi => by
                      rcases Nat.lt_or_ge i k with h1 | h1
                      · exact HA2.out i h1
                      · obtain rfl : i = k := by omega
                        exact HZ.out⟩, hB1⟩
                    case measure => simp [intOf]; omega
                  · have hnb : (hangChk l0 d' != 0) = true := by simpa using hn
                    have HT3 := Lib.hid (show treeChk l0 = hangChk l0 d' by
                      have hs := scan_at (fun (i : Nat) => hangChk l0 (rd_T32 l0 ↑i)) 1 (l0.length - 1) k hlt (fun j hj => HA2.out j hj) (by rw [HS1.out]; exact hn)
                      rw [HS1.out] at hs
                      rw [HT2.out, hs, if_pos hn])
                    clear hn
                    go_wp2
                    go_ret
                    exact ⟨ret_int HT3.out.symm, hB1⟩
              · obtain rfl : k = l0.length - 1 := by omega
                have HS2 := Lib.hid (show scan (fun (i : Nat) => hangChk l0 (rd_T32 l0 ↑i)) 1 (l0.length - 1) = 0 from scan_zero _ _ _ fun j hj => HA2.out j hj)
                obtain ⟨ad', _, _, _, _, e', -, -, hy2, hy3, hy4, hy5, -⟩ := at_T32 HR.out 0 (by omega) (by omega)
                obtain rfl := Option.some.inj e'
                clear e'
                simp only [Int.toNat_zero, Nat.zero_mul, add0] at hy2 hy3 hy4 hy5
                have HT3 := Lib.hid (HT2.out.trans (if_neg (by rw [HS2.out]; simp)))
                clear HS2 HT2
                rw [← HD.out] at HT3 hy2 hy3 hy4 hy5
                rcases hq : labEq d.f2 ⟨0, 0, 3, 255⟩ with _ | _
                all_goals
                  rw [hq] at HT3
                  have hq' : (d.f2.f0 == 0 && (d.f2.f1 == 0 && (d.f2.f2 == 3 && (d.f2.f3 == 255)))) = _ := hq
                  clear hq
                  go_wp2
                  refine wp_region_below (by kernel_rfl) (by kernel_rfl) ?_
                  repeat (first | go_big_quiet_skip | (go_big_quiet_want; apply quiet_one; (focus (intro w2 hC; obtain ⟨hc2, hf2⟩ := below_rules hC; obtain ⟨hc3, hf3⟩ := below_rules (below_on hB hC); go_simp; first | rfl | exact ⟨rfl, rfl⟩ | (refine quiet_call hC (by simp) (label_Bottom.calls _ _ _ _ _ rfl)))); simp only [Act.put, List.setIfInBounds_toArray, List.set_cons_zero, List.set_cons_succ]; go_big_quiet_on))
                  refine wpQuiet_nil ?_
                  intro w2 hC2
                  have hB2 := below_on hB hC2
                  clear hC2
                  go_wp2
                  go_ret
                  exact ⟨ret_int (by rw [HT3.out]; rfl), hB2⟩
        · have hpb : (d.f0.toList == [47]) = false := by simpa using hp
          have hpn : (d.f0.toList != [47]) = true := by simpa using hp
          have HT2 := Lib.hid (HT.out.trans (if_pos (Or.inr (by rw [← HD.out]; exact hp))))
          clear hp
          go_wp2
          go_ret
          exact ⟨ret_int HT2.out.symm, hB⟩
end Go.Proofs.YtpdflhgcdehmoaaDoor.T
namespace Go.Proofs.YtpdflhgcdehmoaaDoor.T
open Go.RowKit Go.Proofs.YtpdflhgcdehmoaaDoorW.PrintWords Go.Proofs.YtpdflhgcdehmoaaDoorW.PrintLast Go.Proofs.YtpdflhgcdehmoaaDoorW.PrintMore
attribute [local go_sem] max2_int min2_int max_two min_two max_three min_three max_four min_four
set_option linter.unusedVariables false
set_option linter.unusedSimpArgs false
def donjonref4_Over.f (a0_0 : Int) (a0_1 : Int) (a0_2 : Int) (a0_3 : Int) (a1_0 : Int) (a1_1 : Int) (a1_2 : Int) (a1_3 : Int) : Option (Bool) := if a0_0 ≥ a1_0 then (if (Go.bits .and .i64 a0_1 a1_1) = a1_1 then (if a0_2 ≤ a1_2 then (some ((Go.bits .and .i64 a0_3 a1_3) == a0_3)) else (some false)) else (some false)) else (some false)
set_option maxHeartbeats 8000000 in
set_option maxRecDepth 100000 in
theorem donjonref4_Over.calls (a0_0 : Int) (a0_1 : Int) (a0_2 : Int) (a0_3 : Int) (a1_0 : Int) (a1_1 : Int) (a1_2 : Int) (a1_3 : Int) (r : Bool) (w : World) (h : donjonref4_Over.f a0_0 a0_1 a0_2 a0_3 a1_0 a1_1 a1_2 a1_3 = some r) :
    Calls Tryd.prog 17 #[.agg #[.int .i64 a0_0, .int .i64 a0_1, .int .i64 a0_2, .int .i64 a0_3], .agg #[.int .i64 a1_0, .int .i64 a1_1, .int .i64 a1_2, .int .i64 a1_3]] w fun e w' => e = .returned (.bool r) ∧ Below w.heap.size w w' := by
  have hu26 := Tryd.underlying26
  have HB := Aside0.mk (Below.refl w.heap.size w)
  have H : (if a0_0 ≥ a1_0 then (if (Go.bits .and .i64 a0_1 a1_1) = a1_1 then (if a0_2 ≤ a1_2 then (some ((Go.bits .and .i64 a0_3 a1_3) == a0_3)) else (some false)) else (some false)) else (some false)) = some r := h
  clear h
  by_cases c3 : a0_0 ≥ a1_0
  · rw [if_pos c3] at H
    have c3b0 : decide (a1_0 ≤ a0_0) = true := decide_eq_true c3
    clear c3
    by_cases c4 : (Go.bits .and .i64 a0_1 a1_1) = a1_1
    · rw [if_pos c4] at H
      have c4b0 : ((Go.bits .and .i64 a0_1 a1_1) == a1_1) = true := beq_iff_eq.mpr c4
      have c4b1 : ((Go.bits .and .i64 a0_1 a1_1) != a1_1) = false := bne_eq_false_iff_eq.mpr c4
      clear c4
      by_cases c5 : a0_2 ≤ a1_2
      · rw [if_pos c5] at H
        have c5b0 : decide (a0_2 ≤ a1_2) = true := decide_eq_true c5
        clear c5
        obtain rfl := Option.some.inj H
        go_enter Tryd.func17, Tryd.ntmps17
        go_wp2_with (first | ((with_reducible refine gate_dst (N := 2) rfl ?_); refine box_event ?hg (N := 2) ?hd (cs := #[.int .i64 a0_0, .int .i64 a0_1, .int .i64 a0_2, .int .i64 a0_3]) (t := 26) ?hr ?_; (case hd => rfl); (case hg => rfl); (case hr => first | (go_simp; done) | (go_simp; rfl)); intro gb134 hg w6 hbox hb; have n0_ := Aside0.mk (below_step (by repeat (first | (with_reducible first | exact HB.out | apply below_alloc | apply pw_below_drewN | apply below_drew1) | exact HB.out)) hb); have n1_ := Aside0.mk (hbox); have n2_ := Aside0.mk ((by rw [hg]; exact (below_size (by repeat (first | (with_reducible first | exact HB.out | apply below_alloc | apply pw_below_drewN | apply below_drew1) | exact HB.out))) : w.heap.size ≤ gb134)); have n3_ := Aside0.mk ((by rw [hg]; exact (below_size (by repeat (first | (with_reducible first | exact HB.out | apply below_alloc | apply pw_below_drewN | apply below_drew1) | exact HB.out))) : w.heap.size ≤ gb134)); clear HB; have HB := n0_; have BK134 := n1_; have GW134 := n2_; have GE134 := n3_; clear n0_ n1_ n2_ n3_; clear hb hbox hg) | ((with_reducible refine gate_dst (N := 3) rfl ?_); refine box_event ?hg (N := 3) ?hd (cs := #[.int .i64 a1_0, .int .i64 a1_1, .int .i64 a1_2, .int .i64 a1_3]) (t := 26) ?hr ?_; (case hd => rfl); (case hg => rfl); (case hr => first | (go_simp; done) | (go_simp; rfl)); intro gb135 hg w7 hbox hb; have n0_ := Aside0.mk (blk_below (g := gb134) (o := .cells #[.int .i64 a0_0, .int .i64 a0_1, .int .i64 a0_2, .int .i64 a0_3] 26 (0, 0)) (by (with_reducible repeat (first | refine blk_drewN ?_ _ | refine blk_drew ?_ | refine blk_alloc ?_ _)); exact BK134.out) hb); have n1_ := Aside0.mk (below_step (by repeat (first | (with_reducible first | exact HB.out | apply below_alloc | apply pw_below_drewN | apply below_drew1 | refine below_set ?_ GE134.out) | exact HB.out)) hb); have n2_ := Aside0.mk (hbox); have n3_ := Aside0.mk ((by rw [hg]; exact (below_size (by repeat (first | (with_reducible first | exact HB.out | apply below_alloc | apply pw_below_drewN | apply below_drew1 | refine below_set ?_ GE134.out) | exact HB.out))) : w.heap.size ≤ gb135)); have n4_ := Aside0.mk ((by rw [hg]; exact (below_size (by repeat (first | (with_reducible first | exact HB.out | apply below_alloc | apply pw_below_drewN | apply below_drew1 | refine below_set ?_ GE134.out) | exact HB.out))) : w.heap.size ≤ gb135)); have n5_ := Aside0.mk ((by rw [hg]; exact Nat.ne_of_lt (blk_lt (g := gb134) (o := .cells #[.int .i64 a0_0, .int .i64 a0_1, .int .i64 a0_2, .int .i64 a0_3] 26 (0, 0)) (by (with_reducible repeat (first | refine blk_drewN ?_ _ | refine blk_drew ?_ | refine blk_alloc ?_ _)); exact BK134.out)) : gb134 ≠ gb135)); have n6_ := Aside0.mk ((by rw [hg]; exact Nat.ne_of_gt (blk_lt (g := gb134) (o := .cells #[.int .i64 a0_0, .int .i64 a0_1, .int .i64 a0_2, .int .i64 a0_3] 26 (0, 0)) (by (with_reducible repeat (first | refine blk_drewN ?_ _ | refine blk_drew ?_ | refine blk_alloc ?_ _)); exact BK134.out)) : gb135 ≠ gb134)); clear BK134; clear HB; have BK134 := n0_; have HB := n1_; have BK135 := n2_; have GW135 := n3_; have GE135 := n4_; have NB134_135 := n5_; have NB135_134 := n6_; clear n0_ n1_ n2_ n3_ n4_ n5_ n6_; clear hb hbox hg; have hnb8 := NB134_135.out; have hnc8 := NB135_134.out; have hcz9_0 : w7.cell? ⟨gb134, 0, none⟩ = some (.int .i64 a0_0) := (blk_cell BK134.out 0).trans rfl; have hcz9_1 : w7.cell? ⟨gb134, 1, none⟩ = some (.int .i64 a0_1) := (blk_cell BK134.out 1).trans rfl; have hcz9_2 : w7.cell? ⟨gb134, 2, none⟩ = some (.int .i64 a0_2) := (blk_cell BK134.out 2).trans rfl; have hcz9_3 : w7.cell? ⟨gb134, 3, none⟩ = some (.int .i64 a0_3) := (blk_cell BK134.out 3).trans rfl; have hfz9_0 := blk_frozen BK134.out 0; have hfz9_1 := blk_frozen BK134.out 1; have hfz9_2 := blk_frozen BK134.out 2; have hfz9_3 := blk_frozen BK134.out 3; have hcz10_0 : w7.cell? ⟨gb135, 0, none⟩ = some (.int .i64 a1_0) := (blk_cell BK135.out 0).trans rfl; have hcz10_1 : w7.cell? ⟨gb135, 1, none⟩ = some (.int .i64 a1_1) := (blk_cell BK135.out 1).trans rfl; have hcz10_2 : w7.cell? ⟨gb135, 2, none⟩ = some (.int .i64 a1_2) := (blk_cell BK135.out 2).trans rfl; have hcz10_3 : w7.cell? ⟨gb135, 3, none⟩ = some (.int .i64 a1_3) := (blk_cell BK135.out 3).trans rfl; have hfz10_0 := blk_frozen BK135.out 0; have hfz10_1 := blk_frozen BK135.out 1; have hfz10_2 := blk_frozen BK135.out 2; have hfz10_3 := blk_frozen BK135.out 3))
        go_ret
        exact ⟨by first | rfl | (simp [errW_none, errW_some] <;> rfl) | (simp [*, errW_none, errW_some] <;> rfl), by repeat (first | (with_reducible first | exact HB.out | apply below_alloc | apply pw_below_drewN | apply below_drew1 | refine below_set ?_ GE134.out | refine below_set ?_ GE135.out) | exact HB.out)⟩
      · rw [if_neg c5] at H
        have c5b0 : decide (a0_2 ≤ a1_2) = false := decide_eq_false c5
        clear c5
        obtain rfl := Option.some.inj H
        go_enter Tryd.func17, Tryd.ntmps17
        go_wp2_with (first | ((with_reducible refine gate_dst (N := 2) rfl ?_); refine box_event ?hg (N := 2) ?hd (cs := #[.int .i64 a0_0, .int .i64 a0_1, .int .i64 a0_2, .int .i64 a0_3]) (t := 26) ?hr ?_; (case hd => rfl); (case hg => rfl); (case hr => first | (go_simp; done) | (go_simp; rfl)); intro gb134 hg w11 hbox hb; have n0_ := Aside0.mk (below_step (by repeat (first | (with_reducible first | exact HB.out | apply below_alloc | apply pw_below_drewN | apply below_drew1) | exact HB.out)) hb); have n1_ := Aside0.mk (hbox); have n2_ := Aside0.mk ((by rw [hg]; exact (below_size (by repeat (first | (with_reducible first | exact HB.out | apply below_alloc | apply pw_below_drewN | apply below_drew1) | exact HB.out))) : w.heap.size ≤ gb134)); have n3_ := Aside0.mk ((by rw [hg]; exact (below_size (by repeat (first | (with_reducible first | exact HB.out | apply below_alloc | apply pw_below_drewN | apply below_drew1) | exact HB.out))) : w.heap.size ≤ gb134)); clear HB; have HB := n0_; have BK134 := n1_; have GW134 := n2_; have GE134 := n3_; clear n0_ n1_ n2_ n3_; clear hb hbox hg) | ((with_reducible refine gate_dst (N := 3) rfl ?_); refine box_event ?hg (N := 3) ?hd (cs := #[.int .i64 a1_0, .int .i64 a1_1, .int .i64 a1_2, .int .i64 a1_3]) (t := 26) ?hr ?_; (case hd => rfl); (case hg => rfl); (case hr => first | (go_simp; done) | (go_simp; rfl)); intro gb135 hg w12 hbox hb; have n0_ := Aside0.mk (blk_below (g := gb134) (o := .cells #[.int .i64 a0_0, .int .i64 a0_1, .int .i64 a0_2, .int .i64 a0_3] 26 (0, 0)) (by (with_reducible repeat (first | refine blk_drewN ?_ _ | refine blk_drew ?_ | refine blk_alloc ?_ _)); exact BK134.out) hb); have n1_ := Aside0.mk (below_step (by repeat (first | (with_reducible first | exact HB.out | apply below_alloc | apply pw_below_drewN | apply below_drew1 | refine below_set ?_ GE134.out) | exact HB.out)) hb); have n2_ := Aside0.mk (hbox); have n3_ := Aside0.mk ((by rw [hg]; exact (below_size (by repeat (first | (with_reducible first | exact HB.out | apply below_alloc | apply pw_below_drewN | apply below_drew1 | refine below_set ?_ GE134.out) | exact HB.out))) : w.heap.size ≤ gb135)); have n4_ := Aside0.mk ((by rw [hg]; exact (below_size (by repeat (first | (with_reducible first | exact HB.out | apply below_alloc | apply pw_below_drewN | apply below_drew1 | refine below_set ?_ GE134.out) | exact HB.out))) : w.heap.size ≤ gb135)); have n5_ := Aside0.mk ((by rw [hg]; exact Nat.ne_of_lt (blk_lt (g := gb134) (o := .cells #[.int .i64 a0_0, .int .i64 a0_1, .int .i64 a0_2, .int .i64 a0_3] 26 (0, 0)) (by (with_reducible repeat (first | refine blk_drewN ?_ _ | refine blk_drew ?_ | refine blk_alloc ?_ _)); exact BK134.out)) : gb134 ≠ gb135)); have n6_ := Aside0.mk ((by rw [hg]; exact Nat.ne_of_gt (blk_lt (g := gb134) (o := .cells #[.int .i64 a0_0, .int .i64 a0_1, .int .i64 a0_2, .int .i64 a0_3] 26 (0, 0)) (by (with_reducible repeat (first | refine blk_drewN ?_ _ | refine blk_drew ?_ | refine blk_alloc ?_ _)); exact BK134.out)) : gb135 ≠ gb134)); clear BK134; clear HB; have BK134 := n0_; have HB := n1_; have BK135 := n2_; have GW135 := n3_; have GE135 := n4_; have NB134_135 := n5_; have NB135_134 := n6_; clear n0_ n1_ n2_ n3_ n4_ n5_ n6_; clear hb hbox hg; have hnb13 := NB134_135.out; have hnc13 := NB135_134.out; have hcz14_0 : w12.cell? ⟨gb134, 0, none⟩ = some (.int .i64 a0_0) := (blk_cell BK134.out 0).trans rfl; have hcz14_1 : w12.cell? ⟨gb134, 1, none⟩ = some (.int .i64 a0_1) := (blk_cell BK134.out 1).trans rfl; have hcz14_2 : w12.cell? ⟨gb134, 2, none⟩ = some (.int .i64 a0_2) := (blk_cell BK134.out 2).trans rfl; have hcz14_3 : w12.cell? ⟨gb134, 3, none⟩ = some (.int .i64 a0_3) := (blk_cell BK134.out 3).trans rfl; have hfz14_0 := blk_frozen BK134.out 0; have hfz14_1 := blk_frozen BK134.out 1; have hfz14_2 := blk_frozen BK134.out 2; have hfz14_3 := blk_frozen BK134.out 3; have hcz15_0 : w12.cell? ⟨gb135, 0, none⟩ = some (.int .i64 a1_0) := (blk_cell BK135.out 0).trans rfl; have hcz15_1 : w12.cell? ⟨gb135, 1, none⟩ = some (.int .i64 a1_1) := (blk_cell BK135.out 1).trans rfl; have hcz15_2 : w12.cell? ⟨gb135, 2, none⟩ = some (.int .i64 a1_2) := (blk_cell BK135.out 2).trans rfl; have hcz15_3 : w12.cell? ⟨gb135, 3, none⟩ = some (.int .i64 a1_3) := (blk_cell BK135.out 3).trans rfl; have hfz15_0 := blk_frozen BK135.out 0; have hfz15_1 := blk_frozen BK135.out 1; have hfz15_2 := blk_frozen BK135.out 2; have hfz15_3 := blk_frozen BK135.out 3))
        go_ret
        exact ⟨by first | rfl | (simp [errW_none, errW_some] <;> rfl) | (simp [*, errW_none, errW_some] <;> rfl), by repeat (first | (with_reducible first | exact HB.out | apply below_alloc | apply pw_below_drewN | apply below_drew1 | refine below_set ?_ GE134.out | refine below_set ?_ GE135.out) | exact HB.out)⟩
    · rw [if_neg c4] at H
      have c4b0 : ((Go.bits .and .i64 a0_1 a1_1) == a1_1) = false := beq_eq_false_iff_ne.mpr c4
      have c4b1 : ((Go.bits .and .i64 a0_1 a1_1) != a1_1) = true := bne_iff_ne.mpr c4
      obtain rfl := Option.some.inj H
      go_enter Tryd.func17, Tryd.ntmps17
      go_wp2_with (first | ((with_reducible refine gate_dst (N := 2) rfl ?_); refine box_event ?hg (N := 2) ?hd (cs := #[.int .i64 a0_0, .int .i64 a0_1, .int .i64 a0_2, .int .i64 a0_3]) (t := 26) ?hr ?_; (case hd => rfl); (case hg => rfl); (case hr => first | (go_simp; done) | (go_simp; rfl)); intro gb134 hg w16 hbox hb; have n0_ := Aside0.mk (below_step (by repeat (first | (with_reducible first | exact HB.out | apply below_alloc | apply pw_below_drewN | apply below_drew1) | exact HB.out)) hb); have n1_ := Aside0.mk (hbox); have n2_ := Aside0.mk ((by rw [hg]; exact (below_size (by repeat (first | (with_reducible first | exact HB.out | apply below_alloc | apply pw_below_drewN | apply below_drew1) | exact HB.out))) : w.heap.size ≤ gb134)); have n3_ := Aside0.mk ((by rw [hg]; exact (below_size (by repeat (first | (with_reducible first | exact HB.out | apply below_alloc | apply pw_below_drewN | apply below_drew1) | exact HB.out))) : w.heap.size ≤ gb134)); clear HB; have HB := n0_; have BK134 := n1_; have GW134 := n2_; have GE134 := n3_; clear n0_ n1_ n2_ n3_; clear hb hbox hg) | ((with_reducible refine gate_dst (N := 3) rfl ?_); refine box_event ?hg (N := 3) ?hd (cs := #[.int .i64 a1_0, .int .i64 a1_1, .int .i64 a1_2, .int .i64 a1_3]) (t := 26) ?hr ?_; (case hd => rfl); (case hg => rfl); (case hr => first | (go_simp; done) | (go_simp; rfl)); intro gb135 hg w17 hbox hb; have n0_ := Aside0.mk (blk_below (g := gb134) (o := .cells #[.int .i64 a0_0, .int .i64 a0_1, .int .i64 a0_2, .int .i64 a0_3] 26 (0, 0)) (by (with_reducible repeat (first | refine blk_drewN ?_ _ | refine blk_drew ?_ | refine blk_alloc ?_ _)); exact BK134.out) hb); have n1_ := Aside0.mk (below_step (by repeat (first | (with_reducible first | exact HB.out | apply below_alloc | apply pw_below_drewN | apply below_drew1 | refine below_set ?_ GE134.out) | exact HB.out)) hb); have n2_ := Aside0.mk (hbox); have n3_ := Aside0.mk ((by rw [hg]; exact (below_size (by repeat (first | (with_reducible first | exact HB.out | apply below_alloc | apply pw_below_drewN | apply below_drew1 | refine below_set ?_ GE134.out) | exact HB.out))) : w.heap.size ≤ gb135)); have n4_ := Aside0.mk ((by rw [hg]; exact (below_size (by repeat (first | (with_reducible first | exact HB.out | apply below_alloc | apply pw_below_drewN | apply below_drew1 | refine below_set ?_ GE134.out) | exact HB.out))) : w.heap.size ≤ gb135)); have n5_ := Aside0.mk ((by rw [hg]; exact Nat.ne_of_lt (blk_lt (g := gb134) (o := .cells #[.int .i64 a0_0, .int .i64 a0_1, .int .i64 a0_2, .int .i64 a0_3] 26 (0, 0)) (by (with_reducible repeat (first | refine blk_drewN ?_ _ | refine blk_drew ?_ | refine blk_alloc ?_ _)); exact BK134.out)) : gb134 ≠ gb135)); have n6_ := Aside0.mk ((by rw [hg]; exact Nat.ne_of_gt (blk_lt (g := gb134) (o := .cells #[.int .i64 a0_0, .int .i64 a0_1, .int .i64 a0_2, .int .i64 a0_3] 26 (0, 0)) (by (with_reducible repeat (first | refine blk_drewN ?_ _ | refine blk_drew ?_ | refine blk_alloc ?_ _)); exact BK134.out)) : gb135 ≠ gb134)); clear BK134; clear HB; have BK134 := n0_; have HB := n1_; have BK135 := n2_; have GW135 := n3_; have GE135 := n4_; have NB134_135 := n5_; have NB135_134 := n6_; clear n0_ n1_ n2_ n3_ n4_ n5_ n6_; clear hb hbox hg; have hnb18 := NB134_135.out; have hnc18 := NB135_134.out; have hcz19_0 : w17.cell? ⟨gb134, 0, none⟩ = some (.int .i64 a0_0) := (blk_cell BK134.out 0).trans rfl; have hcz19_1 : w17.cell? ⟨gb134, 1, none⟩ = some (.int .i64 a0_1) := (blk_cell BK134.out 1).trans rfl; have hcz19_2 : w17.cell? ⟨gb134, 2, none⟩ = some (.int .i64 a0_2) := (blk_cell BK134.out 2).trans rfl; have hcz19_3 : w17.cell? ⟨gb134, 3, none⟩ = some (.int .i64 a0_3) := (blk_cell BK134.out 3).trans rfl; have hfz19_0 := blk_frozen BK134.out 0; have hfz19_1 := blk_frozen BK134.out 1; have hfz19_2 := blk_frozen BK134.out 2; have hfz19_3 := blk_frozen BK134.out 3; have hcz20_0 : w17.cell? ⟨gb135, 0, none⟩ = some (.int .i64 a1_0) := (blk_cell BK135.out 0).trans rfl; have hcz20_1 : w17.cell? ⟨gb135, 1, none⟩ = some (.int .i64 a1_1) := (blk_cell BK135.out 1).trans rfl; have hcz20_2 : w17.cell? ⟨gb135, 2, none⟩ = some (.int .i64 a1_2) := (blk_cell BK135.out 2).trans rfl; have hcz20_3 : w17.cell? ⟨gb135, 3, none⟩ = some (.int .i64 a1_3) := (blk_cell BK135.out 3).trans rfl; have hfz20_0 := blk_frozen BK135.out 0; have hfz20_1 := blk_frozen BK135.out 1; have hfz20_2 := blk_frozen BK135.out 2; have hfz20_3 := blk_frozen BK135.out 3))
      go_ret
      exact ⟨by first | rfl | (simp [errW_none, errW_some] <;> rfl) | (simp [*, errW_none, errW_some] <;> rfl), by repeat (first | (with_reducible first | exact HB.out | apply below_alloc | apply pw_below_drewN | apply below_drew1 | refine below_set ?_ GE134.out | refine below_set ?_ GE135.out) | exact HB.out)⟩
  · rw [if_neg c3] at H
    have c3b0 : decide (a1_0 ≤ a0_0) = false := decide_eq_false c3
    clear c3
    obtain rfl := Option.some.inj H
    go_enter Tryd.func17, Tryd.ntmps17
    go_wp2_with (first | ((with_reducible refine gate_dst (N := 2) rfl ?_); refine box_event ?hg (N := 2) ?hd (cs := #[.int .i64 a0_0, .int .i64 a0_1, .int .i64 a0_2, .int .i64 a0_3]) (t := 26) ?hr ?_; (case hd => rfl); (case hg => rfl); (case hr => first | (go_simp; done) | (go_simp; rfl)); intro gb134 hg w21 hbox hb; have n0_ := Aside0.mk (below_step (by repeat (first | (with_reducible first | exact HB.out | apply below_alloc | apply pw_below_drewN | apply below_drew1) | exact HB.out)) hb); have n1_ := Aside0.mk (hbox); have n2_ := Aside0.mk ((by rw [hg]; exact (below_size (by repeat (first | (with_reducible first | exact HB.out | apply below_alloc | apply pw_below_drewN | apply below_drew1) | exact HB.out))) : w.heap.size ≤ gb134)); have n3_ := Aside0.mk ((by rw [hg]; exact (below_size (by repeat (first | (with_reducible first | exact HB.out | apply below_alloc | apply pw_below_drewN | apply below_drew1) | exact HB.out))) : w.heap.size ≤ gb134)); clear HB; have HB := n0_; have BK134 := n1_; have GW134 := n2_; have GE134 := n3_; clear n0_ n1_ n2_ n3_; clear hb hbox hg) | ((with_reducible refine gate_dst (N := 3) rfl ?_); refine box_event ?hg (N := 3) ?hd (cs := #[.int .i64 a1_0, .int .i64 a1_1, .int .i64 a1_2, .int .i64 a1_3]) (t := 26) ?hr ?_; (case hd => rfl); (case hg => rfl); (case hr => first | (go_simp; done) | (go_simp; rfl)); intro gb135 hg w22 hbox hb; have n0_ := Aside0.mk (blk_below (g := gb134) (o := .cells #[.int .i64 a0_0, .int .i64 a0_1, .int .i64 a0_2, .int .i64 a0_3] 26 (0, 0)) (by (with_reducible repeat (first | refine blk_drewN ?_ _ | refine blk_drew ?_ | refine blk_alloc ?_ _)); exact BK134.out) hb); have n1_ := Aside0.mk (below_step (by repeat (first | (with_reducible first | exact HB.out | apply below_alloc | apply pw_below_drewN | apply below_drew1 | refine below_set ?_ GE134.out) | exact HB.out)) hb); have n2_ := Aside0.mk (hbox); have n3_ := Aside0.mk ((by rw [hg]; exact (below_size (by repeat (first | (with_reducible first | exact HB.out | apply below_alloc | apply pw_below_drewN | apply below_drew1 | refine below_set ?_ GE134.out) | exact HB.out))) : w.heap.size ≤ gb135)); have n4_ := Aside0.mk ((by rw [hg]; exact (below_size (by repeat (first | (with_reducible first | exact HB.out | apply below_alloc | apply pw_below_drewN | apply below_drew1 | refine below_set ?_ GE134.out) | exact HB.out))) : w.heap.size ≤ gb135)); have n5_ := Aside0.mk ((by rw [hg]; exact Nat.ne_of_lt (blk_lt (g := gb134) (o := .cells #[.int .i64 a0_0, .int .i64 a0_1, .int .i64 a0_2, .int .i64 a0_3] 26 (0, 0)) (by (with_reducible repeat (first | refine blk_drewN ?_ _ | refine blk_drew ?_ | refine blk_alloc ?_ _)); exact BK134.out)) : gb134 ≠ gb135)); have n6_ := Aside0.mk ((by rw [hg]; exact Nat.ne_of_gt (blk_lt (g := gb134) (o := .cells #[.int .i64 a0_0, .int .i64 a0_1, .int .i64 a0_2, .int .i64 a0_3] 26 (0, 0)) (by (with_reducible repeat (first | refine blk_drewN ?_ _ | refine blk_drew ?_ | refine blk_alloc ?_ _)); exact BK134.out)) : gb135 ≠ gb134)); clear BK134; clear HB; have BK134 := n0_; have HB := n1_; have BK135 := n2_; have GW135 := n3_; have GE135 := n4_; have NB134_135 := n5_; have NB135_134 := n6_; clear n0_ n1_ n2_ n3_ n4_ n5_ n6_; clear hb hbox hg; have hnb23 := NB134_135.out; have hnc23 := NB135_134.out; have hcz24_0 : w22.cell? ⟨gb134, 0, none⟩ = some (.int .i64 a0_0) := (blk_cell BK134.out 0).trans rfl; have hcz24_1 : w22.cell? ⟨gb134, 1, none⟩ = some (.int .i64 a0_1) := (blk_cell BK134.out 1).trans rfl; have hcz24_2 : w22.cell? ⟨gb134, 2, none⟩ = some (.int .i64 a0_2) := (blk_cell BK134.out 2).trans rfl; have hcz24_3 : w22.cell? ⟨gb134, 3, none⟩ = some (.int .i64 a0_3) := (blk_cell BK134.out 3).trans rfl; have hfz24_0 := blk_frozen BK134.out 0; have hfz24_1 := blk_frozen BK134.out 1; have hfz24_2 := blk_frozen BK134.out 2; have hfz24_3 := blk_frozen BK134.out 3; have hcz25_0 : w22.cell? ⟨gb135, 0, none⟩ = some (.int .i64 a1_0) := (blk_cell BK135.out 0).trans rfl; have hcz25_1 : w22.cell? ⟨gb135, 1, none⟩ = some (.int .i64 a1_1) := (blk_cell BK135.out 1).trans rfl; have hcz25_2 : w22.cell? ⟨gb135, 2, none⟩ = some (.int .i64 a1_2) := (blk_cell BK135.out 2).trans rfl; have hcz25_3 : w22.cell? ⟨gb135, 3, none⟩ = some (.int .i64 a1_3) := (blk_cell BK135.out 3).trans rfl; have hfz25_0 := blk_frozen BK135.out 0; have hfz25_1 := blk_frozen BK135.out 1; have hfz25_2 := blk_frozen BK135.out 2; have hfz25_3 := blk_frozen BK135.out 3))
    go_ret
    exact ⟨by first | rfl | (simp [errW_none, errW_some] <;> rfl) | (simp [*, errW_none, errW_some] <;> rfl), by repeat (first | (with_reducible first | exact HB.out | apply below_alloc | apply pw_below_drewN | apply below_drew1 | refine below_set ?_ GE134.out | refine below_set ?_ GE135.out) | exact HB.out)⟩
end Go.Proofs.YtpdflhgcdehmoaaDoor.T
namespace Go.Proofs.YtpdflhgcdehmoaaDoor.T
open Go.RowKit Go.Proofs.YtpdflhgcdehmoaaDoorW.PrintWords Go.Proofs.YtpdflhgcdehmoaaDoorW.PrintLast Go.Proofs.YtpdflhgcdehmoaaDoorW.PrintMore
attribute [local go_sem] max2_int min2_int max_two min_two max_three min_three max_four min_four
set_option linter.unusedVariables false
set_option linter.unusedSimpArgs false
attribute [local go_sem ↓] loadS_is storeS_is
attribute [local go_sem] storeS_new loadQ_is loadQ_at loadR_some cellsQ_alloc_at cellsQ_alloc_past
def findN (l : List S32) (p : ByteArray) : Option S32 := l.find? fun n => n.f0.toList == p.toList
theorem findN_at {l : List S32} {p : ByteArray} {k : Nat} (hk : k < l.length) (hn : ∀ i, i < k → ((rd_T32 l i).f0.toList == p.toList) = false) (h : ((rd_T32 l k).f0.toList == p.toList) = true) : findN l p = some (rd_T32 l k) := by
  unfold findN
  rw [List.find?_eq_some_iff_getElem]
  refine ⟨h, k, hk, (rd_get l k hk).symm, fun j hj => ?_⟩
  have := hn j hj
  rw [rd_get l j (by omega)] at this
  simpa using this
theorem findN_none {l : List S32} {p : ByteArray} (hn : ∀ i, i < l.length → ((rd_T32 l i).f0.toList == p.toList) = false) : findN l p = none := by
  unfold findN
  rw [List.find?_eq_none]
  intro x hx
  obtain ⟨i, hi, rfl⟩ := List.getElem_of_mem hx
  have := hn i hi
  rw [rd_get l i hi] at this
  simpa using this
theorem all_next {p : Nat → Prop} {k : Nat} (h : ∀ i, i < k → p i) (hk : p k) : ∀ i, i < k + 1 → p i := fun i hi => by
  rcases Nat.lt_or_ge i k with h1 | h1
  · exact h i h1
  · obtain rfl : i = k := by omega
    exact hk
set_option maxHeartbeats 2000000 in
set_option maxRecDepth 100000 in
theorem find_calls (A0 : Option Addr) (c0 : Nat) (l0 : List (S32)) (a1 : ByteArray) (w : World) (hr0 : Kd.C k32 w A0 l0.length l0) (hc0 : l0.length ≤ c0) (hlen : l0.length < 4611686018427387904) :
    Calls Tryd.prog 35 #[.slice A0 l0.length c0, .string a1] w fun e w' => Below w.heap.size w w' ∧
      ((findN l0 a1 = none ∧ e = .returned (.tuple #[.agg #[.string ⟨#[]⟩, .bool false, .int .i64 0, .int .i64 0, .int .i64 0, .int .i64 0, .slice none 0 0, .int .i64 0, .int .i64 0, .int .i64 0, .int .i64 0, .slice none 0 0, .int .i64 0, .int .i64 0, .int .i64 0, .int .i64 0], .bool false])) ∨
       ∃ n A6 c6 A11 c11, findN l0 a1 = some n ∧ e = .returned (.tuple #[.agg #[.string n.f0, .bool n.f1, .int .i64 n.f2.f0, .int .i64 n.f2.f1, .int .i64 n.f2.f2, .int .i64 n.f2.f3, .slice A6 n.f3.length c6, .int .i64 n.f4.f0, .int .i64 n.f4.f1, .int .i64 n.f4.f2, .int .i64 n.f4.f3, .slice A11 n.f5.length c11, .int .i64 n.f6.f0, .int .i64 n.f6.f1, .int .i64 n.f6.f2, .int .i64 n.f6.f3], .bool true]) ∧
         n.f3.length ≤ c6 ∧ Kd.C k83 w A6 n.f3.length n.f3 ∧ n.f5.length ≤ c11 ∧ Kd.C (Kd.int .i64) w A11 n.f5.length n.f5) := by
  have HR := Lib.hid hr0
  clear hr0
  have hu := Tryd.underlying32
  go_enter Tryd.func35, Tryd.ntmps35
  go_wp2
  go_loopw [6] (fun n w' => ∃ k : Nat, n = .int .i64 k ∧ k ≤ l0.length ∧ Aside0 (∀ i, i < k → ((rd_T32 l0 (i : Nat)).f0.toList == a1.toList) = false) ∧ w' = w.alloc (.cells #[.string ⟨#[]⟩, .bool false, .int .i64 0, .int .i64 0, .int .i64 0, .int .i64 0, .slice none 0 0, .int .i64 0, .int .i64 0, .int .i64 0, .int .i64 0, .slice none 0 0, .int .i64 0, .int .i64 0, .int .i64 0, .int .i64 0] 32)) (fun n _ => l0.length - (intOf n).toNat)
  case atStart => exact ⟨0, rfl, Nat.zero_le _, ⟨fun i h => absurd h (Nat.not_lt_zero _)⟩, rfl⟩
  case round =>
    obtain ⟨k, rfl, hk, HA, rfl⟩ := hrel
    by_cases hlt : k < l0.length
    · obtain ⟨ad, A6, c6, A11, c11, rfl, hbk, hq, hx0, hx1, hl6, hC6, hl11, hC11⟩ := node_at HR.out k hlt
      have HC6 := Lib.hid hC6
      have HC11 := Lib.hid hC11
      clear hC6 hC11
      have HF := Lib.hid (fun h => findN_at hlt HA.out h)
      have HN := Lib.hid (fun (h : ((rd_T32 l0 (k : Nat)).f0.toList == a1.toList) = false) => all_next HA.out h)
      generalize rd_T32 l0 k = d at *
      rcases hp : (d.f0.toList == a1.toList) with _ | _
      · go_wp2
        go_roundw
        case rel => exact ⟨k + 1, by go_num, hlt, ⟨HN.out hp⟩, trivial⟩
        case measure => simp [intOf]; omega
      · go_wp2
        (try simp only [Exit.inBlock, Exit.then])
        refine bodyPost_ret (node_result rfl _ _ _ _ _ rfl rfl rfl) rfl ?_
        exact ⟨below_alloc (Below.refl _ _) _, .inr ⟨d, A6, c6, A11, c11, HF.out hp, rfl, hl6, HC6.out, hl11, HC11.out⟩⟩
    · obtain rfl : k = l0.length := by omega
      go_wp2
      (try simp only [Exit.inBlock, Exit.then])
      refine bodyPost_ret (node_result rfl _ _ _ _ _ rfl rfl rfl) rfl ?_
      exact ⟨below_alloc (Below.refl _ _) _, .inl ⟨findN_none HA.out, rfl⟩⟩
end Go.Proofs.YtpdflhgcdehmoaaDoor.T
