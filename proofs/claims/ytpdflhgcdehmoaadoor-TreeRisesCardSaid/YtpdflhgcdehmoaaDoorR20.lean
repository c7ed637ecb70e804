/- Part of the proof that TreeRises comes to true: printed and written texts, merged by a program. -/
import Derived.Lib.Hide
import Derived.Test.YtpdflhgcdehmoaaDoorR3
import Derived.Test.YtpdflhgcdehmoaaDoorR11
import Derived.Test.YtpdflhgcdehmoaaDoorR14
import Derived.Test.YtpdflhgcdehmoaaDoorR16
import Derived.Test.YtpdflhgcdehmoaaDoorR4
import Derived.Test.YtpdflhgcdehmoaaDoorR5
import Derived.Test.YtpdflhgcdehmoaaDoorR7
import Derived.Test.YtpdflhgcdehmoaaDoorR17
import Derived.Test.YtpdflhgcdehmoaaDoorR19
import Derived.Test.YtpdflhgcdehmoaaDoorR6
namespace Go.Proofs.YtpdflhgcdehmoaaDoor.T
open Go.RowKit Go.Proofs.YtpdflhgcdehmoaaDoorW.PrintWords Go.Proofs.YtpdflhgcdehmoaaDoorW.PrintLast Go.Proofs.YtpdflhgcdehmoaaDoorW.PrintMore
attribute [local go_sem] max2_int min2_int max_two min_two max_three min_three max_four min_four
set_option linter.unusedVariables false
set_option linter.unusedSimpArgs false
theorem nodeChk_of {n : S32} (h0 : pathChk n.f0 = 0) (h1 : labChk n.f2 = 0) (h2 : labChk n.f6 = 0) (h3 : aclChk n.f3 = 0) (h4 : nodeRest n = 0) : nodeChk n = 0 := by
  unfold nodeChk firstOf
  rw [h0, h1, h2, h3, h4]
  simp
theorem bottom_chk : labChk (⟨0, 0, 3, 255⟩ : S26) = 0 := labChk_of (by simp)
theorem dirN_chk {p : ByteArray} {a : S26} (hp : pathChk p = 0) (ha : labChk a = 0) : nodeChk (dirN p a) = 0 :=
  nodeChk_of hp ha bottom_chk all_chk (by unfold nodeRest dirN; simp)
theorem slash_chk : pathChk ⟨#[47]⟩ = 0 := by
  unfold pathChk
  rw [if_neg (by decide), if_pos rfl]
theorem nameK_is (k : Nat) (h : k < 4) : nameK k = ⟨#[47, 108, UInt8.ofNat (48 + k)]⟩ := by
  have hk : k = 0 ∨ k = 1 ∨ k = 2 ∨ k = 3 := by omega
  rcases hk with rfl | rfl | rfl | rfl <;> rfl
theorem nameK_facts (k : Nat) (h : k < 4) : pathChk (nameK k) = 0 ∧ (nameK k).toList = [47, 108, UInt8.ofNat (48 + k)] ∧ (parR (nameK k)).toList = [47] := by
  rw [nameK_is k h]
  have hk : k = 0 ∨ k = 1 ∨ k = 2 ∨ k = 3 := by omega
  refine ⟨?_, Lib.toList_data _, ?_⟩
  · refine pathChk_good (x := []) (xs := [[108, UInt8.ofNat (48 + k)]]) ?_ ?_ ⟨rfl, by simp, by simp, ?_⟩
    · show ¬ 78 < 3
      omega
    · rcases hk with rfl | rfl | rfl | rfl <;> decide
    · rcases hk with rfl | rfl | rfl | rfl <;> decide
  · rcases hk with rfl | rfl | rfl | rfl <;> decide +kernel
theorem nameK_lt {i j : Nat} (h : i < j) (hj : j < 4) : (nameK i).toList < (nameK j).toList := by
  rw [(nameK_facts i (by omega)).2.1, (nameK_facts j hj).2.1]
  have hk : (i = 0 ∧ j = 1) ∨ (i = 0 ∧ j = 2) ∨ (i = 0 ∧ j = 3) ∨ (i = 1 ∧ j = 2) ∨ (i = 1 ∧ j = 3) ∨ (i = 2 ∧ j = 3) := by omega
  rcases hk with ⟨rfl, rfl⟩ | ⟨rfl, rfl⟩ | ⟨rfl, rfl⟩ | ⟨rfl, rfl⟩ | ⟨rfl, rfl⟩ | ⟨rfl, rfl⟩ <;> decide
theorem first_rows (ts : List S26) (hts : ts.length ≤ 4) (hc : ∀ x ∈ ts, labChk x = 0) : ∀ i, i ≤ ts.length →
    (firstTo ts i).Pairwise (fun a b => a.f0.toList < b.f0.toList) ∧ dirN ⟨#[47]⟩ ⟨0, 0, 3, 255⟩ ∈ firstTo ts i ∧ ∀ x ∈ firstTo ts i, x = dirN ⟨#[47]⟩ ⟨0, 0, 3, 255⟩ ∨ ∃ j a, j < newTo ts i ∧ labChk a = 0 ∧ x = dirN (nameK j) a
  | 0, _ => ⟨List.pairwise_singleton _ _, List.mem_singleton.2 rfl, fun x hx => .inl (List.mem_singleton.1 hx)⟩
  | i + 1, hi => by
    obtain ⟨h1, h2, h3⟩ := first_rows ts hts hc i (by omega)
    have hn := newTo_next ts i
    have hle := newTo_le ts i
    unfold firstTo
    cases hs : seenTo ts i i with
    | true =>
      rw [hs, if_pos rfl, Nat.add_zero] at hn
      rw [if_pos rfl, hn]
      exact ⟨h1, h2, h3⟩
    | false =>
      rw [hs] at hn
      simp only [Bool.false_eq_true, if_false] at hn ⊢
      refine ⟨?_, List.mem_append_left _ h2, fun x hx => ?_⟩
      · rw [List.pairwise_append]
        refine ⟨h1, List.pairwise_singleton _ _, fun a ha b hb => ?_⟩
        rw [List.mem_singleton.1 hb]
        show a.f0.toList < (nameK (newTo ts i)).toList
        rcases h3 a ha with rfl | ⟨j, a', hj, -, rfl⟩
        · rw [(nameK_facts (newTo ts i) (by omega)).2.1]
          show (⟨#[47]⟩ : ByteArray).toList < _
          rw [Lib.toList_data]
          exact List.cons_lt_cons_iff.2 (.inr ⟨rfl, List.nil_lt_cons _ _⟩)
        · exact nameK_lt hj (by omega)
      · rcases List.mem_append.1 hx with hx | hx
        · rcases h3 x hx with h | ⟨j, a, hj, ha, he⟩
          · exact .inl h
          · exact .inr ⟨j, a, by omega, ha, he⟩
        · rw [List.mem_singleton.1 hx]
          refine .inr ⟨newTo ts i, rd_T26 ts (i : Nat), by omega, ?_, rfl⟩
          have e : rd_T26 ts (i : Nat) = ts[i] := by simp [rd_T26, List.getD_eq_getElem?_getD, show i < ts.length by omega]
          rw [e]
          exact hc _ (List.getElem_mem _)
theorem first_good (ts : List S26) (hts : ts.length ≤ 4) (hc : ∀ x ∈ ts, labChk x = 0) : GoodT (firstTo ts ts.length) := by
  obtain ⟨h1, h2, h3⟩ := first_rows ts hts hc ts.length (Nat.le_refl _)
  have hle := newTo_le ts ts.length
  refine ⟨h1, fun x hx => ?_, ⟨_, h2, Lib.toList_data _, rfl⟩, fun x hx hne => ?_⟩
  · rcases h3 x hx with rfl | ⟨j, a, hj, ha, rfl⟩
    · exact dirN_chk slash_chk bottom_chk
    · exact dirN_chk (nameK_facts j (by omega)).1 ha
  · rcases h3 x hx with rfl | ⟨j, a, hj, ha, rfl⟩
    · exact absurd (Lib.toList_data _) hne
    · refine ⟨_, h2, ?_, rfl, over_bottom ha, fun h => by cases h⟩
      show (⟨#[47]⟩ : ByteArray).toList = (parR (nameK j)).toList
      rw [(nameK_facts j (by omega)).2.2, Lib.toList_data]
theorem goodTo_chk (ts : List S26) : ∀ i, ∀ x ∈ goodTo ts i, labChk x = 0
  | 0, x, hx => by cases hx
  | i + 1, x, hx => by
    unfold goodTo at hx
    rcases List.mem_append.1 hx with hx | hx
    · exact goodTo_chk ts i x hx
    · rw [List.mem_singleton.1 hx]; exact goodL_chk _
theorem newN_chk {p : ByteArray} {d : S32} {m : S54} (hp : pathChk p = 0) (hr : p.toList ≠ [47]) (hd : labChk d.f2 = 0) : nodeChk (newN p d m) = 0 ∧ (newN p d m).f0 = p ∧ overP (newN p d m).f2 d.f2 = true ∧ ((newN p d m).f1 = false → (newN p d m).f2 = d.f2) := by
  unfold newN
  cases hm : m.f1 with
  | true =>
    rw [if_pos rfl]
    have ha := aclOf_chk m.f3
    have hj := joinP_chk hd (goodL_chk m.f2)
    have ho := over_join hd (goodL_chk m.f2)
    have hb := goodL_chk m.f6
    generalize aclOf m.f3 = al at *
    generalize joinP d.f2 (goodL m.f2) = jl at *
    generalize goodL m.f6 = gl at *
    exact ⟨nodeChk_of hp hj hb ha (by unfold nodeRest; simp), rfl, ho, fun h => by cases h⟩
  | false =>
    rw [if_neg (by simp)]
    have ha := aclOf_chk m.f3
    have hb := goodL_chk m.f6
    have hg := goodR_chk m.f4
    have ht : (m.f5.take 16).length ≤ 16 := by simp; omega
    generalize aclOf m.f3 = al at *
    generalize goodR m.f4 = gr at *
    generalize goodL m.f6 = gl at *
    generalize m.f5.take 16 = tl at *
    refine ⟨nodeChk_of hp hd hb ha ?_, rfl, over_refl hd, fun _ => rfl⟩
    unfold nodeRest
    rw [if_neg (fun h => hr h.1), if_neg (by simp), if_neg (by rw [hg]; simp), if_neg (by simp; omega)]
theorem step_good {l : List S32} (h : GoodT l) (m : S54) : GoodT (growStep l m) := by
  unfold growStep
  by_cases hr : (ofP m.f0).toList = [47]
  · rw [if_pos hr]; exact h
  · rw [if_neg hr]
    cases hf : findN l (parR (ofP m.f0)) with
    | none => exact h
    | some d =>
      simp only
      split
      · rename_i hc
        obtain ⟨hdm, hdp⟩ := findN_some hf
        obtain ⟨h1, h2, h3, h4⟩ := newN_chk (m := m) (ofP_chk m.f0) hr (nodeChk_path (h.chk d hdm)).2
        refine good_put h h1 (fun x hx => ?_) ⟨d, hdm, ?_, hc.1, h3, h4⟩
        · rw [h2]; exact findN_no hc.2 x hx
        · rw [h2]; exact hdp
      · exact h
theorem grow_good (ts : List S26) (ms : List S54) : ∀ i, GoodT (growTo ts ms i)
  | 0 => by
    have e : growTo ts ms 0 = firstTo (goodTo ts (min ts.length 4)) (goodTo ts (min ts.length 4)).length := rfl
    rw [e]
    generalize hg : goodTo ts (min ts.length 4) = g
    exact first_good g (by rw [← hg, goodTo_length]; omega) (by rw [← hg]; exact goodTo_chk ts _)
  | i + 1 => by
    have e : growTo ts ms (i + 1) = growStep (growTo ts ms i) (rd_T54 ms (i : Nat)) := rfl
    rw [e]
    exact step_good (grow_good ts ms i) _
theorem growP_good (ts : List S26) (ms : List S54) : GoodT (growP ts ms) := grow_good ts ms _
theorem growP_chk (ts : List S26) (ms : List S54) : treeChk (growP ts ms) = 0 := by rw [tree_eq, good_chk (growP_good ts ms)]
theorem growP_le (ts : List S26) (ms : List S54) : (growP ts ms).length ≤ 19 := by
  have := growTo_le ts ms (min ms.length 14)
  unfold growP
  omega
end Go.Proofs.YtpdflhgcdehmoaaDoor.T
namespace Go.Proofs.YtpdflhgcdehmoaaDoor.T
open Go.RowKit Go.Proofs.YtpdflhgcdehmoaaDoorW.PrintWords Go.Proofs.YtpdflhgcdehmoaaDoorW.PrintLast Go.Proofs.YtpdflhgcdehmoaaDoorW.PrintMore
attribute [local go_sem] max2_int min2_int max_two min_two max_three min_three max_four min_four
set_option linter.unusedVariables false
set_option linter.unusedSimpArgs false
theorem over_iff {a b : S26} (ha : labChk a = 0) (hb : labChk b = 0) : overP a b = true ↔ a.f0 ≥ b.f0 ∧ a.f1.toNat &&& b.f1.toNat = b.f1.toNat ∧ a.f2 ≤ b.f2 ∧ a.f3.toNat &&& b.f3.toNat = a.f3.toNat := by
  have h1 := lab_of ha
  have h2 := lab_of hb
  have hbn := (bits_nat .i64 8 (by decide) wraps8 a.f1.toNat b.f1.toNat (by omega) (by omega)).1
  have hbp := (bits_nat .i64 8 (by decide) wraps8 a.f3.toNat b.f3.toNat (by omega) (by omega)).1
  rw [show (a.f1.toNat : Int) = a.f1 by omega, show (b.f1.toNat : Int) = b.f1 by omega] at hbn
  rw [show (a.f3.toNat : Int) = a.f3 by omega, show (b.f3.toNat : Int) = b.f3 by omega] at hbp
  unfold overP donjonref4_Over.f
  rw [hbn, hbp]
  have e1 : (((a.f1.toNat &&& b.f1.toNat : Nat) : Int) = b.f1) ↔ a.f1.toNat &&& b.f1.toNat = b.f1.toNat := by omega
  have e3 : (((a.f3.toNat &&& b.f3.toNat : Nat) : Int) = a.f3) ↔ a.f3.toNat &&& b.f3.toNat = a.f3.toNat := by omega
  rw [← e1, ← e3]
  clear e1 e3 hbn hbp
  generalize ((a.f1.toNat &&& b.f1.toNat : Nat) : Int) = X
  generalize ((a.f3.toNat &&& b.f3.toNat : Nat) : Int) = Y
  by_cases c0 : a.f0 ≥ b.f0 <;> by_cases c1 : X = b.f1 <;> by_cases c2 : a.f2 ≤ b.f2 <;> by_cases c3 : Y = a.f3 <;> simp [c0, c1, c2, c3]
theorem over_trans {a b c : S26} (ha : labChk a = 0) (hb : labChk b = 0) (hc : labChk c = 0) (h1 : overP a b = true) (h2 : overP b c = true) : overP a c = true := by
  obtain ⟨p0, p1, p2, p3⟩ := (over_iff ha hb).1 h1
  obtain ⟨q0, q1, q2, q3⟩ := (over_iff hb hc).1 h2
  refine (over_iff ha hc).2 ⟨by omega, ?_, by omega, ?_⟩
  · rw [← q1, ← Nat.and_assoc, p1]
  · rw [← p3, Nat.and_assoc, q3]
theorem parR_lt {s : ByteArray} (h : pathChk s = 0) (hr : s.toList ≠ [47]) : (parR s).size < s.size := by
  obtain ⟨r, hs⟩ := path_head h
  have hsz : s.size = r.length + 1 := by
    have := congrArg List.length hs
    rw [Lib.toList_data] at this
    simpa using this
  have hr0 : r ≠ [] := fun he => hr (by rw [hs, he])
  have hl : 0 < r.length := List.length_pos_iff.2 hr0
  unfold parR
  rw [if_neg (by omega)]
  by_cases h0 : slashP s = 0
  · rw [if_pos h0]
    show 1 < s.size
    omega
  · rw [if_neg h0]
    have hlt : slashP s < s.size := by
      unfold slashP at h0 ⊢
      rcases Lib.lastIndexByte_spec s 47 with ⟨e, -⟩ | ⟨i, hi, e, -⟩
      · rw [e] at h0; exact absurd rfl h0
      · rw [e]; simpa using hi
    rw [ByteArray.size_extract]
    omega
theorem parR_root {s : ByteArray} (hr : s.toList = [47]) : (parR s).toList = [] := by
  have hsz : s.size = 1 := by
    have := congrArg List.length hr
    rw [Lib.toList_data] at this
    simpa using this
  unfold parR
  rw [if_pos (by omega), Lib.toList_data]
theorem parent_ev (s : ByteArray) (hs : s.size ≤ 9223372036854775807) : Ev (fun k => donjonref7_Parent.f k s) (parR s) := Ev.of (fun k => donjonref7_Parent.mono s k) (parR_is s hs)
theorem path_short {s : ByteArray} (h : pathChk s = 0) : s.size ≤ 78 := by
  unfold pathChk at h
  by_cases h78 : 78 < s.size
  · rw [if_pos h78] at h; cases h
  · omega
theorem good_fits {l : List S32} (h : GoodT l) : risesP l = true := decide_eq_true h.rises
end Go.Proofs.YtpdflhgcdehmoaaDoor.T
namespace Go.Proofs.YtpdflhgcdehmoaaDoor.T
open Go.RowKit Go.Proofs.YtpdflhgcdehmoaaDoorW.PrintWords Go.Proofs.YtpdflhgcdehmoaaDoorW.PrintLast Go.Proofs.YtpdflhgcdehmoaaDoorW.PrintMore
attribute [local go_sem] max2_int min2_int max_two min_two max_three min_three max_four min_four
set_option linter.unusedVariables false
set_option linter.unusedSimpArgs false
def path_Join.f (a0 : ByteArray) (a1 : ByteArray) : Option (ByteArray) := if a0.toList = ([47] : List UInt8) then (if a0.size + a1.size ≤ 9223372036854775807 then (some (a0 ++ a1)) else (none)) else (if a0.size + 1 ≤ 9223372036854775807 then (if (a0 ++ (⟨#[47]⟩ : ByteArray)).size + a1.size ≤ 9223372036854775807 then (some ((a0 ++ (⟨#[47]⟩ : ByteArray)) ++ a1)) else (none)) else (none))
set_option maxHeartbeats 8000000 in
set_option maxRecDepth 100000 in
theorem path_Join.calls (a0 : ByteArray) (a1 : ByteArray) (r : ByteArray) (w : World) (h : path_Join.f a0 a1 = some r) :
    Calls Tryd.prog 56 #[.string a0, .string a1] w fun e w' => e = .returned (.string r) ∧ Drawn0 w w' := by
  have H : (if a0.toList = ([47] : List UInt8) then (if a0.size + a1.size ≤ 9223372036854775807 then (some (a0 ++ a1)) else (none)) else (if a0.size + 1 ≤ 9223372036854775807 then (if (a0 ++ (⟨#[47]⟩ : ByteArray)).size + a1.size ≤ 9223372036854775807 then (some ((a0 ++ (⟨#[47]⟩ : ByteArray)) ++ a1)) else (none)) else (none))) = some r := h
  clear h
  by_cases c3 : a0.toList = ([47] : List UInt8)
  · rw [if_pos c3] at H
    have c3b0 : (a0.toList == ([47] : List UInt8)) = true := beq_iff_eq.mpr c3
    have c3b1 : (a0.toList != ([47] : List UInt8)) = false := bne_eq_false_iff_eq.mpr c3
    clear c3
    by_cases c4 : a0.size + a1.size ≤ 9223372036854775807
    · rw [if_pos c4] at H
      have c4b0 := eq_true c4
      have c4b1 : decide (a0.size + a1.size ≤ 9223372036854775807) = true := decide_eq_true c4
      try have c4b2 : (9223372036854775807 < a0.size + a1.size) = False := eq_false (Nat.not_lt.2 c4)
      obtain rfl := Option.some.inj H
      go_enter Tryd.func56, Tryd.ntmps56
      go_wp2
      go_ret
      exact ⟨by first | rfl | (simp; done) | (simp [*]; done), by repeat (first | exact Drawn0.refl _ | apply Drawn0.step)⟩
    · rw [if_neg c4] at H
      exact absurd H (by simp)
  · rw [if_neg c3] at H
    have c3b0 : (a0.toList == ([47] : List UInt8)) = false := beq_eq_false_iff_ne.mpr c3
    have c3b1 : (a0.toList != ([47] : List UInt8)) = true := bne_iff_ne.mpr c3
    by_cases c5 : a0.size + 1 ≤ 9223372036854775807
    · rw [if_pos c5] at H
      have c5b0 := eq_true c5
      have c5b1 : decide (a0.size + 1 ≤ 9223372036854775807) = true := decide_eq_true c5
      try have c5b2 : (9223372036854775807 < a0.size + 1) = False := eq_false (Nat.not_lt.2 c5)
      by_cases c6 : (a0 ++ (⟨#[47]⟩ : ByteArray)).size + a1.size ≤ 9223372036854775807
      · rw [if_pos c6] at H
        have c6b0 := eq_true c6
        have c6b1 : decide ((a0 ++ (⟨#[47]⟩ : ByteArray)).size + a1.size ≤ 9223372036854775807) = true := decide_eq_true c6
        try have c6b2 : (9223372036854775807 < (a0 ++ (⟨#[47]⟩ : ByteArray)).size + a1.size) = False := eq_false (Nat.not_lt.2 c6)
        obtain rfl := Option.some.inj H
        go_enter Tryd.func56, Tryd.ntmps56
        go_wp2
        go_ret
        exact ⟨by first | rfl | (simp; done) | (simp [*]; done), by repeat (first | exact Drawn0.refl _ | apply Drawn0.step)⟩
      · rw [if_neg c6] at H
        exact absurd H (by simp)
    · rw [if_neg c5] at H
      exact absurd H (by simp)
end Go.Proofs.YtpdflhgcdehmoaaDoor.T
namespace Go.Proofs.YtpdflhgcdehmoaaDoor.T
open Go.RowKit Go.Proofs.YtpdflhgcdehmoaaDoorW.PrintWords Go.Proofs.YtpdflhgcdehmoaaDoorW.PrintLast Go.Proofs.YtpdflhgcdehmoaaDoorW.PrintMore
attribute [local go_sem] max2_int min2_int max_two min_two max_three min_three max_four min_four
set_option linter.unusedVariables false
set_option linter.unusedSimpArgs false
attribute [local go_sem high] eqA26
def api_Label_77.l0 : Nat → List (S26) → Int → Int → Int → Int → Int → Int → Option (Int)
  | 0, _, _, _, _, _, _, _ => none
  | k + 1, x0, x7, x8, x103000, x103001, x103002, x103003 => if x8 < x7 then (if 0 ≤ x8 then (if x8 < (x0.length : Int) then (if (x103000 == ((rd_T26 x0 x8).f0) && (x103001 == ((rd_T26 x0 x8).f1) && (x103002 == ((rd_T26 x0 x8).f2) && (x103003 == ((rd_T26 x0 x8).f3))))) = true then (some x8) else (api_Label_77.l0 k x0 x7 (wrap64 (x8 + 1)) x103000 x103001 x103002 x103003)) else (none)) else (none)) else (some (-1))
def api_Label_77.f (k : Nat) (l0 : List (S26)) (a1_0 : Int) (a1_1 : Int) (a1_2 : Int) (a1_3 : Int) : Option (Int) := api_Label_77.l0 k l0 (l0.length : Int) 0 a1_0 a1_1 a1_2 a1_3
theorem api_Label_77.mono_l : ∀ k, (∀ y0 y1 y2 y3 y4 y5 y6, LeO (api_Label_77.l0 k y0 y1 y2 y3 y4 y5 y6) (api_Label_77.l0 (k + 1) y0 y1 y2 y3 y4 y5 y6))
  | 0 => fun _ _ _ _ _ _ _ r h => by simp [api_Label_77.l0] at h
  | k + 1 => by
    have ih0 := api_Label_77.mono_l k
    · intro y0 y1 y2 y3 y4 y5 y6
      unfold api_Label_77.l0
      repeat' first
      | (with_reducible exact ih0 _ _ _ _ _ _ _)
      | (with_reducible exact LeO.refl _)
      | (with_reducible exact LeO.none _)
      | (with_reducible refine LeO.ite ?_ ?_)
      | (with_reducible refine LeO.bind ?_ (fun _ => ?_))
      | exact ih0 _ _ _ _ _ _ _
      | exact LeO.none _
      | refine LeO.ite ?_ ?_
      | refine LeO.bind ?_ (fun _ => ?_)
theorem api_Label_77.mono : ∀ a0 a1 a2 a3 a4 k, LeO (api_Label_77.f k a0 a1 a2 a3 a4) (api_Label_77.f (k + 1) a0 a1 a2 a3 a4) := by
  intro a0 a1 a2 a3 a4 k
  have ih0 := api_Label_77.mono_l k
  unfold api_Label_77.f
  repeat' first
      | (with_reducible exact ih0 _ _ _ _ _ _ _)
      | (with_reducible exact LeO.refl _)
      | (with_reducible exact LeO.none _)
      | (with_reducible refine LeO.ite ?_ ?_)
      | (with_reducible refine LeO.bind ?_ (fun _ => ?_))
      | exact ih0 _ _ _ _ _ _ _
      | exact LeO.none _
      | refine LeO.ite ?_ ?_
      | refine LeO.bind ?_ (fun _ => ?_)
set_option maxHeartbeats 8000000 in
set_option maxRecDepth 100000 in
theorem api_Label_77.calls (k : Nat) (A0 : Option Addr) (c0 : Nat) (l0 : List (S26)) (a1_0 : Int) (a1_1 : Int) (a1_2 : Int) (a1_3 : Int) (r : Int) (w : World) (hr0 : Kd.C k26 w A0 l0.length l0) (hc0 : l0.length ≤ c0) (h : api_Label_77.f k l0 a1_0 a1_1 a1_2 a1_3 = some r) :
    Calls Tryd.prog 77 #[.slice A0 l0.length c0, .agg #[.int .i64 a1_0, .int .i64 a1_1, .int .i64 a1_2, .int .i64 a1_3]] w fun e w' => e = .returned (.int .i64 r) ∧ Below w.heap.size w w' := by
  have hu26 := Tryd.underlying26
  have HR0 := Aside0.mk hr0
  have HC0 := Aside0.mk hc0
  clear hr0 hc0
  have HB := Aside0.mk (Below.refl w.heap.size w)
  have H : (api_Label_77.l0 k l0 (l0.length : Int) 0 a1_0 a1_1 a1_2 a1_3) = some r := h
  clear h
  have H' := Aside0.mk H
  clear H
  go_enter Tryd.func77, Tryd.ntmps77
  go_wp2_with (first | ((with_reducible refine gate_dst (N := 3) rfl ?_); refine box_event ?hg (N := 3) ?hd (cs := #[.int .i64 a1_0, .int .i64 a1_1, .int .i64 a1_2, .int .i64 a1_3]) (t := 26) ?hr ?_; (case hd => rfl); (case hg => rfl); (case hr => first | (go_simp; done) | (go_simp; rfl)); intro gb102 hg w3 hbox hb; have n0_ := Aside0.mk (below_step (by repeat (first | (with_reducible first | exact HB.out | apply below_alloc | apply pw_below_drewN | apply below_drew1) | exact HB.out)) hb); have n1_ := Aside0.mk (hbox); have n2_ := Aside0.mk ((by rw [hg]; exact (below_size (by repeat (first | (with_reducible first | exact HB.out | apply below_alloc | apply pw_below_drewN | apply below_drew1) | exact HB.out))) : w.heap.size ≤ gb102)); have n3_ := Aside0.mk ((by rw [hg]; exact (below_size (by repeat (first | (with_reducible first | exact HB.out | apply below_alloc | apply pw_below_drewN | apply below_drew1) | exact HB.out))) : w.heap.size ≤ gb102)); clear HB; have HB := n0_; have BK102 := n1_; have GW102 := n2_; have GE102 := n3_; clear n0_ n1_ n2_ n3_; clear hb hbox hg))
  repeat (go_quiet (first | ((with_reducible refine gate_dst (N := 3) rfl ?_); refine box_event ?hg (N := 3) ?hd (cs := #[.int .i64 a1_0, .int .i64 a1_1, .int .i64 a1_2, .int .i64 a1_3]) (t := 26) ?hr ?_; (case hd => rfl); (case hg => rfl); (case hr => first | (go_simp; done) | (go_simp; rfl)); intro gb102 hg w3 hbox hb; have n0_ := Aside0.mk (below_step (by repeat (first | (with_reducible first | exact HB.out | apply below_alloc | apply pw_below_drewN | apply below_drew1) | exact HB.out)) hb); have n1_ := Aside0.mk (hbox); have n2_ := Aside0.mk ((by rw [hg]; exact (below_size (by repeat (first | (with_reducible first | exact HB.out | apply below_alloc | apply pw_below_drewN | apply below_drew1) | exact HB.out))) : w.heap.size ≤ gb102)); have n3_ := Aside0.mk ((by rw [hg]; exact (below_size (by repeat (first | (with_reducible first | exact HB.out | apply below_alloc | apply pw_below_drewN | apply below_drew1) | exact HB.out))) : w.heap.size ≤ gb102)); clear HB; have HB := n0_; have BK102 := n1_; have GW102 := n2_; have GE102 := n3_; clear n0_ n1_ n2_ n3_; clear hb hbox hg)); try go_wp2_with (first | ((with_reducible refine gate_dst (N := 3) rfl ?_); refine box_event ?hg (N := 3) ?hd (cs := #[.int .i64 a1_0, .int .i64 a1_1, .int .i64 a1_2, .int .i64 a1_3]) (t := 26) ?hr ?_; (case hd => rfl); (case hg => rfl); (case hr => first | (go_simp; done) | (go_simp; rfl)); intro gb102 hg w3 hbox hb; have n0_ := Aside0.mk (below_step (by repeat (first | (with_reducible first | exact HB.out | apply below_alloc | apply pw_below_drewN | apply below_drew1) | exact HB.out)) hb); have n1_ := Aside0.mk (hbox); have n2_ := Aside0.mk ((by rw [hg]; exact (below_size (by repeat (first | (with_reducible first | exact HB.out | apply below_alloc | apply pw_below_drewN | apply below_drew1) | exact HB.out))) : w.heap.size ≤ gb102)); have n3_ := Aside0.mk ((by rw [hg]; exact (below_size (by repeat (first | (with_reducible first | exact HB.out | apply below_alloc | apply pw_below_drewN | apply below_drew1) | exact HB.out))) : w.heap.size ≤ gb102)); clear HB; have HB := n0_; have BK102 := n1_; have GW102 := n2_; have GE102 := n3_; clear n0_ n1_ n2_ n3_; clear hb hbox hg)))
  go_loopg [8] k (fun kq v8 w' => ∃ (x8_1 : Int), v8 = .int .i64 x8_1 ∧ Aside0 (api_Label_77.l0 kq l0 (l0.length : Int) x8_1 a1_0 a1_1 a1_2 a1_3 = some r) ∧ Aside0 (kq ≤ k) ∧ Aside0 (w'.heap[gb102]? = some (.cells #[.int .i64 a1_0, .int .i64 a1_1, .int .i64 a1_2, .int .i64 a1_3] 26 (0, 0))) ∧ Aside0 (Below w.heap.size w w'))
  case atStart => exact ⟨(0), (by first | rfl | (simp; done) | (simp [*]; done)), H', ⟨Nat.le_refl _⟩, ⟨by (with_reducible repeat (first | refine blk_drewN ?_ _ | refine blk_drew ?_ | refine blk_alloc ?_ _)); exact BK102.out⟩, ⟨by repeat (first | (with_reducible first | exact HB.out | apply below_alloc | apply pw_below_drewN | apply below_drew1 | refine below_set ?_ GE102.out) | exact HB.out)⟩⟩
  case round =>
    clear H'
    try clear p2
    obtain ⟨x8_1, rfl, HA, HK1, BK102, HB⟩ := hrel
    cases gk with
    | zero => exact absurd HA.out (by simp [api_Label_77.l0])
    | succ k1 =>
      have H := HA.out
      clear HA
      simp only [api_Label_77.l0] at H
      by_cases c4 : x8_1 < (l0.length : Int)
      · rw [if_pos c4] at H
        have c4b0 : decide (x8_1 < (l0.length : Int)) = true := decide_eq_true c4
        clear c4
        by_cases c5 : 0 ≤ x8_1
        · rw [if_pos c5] at H
          have c5b0 : decide (0 ≤ x8_1) = true := decide_eq_true c5
          clear c5
          by_cases c6 : x8_1 < (l0.length : Int)
          · rw [if_pos c6] at H
            have c6b0 : decide (x8_1 < (l0.length : Int)) = true := decide_eq_true c6
            clear c6
            by_cases c7 : (a1_0 == ((rd_T26 l0 x8_1).f0) && (a1_1 == ((rd_T26 l0 x8_1).f1) && (a1_2 == ((rd_T26 l0 x8_1).f2) && (a1_3 == ((rd_T26 l0 x8_1).f3))))) = true
            · rw [if_pos c7] at H
              have c7b0 : (a1_0 == ((rd_T26 l0 x8_1).f0) && (a1_1 == ((rd_T26 l0 x8_1).f1) && (a1_2 == ((rd_T26 l0 x8_1).f2) && (a1_3 == ((rd_T26 l0 x8_1).f3))))) = true := c7
              (try (have c7b1 : decide (a1_0 = ((rd_T26 l0 x8_1).f0) && (a1_1 == ((rd_T26 l0 x8_1).f1) && (a1_2 == ((rd_T26 l0 x8_1).f2) && (a1_3 == ((rd_T26 l0 x8_1).f3))))) = true := by simpa using c7))
              (try (have c7b2 : (a1_0 == ((rd_T26 l0 x8_1).f0) && (a1_1 == ((rd_T26 l0 x8_1).f1) && (a1_2 == ((rd_T26 l0 x8_1).f2) && (a1_3 == ((rd_T26 l0 x8_1).f3))))) = true := by simpa using c7))
              clear c7
              obtain rfl := Option.some.inj H
              have hcz8_0 : wr.cell? ⟨gb102, 0, none⟩ = some (.int .i64 a1_0) := (blk_cell BK102.out 0).trans rfl
              have hcz8_1 : wr.cell? ⟨gb102, 1, none⟩ = some (.int .i64 a1_1) := (blk_cell BK102.out 1).trans rfl
              have hcz8_2 : wr.cell? ⟨gb102, 2, none⟩ = some (.int .i64 a1_2) := (blk_cell BK102.out 2).trans rfl
              have hcz8_3 : wr.cell? ⟨gb102, 3, none⟩ = some (.int .i64 a1_3) := (blk_cell BK102.out 3).trans rfl
              have hfz8_0 := blk_frozen BK102.out 0
              have hfz8_1 := blk_frozen BK102.out 1
              have hfz8_2 := blk_frozen BK102.out 2
              have hfz8_3 := blk_frozen BK102.out 3
              have p103 : 0 ≤ (x8_1 : Int) := of_decide_eq_true (by first | (with_reducible assumption) | assumption)
              have q103 : x8_1 < (l0.length : Int) := of_decide_eq_true (by first | (with_reducible assumption) | assumption)
              obtain ⟨ad103, e103, hx103_0, hx103_1, hx103_2, hx103_3⟩ := at_T26 HR0.out x8_1 p103 q103
              cases e103
              replace hx103_0 := (HB.out.cell (World.block_lt_of_cell? w _ hx103_0)).trans hx103_0
              replace hx103_1 := (HB.out.cell (World.block_lt_of_cell? w _ hx103_1)).trans hx103_1
              replace hx103_2 := (HB.out.cell (World.block_lt_of_cell? w _ hx103_2)).trans hx103_2
              replace hx103_3 := (HB.out.cell (World.block_lt_of_cell? w _ hx103_3)).trans hx103_3
              replace p103 := eq_true p103
              replace q103 := eq_true q103
              go_wp2
              repeat (go_quiet (fail); try go_wp2)
              go_ret
              exact ⟨by first | rfl | (simp [errW_none, errW_some] <;> rfl) | (simp [*, errW_none, errW_some] <;> rfl), by repeat (first | (with_reducible first | exact HB.out | apply below_alloc | apply pw_below_drewN | apply below_drew1 | refine below_set ?_ GE102.out) | exact HB.out)⟩
            · rw [if_neg c7] at H
              have c7b0 : (a1_0 == ((rd_T26 l0 x8_1).f0) && (a1_1 == ((rd_T26 l0 x8_1).f1) && (a1_2 == ((rd_T26 l0 x8_1).f2) && (a1_3 == ((rd_T26 l0 x8_1).f3))))) = false := by simpa using c7
              (try (have c7b1 : decide (a1_0 = ((rd_T26 l0 x8_1).f0) && (a1_1 == ((rd_T26 l0 x8_1).f1) && (a1_2 == ((rd_T26 l0 x8_1).f2) && (a1_3 == ((rd_T26 l0 x8_1).f3))))) = false := by simpa using c7))
              (try (have c7b2 : (a1_0 == ((rd_T26 l0 x8_1).f0) && (a1_1 == ((rd_T26 l0 x8_1).f1) && (a1_2 == ((rd_T26 l0 x8_1).f2) && (a1_3 == ((rd_T26 l0 x8_1).f3))))) = false := by simpa using c7))
              (try (have c7b3 : ¬ (a1_0 = ((rd_T26 l0 x8_1).f0) && (a1_1 == ((rd_T26 l0 x8_1).f1) && (a1_2 == ((rd_T26 l0 x8_1).f2) && (a1_3 == ((rd_T26 l0 x8_1).f3))))) := by simpa using c7))
              clear c7
              have H' := Aside0.mk H
              clear H
              have hcz9_0 : wr.cell? ⟨gb102, 0, none⟩ = some (.int .i64 a1_0) := (blk_cell BK102.out 0).trans rfl
              have hcz9_1 : wr.cell? ⟨gb102, 1, none⟩ = some (.int .i64 a1_1) := (blk_cell BK102.out 1).trans rfl
              have hcz9_2 : wr.cell? ⟨gb102, 2, none⟩ = some (.int .i64 a1_2) := (blk_cell BK102.out 2).trans rfl
              have hcz9_3 : wr.cell? ⟨gb102, 3, none⟩ = some (.int .i64 a1_3) := (blk_cell BK102.out 3).trans rfl
              have hfz9_0 := blk_frozen BK102.out 0
              have hfz9_1 := blk_frozen BK102.out 1
              have hfz9_2 := blk_frozen BK102.out 2
              have hfz9_3 := blk_frozen BK102.out 3
              have p103 : 0 ≤ (x8_1 : Int) := of_decide_eq_true (by first | (with_reducible assumption) | assumption)
              have q103 : x8_1 < (l0.length : Int) := of_decide_eq_true (by first | (with_reducible assumption) | assumption)
              obtain ⟨ad103, e103, hx103_0, hx103_1, hx103_2, hx103_3⟩ := at_T26 HR0.out x8_1 p103 q103
              cases e103
              replace hx103_0 := (HB.out.cell (World.block_lt_of_cell? w _ hx103_0)).trans hx103_0
              replace hx103_1 := (HB.out.cell (World.block_lt_of_cell? w _ hx103_1)).trans hx103_1
              replace hx103_2 := (HB.out.cell (World.block_lt_of_cell? w _ hx103_2)).trans hx103_2
              replace hx103_3 := (HB.out.cell (World.block_lt_of_cell? w _ hx103_3)).trans hx103_3
              replace p103 := eq_true p103
              replace q103 := eq_true q103
              go_wp2
              repeat (go_quiet (fail); try go_wp2)
              go_roundg k1
              case measure => have := HK1.out; omega
              case rel => exact ⟨(wrap64 (x8_1 + 1)), (by first | rfl | (simp; done) | (simp [*]; done)), H', ⟨by have := HK1.out; omega⟩, ⟨by (with_reducible repeat (first | refine blk_drewN ?_ _ | refine blk_drew ?_ | refine blk_alloc ?_ _)); exact BK102.out⟩, ⟨by repeat (first | (with_reducible first | exact HB.out | apply below_alloc | apply pw_below_drewN | apply below_drew1 | refine below_set ?_ GE102.out) | exact HB.out)⟩⟩
          · rw [if_neg c6] at H
            exact absurd H (by simp)
        · rw [if_neg c5] at H
          exact absurd H (by simp)
      · rw [if_neg c4] at H
        have c4b0 : decide (x8_1 < (l0.length : Int)) = false := decide_eq_false c4
        clear c4
        obtain rfl := Option.some.inj H
        go_wp2
        repeat (go_quiet (fail); try go_wp2)
        go_ret
        exact ⟨by first | rfl | (simp [errW_none, errW_some] <;> rfl) | (simp [*, errW_none, errW_some] <;> rfl), by repeat (first | (with_reducible first | exact HB.out | apply below_alloc | apply pw_below_drewN | apply below_drew1 | refine below_set ?_ GE102.out) | exact HB.out)⟩
end Go.Proofs.YtpdflhgcdehmoaaDoor.T
namespace Go.Proofs.YtpdflhgcdehmoaaDoor.T
open Go.RowKit Go.Proofs.YtpdflhgcdehmoaaDoorW.PrintWords Go.Proofs.YtpdflhgcdehmoaaDoorW.PrintLast Go.Proofs.YtpdflhgcdehmoaaDoorW.PrintMore
attribute [local go_sem] max2_int min2_int max_two min_two max_three min_three max_four min_four
set_option linter.unusedVariables false
set_option linter.unusedSimpArgs false
def api_Label_55.f (k : Nat) (l0 : List (S26)) (a1_0 : Int) (a1_1 : Int) (a1_2 : Int) (a1_3 : Int) : Option (Bool) := (api_Label_77.f k l0 a1_0 a1_1 a1_2 a1_3).bind fun t105 => (some (decide (t105 ≥ 0)))
theorem api_Label_55.mono : ∀ a0 a1 a2 a3 a4 k, LeO (api_Label_55.f k a0 a1 a2 a3 a4) (api_Label_55.f (k + 1) a0 a1 a2 a3 a4) := by
  intro a0 a1 a2 a3 a4 k
  unfold api_Label_55.f
  repeat' first
      | (with_reducible exact api_Label_77.mono _ _ _ _ _ _)
      | (with_reducible exact LeO.refl _)
      | (with_reducible exact LeO.none _)
      | (with_reducible refine LeO.ite ?_ ?_)
      | (with_reducible refine LeO.bind ?_ (fun _ => ?_))
      | exact api_Label_77.mono _ _ _ _ _ _
      | exact LeO.none _
      | refine LeO.ite ?_ ?_
      | refine LeO.bind ?_ (fun _ => ?_)
set_option maxHeartbeats 8000000 in
set_option maxRecDepth 100000 in
theorem api_Label_55.calls (k : Nat) (A0 : Option Addr) (c0 : Nat) (l0 : List (S26)) (a1_0 : Int) (a1_1 : Int) (a1_2 : Int) (a1_3 : Int) (r : Bool) (w : World) (hr0 : Kd.C k26 w A0 l0.length l0) (hc0 : l0.length ≤ c0) (h : api_Label_55.f k l0 a1_0 a1_1 a1_2 a1_3 = some r) :
    Calls Tryd.prog 55 #[.slice A0 l0.length c0, .agg #[.int .i64 a1_0, .int .i64 a1_1, .int .i64 a1_2, .int .i64 a1_3]] w fun e w' => e = .returned (.bool r) ∧ Below w.heap.size w w' := by
  have hu26 := Tryd.underlying26
  have HR0 := Aside0.mk hr0
  have HC0 := Aside0.mk hc0
  clear hr0 hc0
  have HB := Aside0.mk (Below.refl w.heap.size w)
  have H : ((api_Label_77.f k l0 a1_0 a1_1 a1_2 a1_3).bind fun t105 => (some (decide (t105 ≥ 0)))) = some r := h
  clear h
  replace H := Option.bind_eq_some_iff.mp H
  obtain ⟨t105, A30, H⟩ := H
  replace H : (some (decide (t105 ≥ 0))) = some r := H
  have A3 := Aside0.mk A30
  clear A30
  obtain rfl := Option.some.inj H
  go_enter Tryd.func55, Tryd.ntmps55
  go_wp2_with (first | ((with_reducible refine gate_dst (N := 3) rfl ?_); refine box_event ?hg (N := 3) ?hd (cs := #[.int .i64 a1_0, .int .i64 a1_1, .int .i64 a1_2, .int .i64 a1_3]) (t := 26) ?hr ?_; (case hd => rfl); (case hg => rfl); (case hr => first | (go_simp; done) | (go_simp; rfl)); intro gb104 hg w4 hbox hb; have n0_ := Aside0.mk (below_step (by repeat (first | (with_reducible first | exact HB.out | apply below_alloc | apply pw_below_drewN | apply below_drew1) | exact HB.out)) hb); have n1_ := Aside0.mk (hbox); have n2_ := Aside0.mk ((by rw [hg]; exact (below_size (by repeat (first | (with_reducible first | exact HB.out | apply below_alloc | apply pw_below_drewN | apply below_drew1) | exact HB.out))) : w.heap.size ≤ gb104)); have n3_ := Aside0.mk ((by rw [hg]; exact (below_size (by repeat (first | (with_reducible first | exact HB.out | apply below_alloc | apply pw_below_drewN | apply below_drew1) | exact HB.out))) : w.heap.size ≤ gb104)); clear HB; have HB := n0_; have BK104 := n1_; have GW104 := n2_; have GE104 := n3_; clear n0_ n1_ n2_ n3_; clear hb hbox hg; have hcz5_0 : w4.cell? ⟨gb104, 0, none⟩ = some (.int .i64 a1_0) := (blk_cell BK104.out 0).trans rfl; have hcz5_1 : w4.cell? ⟨gb104, 1, none⟩ = some (.int .i64 a1_1) := (blk_cell BK104.out 1).trans rfl; have hcz5_2 : w4.cell? ⟨gb104, 2, none⟩ = some (.int .i64 a1_2) := (blk_cell BK104.out 2).trans rfl; have hcz5_3 : w4.cell? ⟨gb104, 3, none⟩ = some (.int .i64 a1_3) := (blk_cell BK104.out 3).trans rfl; have hfz5_0 := blk_frozen BK104.out 0; have hfz5_1 := blk_frozen BK104.out 1; have hfz5_2 := blk_frozen BK104.out 2; have hfz5_3 := blk_frozen BK104.out 3) | ((with_reducible refine gate_callee (f := 77) rfl ?_); refine goesL_ (some 7) rfl rfl Tryd.func77 (by kernel_rfl) rfl #[.slice A0 l0.length c0, .agg #[.int .i64 a1_0, .int .i64 a1_1, .int .i64 a1_2, .int .i64 a1_3]] rfl (by (try simp only [List.map_toArray, List.map_cons, List.map_nil]); first | done | rfl | (simp only [List.length_drop, List.length_take]; rfl)) ?_; (with_reducible refine (api_Label_77.calls k _ _ l0 a1_0 a1_1 a1_2 a1_3 t105 _ ?side1 ?side2 A3.out).mono ?_); (case side1 => repeat (first | exact (Kd.C_below HR0.out HB.out) | (with_reducible refine Kd.C_alloc ?_ _) | (with_reducible refine Kd.C_drewN ?_ _) | (with_reducible refine Kd.C_drew ?_))); (case side2 => exact HC0.out); rintro e w6 ⟨rfl, hb⟩; refine ⟨_, rfl, ?_⟩; have n0_ := Aside0.mk (blk_below (g := gb104) (o := .cells #[.int .i64 a1_0, .int .i64 a1_1, .int .i64 a1_2, .int .i64 a1_3] 26 (0, 0)) (by (with_reducible repeat (first | refine blk_drewN ?_ _ | refine blk_drew ?_ | refine blk_alloc ?_ _)); exact BK104.out) hb); have n1_ := Aside0.mk (below_step (by repeat (first | (with_reducible first | exact HB.out | apply below_alloc | apply pw_below_drewN | apply below_drew1 | refine below_set ?_ GE104.out) | exact HB.out)) hb); clear BK104; clear HB; have BK104 := n0_; have HB := n1_; clear n0_ n1_; (try clear hb); (try clear hb2); (try clear hk); (try clear hi)))
  go_ret
  exact ⟨by first | rfl | (simp [errW_none, errW_some] <;> rfl) | (simp [*, errW_none, errW_some] <;> rfl), by repeat (first | (with_reducible first | exact HB.out | apply below_alloc | apply pw_below_drewN | apply below_drew1 | refine below_set ?_ GE104.out) | exact HB.out)⟩
end Go.Proofs.YtpdflhgcdehmoaaDoor.T
