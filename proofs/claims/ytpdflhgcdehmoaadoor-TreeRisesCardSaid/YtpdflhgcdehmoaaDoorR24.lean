/- Part of the proof that TreeRises comes to true: printed and written texts, merged by a program. -/
import Derived.Lib.Hide
import Derived.Test.YtpdflhgcdehmoaaDoorR3
import Derived.Test.YtpdflhgcdehmoaaDoorR11
import Derived.Test.YtpdflhgcdehmoaaDoorR14
import Derived.Test.YtpdflhgcdehmoaaDoorR20
import Derived.Test.YtpdflhgcdehmoaaDoorR21
import Derived.Test.YtpdflhgcdehmoaaDoorR4
import Derived.Test.YtpdflhgcdehmoaaDoorR5
import Derived.Test.YtpdflhgcdehmoaaDoorR7
import Derived.Test.YtpdflhgcdehmoaaDoorR19
import Derived.Test.YtpdflhgcdehmoaaDoorR22
import Derived.Test.YtpdflhgcdehmoaaDoorR23
namespace Go.Proofs.YtpdflhgcdehmoaaDoor.T
open Go.RowKit Go.Proofs.YtpdflhgcdehmoaaDoorW.PrintWords Go.Proofs.YtpdflhgcdehmoaaDoorW.PrintLast Go.Proofs.YtpdflhgcdehmoaaDoorW.PrintMore
attribute [local go_sem] max2_int min2_int max_two min_two max_three min_three max_four min_four
set_option linter.unusedVariables false
set_option linter.unusedSimpArgs false
theorem node_path {n : S32} (h : nodeChk n = 0) : pathChk n.f0 = 0 := (nodeChk_path h).1
theorem find_told {l : List S32} (hg : GoodT l) (hfit : findFits l = true) {d : S32} (hd : d ∈ l) : tree_Find.f l d.f0 = some (foundOf (some d)) := by
  unfold tree_Find.f
  rw [if_pos hfit, findN_mem hg.rises hd rfl]
theorem rises_l1 (l : List S32) (hg : GoodT l) (hfit : findFits l = true) (i : Nat) (hi : i < l.length) (hl : l.length < 4611686018427387904) (r : Bool)
    (hR : Ev (fun k => donjonlaw11_TreeRises.l0 k l ((i + 1 : Nat) : Int)) r) :
    ∀ (m : Nat) (x : S32), x ∈ l → x.f0.size ≤ m → overP (rd_T32 l (i : Int)).f2 x.f2 = true → Ev (fun k => donjonlaw11_TreeRises.l1 k l (i : Int) (parR x.f0)) r := by
  have hw : wrap64 ((i : Int) + 1) = ((i + 1 : Nat) : Int) := by unfold wrap64; omega
  have hmi : rd_T32 l (i : Int) ∈ l := by rw [rd_get l i hi]; exact List.getElem_mem hi
  intro m
  induction m with
  | zero =>
    intro x hx hm _
    obtain ⟨q, hq⟩ := path_head (node_path (hg.chk x hx))
    have := congrArg List.length hq
    rw [Lib.toList_data] at this
    simp at this
    have h2 : x.f0.size = x.f0.data.size := rfl
    omega
  | succ m ih =>
    intro x hx hm hov
    have hpx := node_path (hg.chk x hx)
    by_cases hroot : x.f0.toList = [47]
    · refine Ev.step (f := fun k => donjonlaw11_TreeRises.l0 k l ((i + 1 : Nat) : Int)) (fun k => ?_) hR
      simp only [donjonlaw11_TreeRises.l1]
      rw [if_pos (parR_root hroot), hw]
    · obtain ⟨d, hd, hdp, hdd, hdo, -⟩ := hg.hang x hx hroot
      have hdx : parR x.f0 = d.f0 := (ba_eq hdp).symm
      have hlt : d.f0.size < x.f0.size := by rw [← hdx]; exact parR_lt hpx hroot
      have hpd := node_path (hg.chk d hd)
      have hne : ¬ d.f0.toList = ([] : List UInt8) := by
        obtain ⟨q, hq⟩ := path_head hpd
        rw [hq]; simp
      have hov2 : overP (rd_T32 l (i : Int)).f2 d.f2 = true :=
        over_trans (nodeChk_path (hg.chk _ hmi)).2 (nodeChk_path (hg.chk _ hx)).2 (nodeChk_path (hg.chk _ hd)).2 hov hdo
      have hf := find_told hg hfit hd
      have h17 : (foundOf (some d)).2.2.2.2.2.2.2.2.2.2.2.2.2.2.2.2 = true := rfl
      have h2 : (foundOf (some d)).2.1 = true := hdd
      have ho : donjonref4_Over.f (rd_T32 l (i : Int)).f2.f0 (rd_T32 l (i : Int)).f2.f1 (rd_T32 l (i : Int)).f2.f2 (rd_T32 l (i : Int)).f2.f3 (foundOf (some d)).2.2.1 (foundOf (some d)).2.2.2.1 (foundOf (some d)).2.2.2.2.1 (foundOf (some d)).2.2.2.2.2.1 = some true := by
        show donjonref4_Over.f _ _ _ _ d.f2.f0 d.f2.f1 d.f2.f2 d.f2.f3 = some true
        rw [overP_is, hov2]
      have h78 := path_short hpd
      rw [hdx]
      refine Ev.step (f := fun k => (donjonref7_Parent.f k d.f0).bind fun t => donjonlaw11_TreeRises.l1 k l (i : Int) t) (fun k => ?_) (Ev.bind (parent_ev d.f0 (by omega)) (ih d hd (by omega) hov2))
      simp only [donjonlaw11_TreeRises.l1]
      rw [if_neg hne, hf]
      simp only [Option.bind_some]
      rw [if_pos h17, if_pos h2, if_pos (by omega), if_pos (by omega), ho]
      rfl
theorem rises_l0 (l : List S32) (hg : GoodT l) (hfit : findFits l = true) (hl : l.length < 4611686018427387904) :
    ∀ (m i : Nat), l.length - i = m → i ≤ l.length → Ev (fun k => donjonlaw11_TreeRises.l0 k l (i : Int)) true := by
  intro m
  induction m with
  | zero =>
    intro i hm hi
    refine Ev.step (f := fun _ => some true) (fun k => ?_) (Ev.now true)
    simp only [donjonlaw11_TreeRises.l0]
    rw [if_neg (by omega)]
  | succ m ih =>
    intro i hm hi
    have hlt : i < l.length := by omega
    have hmi : rd_T32 l (i : Int) ∈ l := by rw [rd_get l i hlt]; exact List.getElem_mem hlt
    have h78 := path_short (node_path (hg.chk _ hmi))
    refine Ev.step (f := fun k => (donjonref7_Parent.f k (rd_T32 l (i : Int)).f0).bind fun t => donjonlaw11_TreeRises.l1 k l (i : Int) t) (fun k => ?_)
      (Ev.bind (parent_ev _ (by omega)) (rises_l1 l hg hfit i hlt hl true (ih (i + 1) (by omega) (by omega)) _ _ hmi (Nat.le_refl _) (over_refl (nodeChk_path (hg.chk _ hmi)).2)))
    simp only [donjonlaw11_TreeRises.l0]
    rw [if_pos (by omega), if_pos (by omega)]
theorem grow_fits (ts : List S26) (ms : List S54) : findFits (growP ts ms) = true := by
  have hg := growP_good ts ms
  have hl := growP_le ts ms
  unfold findFits
  simp only [Bool.and_eq_true, decide_eq_true_eq, List.all_eq_true]
  refine ⟨⟨good_fits hg, by omega⟩, fun n hn => ?_⟩
  have hc := hg.chk n hn
  unfold nodeChk at hc
  have h0 : firstOf (pathChk n.f0) (labChk n.f2) (labChk n.f6) (aclChk n.f3) = 0 := by
    by_cases h : firstOf (pathChk n.f0) (labChk n.f2) (labChk n.f6) (aclChk n.f3) = 0
    · exact h
    · rw [if_pos h] at hc; exact absurd hc h
  rw [if_neg (by rw [h0]; simp)] at hc
  have ha : aclChk n.f3 = 0 := by
    unfold firstOf at h0
    repeat' split at h0
    all_goals first | exact h0 | (exfalso; simp_all)
  have h4 : n.f3.length ≤ 4 := by
    unfold aclChk at ha
    by_cases h : 4 < n.f3.length
    · rw [if_pos h] at ha; cases ha
    · omega
  have h16 : n.f5.length ≤ 16 := by
    unfold nodeRest at hc
    by_cases h1 : n.f0.toList = [47] ∧ n.f1 = false
    · rw [if_pos h1] at hc; cases hc
    rw [if_neg h1] at hc
    by_cases h2 : n.f1 = true
    · rw [if_pos h2] at hc
      by_cases h3 : n.f4.f0 = 0 ∧ n.f4.f1 = 0 ∧ n.f4.f2 = 0 ∧ n.f4.f3 = 0 ∧ n.f5.length = 0
      · omega
      · rw [if_neg h3] at hc; cases hc
    · rw [if_neg h2] at hc
      by_cases h3 : ringChk n.f4 ≠ 0
      · rw [if_pos h3] at hc; exact absurd hc h3
      · rw [if_neg h3] at hc
        by_cases h5 : 16 < n.f5.length
        · rw [if_pos h5] at hc; cases hc
        · omega
  unfold twinFits
  simp only [Bool.and_eq_true, decide_eq_true_eq]
  omega
theorem rises_true (ts : List S26) (ms : List S54) : ∃ k, donjonlaw11_TreeRises.f k ts ms = some true := by
  have hl := growP_le ts ms
  obtain ⟨k, hk⟩ := (rises_l0 (growP ts ms) (growP_good ts ms) (grow_fits ts ms) (by omega) _ 0 rfl (Nat.zero_le _)).rounds
  refine ⟨k, ?_⟩
  have hc : tree_Check.f (growP ts ms) = some 0 := by
    unfold tree_Check.f
    rw [if_pos (by omega), growP_chk]
  unfold donjonlaw11_TreeRises.f donjonlaw11_known.f donjonlaw11_Grow.f
  simp only [Option.bind_some, if_true]
  rw [hc]
  simp only [Option.bind_some, if_true]
  exact hk
end Go.Proofs.YtpdflhgcdehmoaaDoor.T
