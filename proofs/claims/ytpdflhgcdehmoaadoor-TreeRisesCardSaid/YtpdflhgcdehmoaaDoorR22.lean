/- Part of the proof that TreeRises comes to true: printed and written texts, merged by a program. -/
import Derived.Lib.Hide
import Derived.WalkSpells
import Derived.Test.YtpdflhgcdehmoaaDoorR3
import Derived.Test.YtpdflhgcdehmoaaDoorR16
import Derived.Test.YtpdflhgcdehmoaaDoorR18
import Derived.Test.YtpdflhgcdehmoaaDoorR17
import Derived.Test.YtpdflhgcdehmoaaDoorR6
import Derived.Test.YtpdflhgcdehmoaaDoorR11
import Derived.Test.YtpdflhgcdehmoaaDoorR5
import Derived.Test.YtpdflhgcdehmoaaDoorR7
namespace Go.Proofs.YtpdflhgcdehmoaaDoor.T
open Go.RowKit Go.Proofs.YtpdflhgcdehmoaaDoorW.PrintWords Go.Proofs.YtpdflhgcdehmoaaDoorW.PrintLast Go.Proofs.YtpdflhgcdehmoaaDoorW.PrintMore
attribute [local go_sem] max2_int min2_int max_two min_two max_three min_three max_four min_four
set_option linter.unusedVariables false
set_option linter.unusedSimpArgs false
def slices_Clone_Grant.f (l0 : List (S83)) : Option ((List (S83))) := if l0.length * 24 ≤ 140737488355328 then some l0 else none
set_option maxHeartbeats 2000000 in
set_option maxRecDepth 100000 in
theorem slices_Clone_Grant.calls (A0 : Option Addr) (c0 : Nat) (l0 : List (S83)) (r : List (S83)) (w : World) (hr0 : Kd.C k83 w A0 l0.length l0) (hc0 : l0.length ≤ c0) (h : slices_Clone_Grant.f l0 = some r) :
    Calls Tryd.prog 73 #[.slice A0 l0.length c0] w fun e w' => ∃ v0_ : Value, e = .returned (v0_) ∧ Kd.R k83 83 w' w.heap.size (fun _ => True) v0_ r ∧ Below w.heap.size w w' := by
  have hlen : l0.length * 24 ≤ 140737488355328 := by
    unfold slices_Clone_Grant.f at h
    by_cases hf : l0.length * 24 ≤ 140737488355328
    · exact hf
    · rw [if_neg hf] at h; cases h
  obtain rfl : l0 = r := by
    unfold slices_Clone_Grant.f at h
    rw [if_pos hlen] at h
    exact Option.some.inj h
  clear h
  have HR := Lib.hid hr0
  clear hr0
  have hu := Tryd.underlying27
  cases A0 with
  | none =>
    have h0 : l0.length = 0 := by
      rcases Nat.eq_zero_or_pos l0.length with h | h
      · exact h
      · obtain ⟨ad, he, -⟩ := HR.out.2.2 h
        cases he
    obtain rfl : l0 = [] := List.eq_nil_of_length_eq_zero h0
    have heq := fun (w : World) => Lib.run_eql_slice_nil (P := Tryd.prog) w 27 83 none 0 c0 0 0 hu
    go_enter Tryd.func73, Tryd.ntmps73
    go_wp2_with fail
    go_ret
    exact ⟨_, rfl, Kd.R_nil _ _ _ _ _, Below.refl _ _⟩
  | some ad =>
    have heq := fun (w : World) => Lib.run_eql_slice_nil (P := Tryd.prog) w 27 83 (some ad) l0.length c0 0 0 hu
    go_enter Tryd.func73, Tryd.ntmps73
    have HE := Lib.hid (R_empty k83 83 w.heap.size w (ok := fun _ => True) trivial (Nat.le_refl _))
    have HRA := Lib.hid (Kd.C_below HR.out (below_alloc (Below.refl _ _) (.cells #[] 83)))
    have hB := below_alloc (Below.refl w.heap.size w) (.cells #[] 83)
    have hsz := hB.size
    go_wp2_with ((with_reducible refine gate_builtin (b := .append) (xs := #[.tmp 5, .tmp 6]) rfl ?_); at_builtin; refine Kd.R_append_rows k83 (w0 := w) w.heap.size rfl (.tmp 5) (.tmp 6) 27 83 (.agg #[.string ⟨#[]⟩, .int .i64 0]) 24 rfl hu (by kernel_rfl) rfl (by decide) (by omega) (.slice (some ⟨w.heap.size, 0, none⟩) 0 0) [] l0 (some ad) l0.length c0 (fun _ => True) (fun _ => False) rfl rfl HE.out HRA.out (fun x q h => by obtain rfl := k83_open h; exact k83_mkM _ _ _ x) (fun _ hk => hk.elim) (fun _ _ => trivial) hB hsz (by simpa using hlen) ?_; intro v1 w1 ho hbb hg hat)
    go_ret
    exact ⟨_, rfl, by simpa using ho, hbb⟩
end Go.Proofs.YtpdflhgcdehmoaaDoor.T
namespace Go.Proofs.YtpdflhgcdehmoaaDoor.T
open Go.RowKit Go.Proofs.YtpdflhgcdehmoaaDoorW.PrintWords Go.Proofs.YtpdflhgcdehmoaaDoorW.PrintLast Go.Proofs.YtpdflhgcdehmoaaDoorW.PrintMore
attribute [local go_sem] max2_int min2_int max_two min_two max_three min_three max_four min_four
set_option linter.unusedVariables false
set_option linter.unusedSimpArgs false
def slices_Clone_Word.f (l0 : List (Int)) : Option ((List Int)) := if l0.length * 8 ≤ 140737488355328 then some l0 else none
set_option maxHeartbeats 2000000 in
set_option maxRecDepth 100000 in
theorem slices_Clone_Word.calls (A0 : Option Addr) (c0 : Nat) (l0 : List (Int)) (r : List (Int)) (w : World) (hr0 : Kd.C (Kd.int .i64) w A0 l0.length l0) (hc0 : l0.length ≤ c0) (h : slices_Clone_Word.f l0 = some r) :
    Calls Tryd.prog 74 #[.slice A0 l0.length c0] w fun e w' => ∃ v0_ : Value, e = .returned (v0_) ∧ Kd.R (Kd.int .i64) 2 w' w.heap.size (fun _ => True) v0_ r ∧ Below w.heap.size w w' := by
  have hlen : l0.length * 8 ≤ 140737488355328 := by
    unfold slices_Clone_Word.f at h
    by_cases hf : l0.length * 8 ≤ 140737488355328
    · exact hf
    · rw [if_neg hf] at h; cases h
  obtain rfl : l0 = r := by
    unfold slices_Clone_Word.f at h
    rw [if_pos hlen] at h
    exact Option.some.inj h
  clear h
  have HR := Lib.hid hr0
  clear hr0
  have hu := Tryd.underlying30
  cases A0 with
  | none =>
    have h0 : l0.length = 0 := by
      rcases Nat.eq_zero_or_pos l0.length with h | h
      · exact h
      · obtain ⟨ad, he, -⟩ := HR.out.2.2 h
        cases he
    obtain rfl : l0 = [] := List.eq_nil_of_length_eq_zero h0
    have heq := fun (w : World) => Lib.run_eql_slice_nil (P := Tryd.prog) w 30 2 none 0 c0 0 0 hu
    go_enter Tryd.func74, Tryd.ntmps74
    go_wp2_with fail
    go_ret
    exact ⟨_, rfl, Kd.R_nil _ _ _ _ _, Below.refl _ _⟩
  | some ad =>
    have heq := fun (w : World) => Lib.run_eql_slice_nil (P := Tryd.prog) w 30 2 (some ad) l0.length c0 0 0 hu
    go_enter Tryd.func74, Tryd.ntmps74
    have HE := Lib.hid (R_empty (Kd.int .i64) 2 w.heap.size w (ok := fun _ => True) trivial (Nat.le_refl _))
    have HRA := Lib.hid (Kd.C_below HR.out (below_alloc (Below.refl _ _) (.cells #[] 2)))
    have hB := below_alloc (Below.refl w.heap.size w) (.cells #[] 2)
    have hsz := hB.size
    go_wp2_with ((with_reducible refine gate_builtin (b := .append) (xs := #[.tmp 5, .tmp 6]) rfl ?_); at_builtin; refine Kd.R_append_rows (Kd.int .i64) (w0 := w) w.heap.size rfl (.tmp 5) (.tmp 6) 30 2 (.int .i64 0) 8 rfl hu (by kernel_rfl) rfl (by decide) (by omega) (.slice (some ⟨w.heap.size, 0, none⟩) 0 0) [] l0 (some ad) l0.length c0 (fun _ => True) (fun _ => False) rfl rfl HE.out HRA.out (fun x q h => h) (fun _ hk => hk.elim) (fun _ _ => trivial) hB hsz (by simpa using hlen) ?_; intro v1 w1 ho hbb hg hat)
    go_ret
    exact ⟨_, rfl, by simpa using ho, hbb⟩
end Go.Proofs.YtpdflhgcdehmoaaDoor.T
namespace Go.Proofs.YtpdflhgcdehmoaaDoor.T
open Go.RowKit Go.Proofs.YtpdflhgcdehmoaaDoorW.PrintWords Go.Proofs.YtpdflhgcdehmoaaDoorW.PrintLast Go.Proofs.YtpdflhgcdehmoaaDoorW.PrintMore
attribute [local go_sem] max2_int min2_int max_two min_two max_three min_three max_four min_four
set_option linter.unusedVariables false
set_option linter.unusedSimpArgs false
attribute [local go_sem ↓] loadS_is storeS_is
attribute [local go_sem] storeS_new loadQ_is loadQ_at loadR_some cellsQ_alloc_at cellsQ_alloc_past
def cloneG (base : Nat) (l : List S83) (v : Value) (W : World) : Prop := Kd.R k83 83 W base (fun k => base ≤ k) v l
def cloneW (base : Nat) (l : List Int) (v : Value) (W : World) : Prop := Kd.R (Kd.int .i64) 2 W base (fun k => base ≤ k) v l
theorem cloneG_makes {A : Option Addr} {c base : Nat} {l : List S83} {W : World} (hC : Kd.C k83 W A l.length l) (hc : l.length ≤ c) (hl : l.length * 24 ≤ 140737488355328) (hb : base ≤ W.heap.size) :
    Calls Tryd.prog 73 #[.slice A l.length c] W fun e w' => ∃ v, e = .returned v ∧ cloneG base l v w' ∧ Below W.heap.size W w' :=
  (slices_Clone_Grant.calls A c l l W hC hc (if_pos hl)).mono fun e w' ⟨v, he, hR, hbl⟩ => ⟨v, he, Kd.R_lower (Kd.R_mono (Kd.R_bound hR) (fun k hk => Nat.le_trans hb hk.2.1)) hb, hbl⟩
theorem cloneW_makes {A : Option Addr} {c base : Nat} {l : List Int} {W : World} (hC : Kd.C (Kd.int .i64) W A l.length l) (hc : l.length ≤ c) (hl : l.length * 8 ≤ 140737488355328) (hb : base ≤ W.heap.size) :
    Calls Tryd.prog 74 #[.slice A l.length c] W fun e w' => ∃ v, e = .returned v ∧ cloneW base l v w' ∧ Below W.heap.size W w' :=
  (slices_Clone_Word.calls A c l l W hC hc (if_pos hl)).mono fun e w' ⟨v, he, hR, hbl⟩ => ⟨v, he, Kd.R_lower (Kd.R_mono (Kd.R_bound hR) (fun k hk => Nat.le_trans hb hk.2.1)) hb, hbl⟩
theorem cloneG_mono {base : Nat} {l : List S83} {v : Value} {W W' : World} (h : cloneG base l v W) (hb : Below W.heap.size W W') : cloneG base l v W' := Kd.R_below h hb
theorem cloneW_mono {base : Nat} {l : List Int} {v : Value} {W W' : World} (h : cloneW base l v W) (hb : Below W.heap.size W W') : cloneW base l v W' := Kd.R_below h hb
def twinFits (n : S32) : Bool := decide (n.f3.length * 24 ≤ 140737488355328) && decide (n.f5.length * 8 ≤ 140737488355328)
set_option maxHeartbeats 4000000 in
set_option maxRecDepth 100000 in
theorem twin_calls (n : S32) (A : Option Addr) (c : Nat) (A' : Option Addr) (c' : Nat) (w : World) (hr : Kd.C k83 w A n.f3.length n.f3) (hc : n.f3.length ≤ c) (hr' : Kd.C (Kd.int .i64) w A' n.f5.length n.f5) (hc' : n.f5.length ≤ c') (hfit : twinFits n = true) :
    Calls Tryd.prog 44 #[.agg #[.string n.f0, .bool n.f1, .int .i64 n.f2.f0, .int .i64 n.f2.f1, .int .i64 n.f2.f2, .int .i64 n.f2.f3, .slice A n.f3.length c, .int .i64 n.f4.f0, .int .i64 n.f4.f1, .int .i64 n.f4.f2, .int .i64 n.f4.f3, .slice A' n.f5.length c', .int .i64 n.f6.f0, .int .i64 n.f6.f1, .int .i64 n.f6.f2, .int .i64 n.f6.f3]] w fun e w' => ∃ v6 v11 : Value,
      e = .returned (.agg #[.string n.f0, .bool n.f1, .int .i64 n.f2.f0, .int .i64 n.f2.f1, .int .i64 n.f2.f2, .int .i64 n.f2.f3, v6, .int .i64 n.f4.f0, .int .i64 n.f4.f1, .int .i64 n.f4.f2, .int .i64 n.f4.f3, v11, .int .i64 n.f6.f0, .int .i64 n.f6.f1, .int .i64 n.f6.f2, .int .i64 n.f6.f3]) ∧
      Kd.R k83 83 w' w.heap.size (fun k => w.heap.size ≤ k) v6 n.f3 ∧ Kd.R (Kd.int .i64) 2 w' w.heap.size (fun k => w.heap.size ≤ k) v11 n.f5 ∧ Below w.heap.size w w' := by
  unfold twinFits at hfit
  simp only [Bool.and_eq_true, decide_eq_true_eq] at hfit
  obtain ⟨hf1, hf2⟩ := hfit
  have HR := Lib.hid hr
  have HR' := Lib.hid hr'
  clear hr hr'
  have hu := Tryd.underlying32
  go_enter Tryd.func44, Tryd.ntmps44
  go_wp2_with fail
  obtain ⟨w1, hw1⟩ : ∃ w1, w1 = (w.alloc (.cells #[.string n.f0, .bool n.f1, .int .i64 n.f2.f0, .int .i64 n.f2.f1, .int .i64 n.f2.f2, .int .i64 n.f2.f3, .slice A n.f3.length c, .int .i64 n.f4.f0, .int .i64 n.f4.f1, .int .i64 n.f4.f2, .int .i64 n.f4.f3, .slice A' n.f5.length c', .int .i64 n.f6.f0, .int .i64 n.f6.f1, .int .i64 n.f6.f2, .int .i64 n.f6.f3] 32)).alloc (.cells #[.string ⟨#[]⟩, .bool false, .int .i64 0, .int .i64 0, .int .i64 0, .int .i64 0, .slice none 0 0, .int .i64 0, .int .i64 0, .int .i64 0, .int .i64 0, .slice none 0 0, .int .i64 0, .int .i64 0, .int .i64 0, .int .i64 0] 32) := ⟨_, rfl⟩
  rw [← hw1]
  have hB1 : Below w.heap.size w w1 := by rw [hw1]; exact below_alloc (below_alloc (Below.refl _ _) _) _
  have hX1 : Box 32 16 w1 w.heap.size w.heap.size (#[.string n.f0, .bool n.f1, .int .i64 n.f2.f0, .int .i64 n.f2.f1, .int .i64 n.f2.f2, .int .i64 n.f2.f3, .slice A n.f3.length c, .int .i64 n.f4.f0, .int .i64 n.f4.f1, .int .i64 n.f4.f2, .int .i64 n.f4.f3, .slice A' n.f5.length c', .int .i64 n.f6.f0, .int .i64 n.f6.f1, .int .i64 n.f6.f2, .int .i64 n.f6.f3] : Array Value).toList := by
    rw [hw1]
    exact (Box.new' (Nat.le_refl _) rfl rfl (by simp [Value.oneCell'])).below (below_alloc (Below.refl _ _) _)
  have hX2 : Box 32 16 w1 w.heap.size (w.heap.size + 1) (#[.string ⟨#[]⟩, .bool false, .int .i64 0, .int .i64 0, .int .i64 0, .int .i64 0, .slice none 0 0, .int .i64 0, .int .i64 0, .int .i64 0, .int .i64 0, .slice none 0 0, .int .i64 0, .int .i64 0, .int .i64 0, .int .i64 0] : Array Value).toList := by
    rw [hw1, show w.heap.size + 1 = (w.alloc (.cells #[.string n.f0, .bool n.f1, .int .i64 n.f2.f0, .int .i64 n.f2.f1, .int .i64 n.f2.f2, .int .i64 n.f2.f3, .slice A n.f3.length c, .int .i64 n.f4.f0, .int .i64 n.f4.f1, .int .i64 n.f4.f2, .int .i64 n.f4.f3, .slice A' n.f5.length c', .int .i64 n.f6.f0, .int .i64 n.f6.f1, .int .i64 n.f6.f2, .int .i64 n.f6.f3] 32)).heap.size by simp]
    exact Box.new' (by simp) rfl rfl (by simp [Value.oneCell'])
  clear hw1
  have HX1 := Lib.hid hX1
  have HX2 := Lib.hid hX2
  have y6 := hX1.cell (j := 6) rfl
  have y11 := hX1.cell (j := 11) rfl
  have hbl := hX1.lt
  have hsz := hB1.size
  have HC1 := Lib.hid (Kd.C_below HR.out hB1)
  have HC2 := Lib.hid (Kd.C_below HR'.out hB1)
  clear hX1 hX2
  apply wp_region_facts 0 7 [.is _, .is _, .such (cloneG w.heap.size n.f3), .is _, .is _, .such (cloneW w.heap.size n.f5), .is _] (by kernel_rfl) (by kernel_rfl) rfl (by rfl) ?hmono ?hp ?hs ?ht
  case hp => exact trivial
  case hmono =>
    intro F hF v W W' hv hb
    simp at hF
    rcases hF with rfl | rfl
    · exact cloneG_mono hv hb
    · exact cloneW_mono hv hb
  case hs =>
    simp only [List.take_succ_cons, List.take_zero, List.zip_cons_cons, List.zip_nil_left, wpMakes, List.nil_append, List.cons_append]
    repeat
      refine And.intro (fun W hW => ?_) ?_
      focus
        obtain ⟨hc7, hf7⟩ := below_rules hW
        repeat (first | (with_reducible refine forPuts_is ?_) | ((with_reducible refine forPuts_not ?_ ?_); (focus exact rfl)) | ((with_reducible refine forPuts_such ?_ ?_); (focus exact rfl); intro v hv))
        with_reducible refine forPuts_nil ?_
        (try simp only [Act.put, List.setIfInBounds_toArray, List.set_cons_zero, List.set_cons_succ])
        go_simp
        first
        | exact Below.refl _ _
        | exact ⟨rfl, Below.refl _ _⟩
        | exact cloneG_makes (Kd.C_below HC1.out hW) hc hf1 (Nat.le_trans hsz hW.size)
        | exact cloneW_makes (Kd.C_below HC2.out hW) hc' hf2 (Nat.le_trans hsz hW.size)
    exact trivial
  case ht =>
    intro W hW
    simp only [List.take_succ_cons, List.take_zero, List.map_cons, List.map_nil, List.zip_cons_cons, List.zip_nil_left]
    iterate 2 (with_reducible refine forPuts_is ?_)
    (with_reducible refine forPuts_such ?_ ?_)
    · exact rfl
    intro vG hvG
    iterate 2 (with_reducible refine forPuts_is ?_)
    (with_reducible refine forPuts_such ?_ ?_)
    · exact rfl
    intro vW hvW
    with_reducible refine forPuts_is ?_
    with_reducible refine forPuts_nil ?_
    simp only [Act.put, List.setIfInBounds_toArray, List.set_cons_zero, List.set_cons_succ, List.drop_succ_cons, List.drop_zero]
    obtain ⟨AG, cG, rfl⟩ := Kd.R_slice hvG
    obtain ⟨AW, cW, rfl⟩ := Kd.R_slice hvW
    have HG := Lib.hid (show Kd.R k83 83 W w.heap.size (fun k => w.heap.size ≤ k) (.slice AG n.f3.length cG) n.f3 from hvG)
    have HW := Lib.hid (show Kd.R (Kd.int .i64) 2 W w.heap.size (fun k => w.heap.size ≤ k) (.slice AW n.f5.length cW) n.f5 from hvW)
    have hBW : Below w.heap.size w W := below_on hB1 hW
    have HX1W := Lib.hid (HX1.out.below hW)
    have HX2W := Lib.hid (HX2.out.below hW)
    obtain ⟨cb1, hcb1⟩ := Kd.R_typed HX1W.out w.heap.size (by simp [Value.ownBlock])
    have hne1 : ∀ k, (some w.heap.size : Option Nat) = some k → some k ≠ (Value.slice AG n.f3.length cG).ownBlock := fun k he => by obtain rfl := Option.some.inj he; exact Kd.R_ne HG.out hcb1 (by decide)
    have hne2 : ∀ k, (some w.heap.size : Option Nat) = some k → some k ≠ (Value.slice AW n.f5.length cW).ownBlock := fun k he => by obtain rfl := Option.some.inj he; exact Kd.R_ne HW.out hcb1 (by decide)
    obtain ⟨cb2, hcb2⟩ := Kd.R_typed HX2W.out (w.heap.size + 1) (by simp [Value.ownBlock])
    have hne3 : ∀ k, (some (w.heap.size + 1) : Option Nat) = some k → some k ≠ (Value.slice AG n.f3.length cG).ownBlock := fun k he => by obtain rfl := Option.some.inj he; exact Kd.R_ne HG.out hcb2 (by decide)
    have hne4 : ∀ k, (some (w.heap.size + 1) : Option Nat) = some k → some k ≠ (Value.slice AW n.f5.length cW).ownBlock := fun k he => by obtain rfl := Option.some.inj he; exact Kd.R_ne HW.out hcb2 (by decide)
    have hn12 : some (w.heap.size + 1) ≠ some w.heap.size := fun he => by injection he with he; omega
    have hn21 : some w.heap.size ≠ some (w.heap.size + 1) := fun he => by injection he with he; omega
    clear hvG hvW hcb1 hcb2 y6 y11
    refine Box.store (w0 := w) (base := w.heap.size) (k := w.heap.size) rfl rfl 27 (.tmp 9) (.tmp 5) rfl 6 _ [.slice AG n.f3.length cG] rfl rfl rfl (by kernel_rfl) (by simp [Value.oneCell']) HX1W.out (by simp) hBW ?_
    intro w2 hb2 hbb2 hg2
    go_wp2_with (refine Box.store (w0 := w) (base := w.heap.size) (k := w.heap.size) rfl rfl 30 (.tmp 10) (.tmp 8) rfl 11 _ [.slice AW n.f5.length cW] rfl rfl rfl (by kernel_rfl) (by simp [Value.oneCell']) hb2 (by simp) hbb2 ?_; intro w3 hb3 hbb3 hg3)
    refine NoPanic.normal ?_
    have HX3 := Lib.hid (show Box 32 16 w3 w.heap.size w.heap.size (#[.string n.f0, .bool n.f1, .int .i64 n.f2.f0, .int .i64 n.f2.f1, .int .i64 n.f2.f2, .int .i64 n.f2.f3, .slice AG n.f3.length cG, .int .i64 n.f4.f0, .int .i64 n.f4.f1, .int .i64 n.f4.f2, .int .i64 n.f4.f3, .slice AW n.f5.length cW, .int .i64 n.f6.f0, .int .i64 n.f6.f1, .int .i64 n.f6.f2, .int .i64 n.f6.f3] : Array Value).toList from hb3)
    have HX4 := Lib.hid ((HX2W.out.grown hg2 hn12).grown hg3 hn12)
    have HG3 := Lib.hid (Kd.R_grown2 (Kd.R_grown2 HG.out rfl hg2 hne1) rfl hg3 hne1)
    have HW3 := Lib.hid (Kd.R_grown2 (Kd.R_grown2 HW.out rfl hg2 hne2) rfl hg3 hne2)
    have hq3 := cellsQ_of (w := w3) (A := ⟨w.heap.size, 0, none⟩) (#[.string n.f0, .bool n.f1, .int .i64 n.f2.f0, .int .i64 n.f2.f1, .int .i64 n.f2.f2, .int .i64 n.f2.f3, .slice AG n.f3.length cG, .int .i64 n.f4.f0, .int .i64 n.f4.f1, .int .i64 n.f4.f2, .int .i64 n.f4.f3, .slice AW n.f5.length cW, .int .i64 n.f6.f0, .int .i64 n.f6.f1, .int .i64 n.f6.f2, .int .i64 n.f6.f3] : Array Value).toList 0 (fun j v hj => by rw [add_plain, Nat.zero_add]; exact HX3.out.cell hj)
    have hbl3 := HX3.out.lt
    clear hb2 hb3 hg2 hg3 hbb2
    simp only [List.length_cons, List.length_nil] at hq3
    go_wp2_with (refine Box.store (w0 := w) (base := w.heap.size) (k := w.heap.size + 1) rfl rfl 32 (.tmp 2) (.tmp 11) rfl 0 _ (#[.string n.f0, .bool n.f1, .int .i64 n.f2.f0, .int .i64 n.f2.f1, .int .i64 n.f2.f2, .int .i64 n.f2.f3, .slice AG n.f3.length cG, .int .i64 n.f4.f0, .int .i64 n.f4.f1, .int .i64 n.f4.f2, .int .i64 n.f4.f3, .slice AW n.f5.length cW, .int .i64 n.f6.f0, .int .i64 n.f6.f1, .int .i64 n.f6.f2, .int .i64 n.f6.f3] : Array Value).toList rfl rfl rfl (by kernel_rfl) (by simp [Value.oneCell']) HX4.out (by simp) hbb3 ?_; intro w5 hb5 hbb5 hg5)
    have HX5 := Lib.hid (show Box 32 16 w5 w.heap.size (w.heap.size + 1) (#[.string n.f0, .bool n.f1, .int .i64 n.f2.f0, .int .i64 n.f2.f1, .int .i64 n.f2.f2, .int .i64 n.f2.f3, .slice AG n.f3.length cG, .int .i64 n.f4.f0, .int .i64 n.f4.f1, .int .i64 n.f4.f2, .int .i64 n.f4.f3, .slice AW n.f5.length cW, .int .i64 n.f6.f0, .int .i64 n.f6.f1, .int .i64 n.f6.f2, .int .i64 n.f6.f3] : Array Value).toList from hb5)
    have HG5 := Lib.hid (Kd.R_grown2 HG3.out rfl hg5 hne3)
    have HW5 := Lib.hid (Kd.R_grown2 HW3.out rfl hg5 hne4)
    clear hb5 hg5 hq3
    (try go_wp2_with fail)
    (try simp only [Exit.inBlock, Exit.then])
    refine bodyPost_ret (results_cell_row rfl _ _ (w.heap.size + 1) 32 _ (0, 0) _ rfl HX5.out.block hu rfl ?_) rfl ⟨_, _, rfl, HG5.out, HW5.out, hbb5⟩
    kernel_rfl
end Go.Proofs.YtpdflhgcdehmoaaDoor.T
namespace Go.Proofs.YtpdflhgcdehmoaaDoor.T
open Go.RowKit Go.Proofs.YtpdflhgcdehmoaaDoorW.PrintWords Go.Proofs.YtpdflhgcdehmoaaDoorW.PrintLast Go.Proofs.YtpdflhgcdehmoaaDoorW.PrintMore
attribute [local go_sem] max2_int min2_int max_two min_two max_three min_three max_four min_four
set_option linter.unusedVariables false
set_option linter.unusedSimpArgs false
attribute [local go_sem ↓] loadS_is storeS_is
attribute [local go_sem] storeS_new loadQ_is loadQ_at loadR_some cellsQ_alloc_at cellsQ_alloc_past
theorem node_result_box {fn : Func} {p u : Tmp} (h : fn.results = #[.cell p 32, .tmp u]) (tmps : Array Value) (w : World) (k : Nat) (c : Array Value) (hp : tmps.getD p undef = .pointer (some ⟨k, 0, none⟩)) (hk : w.heap[k]? = some (.cells c 32 (0, 0))) (hc : c.size = 16) :
    (results fn tmps).run Tryd.prog w = .ok (.tuple #[.agg c, tmps.getD u undef]) w := by
  have hi := info32
  have hs : (Tryd.prog.info? 32).map (·.size) = some 16 := by
    cases hq : Tryd.prog.info? 32 with
    | none => rw [hq] at hi; cases hi
    | some i =>
      rw [hq] at hi
      have := Option.some.inj hi
      simp only [Prod.mk.injEq] at this
      simp [this.2.1]
  have hl : (loadVar 32 ⟨k, 0, none⟩).run Tryd.prog w = .ok (.agg c) w := run_loadVar_row _ _ 32 _ c (0, 0) _ hk Tryd.underlying32 rfl (by rw [hs, hc])
  rw [results_cell_tmp h, hp]
  simp [asAddr, hl]
def noNode : S32 := ⟨⟨#[]⟩, false, ⟨0, 0, 0, 0⟩, [], ⟨0, 0, 0, 0⟩, [], ⟨0, 0, 0, 0⟩⟩
def foundOf (o : Option S32) : ByteArray × Bool × Int × Int × Int × Int × (List (S83)) × Int × Int × Int × Int × List Int × Int × Int × Int × Int × Bool :=
  let n := o.getD noNode
  (n.f0, n.f1, n.f2.f0, n.f2.f1, n.f2.f2, n.f2.f3, n.f3, n.f4.f0, n.f4.f1, n.f4.f2, n.f4.f3, n.f5, n.f6.f0, n.f6.f1, n.f6.f2, n.f6.f3, o.isSome)
def findFits (l : List S32) : Bool := risesP l && decide (l.length < 4611686018427387904) && l.all twinFits
def tree_Find.f (l0 : List (S32)) (a1 : ByteArray) : Option (ByteArray × Bool × Int × Int × Int × Int × (List (S83)) × Int × Int × Int × Int × List Int × Int × Int × Int × Int × Bool) := if findFits l0 = true then some (foundOf (findN l0 a1)) else none
set_option maxHeartbeats 4000000 in
set_option maxRecDepth 100000 in
theorem treefind_calls (A0 : Option Addr) (c0 : Nat) (l0 : List (S32)) (a1 : ByteArray) (w : World) (hr0 : Kd.C k32 w A0 l0.length l0) (hc0 : l0.length ≤ c0) (hfit : findFits l0 = true) :
    Calls Tryd.prog 14 #[.slice A0 l0.length c0, .string a1] w fun e w' => ∃ v6 v11 : Value, e = .returned (.tuple #[.agg #[.string ((findN l0 a1).getD noNode).f0, .bool ((findN l0 a1).getD noNode).f1, .int .i64 ((findN l0 a1).getD noNode).f2.f0, .int .i64 ((findN l0 a1).getD noNode).f2.f1, .int .i64 ((findN l0 a1).getD noNode).f2.f2, .int .i64 ((findN l0 a1).getD noNode).f2.f3, v6, .int .i64 ((findN l0 a1).getD noNode).f4.f0, .int .i64 ((findN l0 a1).getD noNode).f4.f1, .int .i64 ((findN l0 a1).getD noNode).f4.f2, .int .i64 ((findN l0 a1).getD noNode).f4.f3, v11, .int .i64 ((findN l0 a1).getD noNode).f6.f0, .int .i64 ((findN l0 a1).getD noNode).f6.f1, .int .i64 ((findN l0 a1).getD noNode).f6.f2, .int .i64 ((findN l0 a1).getD noNode).f6.f3], .bool (findN l0 a1).isSome]) ∧
      Kd.R k83 83 w' w.heap.size (fun _ => True) v6 ((findN l0 a1).getD noNode).f3 ∧ Kd.R (Kd.int .i64) 2 w' w.heap.size (fun _ => True) v11 ((findN l0 a1).getD noNode).f5 ∧ Below w.heap.size w w' := by
  unfold findFits at hfit
  simp only [Bool.and_eq_true, decide_eq_true_eq] at hfit
  obtain ⟨⟨hrs, hlen⟩, htw⟩ := hfit
  have HR := Lib.hid hr0
  clear hr0
  have hu := Tryd.underlying32
  have HF := Lib.hid (find_place hrs a1)
  have hpl : tree_place.f l0 a1 = some (((lessN l0 a1 : Nat) : Int), atP l0 a1) := by
    unfold tree_place.f
    first
    | rw [if_pos ⟨hrs, hlen⟩]
    | rw [if_pos ⟨hlen, hrs⟩]
    | simp [hrs, hlen]
  have HP := Lib.hid hpl
  clear hpl
  go_enter Tryd.func14, Tryd.ntmps14
  go_wp2_with fail
  refine (tree_place.calls A0 c0 l0 a1 _ _ _ (Kd.C_below HR.out (below_alloc (Below.refl _ _) _)) hc0 HP.out).mono ?_
  rintro e w1 ⟨rfl, hb1⟩
  have hB1 : Below w.heap.size w w1 := below_on (below_alloc (Below.refl _ _) _) hb1
  have hX : Box 32 16 w1 w.heap.size w.heap.size [.string ⟨#[]⟩, .bool false, .int .i64 0, .int .i64 0, .int .i64 0, .int .i64 0, .slice none 0 0, .int .i64 0, .int .i64 0, .int .i64 0, .int .i64 0, .slice none 0 0, .int .i64 0, .int .i64 0, .int .i64 0, .int .i64 0] := (Box.new' (Nat.le_refl _) rfl rfl (by simp [Value.oneCell'])).below hb1
  have HX := Lib.hid hX
  clear hX hb1
  cases hat : atP l0 a1 with
  | false =>
    have HF2 := Lib.hid (show findN l0 a1 = none by rw [HF.out, if_neg (by rw [hat]; simp)])
    go_wp2_with (refine Box.store (w0 := w) (base := w.heap.size) (k := w.heap.size) rfl rfl 32 (.tmp 4) (.tmp 16) rfl 0 _ [.string ⟨#[]⟩, .bool false, .int .i64 0, .int .i64 0, .int .i64 0, .int .i64 0, .slice none 0 0, .int .i64 0, .int .i64 0, .int .i64 0, .int .i64 0, .slice none 0 0, .int .i64 0, .int .i64 0, .int .i64 0, .int .i64 0] rfl rfl rfl (by kernel_rfl) (by simp [Value.oneCell']) HX.out (by simp) hB1 ?_; intro w5 hb5 hbb5 hg5)
    (try simp only [Exit.inBlock, Exit.then])
    refine bodyPost_ret (node_result_box rfl _ _ w.heap.size _ rfl hb5.block rfl) rfl ?_
    rw [HF2.out]
    exact ⟨_, _, rfl, Kd.R_nil _ _ _ _ _, Kd.R_nil _ _ _ _ _, hbb5⟩
  | true =>
    have hat2 := hat
    unfold atP at hat2
    rw [Bool.and_eq_true, decide_eq_true_eq] at hat2
    have hlt := hat2.1
    have HF2 := Lib.hid (show findN l0 a1 = some (rd_T32 l0 (lessN l0 a1 : Nat)) by rw [HF.out, if_pos hat])
    clear hat hat2
    obtain ⟨ad, A6, c6, A11, c11, rfl, hbk, hq, hx0, hx1, hl6, hC6, hl11, hC11⟩ := node_at (Kd.C_below HR.out hB1) (lessN l0 a1) hlt
    have hfn : twinFits (rd_T32 l0 (lessN l0 a1 : Nat)) = true := by
      rw [rd_get l0 _ hlt]
      exact List.all_eq_true.1 htw _ (List.getElem_mem hlt)
    have HFN := Lib.hid hfn
    have HC6 := Lib.hid hC6
    have HC11 := Lib.hid hC11
    clear hfn hC6 hC11 hx0 hx1
    generalize rd_T32 l0 (lessN l0 a1 : Nat) = n at *
    generalize lessN l0 a1 = i at *
    go_wp2_with fail
    refine (twin_calls n A6 c6 A11 c11 _ HC6.out hl6 HC11.out hl11 HFN.out).mono ?_
    rintro e w2 ⟨v6, v11, rfl, hR6, hR11, hb2⟩
    obtain ⟨AG, cG, rfl⟩ := Kd.R_slice hR6
    obtain ⟨AW, cW, rfl⟩ := Kd.R_slice hR11
    have hB2 : Below w.heap.size w w2 := below_on hB1 hb2
    have HX2 := Lib.hid (HX.out.below hb2)
    have hsz1 := hB1.size
    have hxl := HX.out.lt
    have HG := Lib.hid (Kd.R_lower (Kd.R_mono hR6 (fun _ _ => trivial) : Kd.R k83 83 w2 w1.heap.size (fun _ => True) _ _) hsz1)
    have HW := Lib.hid (Kd.R_lower (Kd.R_mono hR11 (fun _ _ => trivial) : Kd.R (Kd.int .i64) 2 w2 w1.heap.size (fun _ => True) _ _) hsz1)
    have hne1 : ∀ k, (some w.heap.size : Option Nat) = some k → some k ≠ (Value.slice AG n.f3.length cG).ownBlock := fun k he h2 => by
      obtain rfl := Option.some.inj he
      exact absurd (hR6.1 _ h2.symm) (Nat.not_le.2 hxl)
    have hne2 : ∀ k, (some w.heap.size : Option Nat) = some k → some k ≠ (Value.slice AW n.f5.length cW).ownBlock := fun k he h2 => by
      obtain rfl := Option.some.inj he
      exact absurd (hR11.1 _ h2.symm) (Nat.not_le.2 hxl)
    clear hR6 hR11 hb2 hq
    go_wp2_with (refine Box.store (w0 := w) (base := w.heap.size) (k := w.heap.size) rfl rfl 32 (.tmp 4) (.tmp 21) rfl 0 _ [.string n.f0, .bool n.f1, .int .i64 n.f2.f0, .int .i64 n.f2.f1, .int .i64 n.f2.f2, .int .i64 n.f2.f3, .slice AG n.f3.length cG, .int .i64 n.f4.f0, .int .i64 n.f4.f1, .int .i64 n.f4.f2, .int .i64 n.f4.f3, .slice AW n.f5.length cW, .int .i64 n.f6.f0, .int .i64 n.f6.f1, .int .i64 n.f6.f2, .int .i64 n.f6.f3] rfl rfl rfl (by kernel_rfl) (by simp [Value.oneCell']) HX2.out (by simp) hB2 ?_; intro w5 hb5 hbb5 hg5)
    (try simp only [Exit.inBlock, Exit.then])
    have HG5 := Lib.hid (Kd.R_grown2 HG.out rfl hg5 hne1)
    have HW5 := Lib.hid (Kd.R_grown2 HW.out rfl hg5 hne2)
    refine bodyPost_ret (node_result_box rfl _ _ w.heap.size _ rfl hb5.block rfl) rfl ?_
    rw [HF2.out]
    exact ⟨_, _, rfl, HG5.out, HW5.out, hbb5⟩
theorem tree_Find.calls (A0 : Option Addr) (c0 : Nat) (l0 : List (S32)) (a1 : ByteArray) (r1 : ByteArray) (r2 : Bool) (r3 : Int) (r4 : Int) (r5 : Int) (r6 : Int) (r7 : List (S83)) (r8 : Int) (r9 : Int) (r10 : Int) (r11 : Int) (r12 : List Int) (r13 : Int) (r14 : Int) (r15 : Int) (r16 : Int) (r17 : Bool) (w : World) (hr0 : Kd.C k32 w A0 l0.length l0) (hc0 : l0.length ≤ c0) (h : tree_Find.f l0 a1 = some (r1, r2, r3, r4, r5, r6, r7, r8, r9, r10, r11, r12, r13, r14, r15, r16, r17)) :
    Calls Tryd.prog 14 #[.slice A0 l0.length c0, .string a1] w fun e w' => ∃ v6_ v11_ : Value, e = .returned (.tuple #[.agg #[.string r1, .bool r2, .int .i64 r3, .int .i64 r4, .int .i64 r5, .int .i64 r6, v6_, .int .i64 r8, .int .i64 r9, .int .i64 r10, .int .i64 r11, v11_, .int .i64 r13, .int .i64 r14, .int .i64 r15, .int .i64 r16], .bool r17]) ∧ Kd.R k83 83 w' w.heap.size (fun _ => True) v6_ r7 ∧ Kd.R (Kd.int .i64) 2 w' w.heap.size (fun _ => True) v11_ r12 ∧ Below w.heap.size w w' := by
  have hfit : findFits l0 = true := by
    unfold tree_Find.f at h
    by_cases hf : findFits l0 = true
    · exact hf
    · rw [if_neg hf] at h; cases h
  unfold tree_Find.f at h
  rw [if_pos hfit] at h
  have h2 := Option.some.inj h
  unfold foundOf at h2
  simp only [Prod.mk.injEq] at h2
  obtain ⟨rfl, rfl, rfl, rfl, rfl, rfl, rfl, rfl, rfl, rfl, rfl, rfl, rfl, rfl, rfl, rfl, rfl⟩ := h2
  exact treefind_calls A0 c0 l0 a1 w hr0 hc0 hfit
end Go.Proofs.YtpdflhgcdehmoaaDoor.T
