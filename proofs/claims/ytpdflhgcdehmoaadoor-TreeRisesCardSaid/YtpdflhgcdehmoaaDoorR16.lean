/- Part of the proof that TreeRises comes to true: printed and written texts, merged by a program. -/
import Derived.Lib.Hide
import Derived.IntWalk
import Derived.StillTail
import Derived.Deep.RegionHeld3
import Derived.Test.YtpdflhgcdehmoaaDoorR3
import Derived.Test.YtpdflhgcdehmoaaDoorR14
import Derived.Test.YtpdflhgcdehmoaaDoorR15
import Derived.Test.YtpdflhgcdehmoaaDoorR9
import Derived.Test.YtpdflhgcdehmoaaDoorR4
import Derived.Test.YtpdflhgcdehmoaaDoorR5
namespace Go.Proofs.YtpdflhgcdehmoaaDoor.T
open Go.RowKit Go.Proofs.YtpdflhgcdehmoaaDoorW.PrintWords Go.Proofs.YtpdflhgcdehmoaaDoorW.PrintLast Go.Proofs.YtpdflhgcdehmoaaDoorW.PrintMore
attribute [local go_sem] max2_int min2_int max_two min_two max_three min_three max_four min_four
set_option linter.unusedVariables false
set_option linter.unusedSimpArgs false
theorem within11_is (a n : Int) (h : 0 < n) (hn : n ≤ 4611686018427387904) : donjonlaw11_within.f a n = some (wth a n) := by
  have h1 := Int.tmod_lt_of_pos a h
  have h3 := Int.tmod_lt_of_pos (-a) h
  rw [Int.neg_tmod] at h3
  unfold donjonlaw11_within.f wth
  rw [if_neg (by omega)]
  split
  · have hw : wrap64 (Int.tmod a n + n) = Int.tmod a n + n := by unfold wrap64; omega
    rw [hw]
  · rfl
def hasTo (l : List S83) : Nat → List Int
  | 0 => [0, 0, 0, 0, 0]
  | i + 1 => (hasTo l i).set (wth (rd_T83 l (i : Nat)).f1 5).toNat (1 + wth (wrap64 (Int.tdiv (rd_T83 l (i : Nat)).f1 5)) 7)
def userK (k : Nat) : ByteArray := if k = 0 then ⟨#[42]⟩ else strOfNums [96 + (k : Int)]
def outTo (h : List Int) : Nat → List S83
  | 0 => []
  | k + 1 => if (outTo h k).length < 4 ∧ h.getD k 0 > 0 then outTo h k ++ [⟨userK k, h.getD k 0⟩] else outTo h k
theorem hasTo_in (l : List S83) : ∀ i x, x ∈ hasTo l i → 0 ≤ x ∧ x ≤ 7
  | 0, x, h => by simp [hasTo] at h; omega
  | i + 1, x, h => by
    unfold hasTo at h
    rcases List.mem_or_eq_of_mem_set h with h | h
    · exact hasTo_in l i x h
    · have := wth_in (wrap64 (Int.tdiv (rd_T83 l (i : Nat)).f1 5)) 7 (by decide)
      omega
theorem outTo_le (h : List Int) : ∀ k, (outTo h k).length ≤ 4
  | 0 => by simp [outTo]
  | k + 1 => by
    have := outTo_le h k
    unfold outTo
    split
    · rename_i hc; simp; omega
    · exact this
theorem outTo_full {h : List Int} {k : Nat} (hf : ¬ (outTo h k).length < 4) : ∀ m, outTo h (k + m) = outTo h k
  | 0 => rfl
  | m + 1 => by
    have ih := outTo_full hf m
    have h1 : outTo h (k + (m + 1)) = if (outTo h (k + m)).length < 4 ∧ h.getD (k + m) 0 > 0 then outTo h (k + m) ++ [⟨userK (k + m), h.getD (k + m) 0⟩] else outTo h (k + m) := rfl
    rw [h1, ih, if_neg (fun hc => hf hc.1)]
def aclOf (l : List S83) : List S83 := outTo (hasTo l (min l.length 8)) 5
def donjonlaw11_Acl.f (l0 : List (S83)) : Option ((List (S83))) := some (aclOf l0)
attribute [local go_sem] setCell_drewN_
set_option maxHeartbeats 4000000 in
set_option maxRecDepth 100000 in
theorem donjonlaw11_Acl.calls (A0 : Option Addr) (c0 : Nat) (l0 : List (S83)) (r : List (S83)) (w : World) (hr0 : Kd.C k83 w A0 l0.length l0) (hc0 : l0.length ≤ c0) (h : donjonlaw11_Acl.f l0 = some r) :
    Calls Tryd.prog 23 #[.slice A0 l0.length c0] w fun e w' => ∃ v0_ : Value, e = .returned (v0_) ∧ Kd.R k83 83 w' w.heap.size (fun _ => True) v0_ r ∧ Below w.heap.size w w' := by
  obtain rfl := Option.some.inj h
  clear h
  have hmx : l0.length ≤ 9223372036854775807 := hr0.2.1
  have HR := Lib.hid hr0
  clear hr0
  have hu := Tryd.underlying83
  have H0 := Lib.hid (show aclOf l0 = outTo (hasTo l0 (min l0.length 8)) 5 from rfl)
  generalize aclOf l0 = r at *
  go_enter Tryd.func23, Tryd.ntmps23
  go_wp2_with fail
  go_loopw [4] (fun s4 w' => ∃ (i : Nat) (a b c d e : Int) (q : Nat), s4 = .int .i64 i ∧ i ≤ l0.length ∧ i ≤ 8 ∧ Aside0 (hasTo l0 i = [a, b, c, d, e]) ∧ w' = (w.alloc (.cells #[.int .i64 a, .int .i64 b, .int .i64 c, .int .i64 d, .int .i64 e] 81)).drewN q) (fun s4 _ => 8 - (intOf s4).toNat)
  case atStart => exact ⟨0, 0, 0, 0, 0, 0, 0, rfl, Nat.zero_le _, Nat.zero_le _, ⟨rfl⟩, rfl⟩
  case round =>
    obtain ⟨i, a, b, c, d, e, q, rfl, hi, hi8, HA, rfl⟩ := hrel
    by_cases hlt : i < l0.length
    · by_cases hlt8 : i < 8
      · obtain ⟨ad, rfl, hx0, hx1⟩ := at_T83 HR.out (i : Int) (by omega) (by omega)
        simp only [Int.toNat_natCast] at hx0 hx1
        have hbk := World.block_lt_of_cell? _ _ hx0
        have HN := Lib.hid (show hasTo l0 (i + 1) = (hasTo l0 i).set (wth (rd_T83 l0 (i : Nat)).f1 5).toNat (1 + wth (wrap64 (Int.tdiv (rd_T83 l0 (i : Nat)).f1 5)) 7) from rfl)
        generalize rd_T83 l0 (i : Nat) = g at *
        have W1 := Lib.hid (within11_is g.f1 5 (by decide) (by decide))
        have W2 := Lib.hid (within11_is (wrap64 (Int.tdiv g.f1 5)) 7 (by decide) (by decide))
        have i1 := wth_in g.f1 5 (by decide)
        have i2 := wth_in (wrap64 (Int.tdiv g.f1 5)) 7 (by decide)
        generalize hk1 : wth g.f1 5 = k1 at *
        generalize hk2 : wth (wrap64 (Int.tdiv g.f1 5)) 7 = k2 at *
        clear hk1 hk2
        go_wp2_with fail
        refine (donjonlaw11_within.calls _ _ _ _ W1.out).mono ?_
        rintro e w1 ⟨rfl, q1, rfl⟩
        go_wp2_with fail
        refine (donjonlaw11_within.calls _ _ _ _ W2.out).mono ?_
        rintro e w1 ⟨rfl, q2, rfl⟩
        have hk5 : k1 = 0 ∨ k1 = 1 ∨ k1 = 2 ∨ k1 = 3 ∨ k1 = 4 := by omega
        rcases hk5 with rfl | rfl | rfl | rfl | rfl
        all_goals
          go_wp2_with fail
          exact ⟨⟨i + 1, _, _, _, _, _, q + q1 + q2, by go_num, hlt, hlt8, ⟨by rw [HN.out, HA.out]; rfl⟩, rfl⟩, by simp [intOf]; omega⟩
      · have HM := Lib.hid (show min l0.length 8 = i by omega)
        go_wp2_with fail
        have hfive : ∀ x ∈ [a, b, c, d, e], 0 ≤ x ∧ x ≤ 7 := by rw [← HA.out]; exact hasTo_in l0 i
        have ha := hfive a (by simp)
        have hb := hfive b (by simp)
        have hc := hfive c (by simp)
        have hd := hfive d (by simp)
        have he := hfive e (by simp)
        clear hfive
        have HA2 := Lib.hid (show r = outTo [a, b, c, d, e] 5 by rw [H0.out, HM.out, HA.out])
        clear HA
        have hal : w.heap.size < (w.alloc (.cells #[.int .i64 a, .int .i64 b, .int .i64 c, .int .i64 d, .int .i64 e] 81)).heap.size := by simp
        go_loopw [6, 7] (fun s6 s7 w' => ∃ k : Nat, s7 = .int .i64 k ∧ k ≤ 5 ∧ Aside0 (Kd.R k83 83 w' w.heap.size (fun g => w.heap.size < g) s6 (outTo [a, b, c, d, e] k)) ∧
            (w'.cell? ⟨w.heap.size, 0, none⟩ = some (.int .i64 a) ∧ w'.cell? ⟨w.heap.size, 1, none⟩ = some (.int .i64 b) ∧ w'.cell? ⟨w.heap.size, 2, none⟩ = some (.int .i64 c) ∧ w'.cell? ⟨w.heap.size, 3, none⟩ = some (.int .i64 d) ∧ w'.cell? ⟨w.heap.size, 4, none⟩ = some (.int .i64 e)) ∧ Below w.heap.size w w') (fun _ s7 _ => 5 - (intOf s7).toNat)
        case atStart => exact ⟨0, rfl, Nat.zero_le _, ⟨Kd.R_nil _ _ _ _ _⟩, ⟨World.cell?_alloc_at _ _ _ _ rfl, World.cell?_alloc_at _ _ _ _ rfl, World.cell?_alloc_at _ _ _ _ rfl, World.cell?_alloc_at _ _ _ _ rfl, World.cell?_alloc_at _ _ _ _ rfl⟩, pw_below_drewN (below_alloc (Below.refl _ _) _) _⟩
        case round =>
          clear HR
          obtain ⟨k, rfl, hk, HO, ⟨y0, y1, y2, y3, y4⟩, hB⟩ := hrel
          obtain ⟨As, cs, rfl⟩ := Kd.R_slice HO.out
          have hol := outTo_le [a, b, c, d, e] k
          have HX := Lib.hid (show outTo [a, b, c, d, e] (k + 1) = if (outTo [a, b, c, d, e] k).length < 4 ∧ [a, b, c, d, e].getD k 0 > 0 then outTo [a, b, c, d, e] k ++ [⟨userK k, [a, b, c, d, e].getD k 0⟩] else outTo [a, b, c, d, e] k from rfl)
          by_cases hk5 : k < 5
          · by_cases h4 : (outTo [a, b, c, d, e] k).length < 4
            · have hk0 : k = 0 ∨ k = 1 ∨ k = 2 ∨ k = 3 ∨ k = 4 := by omega
              clear hk hk5
              have hwlt : w.heap.size < wr.heap.size := World.block_lt_of_cell? _ _ y0
              have hown : some w.heap.size ≠ (Value.slice As (outTo [a, b, c, d, e] k).length cs).ownBlock := fun h => Nat.lt_irrefl _ (HO.out.1 _ h.symm)
              rcases hk0 with rfl | rfl | rfl | rfl | rfl
              · simp only [List.getD_cons_zero, List.getD_cons_succ] at HX
                by_cases hp : a > 0
                · have HY := Lib.hid (HX.out.trans (if_pos ⟨h4, hp⟩))
                  clear HX
                  have HO1 := HO
                  have hB1 := Lib.hid hB
                  have hsz1 : w.heap.size ≤ wr.heap.size := Nat.le_of_lt hwlt
                  have hltb : w.heap.size < wr.heap.size := hwlt
                  go_wp2_with (first | ((with_reducible refine gate_builtin (b := .append) (xs := #[.tmp 56, .tmp 62]) rfl ?_); at_builtin; refine Kd.R_append k83 (w0 := w) w.heap.size rfl (.tmp 56) (.tmp 62) 27 83 (.agg #[.string ⟨#[]⟩, .int .i64 0]) 24 rfl Tryd.underlying27 (by kernel_rfl) rfl (by decide) (by omega) (.slice As (outTo [a, b, c, d, e] 0).length cs) (outTo [a, b, c, d, e] 0) (⟨⟨#[42]⟩, a⟩ : S83) _ (fun g => w.heap.size < g) (fun _ => False) rfl rfl (k83_mkM _ _ _ (⟨⟨#[42]⟩, a⟩ : S83)) (fun _ hk => hk.elim) (fun k hk => Nat.lt_of_lt_of_le hltb hk) HO1.out hB1.out hsz1 (by omega) ?_; intro v2 w7 ho2 hbb2 hg2 hat2))
                  exact ⟨⟨1, rfl, by omega, ⟨by rw [HY.out]; exact ho2⟩, ⟨Go.Proofs.YtpdflhgcdehmoaaDoorW.PrintWords.cell_grown hg2 (y0) hown, Go.Proofs.YtpdflhgcdehmoaaDoorW.PrintWords.cell_grown hg2 (y1) hown, Go.Proofs.YtpdflhgcdehmoaaDoorW.PrintWords.cell_grown hg2 (y2) hown, Go.Proofs.YtpdflhgcdehmoaaDoorW.PrintWords.cell_grown hg2 (y3) hown, Go.Proofs.YtpdflhgcdehmoaaDoorW.PrintWords.cell_grown hg2 (y4) hown⟩, hbb2⟩, by simp [intOf]⟩
                · have HY := Lib.hid (HX.out.trans (if_neg (fun h => hp h.2)))
                  clear HX
                  go_wp2_with fail
                  exact ⟨⟨1, rfl, by omega, ⟨by rw [HY.out]; exact HO.out⟩, ⟨y0, y1, y2, y3, y4⟩, hB⟩, by simp [intOf]⟩
              · simp only [List.getD_cons_zero, List.getD_cons_succ] at HX
                by_cases hp : b > 0
                · have HY := Lib.hid (HX.out.trans (if_pos ⟨h4, hp⟩))
                  clear HX
                  have hcv := string_of_reads (P := Tryd.prog) (src := 80) (dst := 9) (c := 1) Tryd.underlying80 Tryd.underlying5 Tryd.underlying9 (reads_one 97 wr 5)
                  have HO1 := Lib.hid (Kd.R_alloc HO.out (.cells #[.int .u8 97] 5))
                  have hB1 := Lib.hid (below_alloc hB (.cells #[.int .u8 97] 5))
                  have HSQ := Lib.hid (show (wr.alloc (.cells #[.int .u8 97] 5)).heap.size = wr.heap.size + 1 by simp)
                  have hsz1 : w.heap.size ≤ (wr.alloc (.cells #[.int .u8 97] 5)).heap.size := by simp; omega
                  have hltb : w.heap.size < (wr.alloc (.cells #[.int .u8 97] 5)).heap.size := by simp; omega
                  go_wp2_with (first | ((with_reducible refine gate_builtin (b := .append) (xs := #[.tmp 56, .tmp 62]) rfl ?_); at_builtin; refine Kd.R_append k83 (w0 := w) w.heap.size rfl (.tmp 56) (.tmp 62) 27 83 (.agg #[.string ⟨#[]⟩, .int .i64 0]) 24 rfl Tryd.underlying27 (by kernel_rfl) rfl (by decide) (by omega) (.slice As (outTo [a, b, c, d, e] 1).length cs) (outTo [a, b, c, d, e] 1) (⟨strOfNums [97], b⟩ : S83) _ (fun g => w.heap.size < g) (fun _ => False) rfl (by rw [HSQ.out]; rfl) (k83_mkM _ _ _ (⟨strOfNums [97], b⟩ : S83)) (fun _ hk => hk.elim) (fun k hk => Nat.lt_of_lt_of_le hltb hk) HO1.out hB1.out hsz1 (by omega) ?_; intro v2 w7 ho2 hbb2 hg2 hat2))
                  exact ⟨⟨2, rfl, by omega, ⟨by rw [HY.out]; exact ho2⟩, ⟨Go.Proofs.YtpdflhgcdehmoaaDoorW.PrintWords.cell_grown hg2 ((World.cell?_alloc_past _ _ _ hwlt).trans y0) hown, Go.Proofs.YtpdflhgcdehmoaaDoorW.PrintWords.cell_grown hg2 ((World.cell?_alloc_past _ _ _ hwlt).trans y1) hown, Go.Proofs.YtpdflhgcdehmoaaDoorW.PrintWords.cell_grown hg2 ((World.cell?_alloc_past _ _ _ hwlt).trans y2) hown, Go.Proofs.YtpdflhgcdehmoaaDoorW.PrintWords.cell_grown hg2 ((World.cell?_alloc_past _ _ _ hwlt).trans y3) hown, Go.Proofs.YtpdflhgcdehmoaaDoorW.PrintWords.cell_grown hg2 ((World.cell?_alloc_past _ _ _ hwlt).trans y4) hown⟩, hbb2⟩, by simp [intOf]⟩
                · have HY := Lib.hid (HX.out.trans (if_neg (fun h => hp h.2)))
                  clear HX
                  go_wp2_with fail
                  exact ⟨⟨2, rfl, by omega, ⟨by rw [HY.out]; exact HO.out⟩, ⟨y0, y1, y2, y3, y4⟩, hB⟩, by simp [intOf]⟩
              · simp only [List.getD_cons_zero, List.getD_cons_succ] at HX
                by_cases hp : c > 0
                · have HY := Lib.hid (HX.out.trans (if_pos ⟨h4, hp⟩))
                  clear HX
                  have hcv := string_of_reads (P := Tryd.prog) (src := 80) (dst := 9) (c := 1) Tryd.underlying80 Tryd.underlying5 Tryd.underlying9 (reads_one 98 wr 5)
                  have HO1 := Lib.hid (Kd.R_alloc HO.out (.cells #[.int .u8 98] 5))
                  have hB1 := Lib.hid (below_alloc hB (.cells #[.int .u8 98] 5))
                  have HSQ := Lib.hid (show (wr.alloc (.cells #[.int .u8 98] 5)).heap.size = wr.heap.size + 1 by simp)
                  have hsz1 : w.heap.size ≤ (wr.alloc (.cells #[.int .u8 98] 5)).heap.size := by simp; omega
                  have hltb : w.heap.size < (wr.alloc (.cells #[.int .u8 98] 5)).heap.size := by simp; omega
                  go_wp2_with (first | ((with_reducible refine gate_builtin (b := .append) (xs := #[.tmp 56, .tmp 62]) rfl ?_); at_builtin; refine Kd.R_append k83 (w0 := w) w.heap.size rfl (.tmp 56) (.tmp 62) 27 83 (.agg #[.string ⟨#[]⟩, .int .i64 0]) 24 rfl Tryd.underlying27 (by kernel_rfl) rfl (by decide) (by omega) (.slice As (outTo [a, b, c, d, e] 2).length cs) (outTo [a, b, c, d, e] 2) (⟨strOfNums [98], c⟩ : S83) _ (fun g => w.heap.size < g) (fun _ => False) rfl (by rw [HSQ.out]; rfl) (k83_mkM _ _ _ (⟨strOfNums [98], c⟩ : S83)) (fun _ hk => hk.elim) (fun k hk => Nat.lt_of_lt_of_le hltb hk) HO1.out hB1.out hsz1 (by omega) ?_; intro v2 w7 ho2 hbb2 hg2 hat2))
                  exact ⟨⟨3, rfl, by omega, ⟨by rw [HY.out]; exact ho2⟩, ⟨Go.Proofs.YtpdflhgcdehmoaaDoorW.PrintWords.cell_grown hg2 ((World.cell?_alloc_past _ _ _ hwlt).trans y0) hown, Go.Proofs.YtpdflhgcdehmoaaDoorW.PrintWords.cell_grown hg2 ((World.cell?_alloc_past _ _ _ hwlt).trans y1) hown, Go.Proofs.YtpdflhgcdehmoaaDoorW.PrintWords.cell_grown hg2 ((World.cell?_alloc_past _ _ _ hwlt).trans y2) hown, Go.Proofs.YtpdflhgcdehmoaaDoorW.PrintWords.cell_grown hg2 ((World.cell?_alloc_past _ _ _ hwlt).trans y3) hown, Go.Proofs.YtpdflhgcdehmoaaDoorW.PrintWords.cell_grown hg2 ((World.cell?_alloc_past _ _ _ hwlt).trans y4) hown⟩, hbb2⟩, by simp [intOf]⟩
                · have HY := Lib.hid (HX.out.trans (if_neg (fun h => hp h.2)))
                  clear HX
                  go_wp2_with fail
                  exact ⟨⟨3, rfl, by omega, ⟨by rw [HY.out]; exact HO.out⟩, ⟨y0, y1, y2, y3, y4⟩, hB⟩, by simp [intOf]⟩
              · simp only [List.getD_cons_zero, List.getD_cons_succ] at HX
                by_cases hp : d > 0
                · have HY := Lib.hid (HX.out.trans (if_pos ⟨h4, hp⟩))
                  clear HX
                  have hcv := string_of_reads (P := Tryd.prog) (src := 80) (dst := 9) (c := 1) Tryd.underlying80 Tryd.underlying5 Tryd.underlying9 (reads_one 99 wr 5)
                  have HO1 := Lib.hid (Kd.R_alloc HO.out (.cells #[.int .u8 99] 5))
                  have hB1 := Lib.hid (below_alloc hB (.cells #[.int .u8 99] 5))
                  have HSQ := Lib.hid (show (wr.alloc (.cells #[.int .u8 99] 5)).heap.size = wr.heap.size + 1 by simp)
                  have hsz1 : w.heap.size ≤ (wr.alloc (.cells #[.int .u8 99] 5)).heap.size := by simp; omega
                  have hltb : w.heap.size < (wr.alloc (.cells #[.int .u8 99] 5)).heap.size := by simp; omega
                  go_wp2_with (first | ((with_reducible refine gate_builtin (b := .append) (xs := #[.tmp 56, .tmp 62]) rfl ?_); at_builtin; refine Kd.R_append k83 (w0 := w) w.heap.size rfl (.tmp 56) (.tmp 62) 27 83 (.agg #[.string ⟨#[]⟩, .int .i64 0]) 24 rfl Tryd.underlying27 (by kernel_rfl) rfl (by decide) (by omega) (.slice As (outTo [a, b, c, d, e] 3).length cs) (outTo [a, b, c, d, e] 3) (⟨strOfNums [99], d⟩ : S83) _ (fun g => w.heap.size < g) (fun _ => False) rfl (by rw [HSQ.out]; rfl) (k83_mkM _ _ _ (⟨strOfNums [99], d⟩ : S83)) (fun _ hk => hk.elim) (fun k hk => Nat.lt_of_lt_of_le hltb hk) HO1.out hB1.out hsz1 (by omega) ?_; intro v2 w7 ho2 hbb2 hg2 hat2))
                  exact ⟨⟨4, rfl, by omega, ⟨by rw [HY.out]; exact ho2⟩, ⟨Go.Proofs.YtpdflhgcdehmoaaDoorW.PrintWords.cell_grown hg2 ((World.cell?_alloc_past _ _ _ hwlt).trans y0) hown, Go.Proofs.YtpdflhgcdehmoaaDoorW.PrintWords.cell_grown hg2 ((World.cell?_alloc_past _ _ _ hwlt).trans y1) hown, Go.Proofs.YtpdflhgcdehmoaaDoorW.PrintWords.cell_grown hg2 ((World.cell?_alloc_past _ _ _ hwlt).trans y2) hown, Go.Proofs.YtpdflhgcdehmoaaDoorW.PrintWords.cell_grown hg2 ((World.cell?_alloc_past _ _ _ hwlt).trans y3) hown, Go.Proofs.YtpdflhgcdehmoaaDoorW.PrintWords.cell_grown hg2 ((World.cell?_alloc_past _ _ _ hwlt).trans y4) hown⟩, hbb2⟩, by simp [intOf]⟩
                · have HY := Lib.hid (HX.out.trans (if_neg (fun h => hp h.2)))
                  clear HX
                  go_wp2_with fail
                  exact ⟨⟨4, rfl, by omega, ⟨by rw [HY.out]; exact HO.out⟩, ⟨y0, y1, y2, y3, y4⟩, hB⟩, by simp [intOf]⟩
              · simp only [List.getD_cons_zero, List.getD_cons_succ] at HX
                by_cases hp : e > 0
                · have HY := Lib.hid (HX.out.trans (if_pos ⟨h4, hp⟩))
                  clear HX
                  have hcv := string_of_reads (P := Tryd.prog) (src := 80) (dst := 9) (c := 1) Tryd.underlying80 Tryd.underlying5 Tryd.underlying9 (reads_one 100 wr 5)
                  have HO1 := Lib.hid (Kd.R_alloc HO.out (.cells #[.int .u8 100] 5))
                  have hB1 := Lib.hid (below_alloc hB (.cells #[.int .u8 100] 5))
                  have HSQ := Lib.hid (show (wr.alloc (.cells #[.int .u8 100] 5)).heap.size = wr.heap.size + 1 by simp)
                  have hsz1 : w.heap.size ≤ (wr.alloc (.cells #[.int .u8 100] 5)).heap.size := by simp; omega
                  have hltb : w.heap.size < (wr.alloc (.cells #[.int .u8 100] 5)).heap.size := by simp; omega
                  go_wp2_with (first | ((with_reducible refine gate_builtin (b := .append) (xs := #[.tmp 56, .tmp 62]) rfl ?_); at_builtin; refine Kd.R_append k83 (w0 := w) w.heap.size rfl (.tmp 56) (.tmp 62) 27 83 (.agg #[.string ⟨#[]⟩, .int .i64 0]) 24 rfl Tryd.underlying27 (by kernel_rfl) rfl (by decide) (by omega) (.slice As (outTo [a, b, c, d, e] 4).length cs) (outTo [a, b, c, d, e] 4) (⟨strOfNums [100], e⟩ : S83) _ (fun g => w.heap.size < g) (fun _ => False) rfl (by rw [HSQ.out]; rfl) (k83_mkM _ _ _ (⟨strOfNums [100], e⟩ : S83)) (fun _ hk => hk.elim) (fun k hk => Nat.lt_of_lt_of_le hltb hk) HO1.out hB1.out hsz1 (by omega) ?_; intro v2 w7 ho2 hbb2 hg2 hat2))
                  exact ⟨⟨5, rfl, by omega, ⟨by rw [HY.out]; exact ho2⟩, ⟨Go.Proofs.YtpdflhgcdehmoaaDoorW.PrintWords.cell_grown hg2 ((World.cell?_alloc_past _ _ _ hwlt).trans y0) hown, Go.Proofs.YtpdflhgcdehmoaaDoorW.PrintWords.cell_grown hg2 ((World.cell?_alloc_past _ _ _ hwlt).trans y1) hown, Go.Proofs.YtpdflhgcdehmoaaDoorW.PrintWords.cell_grown hg2 ((World.cell?_alloc_past _ _ _ hwlt).trans y2) hown, Go.Proofs.YtpdflhgcdehmoaaDoorW.PrintWords.cell_grown hg2 ((World.cell?_alloc_past _ _ _ hwlt).trans y3) hown, Go.Proofs.YtpdflhgcdehmoaaDoorW.PrintWords.cell_grown hg2 ((World.cell?_alloc_past _ _ _ hwlt).trans y4) hown⟩, hbb2⟩, by simp [intOf]⟩
                · have HY := Lib.hid (HX.out.trans (if_neg (fun h => hp h.2)))
                  clear HX
                  go_wp2_with fail
                  exact ⟨⟨5, rfl, by omega, ⟨by rw [HY.out]; exact HO.out⟩, ⟨y0, y1, y2, y3, y4⟩, hB⟩, by simp [intOf]⟩
            · have HF := Lib.hid (outTo_full h4 (5 - k))
              go_wp2_with fail
              go_ret
              exact ⟨_, rfl, by rw [HA2.out, ← show k + (5 - k) = 5 by omega, HF.out]; exact Kd.R_mono HO.out (fun _ _ => trivial), hB⟩
          · obtain rfl : k = 5 := by omega
            go_wp2_with fail
            go_ret
            exact ⟨_, rfl, by rw [HA2.out]; exact Kd.R_mono HO.out (fun _ _ => trivial), hB⟩
    · have HM := Lib.hid (show min l0.length 8 = i by omega)
      go_wp2_with fail
      have hfive : ∀ x ∈ [a, b, c, d, e], 0 ≤ x ∧ x ≤ 7 := by rw [← HA.out]; exact hasTo_in l0 i
      have ha := hfive a (by simp)
      have hb := hfive b (by simp)
      have hc := hfive c (by simp)
      have hd := hfive d (by simp)
      have he := hfive e (by simp)
      clear hfive
      have HA2 := Lib.hid (show r = outTo [a, b, c, d, e] 5 by rw [H0.out, HM.out, HA.out])
      clear HA
      have hal : w.heap.size < (w.alloc (.cells #[.int .i64 a, .int .i64 b, .int .i64 c, .int .i64 d, .int .i64 e] 81)).heap.size := by simp
      go_loopw [6, 7] (fun s6 s7 w' => ∃ k : Nat, s7 = .int .i64 k ∧ k ≤ 5 ∧ Aside0 (Kd.R k83 83 w' w.heap.size (fun g => w.heap.size < g) s6 (outTo [a, b, c, d, e] k)) ∧
          (w'.cell? ⟨w.heap.size, 0, none⟩ = some (.int .i64 a) ∧ w'.cell? ⟨w.heap.size, 1, none⟩ = some (.int .i64 b) ∧ w'.cell? ⟨w.heap.size, 2, none⟩ = some (.int .i64 c) ∧ w'.cell? ⟨w.heap.size, 3, none⟩ = some (.int .i64 d) ∧ w'.cell? ⟨w.heap.size, 4, none⟩ = some (.int .i64 e)) ∧ Below w.heap.size w w') (fun _ s7 _ => 5 - (intOf s7).toNat)
      case atStart => exact ⟨0, rfl, Nat.zero_le _, ⟨Kd.R_nil _ _ _ _ _⟩, ⟨World.cell?_alloc_at _ _ _ _ rfl, World.cell?_alloc_at _ _ _ _ rfl, World.cell?_alloc_at _ _ _ _ rfl, World.cell?_alloc_at _ _ _ _ rfl, World.cell?_alloc_at _ _ _ _ rfl⟩, pw_below_drewN (below_alloc (Below.refl _ _) _) _⟩
      case round =>
        clear HR
        obtain ⟨k, rfl, hk, HO, ⟨y0, y1, y2, y3, y4⟩, hB⟩ := hrel
        obtain ⟨As, cs, rfl⟩ := Kd.R_slice HO.out
        have hol := outTo_le [a, b, c, d, e] k
        have HX := Lib.hid (show outTo [a, b, c, d, e] (k + 1) = if (outTo [a, b, c, d, e] k).length < 4 ∧ [a, b, c, d, e].getD k 0 > 0 then outTo [a, b, c, d, e] k ++ [⟨userK k, [a, b, c, d, e].getD k 0⟩] else outTo [a, b, c, d, e] k from rfl)
        by_cases hk5 : k < 5
        · by_cases h4 : (outTo [a, b, c, d, e] k).length < 4
          · have hk0 : k = 0 ∨ k = 1 ∨ k = 2 ∨ k = 3 ∨ k = 4 := by omega
            clear hk hk5
            have hwlt : w.heap.size < wr.heap.size := World.block_lt_of_cell? _ _ y0
            have hown : some w.heap.size ≠ (Value.slice As (outTo [a, b, c, d, e] k).length cs).ownBlock := fun h => Nat.lt_irrefl _ (HO.out.1 _ h.symm)
            rcases hk0 with rfl | rfl | rfl | rfl | rfl
            · simp only [List.getD_cons_zero, List.getD_cons_succ] at HX
              by_cases hp : a > 0
              · have HY := Lib.hid (HX.out.trans (if_pos ⟨h4, hp⟩))
                clear HX
                have HO1 := HO
                have hB1 := Lib.hid hB
                have hsz1 : w.heap.size ≤ wr.heap.size := Nat.le_of_lt hwlt
                have hltb : w.heap.size < wr.heap.size := hwlt
                go_wp2_with (first | ((with_reducible refine gate_builtin (b := .append) (xs := #[.tmp 56, .tmp 62]) rfl ?_); at_builtin; refine Kd.R_append k83 (w0 := w) w.heap.size rfl (.tmp 56) (.tmp 62) 27 83 (.agg #[.string ⟨#[]⟩, .int .i64 0]) 24 rfl Tryd.underlying27 (by kernel_rfl) rfl (by decide) (by omega) (.slice As (outTo [a, b, c, d, e] 0).length cs) (outTo [a, b, c, d, e] 0) (⟨⟨#[42]⟩, a⟩ : S83) _ (fun g => w.heap.size < g) (fun _ => False) rfl rfl (k83_mkM _ _ _ (⟨⟨#[42]⟩, a⟩ : S83)) (fun _ hk => hk.elim) (fun k hk => Nat.lt_of_lt_of_le hltb hk) HO1.out hB1.out hsz1 (by omega) ?_; intro v2 w7 ho2 hbb2 hg2 hat2))
                exact ⟨⟨1, rfl, by omega, ⟨by rw [HY.out]; exact ho2⟩, ⟨Go.Proofs.YtpdflhgcdehmoaaDoorW.PrintWords.cell_grown hg2 (y0) hown, Go.Proofs.YtpdflhgcdehmoaaDoorW.PrintWords.cell_grown hg2 (y1) hown, Go.Proofs.YtpdflhgcdehmoaaDoorW.PrintWords.cell_grown hg2 (y2) hown, Go.Proofs.YtpdflhgcdehmoaaDoorW.PrintWords.cell_grown hg2 (y3) hown, Go.Proofs.YtpdflhgcdehmoaaDoorW.PrintWords.cell_grown hg2 (y4) hown⟩, hbb2⟩, by simp [intOf]⟩
              · have HY := Lib.hid (HX.out.trans (if_neg (fun h => hp h.2)))
                clear HX
                go_wp2_with fail
                exact ⟨⟨1, rfl, by omega, ⟨by rw [HY.out]; exact HO.out⟩, ⟨y0, y1, y2, y3, y4⟩, hB⟩, by simp [intOf]⟩
            · simp only [List.getD_cons_zero, List.getD_cons_succ] at HX
              by_cases hp : b > 0
              · have HY := Lib.hid (HX.out.trans (if_pos ⟨h4, hp⟩))
                clear HX
                have hcv := string_of_reads (P := Tryd.prog) (src := 80) (dst := 9) (c := 1) Tryd.underlying80 Tryd.underlying5 Tryd.underlying9 (reads_one 97 wr 5)
                have HO1 := Lib.hid (Kd.R_alloc HO.out (.cells #[.int .u8 97] 5))
                have hB1 := Lib.hid (below_alloc hB (.cells #[.int .u8 97] 5))
                have HSQ := Lib.hid (show (wr.alloc (.cells #[.int .u8 97] 5)).heap.size = wr.heap.size + 1 by simp)
                have hsz1 : w.heap.size ≤ (wr.alloc (.cells #[.int .u8 97] 5)).heap.size := by simp; omega
                have hltb : w.heap.size < (wr.alloc (.cells #[.int .u8 97] 5)).heap.size := by simp; omega
                go_wp2_with (first | ((with_reducible refine gate_builtin (b := .append) (xs := #[.tmp 56, .tmp 62]) rfl ?_); at_builtin; refine Kd.R_append k83 (w0 := w) w.heap.size rfl (.tmp 56) (.tmp 62) 27 83 (.agg #[.string ⟨#[]⟩, .int .i64 0]) 24 rfl Tryd.underlying27 (by kernel_rfl) rfl (by decide) (by omega) (.slice As (outTo [a, b, c, d, e] 1).length cs) (outTo [a, b, c, d, e] 1) (⟨strOfNums [97], b⟩ : S83) _ (fun g => w.heap.size < g) (fun _ => False) rfl (by rw [HSQ.out]; rfl) (k83_mkM _ _ _ (⟨strOfNums [97], b⟩ : S83)) (fun _ hk => hk.elim) (fun k hk => Nat.lt_of_lt_of_le hltb hk) HO1.out hB1.out hsz1 (by omega) ?_; intro v2 w7 ho2 hbb2 hg2 hat2))
                exact ⟨⟨2, rfl, by omega, ⟨by rw [HY.out]; exact ho2⟩, ⟨Go.Proofs.YtpdflhgcdehmoaaDoorW.PrintWords.cell_grown hg2 ((World.cell?_alloc_past _ _ _ hwlt).trans y0) hown, Go.Proofs.YtpdflhgcdehmoaaDoorW.PrintWords.cell_grown hg2 ((World.cell?_alloc_past _ _ _ hwlt).trans y1) hown, Go.Proofs.YtpdflhgcdehmoaaDoorW.PrintWords.cell_grown hg2 ((World.cell?_alloc_past _ _ _ hwlt).trans y2) hown, Go.Proofs.YtpdflhgcdehmoaaDoorW.PrintWords.cell_grown hg2 ((World.cell?_alloc_past _ _ _ hwlt).trans y3) hown, Go.Proofs.YtpdflhgcdehmoaaDoorW.PrintWords.cell_grown hg2 ((World.cell?_alloc_past _ _ _ hwlt).trans y4) hown⟩, hbb2⟩, by simp [intOf]⟩
              · have HY := Lib.hid (HX.out.trans (if_neg (fun h => hp h.2)))
                clear HX
                go_wp2_with fail
                exact ⟨⟨2, rfl, by omega, ⟨by rw [HY.out]; exact HO.out⟩, ⟨y0, y1, y2, y3, y4⟩, hB⟩, by simp [intOf]⟩
            · simp only [List.getD_cons_zero, List.getD_cons_succ] at HX
              by_cases hp : c > 0
              · have HY := Lib.hid (HX.out.trans (if_pos ⟨h4, hp⟩))
                clear HX
                have hcv := string_of_reads (P := Tryd.prog) (src := 80) (dst := 9) (c := 1) Tryd.underlying80 Tryd.underlying5 Tryd.underlying9 (reads_one 98 wr 5)
                have HO1 := Lib.hid (Kd.R_alloc HO.out (.cells #[.int .u8 98] 5))
                have hB1 := Lib.hid (below_alloc hB (.cells #[.int .u8 98] 5))
                have HSQ := Lib.hid (show (wr.alloc (.cells #[.int .u8 98] 5)).heap.size = wr.heap.size + 1 by simp)
                have hsz1 : w.heap.size ≤ (wr.alloc (.cells #[.int .u8 98] 5)).heap.size := by simp; omega
                have hltb : w.heap.size < (wr.alloc (.cells #[.int .u8 98] 5)).heap.size := by simp; omega
                go_wp2_with (first | ((with_reducible refine gate_builtin (b := .append) (xs := #[.tmp 56, .tmp 62]) rfl ?_); at_builtin; refine Kd.R_append k83 (w0 := w) w.heap.size rfl (.tmp 56) (.tmp 62) 27 83 (.agg #[.string ⟨#[]⟩, .int .i64 0]) 24 rfl Tryd.underlying27 (by kernel_rfl) rfl (by decide) (by omega) (.slice As (outTo [a, b, c, d, e] 2).length cs) (outTo [a, b, c, d, e] 2) (⟨strOfNums [98], c⟩ : S83) _ (fun g => w.heap.size < g) (fun _ => False) rfl (by rw [HSQ.out]; rfl) (k83_mkM _ _ _ (⟨strOfNums [98], c⟩ : S83)) (fun _ hk => hk.elim) (fun k hk => Nat.lt_of_lt_of_le hltb hk) HO1.out hB1.out hsz1 (by omega) ?_; intro v2 w7 ho2 hbb2 hg2 hat2))
                exact ⟨⟨3, rfl, by omega, ⟨by rw [HY.out]; exact ho2⟩, ⟨Go.Proofs.YtpdflhgcdehmoaaDoorW.PrintWords.cell_grown hg2 ((World.cell?_alloc_past _ _ _ hwlt).trans y0) hown, Go.Proofs.YtpdflhgcdehmoaaDoorW.PrintWords.cell_grown hg2 ((World.cell?_alloc_past _ _ _ hwlt).trans y1) hown, Go.Proofs.YtpdflhgcdehmoaaDoorW.PrintWords.cell_grown hg2 ((World.cell?_alloc_past _ _ _ hwlt).trans y2) hown, Go.Proofs.YtpdflhgcdehmoaaDoorW.PrintWords.cell_grown hg2 ((World.cell?_alloc_past _ _ _ hwlt).trans y3) hown, Go.Proofs.YtpdflhgcdehmoaaDoorW.PrintWords.cell_grown hg2 ((World.cell?_alloc_past _ _ _ hwlt).trans y4) hown⟩, hbb2⟩, by simp [intOf]⟩
              · have HY := Lib.hid (HX.out.trans (if_neg (fun h => hp h.2)))
                clear HX
                go_wp2_with fail
                exact ⟨⟨3, rfl, by omega, ⟨by rw [HY.out]; exact HO.out⟩, ⟨y0, y1, y2, y3, y4⟩, hB⟩, by simp [intOf]⟩
            · simp only [List.getD_cons_zero, List.getD_cons_succ] at HX
              by_cases hp : d > 0
              · have HY := Lib.hid (HX.out.trans (if_pos ⟨h4, hp⟩))
                clear HX
                have hcv := string_of_reads (P := Tryd.prog) (src := 80) (dst := 9) (c := 1) Tryd.underlying80 Tryd.underlying5 Tryd.underlying9 (reads_one 99 wr 5)
                have HO1 := Lib.hid (Kd.R_alloc HO.out (.cells #[.int .u8 99] 5))
                have hB1 := Lib.hid (below_alloc hB (.cells #[.int .u8 99] 5))
                have HSQ := Lib.hid (show (wr.alloc (.cells #[.int .u8 99] 5)).heap.size = wr.heap.size + 1 by simp)
                have hsz1 : w.heap.size ≤ (wr.alloc (.cells #[.int .u8 99] 5)).heap.size := by simp; omega
                have hltb : w.heap.size < (wr.alloc (.cells #[.int .u8 99] 5)).heap.size := by simp; omega
                go_wp2_with (first | ((with_reducible refine gate_builtin (b := .append) (xs := #[.tmp 56, .tmp 62]) rfl ?_); at_builtin; refine Kd.R_append k83 (w0 := w) w.heap.size rfl (.tmp 56) (.tmp 62) 27 83 (.agg #[.string ⟨#[]⟩, .int .i64 0]) 24 rfl Tryd.underlying27 (by kernel_rfl) rfl (by decide) (by omega) (.slice As (outTo [a, b, c, d, e] 3).length cs) (outTo [a, b, c, d, e] 3) (⟨strOfNums [99], d⟩ : S83) _ (fun g => w.heap.size < g) (fun _ => False) rfl (by rw [HSQ.out]; rfl) (k83_mkM _ _ _ (⟨strOfNums [99], d⟩ : S83)) (fun _ hk => hk.elim) (fun k hk => Nat.lt_of_lt_of_le hltb hk) HO1.out hB1.out hsz1 (by omega) ?_; intro v2 w7 ho2 hbb2 hg2 hat2))
                exact ⟨⟨4, rfl, by omega, ⟨by rw [HY.out]; exact ho2⟩, ⟨Go.Proofs.YtpdflhgcdehmoaaDoorW.PrintWords.cell_grown hg2 ((World.cell?_alloc_past _ _ _ hwlt).trans y0) hown, Go.Proofs.YtpdflhgcdehmoaaDoorW.PrintWords.cell_grown hg2 ((World.cell?_alloc_past _ _ _ hwlt).trans y1) hown, Go.Proofs.YtpdflhgcdehmoaaDoorW.PrintWords.cell_grown hg2 ((World.cell?_alloc_past _ _ _ hwlt).trans y2) hown, Go.Proofs.YtpdflhgcdehmoaaDoorW.PrintWords.cell_grown hg2 ((World.cell?_alloc_past _ _ _ hwlt).trans y3) hown, Go.Proofs.YtpdflhgcdehmoaaDoorW.PrintWords.cell_grown hg2 ((World.cell?_alloc_past _ _ _ hwlt).trans y4) hown⟩, hbb2⟩, by simp [intOf]⟩
              · have HY := Lib.hid (HX.out.trans (if_neg (fun h => hp h.2)))
                clear HX
                go_wp2_with fail
                exact ⟨⟨4, rfl, by omega, ⟨by rw [HY.out]; exact HO.out⟩, ⟨y0, y1, y2, y3, y4⟩, hB⟩, by simp [intOf]⟩
            · simp only [List.getD_cons_zero, List.getD_cons_succ] at HX
              by_cases hp : e > 0
              · have HY := Lib.hid (HX.out.trans (if_pos ⟨h4, hp⟩))
                clear HX
                have hcv := string_of_reads (P := Tryd.prog) (src := 80) (dst := 9) (c := 1) Tryd.underlying80 Tryd.underlying5 Tryd.underlying9 (reads_one 100 wr 5)
                have HO1 := Lib.hid (Kd.R_alloc HO.out (.cells #[.int .u8 100] 5))
                have hB1 := Lib.hid (below_alloc hB (.cells #[.int .u8 100] 5))
                have HSQ := Lib.hid (show (wr.alloc (.cells #[.int .u8 100] 5)).heap.size = wr.heap.size + 1 by simp)
                have hsz1 : w.heap.size ≤ (wr.alloc (.cells #[.int .u8 100] 5)).heap.size := by simp; omega
                have hltb : w.heap.size < (wr.alloc (.cells #[.int .u8 100] 5)).heap.size := by simp; omega
                go_wp2_with (first | ((with_reducible refine gate_builtin (b := .append) (xs := #[.tmp 56, .tmp 62]) rfl ?_); at_builtin; refine Kd.R_append k83 (w0 := w) w.heap.size rfl (.tmp 56) (.tmp 62) 27 83 (.agg #[.string ⟨#[]⟩, .int .i64 0]) 24 rfl Tryd.underlying27 (by kernel_rfl) rfl (by decide) (by omega) (.slice As (outTo [a, b, c, d, e] 4).length cs) (outTo [a, b, c, d, e] 4) (⟨strOfNums [100], e⟩ : S83) _ (fun g => w.heap.size < g) (fun _ => False) rfl (by rw [HSQ.out]; rfl) (k83_mkM _ _ _ (⟨strOfNums [100], e⟩ : S83)) (fun _ hk => hk.elim) (fun k hk => Nat.lt_of_lt_of_le hltb hk) HO1.out hB1.out hsz1 (by omega) ?_; intro v2 w7 ho2 hbb2 hg2 hat2))
                exact ⟨⟨5, rfl, by omega, ⟨by rw [HY.out]; exact ho2⟩, ⟨Go.Proofs.YtpdflhgcdehmoaaDoorW.PrintWords.cell_grown hg2 ((World.cell?_alloc_past _ _ _ hwlt).trans y0) hown, Go.Proofs.YtpdflhgcdehmoaaDoorW.PrintWords.cell_grown hg2 ((World.cell?_alloc_past _ _ _ hwlt).trans y1) hown, Go.Proofs.YtpdflhgcdehmoaaDoorW.PrintWords.cell_grown hg2 ((World.cell?_alloc_past _ _ _ hwlt).trans y2) hown, Go.Proofs.YtpdflhgcdehmoaaDoorW.PrintWords.cell_grown hg2 ((World.cell?_alloc_past _ _ _ hwlt).trans y3) hown, Go.Proofs.YtpdflhgcdehmoaaDoorW.PrintWords.cell_grown hg2 ((World.cell?_alloc_past _ _ _ hwlt).trans y4) hown⟩, hbb2⟩, by simp [intOf]⟩
              · have HY := Lib.hid (HX.out.trans (if_neg (fun h => hp h.2)))
                clear HX
                go_wp2_with fail
                exact ⟨⟨5, rfl, by omega, ⟨by rw [HY.out]; exact HO.out⟩, ⟨y0, y1, y2, y3, y4⟩, hB⟩, by simp [intOf]⟩
          · have HF := Lib.hid (outTo_full h4 (5 - k))
            go_wp2_with fail
            go_ret
            exact ⟨_, rfl, by rw [HA2.out, ← show k + (5 - k) = 5 by omega, HF.out]; exact Kd.R_mono HO.out (fun _ _ => trivial), hB⟩
        · obtain rfl : k = 5 := by omega
          go_wp2_with fail
          go_ret
          exact ⟨_, rfl, by rw [HA2.out]; exact Kd.R_mono HO.out (fun _ _ => trivial), hB⟩
end Go.Proofs.YtpdflhgcdehmoaaDoor.T
namespace Go.Proofs.YtpdflhgcdehmoaaDoor.T
open Go.RowKit Go.Proofs.YtpdflhgcdehmoaaDoorW.PrintWords Go.Proofs.YtpdflhgcdehmoaaDoorW.PrintLast Go.Proofs.YtpdflhgcdehmoaaDoorW.PrintMore
attribute [local go_sem] max2_int min2_int max_two min_two max_three min_three max_four min_four
set_option linter.unusedVariables false
set_option linter.unusedSimpArgs false
theorem userK_list (k : Nat) (h : k < 5) : (userK k).toList = if k = 0 then [42] else [UInt8.ofNat (96 + k)] := by
  have hk : k = 0 ∨ k = 1 ∨ k = 2 ∨ k = 3 ∨ k = 4 := by omega
  rcases hk with rfl | rfl | rfl | rfl | rfl <;> rw [Lib.toList_data] <;> rfl
theorem userK_lt {i j : Nat} (h : i < j) (hj : j < 5) : (userK i).toList < (userK j).toList := by
  rw [userK_list i (by omega), userK_list j hj]
  have hk : (i = 0 ∧ j = 1) ∨ (i = 0 ∧ j = 2) ∨ (i = 0 ∧ j = 3) ∨ (i = 0 ∧ j = 4) ∨ (i = 1 ∧ j = 2) ∨ (i = 1 ∧ j = 3) ∨ (i = 1 ∧ j = 4) ∨ (i = 2 ∧ j = 3) ∨ (i = 2 ∧ j = 4) ∨ (i = 3 ∧ j = 4) := by omega
  rcases hk with ⟨rfl, rfl⟩ | ⟨rfl, rfl⟩ | ⟨rfl, rfl⟩ | ⟨rfl, rfl⟩ | ⟨rfl, rfl⟩ | ⟨rfl, rfl⟩ | ⟨rfl, rfl⟩ | ⟨rfl, rfl⟩ | ⟨rfl, rfl⟩ | ⟨rfl, rfl⟩ <;> decide
theorem userK_who (k : Nat) (h : k < 5) : whoP (userK k) = true := by
  have hk : k = 0 ∨ k = 1 ∨ k = 2 ∨ k = 3 ∨ k = 4 := by omega
  unfold whoP
  rcases hk with rfl | rfl | rfl | rfl | rfl
  · rw [userK_list 0 (by decide)]; rfl
  all_goals
    rw [Bool.or_eq_true]
    right
    rfl
theorem outTo_good {h : List Int} (hh : ∀ x ∈ h, 0 ≤ x ∧ x ≤ 7) : ∀ k, k ≤ 5 → (outTo h k).Pairwise (fun a b => a.f0.toList < b.f0.toList) ∧ ∀ g ∈ outTo h k, (∃ j, j < k ∧ g.f0 = userK j) ∧ 1 ≤ g.f1 ∧ g.f1 ≤ 7
  | 0, _ => ⟨List.Pairwise.nil, fun g hg => by cases hg⟩
  | k + 1, hk => by
    obtain ⟨h1, h2⟩ := outTo_good hh k (by omega)
    have hold : ∀ g ∈ outTo h k, (∃ j, j < k + 1 ∧ g.f0 = userK j) ∧ 1 ≤ g.f1 ∧ g.f1 ≤ 7 := fun g hg => by
      obtain ⟨⟨j, hj, he⟩, h3⟩ := h2 g hg
      exact ⟨⟨j, by omega, he⟩, h3⟩
    unfold outTo
    split
    · rename_i hc
      have hx : 0 ≤ h.getD k 0 ∧ h.getD k 0 ≤ 7 := by
        rw [List.getD_eq_getElem?_getD]
        cases he : h[k]? with
        | none => simp
        | some x => exact hh x (List.mem_of_getElem? he)
      refine ⟨?_, fun g hg => ?_⟩
      · rw [List.pairwise_append]
        refine ⟨h1, List.pairwise_singleton _ _, fun a ha b hb => ?_⟩
        obtain ⟨⟨j, hj, he⟩, -⟩ := h2 a ha
        rw [List.mem_singleton.1 hb, he]
        exact userK_lt hj (by omega)
      · rcases List.mem_append.1 hg with hg | hg
        · exact hold g hg
        · rw [List.mem_singleton.1 hg]
          exact ⟨⟨k, by omega, rfl⟩, by have := hc.2; show 1 ≤ h.getD k 0; omega, hx.2⟩
    · exact ⟨h1, hold⟩
theorem acl_get (l : List S83) (i : Nat) (h : i < l.length) : rd_T83 l (i : Int) = l[i] := by
  simp [rd_T83, List.getD_eq_getElem?_getD, h]
theorem aclChk_rows {l : List S83} (h4 : l.length ≤ 4) (hp : l.Pairwise fun a b => a.f0.toList < b.f0.toList) (hg : ∀ g ∈ l, whoP g.f0 = true ∧ 1 ≤ g.f1 ∧ g.f1 ≤ 7) : aclChk l = 0 :=
  aclChk_good (by omega) fun i hi => by
    obtain ⟨h1, h2, h3⟩ := hg _ (List.getElem_mem hi)
    unfold aclBad
    rw [acl_get l i hi, h1]
    have e1 : decide (l[i].f1 < 1) = false := decide_eq_false (by omega)
    have e2 : decide (7 < l[i].f1) = false := decide_eq_false (by omega)
    rw [e1, e2]
    by_cases h0 : 0 < i
    · have e : ((i : Int) - 1) = ((i - 1 : Nat) : Int) := by omega
      rw [e, acl_get l (i - 1) (by omega), bytes_lt, decide_eq_true (List.pairwise_iff_getElem.1 hp (i - 1) i (by omega) hi (by omega))]
      simp
    · rw [decide_eq_false h0]
      simp
theorem aclOf_chk (l : List S83) : aclChk (aclOf l) = 0 := by
  obtain ⟨h1, h2⟩ := outTo_good (h := hasTo l (min l.length 8)) (hasTo_in l _) 5 (Nat.le_refl _)
  exact aclChk_rows (outTo_le _ 5) h1 fun g hg => by
    obtain ⟨⟨j, hj, he⟩, h3⟩ := h2 g hg
    exact ⟨by rw [he]; exact userK_who j hj, h3⟩
theorem all_chk : aclChk [⟨⟨#[42]⟩, 7⟩] = 0 := aclChk_rows (by decide) (List.pairwise_singleton _ _) fun g hg => by
  rw [List.mem_singleton.1 hg]
  exact ⟨by unfold whoP; rw [Lib.toList_data]; rfl, by decide, by decide⟩
theorem segs_ofL : ∀ l : List Int, segs (ofL l) = [] :: l.map (fun x => segP x ((wth x 3).toNat + 1))
  | [] => rfl
  | x :: r => by
    have ih := segs_ofL r
    have h5 := wth_in (wrap64 (Int.tdiv x 3)) 5 (by decide)
    have hseg : ∀ c ∈ segP x ((wth x 3).toNat + 1), c ≠ 47 := fun c hc => by
      have := List.eq_of_mem_replicate hc
      rw [this]
      have hx : wth (wrap64 (Int.tdiv x 3)) 5 = 0 ∨ wth (wrap64 (Int.tdiv x 3)) 5 = 1 ∨ wth (wrap64 (Int.tdiv x 3)) 5 = 2 ∨ wth (wrap64 (Int.tdiv x 3)) 5 = 3 ∨ wth (wrap64 (Int.tdiv x 3)) 5 = 4 := by omega
      rcases hx with e | e | e | e | e <;> rw [e] <;> decide
    have h1 := segs_app _ _ hseg ih
    rw [List.append_nil] at h1
    show segs (47 :: (segP x ((wth x 3).toNat + 1) ++ ofL r)) = _
    rw [segs, if_pos rfl, h1]
    rfl
theorem segP_name (x : Int) : nameL (segP x ((wth x 3).toNat + 1)) = true := by
  have h3 := wth_in x 3 (by decide)
  have h5 := wth_in (wrap64 (Int.tdiv x 3)) 5 (by decide)
  unfold nameL
  rw [segP_length]
  have e : (segP x ((wth x 3).toNat + 1)).all okB = true := by
    rw [List.all_eq_true]
    intro c hc
    rw [List.eq_of_mem_replicate hc]
    have hx : wth (wrap64 (Int.tdiv x 3)) 5 = 0 ∨ wth (wrap64 (Int.tdiv x 3)) 5 = 1 ∨ wth (wrap64 (Int.tdiv x 3)) 5 = 2 ∨ wth (wrap64 (Int.tdiv x 3)) 5 = 3 ∨ wth (wrap64 (Int.tdiv x 3)) 5 = 4 := by omega
    rcases hx with e | e | e | e | e <;> rw [e] <;> decide
  rw [e]
  simp
  omega
theorem ofP_chk (l : List Int) : pathChk (ofP l) = 0 := by
  have hsz := ofP_size l
  unfold ofP ofF at hsz ⊢
  by_cases h : ofL (l.take 6) = []
  · rw [if_pos h] at hsz ⊢
    unfold pathChk
    rw [if_neg (by decide), if_pos rfl]
  · rw [if_neg h] at hsz ⊢
    have hs : segs (⟨(ofL (l.take 6)).toArray⟩ : ByteArray).data.toList = [] :: (l.take 6).map (fun x => segP x ((wth x 3).toNat + 1)) := by
      show segs (ofL (l.take 6)).toArray.toList = _
      rw [List.toList_toArray]
      exact segs_ofL _
    refine pathChk_good (by omega) hs ⟨rfl, ?_, ?_, ?_⟩
    · rw [List.length_map]
      cases ht : l.take 6 with
      | nil => rw [ht] at h; exact absurd rfl h
      | cons x r => simp
    · rw [List.length_map]; simp; omega
    · rw [List.all_map, List.all_eq_true]
      intro x hx
      exact segP_name x
end Go.Proofs.YtpdflhgcdehmoaaDoor.T
namespace Go.Proofs.YtpdflhgcdehmoaaDoor.T
open Go.RowKit Go.Proofs.YtpdflhgcdehmoaaDoorW.PrintWords Go.Proofs.YtpdflhgcdehmoaaDoorW.PrintLast Go.Proofs.YtpdflhgcdehmoaaDoorW.PrintMore
attribute [local go_sem] max2_int min2_int max_two min_two max_three min_three max_four min_four
set_option linter.unusedVariables false
set_option linter.unusedSimpArgs false
theorem N_one {α : Type} (d : Kd α) (e base : Nat) (W : World) {x : α} {cs : List Value} {ok okp : Nat → Prop} (hp : Kd.FK d W okp x cs) (hok : ∀ k, okp k → ok k) (hfresh : ok W.heap.size) (hbase : base ≤ W.heap.size) :
    Kd.N d e (W.alloc (.cells cs.toArray e)) base ok (.slice (some ⟨W.heap.size, 0, none⟩) 1 1) [x] := by
  have hlen : cs.length = d.sz := d.K_len (Kd.FK_now hp)
  have hrep : Reps (Kd.FK d W okp) d.sz [x] cs := ⟨by simp [hlen], fun j y hy => by
    cases j with
    | zero =>
      simp only [List.getElem?_cons_zero, Option.some.injEq] at hy
      subst hy
      rw [Nat.zero_mul, List.drop_zero, List.take_of_length_le (by omega)]
      exact hp
    | succ j => simp at hy⟩
  refine Kd.N_made (W := W) (okp := okp) (rows := Kd.chunks d.sz 1 cs) ⟨fun k hk => ?_, cs, ?_, ?_⟩ (World.grownBy_alloc W _ none) ⟨W.heap.size, by simp [Value.ownBlock], Nat.le_refl _⟩ (by simp [Kd.chunks_length]) (fun j y c hy hc => by rw [Kd.chunks_get hc]; exact hrep.2 j y hy) hok hfresh
  · have : W.heap.size = k := by simpa [Value.ownBlock] using hk
    exact this.symm
  · have h2 := World.ownsRow_lit (base := base) (e := e) (size := d.sz) W cs.toArray 1 hbase (by simp [maxLen]) (by simp [hlen])
    have h3 : (Kd.chunks d.sz 1 cs).length = 1 := Kd.chunks_length _ _ _
    rw [h3]
    have h5 : (W.alloc (.cells cs.toArray e)).ownsRow base e d.sz (.slice (some ⟨W.heap.size, 0, none⟩) 1 1) 1 cs := by simpa using h2
    exact h5
  · have h4 := Kd.reps_raw hrep (fun y c hk => ⟨d.K_len (Kd.FK_now hk), d.K_one (Kd.FK_now hk)⟩)
    exact h4
theorem R_one {α : Type} (d : Kd α) (e base : Nat) (W : World) {x : α} {cs : List Value} {ok : Nat → Prop} (hM : ∀ W' okp, d.M W' base okp x cs) (hfresh : ok W.heap.size) (hbase : base ≤ W.heap.size) :
    d.R e (W.alloc (.cells cs.toArray e)) base ok (.slice (some ⟨W.heap.size, 0, none⟩) 1 1) [x] := by
  have hlen : cs.length = d.sz := d.K_len (d.K_of_M (hM W ok))
  refine ⟨fun k hk => ?_, cs, ?_, ⟨by simp [hlen], fun j y hy => ?_⟩⟩
  · have : W.heap.size = k := by simpa [Value.ownBlock] using hk
    exact this ▸ hfresh
  · exact World.ownsRow_lit (base := base) (e := e) (size := d.sz) W cs.toArray 1 hbase (by simp [maxLen]) (by simp [hlen])
  · cases j with
    | zero =>
      simp only [List.getElem?_cons_zero, Option.some.injEq] at hy
      subst hy
      rw [Nat.zero_mul, List.drop_zero, List.take_of_length_le (by omega)]
      exact hM _ _
    | succ j => simp at hy
theorem R_empty {α : Type} (d : Kd α) (e base : Nat) (W : World) {ok : Nat → Prop} (hfresh : ok W.heap.size) (hbase : base ≤ W.heap.size) :
    d.R e (W.alloc (.cells #[] e)) base ok (.slice (some ⟨W.heap.size, 0, none⟩) 0 0) [] := by
  refine ⟨fun k hk => ?_, [], ?_, ⟨by simp, fun j y hy => by simp at hy⟩⟩
  · have : W.heap.size = k := by simpa [Value.ownBlock] using hk
    exact this ▸ hfresh
  · exact World.ownsRow_lit (base := base) (e := e) (size := d.sz) W #[] 0 hbase (by simp [maxLen]) (by simp)
end Go.Proofs.YtpdflhgcdehmoaaDoor.T
namespace Go.Proofs.YtpdflhgcdehmoaaDoor.T
open Go.RowKit Go.Proofs.YtpdflhgcdehmoaaDoorW.PrintWords Go.Proofs.YtpdflhgcdehmoaaDoorW.PrintLast Go.Proofs.YtpdflhgcdehmoaaDoorW.PrintMore
attribute [local go_sem] max2_int min2_int max_two min_two max_three min_three max_four min_four
set_option linter.unusedVariables false
set_option linter.unusedSimpArgs false
section
variable {P : Program} {ops : Array Oper} {md : Region.Mode} {C : World → Prop}
def sinkP (md : Region.Mode) (ops : Array Oper) (p n : Nat) : Bool :=
  (List.range n).all fun i => decide (i < p) || (List.range (n + 1)).any fun j => decide (i < j) && Region.waitsFor md ops j i
theorem tail_waitsP {p n : Nat} {listed : Array Bool} (hs : sinkP md ops p n = true) (hc : Region.chainB md ops n = true) (hn : n < ops.size) (inv : HeadInv md ops n listed) :
    ∀ (d i : Nat), n - i = d → p ≤ i → i < n → listed.getD i true = false → ∀ t, n ≤ t → t ∉ Region.ready md ops listed := by
  intro d
  induction d using Nat.strongRecOn with
  | _ d ih =>
    intro i hd hp hi hun t ht hr
    obtain ⟨_, ot, hot, hall⟩ := mem_ready.1 hr
    have htlt : t < ops.size := (Array.getElem?_eq_some_iff.1 hot).1
    by_cases htn : t = n
    · subst htn
      have h1 := List.all_eq_true.1 hs i (List.mem_range.2 hi)
      simp only [Bool.or_eq_true, decide_eq_true_eq] at h1
      rcases h1 with h1 | h1
      · omega
      obtain ⟨j, hj, hj2⟩ := List.any_eq_true.1 h1
      simp only [Bool.and_eq_true, decide_eq_true_eq] at hj2
      obtain ⟨oj, hoj, e, he, hb, hon⟩ := Region.waitsFor_spec hj2.2
      have hjle : j ≤ t := by have := List.mem_range.1 hj; omega
      by_cases hjt : j = t
      · subst hjt
        have : oj = ot := Option.some.inj (hoj.symm.trans hot)
        subst this
        have h2 := hall e he hb
        rw [hon, getD_both hun] at h2
        cases h2
      · cases hl : listed.getD j false with
        | true =>
          have h2 := inv.closed j oj hoj hl e he hb
          rw [hon, getD_both hun] at h2
          cases h2
        | false =>
          have hjs : j < listed.size := by rw [inv.size]; omega
          exact ih (t - j) (by omega) j rfl (by omega) (by omega) (getD_in hjs hl) t (Nat.le_refl _) hr
    · have h1 := List.all_eq_true.1 hc t (List.mem_range.2 htlt)
      simp only [Bool.or_eq_true, decide_eq_true_eq] at h1
      rcases h1 with h1 | h1
      · omega
      · obtain ⟨o', ho', e, he, hb, hon⟩ := Region.waitsFor_spec h1
        have : o' = ot := Option.some.inj (ho'.symm.trans hot)
        subst this
        have h2 := hall e he hb
        rw [hon, getD_both (inv.tail (t - 1) (by omega) (by omega))] at h2
        cases h2
theorem wpAnyT_takeP {p n i : Nat} {oi : Oper} {v : Value} {L : Array Bool → Act → Prop} (hi : ops[i]? = some oi) (hsel : ∀ (j : Nat) (o : Oper) cs b, ops[j]? = some o → o.op ≠ .select cs b)
    (hs : sinkP md ops p n = true) (hc : Region.chainB md ops n = true) (hn : n < ops.size) (hpi : p ≤ i) (hin : i < n) (hdone : ∀ done a, L done a → ∀ j ∈ Region.ready md ops done, n ≤ j) :
    ∀ (f : Nat) (done : Array Bool) (a : Act), HeadInv md ops n done →
      (∀ j oj, ops[j]? = some oj → j ≠ i → done.getD j true = false → (∀ e ∈ oj.after, Region.binds md e = true → e.on ≠ i) → oi.apart ops oj = true) →
      i ∈ Region.ready md ops done → YieldsIn P ops C oi v a →
      wpAnyT P md ops C n L f (done.setIfInBounds i true) (a.put oi.dst v) → wpAnyT P md ops C n L (f + 1) done a := by
  intro f
  induction f with
  | zero =>
    intro done a inv _ hr hy H
    have hun := (mem_ready.1 hr).1
    refine ⟨fun h => (by rw [h] at hr; cases hr), fun j hj => ?_⟩
    have hjn : j < n := Nat.lt_of_not_le fun h => tail_waitsP hs hc hn inv _ i rfl hpi hin hun j h hj
    refine ⟨hjn, ?_⟩
    rcases Nat.decEq j i with hji | hji
    · exact absurd (hdone _ _ H j (ready_mono hj hji)) (by omega)
    · subst hji
      exact hy.qOp hi H
  | succ f ih =>
    intro done a inv hfree hr hy H
    have hun := (mem_ready.1 hr).1
    refine ⟨fun h => (by rw [h] at hr; cases hr), fun j hj => ?_⟩
    have hjn : j < n := Nat.lt_of_not_le fun h => tail_waitsP hs hc hn inv _ i rfl hpi hin hun j h hj
    refine ⟨hjn, ?_⟩
    rcases Nat.decEq j i with hji | hji
    · have h1 := (H.2 j (ready_mono hj hji)).2
      obtain ⟨hjun, oj, hoj, hall⟩ := mem_ready.1 hj
      have hnot : ∀ e ∈ oj.after, Region.binds md e = true → e.on ≠ i := fun e he hb heq => by
        have h2 := hall e he hb
        rw [heq, getD_both hun] at h2
        cases h2
      have h2 := qOp_put hoj (hfree j oj hoj hji hjun hnot) (fun cs b => hsel i oi cs b hi) (fun cs b => hsel j oj cs b hoj) hy h1
      refine qOp_mono (fun a' h3 => ih _ a' (inv.set hj hjn) (fun k ok hk hki hunk hno => hfree k ok hk hki ?_ hno) (ready_mono hr (Ne.symm hji)) h3.1 ?_) h2
      · rcases Nat.decEq j k with hjk | hjk
        · rwa [getD_set_ne true hjk] at hunk
        · exact hjk ▸ hjun
      · rw [Array.setIfInBounds_comm _ _ hji]
        exact h3.2
    · subst hji
      exact hy.qOp hi H
theorem wpAnyT_textP {p n g : Nat} {Lq : Act → Prop} (hsel : Region.noSelect ops = true) (hs : sinkP md ops p n = true) (hc : Region.chainB md ops n = true) (hn : n < ops.size) :
    ∀ (l : List Oper) (k : Nat) (done : Array Bool) (a : Act), (∀ j, j < l.length → l[j]? = ops[k + j]?) → p ≤ k → k + l.length = n → HeadInv md ops n done →
    Region.lexHead md ops g l.length k done = true → wpQuiet P ops C Lq l a →
    wpAnyT P md ops C n (fun done' a' => Region.seqB md ops g n done' = true ∧ Lq a') l.length done a
  | [], k, done, a, _, _, hk, _, hB, h => by
    obtain rfl : k = n := by simpa using hk
    exact ⟨by simpa [Region.lexHead] using hB, h⟩
  | o :: l, k, done, a, hl, hpk, hk, inv, hB, h => by
    have h0 : ops[k]? = some o := by simpa using (hl 0 (by simp)).symm
    simp only [List.length_cons, Region.lexHead, Bool.and_eq_true] at hB
    obtain ⟨⟨hr, hf⟩, hB'⟩ := hB
    have hkn : k < n := by simp only [List.length_cons] at hk; omega
    have hr' : k ∈ Region.ready md ops done := by simpa using hr
    obtain ⟨v, hy, hK⟩ := yieldsIn_of_qOp (C := C) (K := wpQuiet P ops C Lq l) h0 (by unfold qOp; simp only [h0]; exact h)
    exact wpAnyT_takeP h0 (Region.noSelect_spec hsel) hs hc hn hpk hkn (fun done' a' hL => seqB_ready hL.1) l.length done a inv (Region.free_spec h0 hf) hr' hy
      (wpAnyT_textP hsel hs hc hn l (k + 1) _ _ (fun j hj => by have := hl (j + 1) (by simp; omega); simpa [Nat.add_assoc, Nat.add_comm 1 j] using this) (by omega) (by simp only [List.length_cons] at hk; omega) (inv.set hr' hkn) hB' hK)
def wpYields (P : Program) (ops : Array Oper) (K : Act → Prop) : List Oper → Act → Prop
  | [], a => K a
  | o :: l, a => ∃ v, Yields P ops o v a ∧ wpYields P ops K l (a.put o.dst v)
theorem wpAny_yields {n m g : Nat} {Q : Exit → Act → World → Prop} (hsel : Region.noSelect ops = true) (hQ : ∀ c a w, ¬ Q (.panic c) a w → True) (hQ2 : ∀ (o : Oper) v c a w, Q (.panic c) (a.put o.dst v) w → Q (.panic c) a w) {K : Act → Prop} {fuel : Nat} {w : World}
    (hK : ∀ done a, HeadInv md ops n done → Region.lexHead md ops g m (n - m) done = true → K a → wpAny P md ops Q fuel done a w) :
    ∀ (l : List Oper) (k : Nat) (done : Array Bool) (a : Act), (∀ j, j < l.length → l[j]? = ops[k + j]?) → k + l.length + m = n → HeadInv md ops n done →
    Region.lexHead md ops g (l.length + m) k done = true → wpYields P ops K l a → wpAny P md ops Q (l.length + fuel) done a w
  | [], k, done, a, _, hk, inv, hB, h => by
    have hkm : k = n - m := by simp at hk; omega
    rw [List.length_nil, Nat.zero_add]
    exact hK done a inv (by rw [← hkm]; simpa using hB) h
  | o :: l, k, done, a, hl, hk, inv, hB, h => by
    have h0 : ops[k]? = some o := by simpa using (hl 0 (by simp)).symm
    rw [List.length_cons, show l.length + 1 + m = (l.length + m) + 1 by omega] at hB
    simp only [Region.lexHead, Bool.and_eq_true] at hB
    obtain ⟨⟨hr, hf⟩, hB'⟩ := hB
    have hkn : k < n := by simp only [List.length_cons] at hk; omega
    obtain ⟨v, hy, hh⟩ := h
    rw [List.length_cons, show l.length + 1 + fuel = (l.length + fuel) + 1 by omega]
    refine wpAny_take h0 hsel hf hr (fun c a w => hQ2 o v c a w) hy ?_
    exact wpAny_yields hsel hQ hQ2 hK l (k + 1) _ _ (fun j hj => by have := hl (j + 1) (by simp; omega); simpa [Nat.add_assoc, Nat.add_comm 1 j] using this) (by simp only [List.length_cons] at hk; omega) (inv.set (by simpa using hr) hkn) hB' hh
def Region.lexPreB (md : Region.Mode) (ops : Array Oper) (p n : Nat) : Bool :=
  Region.noSelect ops && decide (n < ops.size) && decide (p ≤ n) && sinkP md ops p n && Region.chainB md ops n && Region.lexHead md ops (ops.size - n) n 0 (Array.replicate ops.size false)
theorem wp_region_pre_tail {id : Nat} {Q : Exit → Act → World → Prop} {a : Act} {w : World} {l : List Oper} (p n : Nat) (hm : P.follows .mixedOrders = true) (hB : Region.lexPreB .any l.toArray p n = true)
    (h : wpYields P l.toArray (fun a1 => wpQuiet P l.toArray (fun w' => Below w.heap.size w w') (fun a' => ∀ w', Below w.heap.size w w' → wpList P l.toArray (NoPanic Q) (l.drop n) a' w') ((l.take n).drop p) a1) (l.take p) a) : (Code.region id l.toArray true).wp P Q a w := by
  simp only [Region.lexPreB, Bool.and_eq_true, decide_eq_true_eq] at hB
  obtain ⟨⟨⟨⟨⟨hsel, hn⟩, hpn⟩, hs⟩, hc⟩, hlex⟩ := hB
  have hn' : n < l.length := by simpa using hn
  have htl : (l.take n).length = n := by simp; omega
  have hpl : (l.take p).length = p := by simp; omega
  have hml : ((l.take n).drop p).length = n - p := by simp; omega
  have hdl : (l.drop n).length = l.toArray.size - n := by simp
  refine wp_region_noPanic (wp_region_any hm ?_)
  have H := wpAny_yields (P := P) (ops := l.toArray) (md := .any) (n := n) (m := n - p) (g := l.toArray.size - n) (Q := NoPanic Q) (fuel := (n - p) + (l.toArray.size - n)) (w := w.drew) hsel (fun _ _ _ _ => trivial) (fun o v c a w hq => hq)
    (K := fun a1 => wpQuiet P l.toArray (fun w' => Below w.heap.size w w') (fun a' => ∀ w', Below w.heap.size w w' → wpList P l.toArray (NoPanic Q) (l.drop n) a' w') ((l.take n).drop p) a1)
    (fun done a1 inv hlx hk => by
      have HT := wpAnyT_textP (C := fun w' => Below w.heap.size w w') (md := .any) (p := p) (g := l.toArray.size - n) hsel hs hc hn ((l.take n).drop p) p done a1
        (fun j hj => by
          have hj' : p + j < n := by rw [hml] at hj; omega
          simp [hj']) (Nat.le_refl _) (by rw [hml]; omega) inv (by rw [hml]; rwa [show n - (n - p) = p by omega] at hlx) hk
      rw [hml] at HT
      exact wpAny_of_T (Q' := NoPanic Q) (g := l.toArray.size - n) (fun done a' w' hw' hL => by
        have h3 := wpAny_of_seq (md := .any) (Q' := NoPanic Q) (l.drop n) n done a' w' (fun j => by simp [List.getElem?_drop]) (by rw [hdl]; exact hL.1) (hL.2 w' hw')
        rwa [hdl] at h3) _ _ _ _ (below_drew (Below.refl _ _)) HT)
    (l.take p) 0 (Array.replicate l.toArray.size false) a
    (fun j hj => by have hj' : j < p := by rwa [hpl] at hj
                    simp [hj'])
    (by rw [hpl]; omega)
    ⟨by simp, fun j oj _ hl => (by rw [getD_replicate_false] at hl; cases hl), fun t _ ht => getD_in (by simpa using ht) (getD_replicate_false _ _)⟩
    (by rw [hpl, show p + (n - p) = n by omega]; exact hlex) h
  rw [hpl, show p + ((n - p) + (l.toArray.size - n)) = l.toArray.size by omega] at H
  exact H
end
end Go.Proofs.YtpdflhgcdehmoaaDoor.T
