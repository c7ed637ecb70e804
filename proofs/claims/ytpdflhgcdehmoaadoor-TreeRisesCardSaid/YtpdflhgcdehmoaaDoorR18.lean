/- Part of the proof that TreeRises comes to true: printed and written texts, merged by a program. -/
import Derived.StillTail
import Derived.Test.YtpdflhgcdehmoaaDoorR3
import Derived.Test.YtpdflhgcdehmoaaDoorR16
namespace Go.Proofs.YtpdflhgcdehmoaaDoor.T
open Go.RowKit Go.Proofs.YtpdflhgcdehmoaaDoorW.PrintWords Go.Proofs.YtpdflhgcdehmoaaDoorW.PrintLast Go.Proofs.YtpdflhgcdehmoaaDoorW.PrintMore
attribute [local go_sem] max2_int min2_int max_two min_two max_three min_three max_four min_four
set_option linter.unusedVariables false
set_option linter.unusedSimpArgs false
def Box (e sz : Nat) (W : World) (base k : Nat) (C : List Value) : Prop := (Kd.raw sz).R e W base (fun b => b = k) (.slice (some ⟨k, 0, none⟩) 1 1) [C]
section
variable {e sz base k : Nat} {W W' w0 : World} {C : List Value}
theorem Box.len (h : Box e sz W base k C) : C.length = sz := by
  obtain ⟨c, hc, hM, -, -⟩ := Kd.R_elem h [] 0 (by decide) (by decide)
  have h1 : c = C ∧ c.length = sz ∧ _ := hM
  rw [← h1.1]
  exact h1.2.1
theorem Box.cell (h : Box e sz W base k C) {j : Nat} {v : Value} (hj : C[j]? = some v) : W.cell? ⟨k, j, none⟩ = some v := by
  obtain ⟨c, hc, hM, hcc, -⟩ := Kd.R_elem h [] 0 (by decide) (by decide)
  have h1 : c = C ∧ c.length = sz ∧ _ := hM
  have := hcc j v (by rw [h1.1]; exact hj)
  rwa [show (0 : Int).toNat * (Kd.raw sz).sz + j = j by simp] at this
theorem Box.free (h : Box e sz W base k C) (j : Nat) : W.frozen? ⟨k, j, none⟩ = false := by
  obtain ⟨c, hc, hM, -, hfr⟩ := Kd.R_elem h [] 0 (by decide) (by decide)
  have := hfr j
  rwa [show (0 : Int).toNat * (Kd.raw sz).sz + j = j by simp] at this
theorem Box.lt (h : Box e sz W base k C) : k < W.heap.size := Kd.R_lt h k (by simp [Value.ownBlock])
theorem Box.below (h : Box e sz W base k C) (hb : Below W.heap.size W W') : Box e sz W' base k C := Kd.R_below h hb
theorem Box.grown (h : Box e sz W base k C) {row : Option Nat} (hg : W.grownBy W' row) (hne : some k ≠ row) : Box e sz W' base k C := Kd.R_grown h hg (fun b hb => by rw [hb]; exact hne)
theorem Box.new (hb : base ≤ W.heap.size) (hl : C.length = sz) (h1 : ∀ u ∈ C, u.oneCell' = true) : Box e sz (W.alloc (.cells C.toArray e)) base W.heap.size C :=
  R_one (Kd.raw sz) e base W (fun _ _ => ⟨rfl, hl, h1⟩) rfl hb
theorem Box.new' {X : Array Value} (hb : base ≤ W.heap.size) (hX : X = C.toArray) (hl : C.length = sz) (h1 : ∀ u ∈ C, u.oneCell' = true) : Box e sz (W.alloc (.cells X e)) base W.heap.size C := by
  rw [hX]
  exact Box.new hb hl h1
theorem Box.one (h : Box e sz W base k C) : ∀ u ∈ C, u.oneCell' = true := by
  obtain ⟨c, hc, hM, -, -⟩ := Kd.R_elem h [] 0 (by decide) (by decide)
  have h1 : c = C ∧ c.length = sz ∧ ∀ u ∈ c, u.oneCell' = true := hM
  rw [← h1.1]
  exact h1.2.2
end
section
variable {P : Program} {ops : Array Oper} {rest : List Oper} {o : Oper} {a : Act} {Q : Exit → Act → World → Prop} {w0 W : World} {base e sz k : Nat} {C : List Value}
theorem Box.store (hN : o.dst = none) (hgd : o.guard = none) (t : TypeId) (p x : Operand) (ho : o.op = .store t p x) (j : Nat) (u : Value) (seg : List Value)
    (haddr : a.eval p = .pointer (some ⟨k, j, none⟩)) (hx : a.eval x = u) (hu : u.cells.toList = seg) (ht : (P.info? t).map (·.size) = some seg.length) (h1 : ∀ q ∈ seg, q.oneCell' = true)
    (HO : Box e sz W base k C) (hj : j + seg.length ≤ sz) (HB : Below base w0 W)
    (h : ∀ w1, Box e sz w1 base k (C.take j ++ seg ++ C.drop (j + seg.length)) → Below base w0 w1 → W.grownBy w1 (some k) → wpList P ops Q rest a w1) : wpList P ops Q (o :: rest) a W := by
  have hlen := HO.len
  refine Kd.R_store (Kd.raw sz) base hN hgd t p x ho e 0 j [C] (C.take j ++ seg ++ C.drop (j + seg.length)) u seg C (fun b => b = k) (fun _ => False) haddr (by simp) hx hu ht h1 HO (by decide) (by decide) hlen (fun j u hj => by
    have := HO.cell hj
    rwa [show (0 : Int).toNat * (Kd.raw sz).sz + j = j by simp]) hj ⟨rfl, ?_, ?_⟩ (fun _ hk => hk.elim) HB (fun w1 hr hb hg => h w1 hr hb hg)
  · simp only [List.length_append, List.length_take, List.length_drop]
    omega
  · intro q hq
    rcases List.mem_append.1 hq with hq | hq
    · rcases List.mem_append.1 hq with hq | hq
      · exact HO.one q (List.mem_of_mem_take hq)
      · exact h1 q hq
    · exact HO.one q (List.mem_of_mem_drop hq)
end
theorem Box.block {e sz base k : Nat} {W : World} {C : List Value} (h : Box e sz W base k C) : W.heap[k]? = some (.cells C.toArray e (0, 0)) := by
  have hlen := h.len
  have hcell : ∀ j v, C[j]? = some v → W.cell? ⟨k, j, none⟩ = some v := fun j v hj => h.cell hj
  obtain ⟨-, inner, ho, hr⟩ := h
  obtain ⟨-, ho2⟩ := ho
  rcases ho2 with ⟨he, -⟩ | ⟨g, cap, cur, he, hg, hh, hrest⟩
  · cases he
  · obtain ⟨h1, -, h3, h4⟩ := hrest
    simp only [Value.slice.injEq, Option.some.injEq, Addr.mk.injEq] at he
    obtain ⟨⟨rfl, -, -⟩, -, rfl⟩ := he
    have hsz : (Kd.raw sz).sz = sz := rfl
    rw [hsz] at h3 h4
    have hM : (inner.drop (0 * (Kd.raw sz).sz)).take (Kd.raw sz).sz = C ∧ _ := hr.2 0 C rfl
    have hci := hM.1
    rw [hsz, Nat.zero_mul, List.drop_zero, ← h4] at hci
    have hcl : cur.toList = C := by
      rw [List.take_take, List.take_of_length_le (by simp [h3])] at hci
      exact hci
    rw [hh, ← hcl]
end Go.Proofs.YtpdflhgcdehmoaaDoor.T
