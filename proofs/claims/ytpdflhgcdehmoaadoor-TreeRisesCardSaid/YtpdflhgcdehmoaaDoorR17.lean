/- Part of the proof that TreeRises comes to true: printed and written texts, merged by a program. -/
import Derived.StillTail
import Derived.Deep.RegionHeld3
import Derived.Lib.Hide
import Derived.IntWalk
import Derived.Laws.Cells
import Derived.Deep.WholeRow
import Derived.Laws.ResultCell
import Derived.Test.YtpdflhgcdehmoaaDoorR3
import Derived.Test.YtpdflhgcdehmoaaDoorR16
import Derived.Test.YtpdflhgcdehmoaaDoorR6
import Derived.Test.YtpdflhgcdehmoaaDoorR14
import Derived.Test.YtpdflhgcdehmoaaDoorR10
namespace Go.Proofs.YtpdflhgcdehmoaaDoor.T
open Go.RowKit Go.Proofs.YtpdflhgcdehmoaaDoorW.PrintWords Go.Proofs.YtpdflhgcdehmoaaDoorW.PrintLast Go.Proofs.YtpdflhgcdehmoaaDoorW.PrintMore
attribute [local go_sem] max2_int min2_int max_two min_two max_three min_three max_four min_four
set_option linter.unusedVariables false
set_option linter.unusedSimpArgs false
inductive Fact where
  | is (u : Value)
  | such (F : Value → World → Prop)
def Fact.holds : Fact → Value → World → Prop
  | .is u, v, _ => v = u
  | .such F, v, W => F v W
def Oper.makesUpon (P : Program) (R : Value → World → Prop) : Result Next → Prop
  | .ok (.value v) w' => R v w'
  | .ok .skip w' => R undef w'
  | .ok (.enter f args) w' => Calls P f args w' fun e w'' => ∃ v, e = .returned v ∧ R v w''
  | _ => False
def Oper.makes (P : Program) (o : Oper) (a : Act) (w : World) (R : Value → World → Prop) : Prop := Oper.makesUpon P R ((execOp a.eval o).run P w)
attribute [go_sem] Oper.makes Oper.makesUpon Fact.holds
theorem Oper.makes_wp {P : Program} {o : Oper} {a : Act} {w : World} {R : Value → World → Prop} {K : Act → World → Prop} {Q : Exit → Act → World → Prop} (h : Oper.makes P o a w R) (hK : ∀ v w', R v w' → K (a.put o.dst v) w') : o.wp P a w K Q := by
  unfold Oper.makes at h
  unfold Oper.wp
  generalize (execOp a.eval o).run P w = r at *
  cases r with
  | ok n w' =>
    cases n <;> simp only [Oper.makesUpon, Oper.upon] at h ⊢ <;>
      first
        | exact hK _ _ h
        | (refine Calls.mono h (fun e w'' he => ?_); obtain ⟨v, rfl, hr⟩ := he; exact hK _ _ hr)
  | halt x w' => simp only [Oper.makesUpon] at h
def needsB (o : Oper) (k : Nat) : Bool := o.after.toList.any fun e => Region.binds .any e && e.on == k
def forPuts (W : World) (need : Nat → Bool) : Nat → List (Option Tmp × Fact) → (Act → Prop) → Act → Prop
  | _, [], T, a => T a
  | k, (d, .is u) :: r, T, a => forPuts W need (k + 1) r T (a.put d u)
  | k, (d, .such F) :: r, T, a => match need k with
    | true => ∀ v, F v W → forPuts W need (k + 1) r T (a.put d v)
    | false => forPuts W need (k + 1) r T (a.put d undef)
def wpMakes (P : Program) (B : Nat) (w : World) (a : Act) : List (Option Tmp × Fact) → List (Oper × Fact) → Prop
  | _, [] => True
  | pre, (o, F) :: r => (∀ W, Below B w W → forPuts W (needsB o) 0 pre (fun a' => Oper.makes P o a' W fun v W' => F.holds v W' ∧ Below W.heap.size W W') a) ∧ wpMakes P B w a (pre ++ [(o.dst, F)]) r
def canonL (need : Nat → Bool) (val : Nat → Value) : Nat → List (Option Tmp × Fact) → Act → Act
  | _, [], a => a
  | k, (d, .is u) :: r, a => canonL need val (k + 1) r (a.put d u)
  | k, (d, .such _) :: r, a => canonL need val (k + 1) r (a.put d (if need k = true then val k else undef))
theorem forPuts_inst {W : World} {need : Nat → Bool} {val : Nat → Value} {T : Act → Prop} : ∀ (l : List (Option Tmp × Fact)) (k : Nat) (a : Act), forPuts W need k l T a →
    (∀ j d F, l[j]? = some (d, .such F) → need (k + j) = true → F (val (k + j)) W) → T (canonL need val k l a)
  | [], k, a, h, _ => h
  | (d, .is u) :: r, k, a, h, hv => forPuts_inst r (k + 1) _ h (fun j d F hj hn => by
      have := hv (j + 1) d F (by simpa using hj)
      rw [show k + (j + 1) = k + 1 + j by omega] at this
      exact this hn)
  | (d, .such F) :: r, k, a, h, hv => by
    have hr : ∀ j d F, r[j]? = some (d, .such F) → need (k + 1 + j) = true → F (val (k + 1 + j)) W := fun j d F hj hn => by
      have := hv (j + 1) d F (by simpa using hj)
      rw [show k + (j + 1) = k + 1 + j by omega] at this
      exact this hn
    unfold forPuts at h
    unfold canonL
    cases hk : need k with
    | true =>
      rw [hk] at h
      simp only at h
      rw [if_pos rfl]
      exact forPuts_inst r (k + 1) _ (h (val k) (by have := hv 0 d F rfl; rw [Nat.add_zero] at this; exact this hk)) hr
    | false =>
      rw [hk] at h
      simp only at h
      rw [if_neg (by simp)]
      exact forPuts_inst r (k + 1) _ h hr
theorem put_size (a : Act) (d : Option Tmp) (v : Value) : (a.put d v).tmps.size = a.tmps.size := by cases d <;> simp [Act.put]
theorem put_def (a : Act) (d : Option Tmp) (v : Value) : (a.put d v).defers = a.defers := by cases d <;> rfl
theorem put_ne (a : Act) {d : Option Tmp} (v : Value) {t : Nat} (h : d ≠ some t) : (a.put d v).tmps[t]? = a.tmps[t]? := by
  cases d with
  | none => rfl
  | some e => simp [Act.put, Array.getElem?_setIfInBounds_ne (show e ≠ t from fun he => h (by rw [he]))]
theorem put_at (a : Act) (v : Value) {t : Nat} (h : t < a.tmps.size) : (a.put (some t) v).tmps[t]? = some v := by simp [Act.put, h]
theorem canonL_size {need : Nat → Bool} {val : Nat → Value} : ∀ (l : List (Option Tmp × Fact)) (k : Nat) (a : Act), (canonL need val k l a).tmps.size = a.tmps.size ∧ (canonL need val k l a).defers = a.defers
  | [], _, _ => ⟨rfl, rfl⟩
  | (d, .is u) :: r, k, a => by have := canonL_size r (k + 1) (a.put d u) (need := need) (val := val); rw [put_size, put_def] at this; exact this
  | (d, .such _) :: r, k, a => by have := canonL_size r (k + 1) (a.put d (if need k = true then val k else undef)) (need := need) (val := val); rw [put_size, put_def] at this; exact this
theorem canonL_out {need : Nat → Bool} {val : Nat → Value} {t : Nat} : ∀ (l : List (Option Tmp × Fact)) (k : Nat) (a : Act), (∀ x ∈ l, x.1 ≠ some t) → (canonL need val k l a).tmps[t]? = a.tmps[t]?
  | [], _, _, _ => rfl
  | (d, .is u) :: r, k, a, h => (canonL_out r (k + 1) (a.put d u) (fun x hx => h x (List.mem_cons_of_mem _ hx))).trans (put_ne _ _ (h _ List.mem_cons_self))
  | (d, .such F) :: r, k, a, h => (canonL_out r (k + 1) (a.put d (if need k = true then val k else undef)) (fun x hx => h x (List.mem_cons_of_mem _ hx))).trans (put_ne _ _ (h (d, .such F) List.mem_cons_self))
def Fact.told (need : Nat → Bool) (val : Nat → Value) (k : Nat) : Fact → Value
  | .is u => u
  | .such _ => if need k = true then val k else undef
theorem canonL_cons {need : Nat → Bool} {val : Nat → Value} (d : Option Tmp) (F : Fact) (r : List (Option Tmp × Fact)) (k : Nat) (a : Act) : canonL need val k ((d, F) :: r) a = canonL need val (k + 1) r (a.put d (F.told need val k)) := by
  cases F <;> rfl
theorem canonL_at {need : Nat → Bool} {val : Nat → Value} {t : Nat} {F : Fact} : ∀ (l : List (Option Tmp × Fact)) (k j : Nat) (a : Act), t < a.tmps.size → l[j]? = some (some t, F) → (∀ i x, l[i]? = some x → i ≠ j → x.1 ≠ some t) →
    (canonL need val k l a).tmps[t]? = some (F.told need val (k + j))
  | [], _, j, _, _, h, _ => by simp at h
  | (d, G) :: r, k, 0, a, ht, h, hd => by
    simp only [List.getElem?_cons_zero, Option.some.injEq, Prod.mk.injEq] at h
    obtain ⟨rfl, rfl⟩ := h
    rw [canonL_cons, canonL_out r (k + 1) _ (fun x hx => by
      obtain ⟨i, hi, rfl⟩ := List.getElem_of_mem hx
      exact hd (i + 1) _ (by simp [hi]) (by omega)), put_at _ _ ht]
    rfl
  | (d, G) :: r, k, j + 1, a, ht, h, hd => by
    rw [canonL_cons, canonL_at r (k + 1) j _ (by rw [put_size]; exact ht) (by simpa using h) (fun i x hi hne => hd (i + 1) x (by simpa using hi) (by omega))]
    rw [show k + 1 + j = k + (j + 1) by omega]
def doneN (size n : Nat) : Array Bool := ((List.range size).map fun j => decide (j < n)).toArray
def headsB (ops : Array Oper) (n : Nat) : Bool :=
  (List.range n).all fun i => match ops[i]? with
    | none => false
    | some o => o.guard.isNone && (o.after.toList.all fun e => !Region.binds .any e || decide (e.on < i)) && ((List.range n).all fun k => match ops[k]? with
      | none => false
      | some ok => match ok.dst with
        | none => false
        | some t => (decide (k = i) || o.dst != some t) && (!(o.looksAt ops).contains t || (decide (k < i) && needsB o k)))
theorem countP_less {p p' : Nat → Bool} {i : Nat} (hi : p i = true) (hi' : p' i = false) (h : ∀ j, j ≠ i → p' j = p j) : ∀ n, i < n → (List.range n).countP p = (List.range n).countP p' + 1
  | 0, h0 => absurd h0 (Nat.not_lt_zero _)
  | n + 1, h0 => by
    rw [List.range_succ, List.countP_append, List.countP_append]
    by_cases hin : i = n
    · subst hin
      have he : (List.range i).countP p = (List.range i).countP p' := List.countP_congr fun x hx => by rw [h x (by have := List.mem_range.1 hx; omega)]
      simp [he, hi, hi']
    · rw [countP_less hi hi' h n (by omega)]
      simp [h n (fun he => hin he.symm)]
      omega
section
variable {P : Program} {ops : Array Oper} {l : List Oper} {n : Nat}
structure HeadsOk (ops : Array Oper) (n : Nat) : Prop where
  guard : ∀ i o, i < n → ops[i]? = some o → o.guard = none
  back : ∀ i o, i < n → ops[i]? = some o → ∀ e ∈ o.after, Region.binds .any e = true → e.on < i
  dst : ∀ i o, i < n → ops[i]? = some o → ∃ t, o.dst = some t
  ne : ∀ i k o ok t, i < n → k < n → ops[i]? = some o → ops[k]? = some ok → ok.dst = some t → k ≠ i → o.dst ≠ some t
  looks : ∀ i k o ok t, i < n → k < n → ops[i]? = some o → ops[k]? = some ok → ok.dst = some t → t ∈ o.looksAt ops → k < i ∧ needsB o k = true
theorem headsOk_of (h : headsB ops n = true) (hn : n < ops.size) : HeadsOk ops n := by
  have H : ∀ i o, i < n → ops[i]? = some o → o.guard = none ∧ (∀ e ∈ o.after, Region.binds .any e = true → e.on < i) ∧ ∀ k ok, k < n → ops[k]? = some ok → ∃ t, ok.dst = some t ∧ (k ≠ i → o.dst ≠ some t) ∧ (t ∈ o.looksAt ops → k < i ∧ needsB o k = true) := by
    intro i o hi ho
    have h1 := List.all_eq_true.1 h i (List.mem_range.2 hi)
    simp only [ho, Bool.and_eq_true] at h1
    obtain ⟨⟨hg, hb⟩, hk⟩ := h1
    refine ⟨by simpa using hg, fun e he hbe => ?_, fun k ok hkn hok => ?_⟩
    · have h2 := List.all_eq_true.1 hb e (by simpa using he)
      simpa [hbe] using h2
    · have h2 := List.all_eq_true.1 hk k (List.mem_range.2 hkn)
      simp only [hok] at h2
      cases hd : ok.dst with
      | none => rw [hd] at h2; cases h2
      | some t =>
        rw [hd] at h2
        simp only [Bool.and_eq_true, Bool.or_eq_true, decide_eq_true_eq, Bool.not_eq_true'] at h2
        refine ⟨t, rfl, fun hne he => ?_, fun hm => ?_⟩
        · rcases h2.1 with h3 | h3
          · exact hne h3
          · simp [he] at h3
        · rcases h2.2 with h3 | h3
          · simp [hm] at h3
          · exact h3
  refine ⟨fun i o hi ho => (H i o hi ho).1, fun i o hi ho => (H i o hi ho).2.1, fun i o hi ho => ?_, fun i k o ok t hi hk ho hok ht hne => ?_, fun i k o ok t hi hk ho hok ht hm => ?_⟩
  · obtain ⟨t, ht, -⟩ := (H i o hi ho).2.2 i o hi ho
    exact ⟨t, ht⟩
  · obtain ⟨t', ht', h1, -⟩ := (H i o hi ho).2.2 k ok hk hok
    obtain rfl : t = t' := Option.some.inj (ht.symm.trans ht')
    exact h1 hne
  · obtain ⟨t', ht', -, h1⟩ := (H i o hi ho).2.2 k ok hk hok
    obtain rfl : t = t' := Option.some.inj (ht.symm.trans ht')
    exact h1 hm
structure FactsAt (B : Nat) (w : World) (a0 : Act) (ops : Array Oper) (Fs : List Fact) (n : Nat) (listed : Array Bool) (a : Act) (W : World) : Prop where
  below : Below B w W
  size : a.tmps.size = a0.tmps.size
  defers : a.defers = a0.defers
  out : ∀ t, (∀ k o, k < n → ops[k]? = some o → o.dst ≠ some t) → a.tmps[t]? = a0.tmps[t]?
  facts : ∀ k o t F, k < n → ops[k]? = some o → o.dst = some t → Fs[k]? = some F → listed.getD k false = true → F.holds (a.tmps.getD t undef) W
def headPuts (ops : Array Oper) (Fs : List Fact) : Nat → List (Option Tmp × Fact)
  | 0 => []
  | k + 1 => headPuts ops Fs k ++ [(((ops[k]?).bind (·.dst)), Fs.getD k (.is undef))]
theorem headPuts_length (ops : Array Oper) (Fs : List Fact) : ∀ k, (headPuts ops Fs k).length = k
  | 0 => rfl
  | k + 1 => by simp [headPuts, headPuts_length ops Fs k]
theorem headPuts_get (ops : Array Oper) (Fs : List Fact) : ∀ (k j : Nat), j < k → (headPuts ops Fs k)[j]? = some (((ops[j]?).bind (·.dst)), Fs.getD j (.is undef))
  | 0, _, h => absurd h (Nat.not_lt_zero _)
  | k + 1, j, h => by
    unfold headPuts
    rcases Nat.lt_or_ge j k with h1 | h1
    · rw [List.getElem?_append_left (by rw [headPuts_length]; exact h1)]
      exact headPuts_get ops Fs k j h1
    · obtain rfl : j = k := by omega
      rw [List.getElem?_append_right (by rw [headPuts_length]; omega), headPuts_length, Nat.sub_self]
      rfl
theorem canon_agrees {B : Nat} {w W : World} {a0 a : Act} {Fs : List Fact} {listed : Array Bool} (ok : HeadsOk ops n) (hsz : ∀ k o t, k < n → ops[k]? = some o → o.dst = some t → t < a0.tmps.size) (st : FactsAt B w a0 ops Fs n listed a W) (hF : Fs.length = n) (hn : n < ops.size)
    (need : Nat → Bool) (m : Nat) (hm : m ≤ n) (hneed : ∀ k, k < m → need k = true → listed.getD k false = true) (t : Nat) (ht : ∀ k o, k < n → ops[k]? = some o → o.dst = some t → k < m ∧ need k = true) :
    (canonL need (fun k => a.tmps.getD (((ops[k]?).bind (·.dst)).getD 0) undef) 0 (headPuts ops Fs m) a0).tmps[t]? = a.tmps[t]? := by
  by_cases hk : ∃ k o, k < n ∧ ops[k]? = some o ∧ o.dst = some t
  · obtain ⟨k, o, hkn, ho, hd⟩ := hk
    obtain ⟨hkm, hnk⟩ := ht k o hkn ho hd
    have hlt : t < a0.tmps.size := hsz k o t hkn ho hd
    obtain ⟨F, hFk⟩ : ∃ F, Fs[k]? = some F := ⟨_, List.getElem?_eq_getElem (by omega)⟩
    have hg := headPuts_get ops Fs m k hkm
    rw [ho, List.getD_eq_getElem?_getD, hFk] at hg
    simp only [Option.bind_some, hd, Option.getD_some] at hg
    rw [canonL_at (headPuts ops Fs m) 0 k a0 hlt hg (fun i x hi hne => by
      have him : i < m := by
        have := (List.getElem?_eq_some_iff.1 hi).1
        rwa [headPuts_length] at this
      rw [headPuts_get ops Fs m i him] at hi
      obtain rfl := Option.some.inj hi
      obtain ⟨oi, hoi⟩ : ∃ oi, ops[i]? = some oi := ⟨_, Array.getElem?_eq_getElem (by omega)⟩
      simp only [hoi, Option.bind_some]
      exact ok.ne i k oi o t (by omega) hkn hoi ho hd (fun h => hne h.symm)), Nat.zero_add]
    have hf := st.facts k o t F hkn ho hd hFk (hneed k hkm hnk)
    have hat : a.tmps[t]? = some (a.tmps.getD t undef) := by
      have h1 : t < a.tmps.size := by rw [st.size]; exact hlt
      simp [h1]
    rw [hat]
    congr 1
    cases F with
    | is u => exact hf.symm
    | such G => simp [Fact.told, hnk, ho, hd]
  · have hout : ∀ k o, k < n → ops[k]? = some o → o.dst ≠ some t := fun k o hkn ho hd => hk ⟨k, o, hkn, ho, hd⟩
    rw [st.out t hout, canonL_out]
    intro x hx
    obtain ⟨i, hi, rfl⟩ := List.getElem_of_mem hx
    rw [headPuts_length] at hi
    have hg := headPuts_get ops Fs m i hi
    rw [List.getElem?_eq_getElem (by rw [headPuts_length]; exact hi)] at hg
    rw [Option.some.inj hg]
    obtain ⟨oi, hoi⟩ : ∃ oi, ops[i]? = some oi := ⟨_, Array.getElem?_eq_getElem (by omega)⟩
    simp only [hoi, Option.bind_some]
    exact hout i oi (by omega) hoi
theorem facts_val {B : Nat} {w W : World} {a0 a : Act} {Fs : List Fact} {listed : Array Bool} (ok : HeadsOk ops n) (st : FactsAt B w a0 ops Fs n listed a W) (hF : Fs.length = n) (hn : n < ops.size) (need : Nat → Bool) (m : Nat) (hm : m ≤ n) (hneed : ∀ k, k < m → need k = true → listed.getD k false = true) :
    ∀ (j : Nat) (d : Option Tmp) (F : Value → World → Prop), (headPuts ops Fs m)[j]? = some (d, .such F) → need (0 + j) = true → F ((fun k => a.tmps.getD (((ops[k]?).bind (·.dst)).getD 0) undef) (0 + j)) W := by
  intro j d F hj hnd
  rw [Nat.zero_add] at hnd ⊢
  have hjm : j < m := by
    have := (List.getElem?_eq_some_iff.1 hj).1
    rwa [headPuts_length] at this
  rw [headPuts_get ops Fs m j hjm] at hj
  simp only [Option.some.injEq, Prod.mk.injEq] at hj
  obtain ⟨o, ho⟩ : ∃ o, ops[j]? = some o := ⟨_, Array.getElem?_eq_getElem (by omega)⟩
  obtain ⟨t, ht⟩ := ok.dst j o (by omega) ho
  have hFj : Fs[j]? = some (.such F) := by
    rw [← hj.2, List.getD_eq_getElem?_getD, List.getElem?_eq_getElem (by omega)]
    rfl
  have h9 : F (a.tmps.getD t undef) W := st.facts j o t _ (by omega) ho ht hFj (hneed j hjm hnd)
  simpa [ho, ht] using h9
theorem wpMakes_at {B : Nat} {w : World} {a : Act} {Fs : List Fact} : ∀ (todo : List (Oper × Fact)) (m : Nat), wpMakes P B w a (headPuts ops Fs m) todo → (∀ j, j < todo.length → ∃ o F, ops[m + j]? = some o ∧ Fs[m + j]? = some F ∧ todo[j]? = some (o, F)) →
    ∀ j o F, j < todo.length → ops[m + j]? = some o → Fs[m + j]? = some F → ∀ W, Below B w W → forPuts W (needsB o) 0 (headPuts ops Fs (m + j)) (fun a' => Oper.makes P o a' W fun v W' => F.holds v W' ∧ Below W.heap.size W W') a
  | [], _, _, _, j, _, _, hj, _, _ => absurd hj (Nat.not_lt_zero _)
  | (o0, F0) :: r, m, h, hg, j, o, F, hj, ho, hF => by
    obtain ⟨o', F', h1, h2, h3⟩ := hg 0 (by simp)
    simp only [List.getElem?_cons_zero, Option.some.injEq, Prod.mk.injEq] at h3
    obtain ⟨rfl, rfl⟩ := h3
    rw [Nat.add_zero] at h1 h2
    cases j with
    | zero =>
      rw [Nat.add_zero] at ho hF ⊢
      obtain rfl := Option.some.inj (h1.symm.trans ho)
      obtain rfl := Option.some.inj (h2.symm.trans hF)
      exact h.1
    | succ j =>
      have hnext : wpMakes P B w a (headPuts ops Fs (m + 1)) r := by
        have h4 := h.2
        have h5 : headPuts ops Fs (m + 1) = headPuts ops Fs m ++ [(o0.dst, F0)] := by
          show headPuts ops Fs m ++ [(((ops[m]?).bind (·.dst)), Fs.getD m (.is undef))] = _
          rw [h1, List.getD_eq_getElem?_getD, h2]
          rfl
        rw [h5]
        exact h4
      have := wpMakes_at r (m + 1) hnext (fun i hi => by
        obtain ⟨o', F', g1, g2, g3⟩ := hg (i + 1) (by simp; omega)
        exact ⟨o', F', by rw [show m + 1 + i = m + (i + 1) by omega]; exact g1, by rw [show m + 1 + i = m + (i + 1) by omega]; exact g2, by simpa using g3⟩) j o F (by simp at hj; omega)
        (by rw [show m + 1 + j = m + (j + 1) by omega]; exact ho) (by rw [show m + 1 + j = m + (j + 1) by omega]; exact hF)
      rw [show m + 1 + j = m + (j + 1) by omega] at this
      exact this
theorem doneN_get (size n j : Nat) (hj : j < size) (d : Bool) : (doneN size n).getD j d = decide (j < n) := by
  unfold doneN
  simp [hj]
theorem facts_any {p B : Nat} {w : World} {a0 : Act} {Fs : List Fact} {Q : Exit → Act → World → Prop} (ok : HeadsOk ops n) (hsel : Region.noSelect ops = true) (hn : n < ops.size) (hs : sinkP .any ops p n = true) (hc : Region.chainB .any ops n = true) (hq : Region.seqB .any ops (ops.size - n) n (doneN ops.size n) = true)
    (hsz : ∀ k o t, k < n → ops[k]? = some o → o.dst = some t → t < a0.tmps.size) (hF : Fs.length = n) (hmono : ∀ F, .such F ∈ Fs → ∀ v W W', F v W → Below W.heap.size W W' → F v W') (hB : B ≤ w.heap.size)
    (hstep : ∀ j o F, j < n → ops[j]? = some o → Fs[j]? = some F → ∀ W, Below B w W → forPuts W (needsB o) 0 (headPuts ops Fs j) (fun a' => Oper.makes P o a' W fun v W' => F.holds v W' ∧ Below W.heap.size W W') a0)
    (htail : ∀ W, Below B w W → forPuts W (fun _ => true) 0 (headPuts ops Fs n) (fun a' => wpList P ops Q (ops.toList.drop n) a' W) a0) :
    ∀ (f : Nat) (listed : Array Bool) (a : Act) (W : World), HeadInv .any ops n listed → (∀ k, k < p → listed.getD k true = true) → (List.range n).countP (fun j => !listed.getD j true) = f → FactsAt B w a0 ops Fs n listed a W → wpAny P .any ops Q (f + (ops.size - n)) listed a W := by
  intro f
  induction f with
  | zero =>
    intro listed a W inv hpre hcount st
    have hall : ∀ j, j < n → listed.getD j true = true := fun j hj => by
      have := List.countP_eq_zero.1 hcount j (List.mem_range.2 hj)
      simpa using this
    have hld : listed = doneN ops.size n := by
      apply Array.ext
      · rw [inv.size]; simp [doneN]
      · intro j h1 h2
        have hj : j < ops.size := by rw [← inv.size]; exact h1
        have e1 : listed[j] = listed.getD j true := by simp [h1]
        have e2 : (doneN ops.size n)[j] = (doneN ops.size n).getD j true := by simp [h2]
        rw [e1, e2, doneN_get _ _ _ hj]
        by_cases hjn : j < n
        · rw [hall j hjn, decide_eq_true hjn]
        · rw [inv.tail j (by omega) hj, decide_eq_false hjn]
    have hdone : ∀ k, k < n → (fun _ => true) k = true → listed.getD k false = true := fun k hk _ => by
      have h1 := hall k hk
      have h2 : k < listed.size := by rw [inv.size]; omega
      simp [h2] at h1 ⊢
      exact h1
    have hT := forPuts_inst (val := fun k => a.tmps.getD (((ops[k]?).bind (·.dst)).getD 0) undef) _ _ _ (htail W st.below) (facts_val ok st hF hn (fun _ => true) n (Nat.le_refl _) hdone)
    have hcan : canonL (fun _ => true) (fun k => a.tmps.getD (((ops[k]?).bind (·.dst)).getD 0) undef) 0 (headPuts ops Fs n) a0 = a := by
      obtain ⟨c1, c2⟩ := canonL_size (need := fun _ => true) (val := fun k => a.tmps.getD (((ops[k]?).bind (·.dst)).getD 0) undef) (headPuts ops Fs n) 0 a0
      have c3 : (canonL (fun _ => true) (fun k => a.tmps.getD (((ops[k]?).bind (·.dst)).getD 0) undef) 0 (headPuts ops Fs n) a0).tmps = a.tmps := by
        apply Array.ext_getElem?
        intro t
        exact canon_agrees ok hsz st hF hn (fun _ => true) n (Nat.le_refl _) hdone t (fun k o hk _ _ => ⟨hk, rfl⟩)
      have c4 := c2.trans st.defers.symm
      generalize canonL (fun _ => true) (fun k => a.tmps.getD (((ops[k]?).bind (·.dst)).getD 0) undef) 0 (headPuts ops Fs n) a0 = b at c3 c4
      cases b
      cases a
      simp only at c3 c4
      rw [c3, c4]
    rw [hcan] at hT
    rw [Nat.zero_add, hld]
    have hl : (ops.toList.drop n).length = ops.size - n := by simp
    have := wpAny_of_seq (md := .any) (Q' := Q) (ops.toList.drop n) n (doneN ops.size n) a W (fun j => by simp [List.getElem?_drop]) (by rw [hl]; exact hq) hT
    rwa [hl] at this
  | succ f ih =>
    intro listed a W inv hpre hcount st
    have hex : ∃ i, i < n ∧ listed.getD i true = false := by
      have h1 : 0 < (List.range n).countP (fun j => !listed.getD j true) := by omega
      obtain ⟨i, hi, h2⟩ := List.countP_pos_iff.1 h1
      exact ⟨i, List.mem_range.1 hi, by simpa using h2⟩
    obtain ⟨i0, hi0, hun0, hmin⟩ : ∃ i, i < n ∧ listed.getD i true = false ∧ ∀ k, k < i → listed.getD k true = true := by
      obtain ⟨i, hi, hun⟩ := hex
      induction i using Nat.strongRecOn with
      | _ i ihi =>
        by_cases h : ∃ k, k < i ∧ listed.getD k true = false
        · obtain ⟨k, hk, hku⟩ := h
          exact ihi k hk (by omega) hku
        · refine ⟨i, hi, hun, fun k hk => ?_⟩
          cases hv : listed.getD k true with
          | true => rfl
          | false => exact absurd ⟨k, hk, hv⟩ h
    rw [show f + 1 + (ops.size - n) = (f + (ops.size - n)) + 1 by omega]
    have hready0 : i0 ∈ Region.ready .any ops listed := by
      obtain ⟨o, ho⟩ : ∃ o, ops[i0]? = some o := ⟨_, Array.getElem?_eq_getElem (by omega)⟩
      refine mem_ready.2 ⟨hun0, o, ho, fun e he hb => ?_⟩
      have hlt := ok.back i0 o hi0 ho e he hb
      have h1 := hmin e.on hlt
      have h2 : e.on < listed.size := by rw [inv.size]; omega
      simp [h2] at h1 ⊢
      exact h1
    refine ⟨fun h0 => (by rw [h0] at hready0; cases hready0), fun i hi => ?_⟩
    have hin : i < n := Nat.lt_of_not_le fun h => tail_waitsP hs hc hn inv _ i0 rfl (Nat.le_of_not_lt fun h9 => by rw [hpre i0 h9] at hun0; cases hun0) hi0 hun0 i h hi
    obtain ⟨hun, o, ho, hafter⟩ := mem_ready.1 hi
    obtain ⟨F, hFi⟩ : ∃ F, Fs[i]? = some F := ⟨_, List.getElem?_eq_getElem (by omega)⟩
    obtain ⟨t, ht⟩ := ok.dst i o hin ho
    have hneed : ∀ k, k < i → needsB o k = true → listed.getD k false = true := fun k hk hnd => by
      unfold needsB at hnd
      obtain ⟨e, he, h2⟩ := List.any_eq_true.1 hnd
      simp only [Bool.and_eq_true, beq_iff_eq] at h2
      rw [← h2.2]
      exact hafter e (by simpa using he) h2.1
    have hM := forPuts_inst (val := fun k => a.tmps.getD (((ops[k]?).bind (·.dst)).getD 0) undef) _ _ _ (hstep i o F hin ho hFi W st.below) (facts_val ok st hF hn (needsB o) i (by omega) hneed)
    have hexec : execOp (canonL (needsB o) (fun k => a.tmps.getD (((ops[k]?).bind (·.dst)).getD 0) undef) 0 (headPuts ops Fs i) a0).eval o = execOp a.eval o := by
      refine execOp_congr o (fun cs b => Region.noSelect_spec hsel i o cs b ho) fun x hx => ?_
      cases x with
      | tmp u =>
        have hmem : u ∈ o.looksAt ops := List.mem_append_left _ (List.mem_filterMap.2 ⟨.tmp u, by simpa using hx, rfl⟩)
        have := canon_agrees ok hsz st hF hn (needsB o) i (by omega) hneed u (fun k ok' hk hok hd => ok.looks i k o ok' u hin hk ho hok hd hmem)
        show Array.getD _ u undef = Array.getD _ u undef
        rw [Array.getD_eq_getD_getElem?, Array.getD_eq_getD_getElem?, this]
      | _ => rfl
    have hM' : Oper.makes P o a W fun v W' => F.holds v W' ∧ Below W.heap.size W W' := by
      unfold Oper.makes at hM ⊢
      rwa [hexec] at hM
    unfold wpOp
    simp only [ho]
    have hwant : Region.wanted o (yielded ops a.tmps) = true := by
      unfold Region.wanted
      rw [ok.guard i o hin ho]
    rw [if_pos hwant]
    refine .inl (Oper.makes_wp hM' fun v W' hR => ?_)
    obtain ⟨hv, hbl⟩ := hR
    have htsz : t < a.tmps.size := by rw [st.size]; exact hsz i o t hin ho ht
    refine ih _ _ _ (inv.set hi hin) (fun k hk => ?_) ?_ ⟨st.below.trans (hbl.mono (Nat.le_trans hB st.below.size)), (put_size _ _ _).trans st.size, (put_def _ _ _).trans st.defers, fun u hu => ?_, fun k ok' u G hk hok hd hG hl => ?_⟩
    · by_cases hki : k = i
      · subst hki
        have h1 : k < listed.size := by rw [inv.size]; omega
        simp [h1]
      · rw [getD_set_ne true (Ne.symm hki)]; exact hpre k hk
    · have := countP_less (p := fun j => !listed.getD j true) (p' := fun j => !(listed.setIfInBounds i true).getD j true) (i := i) (by simp only [hun]; rfl) (by
        have h1 : i < listed.size := by rw [inv.size]; omega
        simp [h1]) (fun j hj => by simp only [getD_set_ne true (Ne.symm hj)]) n hin
      omega
    · rw [put_ne _ _ (hu i o hin ho)]
      exact st.out u hu
    · by_cases hki : k = i
      · subst hki
        obtain rfl := Option.some.inj (ho.symm.trans hok)
        obtain rfl := Option.some.inj (ht.symm.trans hd)
        obtain rfl := Option.some.inj (hFi.symm.trans hG)
        rw [ht, Array.getD_eq_getD_getElem?, put_at _ _ htsz]
        exact hv
      · rw [getD_set_ne false (Ne.symm hki)] at hl
        have hne : o.dst ≠ some u := ok.ne i k o ok' u hin hk ho hok hd hki
        rw [Array.getD_eq_getD_getElem?, put_ne _ _ hne, ← Array.getD_eq_getD_getElem?]
        have h1 := st.facts k ok' u G hk hok hd hG hl
        cases G with
        | is x => exact h1
        | such G => exact hmono G (List.mem_of_getElem? hG) _ _ _ h1 hbl
def yieldsIs (P : Program) (ops : Array Oper) : List (Oper × Fact) → Act → Prop
  | [], _ => True
  | (o, .is u) :: r, a => Yields P ops o u a ∧ yieldsIs P ops r (a.put o.dst u)
  | (_, .such _) :: _, _ => False
def Region.preB (ops : Array Oper) : Nat → Nat → Array Bool → Bool
  | 0, _, _ => true
  | m + 1, k, listed => (Region.ready .any ops listed).contains k && Region.free .any ops listed k && Region.preB ops m (k + 1) (listed.setIfInBounds k true)
def Region.factsB (ops : Array Oper) (p n : Nat) : Bool :=
  Region.noSelect ops && decide (n < ops.size) && decide (p ≤ n) && sinkP .any ops p n && Region.chainB .any ops n && headsB ops n && Region.seqB .any ops (ops.size - n) n (doneN ops.size n) && Region.preB ops p 0 (Array.replicate ops.size false)
theorem facts_pre {p B : Nat} {w : World} {a0 : Act} {Fs : List Fact} {Q : Exit → Act → World → Prop} {g : Nat} (ok : HeadsOk ops n) (hsel : Region.noSelect ops = true) (hn : n < ops.size) (hpn : p ≤ n) (hQ2 : ∀ (o : Oper) v c a w, Q (.panic c) (a.put o.dst v) w → Q (.panic c) a w)
    (hsz : ∀ k o t, k < n → ops[k]? = some o → o.dst = some t → t < a0.tmps.size) {W : World}
    (hK : ∀ listed a, HeadInv .any ops n listed → (∀ k, k < p → listed.getD k true = true) → (List.range n).countP (fun j => !listed.getD j true) = n - p → FactsAt B w a0 ops Fs n listed a W → wpAny P .any ops Q g listed a W) :
    ∀ (l : List (Oper × Fact)) (k : Nat) (listed : Array Bool) (a : Act), (∀ j x, l[j]? = some x → ops[k + j]? = some x.1 ∧ Fs[k + j]? = some x.2) → k + l.length = p → HeadInv .any ops n listed → (∀ i, i < k → listed.getD i true = true) →
      (List.range n).countP (fun j => !listed.getD j true) = n - k → Region.preB ops l.length k listed = true → FactsAt B w a0 ops Fs n listed a W → yieldsIs P ops l a → wpAny P .any ops Q (l.length + g) listed a W
  | [], k, listed, a, _, hk, inv, hd, hcnt, _, st, _ => by
    obtain rfl : k = p := by simpa using hk
    rw [List.length_nil, Nat.zero_add]
    exact hK listed a inv hd hcnt st
  | (o, .such F) :: l, k, listed, a, _, _, _, _, _, _, _, hy => hy.elim
  | (o, .is u) :: l, k, listed, a, hl, hk, inv, hd, hcnt, hB, st, hy => by
    obtain ⟨h0, hF0⟩ := hl 0 _ rfl
    rw [Nat.add_zero] at h0 hF0
    simp only [List.length_cons, Region.preB, Bool.and_eq_true] at hB
    obtain ⟨⟨hr, hf⟩, hB'⟩ := hB
    have hkn : k < n := by simp only [List.length_cons] at hk; omega
    have hr' : k ∈ Region.ready .any ops listed := by simpa using hr
    obtain ⟨hy0, hy1⟩ := hy
    obtain ⟨t, ht⟩ := ok.dst k o hkn h0
    have htsz : t < a.tmps.size := by rw [st.size]; exact hsz k o t hkn h0 ht
    have hun := (mem_ready.1 hr').1
    have hks : k < listed.size := by rw [inv.size]; omega
    rw [List.length_cons, show l.length + 1 + g = (l.length + g) + 1 by omega]
    refine wpAny_take h0 hsel hf hr (fun c a w => hQ2 o u c a w) hy0 ?_
    refine facts_pre ok hsel hn hpn hQ2 hsz hK l (k + 1) _ _ (fun j x hj => by have := hl (j + 1) x (by simpa using hj); rwa [show k + (j + 1) = k + 1 + j by omega] at this) (by simp only [List.length_cons] at hk; omega) (inv.set hr' hkn)
      (fun i hi => ?_) ?_ hB' ⟨st.below, (put_size _ _ _).trans st.size, (put_def _ _ _).trans st.defers, fun v hv => ?_, fun i ok' v G hi hok hdv hG hlv => ?_⟩ hy1
    · by_cases hki : i = k
      · subst hki; simp [hks]
      · rw [getD_set_ne true (Ne.symm hki)]; exact hd i (by omega)
    · have := countP_less (p := fun j => !listed.getD j true) (p' := fun j => !(listed.setIfInBounds k true).getD j true) (i := k) (by simp only [hun]; rfl) (by simp [hks]) (fun j hj => by simp only [getD_set_ne true (Ne.symm hj)]) n hkn
      omega
    · rw [put_ne _ _ (hv k o hkn h0)]
      exact st.out v hv
    · by_cases hki : i = k
      · subst hki
        obtain rfl := Option.some.inj (h0.symm.trans hok)
        obtain rfl := Option.some.inj (ht.symm.trans hdv)
        obtain rfl := Option.some.inj (hF0.symm.trans hG)
        rw [ht, Array.getD_eq_getD_getElem?, put_at _ _ htsz]
        rfl
      · rw [getD_set_ne false (Ne.symm hki)] at hlv
        have hne : o.dst ≠ some v := ok.ne k i o ok' v hkn hi h0 hok hdv hki
        rw [Array.getD_eq_getD_getElem?, put_ne _ _ hne, ← Array.getD_eq_getD_getElem?]
        exact st.facts i ok' v G hi hok hdv hG hlv
theorem wp_region_facts {id : Nat} {Q : Exit → Act → World → Prop} {a : Act} {w : World} {l : List Oper} (p n : Nat) (Fs : List Fact) (hm : P.follows .mixedOrders = true) (hB : Region.factsB l.toArray p n = true) (hF : Fs.length = n)
    (hsz : ((l.take n).all fun o => match o.dst with | some d => decide (d < a.tmps.size) | none => false) = true) (hmono : ∀ F, .such F ∈ Fs → ∀ v W W', F v W → Below W.heap.size W W' → F v W')
    (hp : yieldsIs P l.toArray ((l.take p).zip Fs) a)
    (hs : wpMakes P w.heap.size w a [] ((l.take n).zip Fs))
    (ht : ∀ W, Below w.heap.size w W → forPuts W (fun _ => true) 0 (((l.take n).map (·.dst)).zip Fs) (fun a' => wpList P l.toArray (NoPanic Q) (l.drop n) a' W) a) : (Code.region id l.toArray true).wp P Q a w := by
  simp only [Region.factsB, Bool.and_eq_true, decide_eq_true_eq] at hB
  obtain ⟨⟨⟨⟨⟨⟨⟨hsel, hn⟩, hpn⟩, hsk⟩, hc⟩, hh⟩, hq⟩, hpb⟩ := hB
  have hn' : n < l.length := by simpa using hn
  have ok := headsOk_of hh hn
  have hops : ∀ j : Nat, l.toArray[j]? = l[j]? := fun j => List.getElem?_toArray
  refine wp_region_noPanic (wp_region_any hm ?_)
  have hhp : ∀ m, m ≤ n → headPuts l.toArray Fs m = ((l.take m).map (·.dst)).zip Fs := by
    intro m hmn
    apply List.ext_getElem?
    intro j
    by_cases hj : j < m
    · rw [headPuts_get _ _ _ _ hj]
      have h1 : j < l.length := by omega
      have h2 : j < Fs.length := by omega
      simp [List.getElem?_zip_eq_some, List.getElem?_take, hj, h1, h2, List.getD_eq_getElem?_getD, List.zip, List.getElem?_zipWith]
    · rw [List.getElem?_eq_none (by rw [headPuts_length]; omega), List.getElem?_eq_none (by simp; omega)]
  have hst := wpMakes_at (P := P) (ops := l.toArray) (Fs := Fs) (a := a) (B := w.heap.size) (w := w) ((l.take n).zip Fs) 0 hs (fun j hj => by
    have hjn : j < n := by simp at hj; omega
    refine ⟨l[j], Fs[j], by simp, by simp, ?_⟩
    simp [List.zip, List.getElem?_zipWith, List.getElem?_take, hjn, show j < l.length by omega, show j < Fs.length by omega])
  have hdz : ∀ k o t, k < n → l.toArray[k]? = some o → o.dst = some t → t < a.tmps.size := fun k o t hk ho hd => by
    have h1 := List.all_eq_true.1 hsz o (by
      rw [hops] at ho
      exact List.mem_of_getElem? (by rw [List.getElem?_take, if_pos hk]; exact ho))
    rw [hd] at h1
    simpa using h1
  have hpl : ((l.take p).zip Fs).length = p := by simp; omega
  have H := facts_pre (P := P) (ops := l.toArray) (n := n) (p := p) (B := w.heap.size) (w := w) (W := w.drew) (a0 := a) (Fs := Fs) (Q := NoPanic Q) (g := (n - p) + (l.toArray.size - n)) ok hsel hn hpn (fun o v c a w hq => hq) hdz
    (fun listed a' inv hd hcnt st => facts_any (P := P) (ops := l.toArray) (n := n) (p := p) (B := w.heap.size) (w := w) (a0 := a) (Fs := Fs) (Q := NoPanic Q) ok hsel hn hsk hc hq hdz hF hmono (Nat.le_refl _)
      (fun j o F hj ho hG W hW => by
        have := hst j o F (by simp; omega) (by rw [Nat.zero_add]; exact ho) (by rw [Nat.zero_add]; exact hG) W hW
        rwa [Nat.zero_add] at this)
      (fun W hW => by
        have := ht W hW
        rw [hhp n (Nat.le_refl _)]
        exact this)
      (n - p) listed a' w.drew inv hd hcnt st)
    ((l.take p).zip Fs) 0 (Array.replicate l.toArray.size false) a (fun j x hj => by
      have hjp : j < p := by have := (List.getElem?_eq_some_iff.1 hj).1; omega
      rw [Nat.zero_add, hops]
      simp only [List.zip, List.getElem?_zipWith, List.getElem?_take, hjp, if_true, show j < l.length by omega, show j < Fs.length by omega, List.getElem?_eq_getElem, Option.some.injEq] at hj
      rw [← hj, List.getElem?_eq_getElem (by omega), List.getElem?_eq_getElem (by omega)]
      exact ⟨rfl, rfl⟩) (by rw [hpl]; omega)
    ⟨by simp, fun j oj _ hl => (by rw [getD_replicate_false] at hl; cases hl), fun t _ ht => getD_in (by simpa using ht) (getD_replicate_false _ _)⟩
    (fun i hi => absurd hi (Nat.not_lt_zero _))
    (by
      have : ∀ m, m ≤ n → (List.range m).countP (fun j => !(Array.replicate l.toArray.size false).getD j true) = m := by
        intro m
        induction m with
        | zero => intro _; rfl
        | succ m ihm =>
          intro hm'
          rw [List.range_succ, List.countP_append, ihm (by omega)]
          simp [show m < l.length by omega]
      exact this n (Nat.le_refl _))
    (by rw [hpl]; exact hpb)
    ⟨below_drew (Below.refl _ _), rfl, rfl, fun _ _ => rfl, fun k o t F hk ho hd hG hl => by rw [getD_replicate_false] at hl; cases hl⟩ hp
  rw [hpl, show p + ((n - p) + (l.toArray.size - n)) = l.toArray.size by omega] at H
  exact H
end
section
variable {W : World} {need : Nat → Bool} {k : Nat} {d : Option Tmp} {u : Value} {F : Value → World → Prop} {r : List (Option Tmp × Fact)} {T : Act → Prop} {a : Act}
theorem forPuts_nil (h : T a) : forPuts W need k [] T a := h
theorem forPuts_is (h : forPuts W need (k + 1) r T (a.put d u)) : forPuts W need k ((d, .is u) :: r) T a := h
theorem forPuts_such (hn : need k = true) (h : ∀ v, F v W → forPuts W need (k + 1) r T (a.put d v)) : forPuts W need k ((d, .such F) :: r) T a := by
  unfold forPuts
  rw [hn]
  exact h
theorem forPuts_not (hn : need k = false) (h : forPuts W need (k + 1) r T (a.put d undef)) : forPuts W need k ((d, .such F) :: r) T a := by
  unfold forPuts
  rw [hn]
  exact h
theorem makes_call {P : Program} {f : FuncId} {args : Array Value} {v : Value} (h : Calls P f args W fun e w' => e = .returned v ∧ Below W.heap.size W w') : Calls P f args W fun e w' => ∃ u, e = .returned u ∧ u = v ∧ Below W.heap.size W w' :=
  h.mono fun _ _ ⟨he, hb⟩ => ⟨v, he, rfl, hb⟩
end
attribute [irreducible] forPuts Oper.makes
end Go.Proofs.YtpdflhgcdehmoaaDoor.T
namespace Go.Proofs.YtpdflhgcdehmoaaDoor.T
open Go.RowKit Go.Proofs.YtpdflhgcdehmoaaDoorW.PrintWords Go.Proofs.YtpdflhgcdehmoaaDoorW.PrintLast Go.Proofs.YtpdflhgcdehmoaaDoorW.PrintMore
attribute [local go_sem] max2_int min2_int max_two min_two max_three min_three max_four min_four
set_option linter.unusedVariables false
set_option linter.unusedSimpArgs false
attribute [local go_sem high] eqA26
def seenTo (ts : List S26) (i j : Nat) : Bool := (List.range j).any fun m => labEq (rd_T26 ts (m : Nat)) (rd_T26 ts (i : Nat))
def newTo (ts : List S26) (i : Nat) : Nat := (List.range i).countP fun m => !seenTo ts m m
def nameK (k : Nat) : ByteArray := ⟨#[47, 108]⟩ ++ strOfNums [48 + (k : Int)]
def firstTo (ts : List S26) : Nat → List S32
  | 0 => [dirN ⟨#[47]⟩ ⟨0, 0, 3, 255⟩]
  | i + 1 => if seenTo ts i i = true then firstTo ts i else firstTo ts i ++ [dirN (nameK (newTo ts i)) (rd_T26 ts (i : Nat))]
theorem seenTo_next (ts : List S26) (i j : Nat) : seenTo ts i (j + 1) = (seenTo ts i j || labEq (rd_T26 ts (j : Nat)) (rd_T26 ts (i : Nat))) := by
  unfold seenTo
  rw [List.range_succ, List.any_append]
  simp
theorem newTo_next (ts : List S26) (i : Nat) : newTo ts (i + 1) = newTo ts i + if seenTo ts i i = true then 0 else 1 := by
  unfold newTo
  rw [List.range_succ, List.countP_append]
  cases h : seenTo ts i i <;> simp [h]
theorem newTo_le (ts : List S26) (i : Nat) : newTo ts i ≤ i := by
  have := List.countP_le_length (p := fun m => !seenTo ts m m) (l := List.range i)
  simpa [newTo] using this
theorem firstTo_length (ts : List S26) : ∀ i, (firstTo ts i).length = newTo ts i + 1
  | 0 => rfl
  | i + 1 => by
    rw [newTo_next]
    unfold firstTo
    cases h : seenTo ts i i <;> simp [h, firstTo_length ts i]
def donjonref11_First.f (l0_0 : List (S26)) (l0_1 : List (S167)) (l0_2 : List (S169)) : Option ((List (S32))) := if l0_0.length ≤ 64 then some (firstTo l0_0 l0_0.length) else none
set_option maxHeartbeats 4000000 in
set_option maxRecDepth 100000 in
theorem donjonref11_First.calls (A0_0 : Option Addr) (c0_0 : Nat) (l0_0 : List (S26)) (A0_1 : Option Addr) (c0_1 : Nat) (l0_1 : List (S167)) (A0_2 : Option Addr) (c0_2 : Nat) (l0_2 : List (S169)) (r : List (S32)) (w : World) (hr0_0 : Kd.C k26 w A0_0 l0_0.length l0_0) (hc0_0 : l0_0.length ≤ c0_0) (hr0_1 : Kd.C k167 w A0_1 l0_1.length l0_1) (hc0_1 : l0_1.length ≤ c0_1) (hr0_2 : Kd.C k169 w A0_2 l0_2.length l0_2) (hc0_2 : l0_2.length ≤ c0_2) (h : donjonref11_First.f l0_0 l0_1 l0_2 = some r) :
    Calls Tryd.prog 37 #[.agg #[.slice A0_0 l0_0.length c0_0, .slice A0_1 l0_1.length c0_1, .slice A0_2 l0_2.length c0_2]] w fun e w' => ∃ v0_ : Value, e = .returned (v0_) ∧ Kd.N k32 32 w' w.heap.size (fun k_ => (w.heap.size ≤ k_)) v0_ r ∧ Below w.heap.size w w' := by
  have hlen : l0_0.length ≤ 64 := by
    unfold donjonref11_First.f at h
    by_cases hf : l0_0.length ≤ 64
    · exact hf
    · rw [if_neg hf] at h; cases h
  obtain rfl : firstTo l0_0 l0_0.length = r := by
    unfold donjonref11_First.f at h
    rw [if_pos hlen] at h
    exact Option.some.inj h
  clear h hr0_1 hc0_1 hr0_2 hc0_2
  have HR := Lib.hid hr0_0
  clear hr0_0
  have hu := Tryd.underlying32
  have hul := Tryd.underlying26
  go_enter Tryd.func37, Tryd.ntmps37
  go_wp2_with fail
  have hR0 := R_one k83 83 (w.heap.size + 1) (w.alloc (.cells #[.slice A0_0 l0_0.length c0_0, .slice A0_1 l0_1.length c0_1, .slice A0_2 l0_2.length c0_2] 65)) (x := (⟨⟨#[42]⟩, 7⟩ : S83)) (ok := fun k => w.heap.size < k) (fun W' okp => k83_mkM W' _ okp _) (by simp) (by simp)
  have hal : ∀ o : Obj, (w.alloc o).heap.size = w.heap.size + 1 := fun o => by simp
  rw [hal] at hR0
  clear hal
  have hbx : (w.alloc (.cells #[.slice A0_0 l0_0.length c0_0, .slice A0_1 l0_1.length c0_1, .slice A0_2 l0_2.length c0_2] 65)).cell? ⟨w.heap.size, 0, none⟩ = some (.slice A0_0 l0_0.length c0_0) := World.cell?_alloc_at _ _ _ _ rfl
  refine (donjonref4_Bottom.calls _ _ _ _ _ rfl).mono ?_
  rintro e w1 ⟨rfl, hb1⟩
  go_wp2_with fail
  refine (donjonref4_Bottom.calls _ _ _ _ _ rfl).mono ?_
  rintro e w2 ⟨rfl, hb2⟩
  have hb3 := below_on hb1 hb2
  have hB2 : Below w.heap.size w w2 := below_on (below_alloc (below_alloc (Below.refl w.heap.size w) _) _) hb3
  have hR2 := Kd.R_below hR0 hb3
  have hsz2 : w.heap.size + 2 ≤ w2.heap.size := by
    have h1 := hb3.size
    simp at h1
    omega
  have hbx2 : w2.cell? ⟨w.heap.size, 0, none⟩ = some (.slice A0_0 l0_0.length c0_0) := by
    rw [hb3.cell (by simp; omega), World.cell?_alloc_past _ _ _ (by simp)]
    exact hbx
  clear hb1 hb2 hb3 hR0 hbx
  have hN0 := N_one k32 32 w.heap.size w2 (x := dirN ⟨#[47]⟩ ⟨0, 0, 3, 255⟩) (ok := fun k => w.heap.size < k) (k32_mkF w2 (fun k => w.heap.size < k) (dirN ⟨#[47]⟩ ⟨0, 0, 3, 255⟩) (Kd.R_reads' hR2).2.1 (Kd.R_F hR2) (c11 := 0) (A11 := none) (Nat.le_refl _) (Kd.R_F (Kd.R_nil _ 2 _ w.heap.size _))) (fun _ hk => hk) (by omega) (by omega)
  have HN0 := Lib.hid hN0
  clear hN0
  go_wp2_with fail
  go_loopw [4, 5, 6] (fun s4 s5 s6 w' => ∃ i : Nat, s6 = .int .i64 i ∧ i ≤ l0_0.length ∧ s5 = .int .i64 (newTo l0_0 i : Nat) ∧ Aside0 (Kd.N k32 32 w' w.heap.size (fun k => w.heap.size < k) s4 (firstTo l0_0 i) ∧ Kd.R k83 83 w' (w.heap.size + 1) (fun k => w.heap.size < k ∧ some k ≠ s4.ownBlock) (.slice (some ⟨w.heap.size + 1, 0, none⟩) 1 1) [⟨⟨#[42]⟩, 7⟩]) ∧ w'.cell? ⟨w.heap.size, 0, none⟩ = some (.slice A0_0 l0_0.length c0_0) ∧ Below w.heap.size w w') (fun _ _ s6 _ => l0_0.length - (intOf s6).toNat)
  case atStart =>
    refine ⟨0, rfl, Nat.zero_le _, rfl, ⟨HN0.out, Kd.R_elder' hR2 (fun k hk => by simp [Value.ownBlock] at hk; omega) (below_alloc (Below.refl _ _) _)⟩, ?_, below_alloc hB2 _⟩
    rw [World.cell?_alloc_past _ _ _ (Nat.lt_of_lt_of_le (Nat.lt_succ_self _) (Nat.le_trans (Nat.le_succ _) hsz2))]
    exact hbx2
  case round =>
    clear HN0 hR2 hbx2
    obtain ⟨i, rfl, hi, rfl, HO, hbx, hB⟩ := hrel
    obtain ⟨wo, rfl⟩ : ∃ wo : World, wo = wr := ⟨_, rfl⟩
    have hszo := hB.size
    have hbl := World.block_lt_of_cell? _ _ hbx
    by_cases hlt : i < l0_0.length
    · have HC := Lib.hid (Kd.C_below HR.out hB)
      go_wp2_with fail
      go_loopw [7, 8] (fun s7 s8 w' => ∃ j : Nat, s8 = .int .i64 j ∧ j ≤ i ∧ s7 = .bool (seenTo l0_0 i j) ∧ Below wo.heap.size wo w') (fun _ s8 _ => i - (intOf s8).toNat)
      case atStart => exact ⟨0, rfl, Nat.zero_le _, rfl, Below.refl _ _⟩
      case round =>
        obtain ⟨j, rfl, hj, rfl, hBj⟩ := hrel
        obtain ⟨hcr, hfr⟩ := below_rules hBj
        by_cases hjl : j < i
        · have hjl' : j < l0_0.length := by omega
          obtain ⟨ad, rfl, hi0, hi1, hi2, hi3⟩ := at_T26 HC.out (i : Int) (by omega) (by omega)
          obtain ⟨ad', e', hj0, hj1, hj2, hj3⟩ := at_T26 HC.out (j : Int) (by omega) (by omega)
          obtain rfl := Option.some.inj e'
          clear e'
          simp only [Int.toNat_natCast] at hi0 hi1 hi2 hi3 hj0 hj1 hj2 hj3
          have hbi := World.block_lt_of_cell? _ _ hi0
          have hbj := World.block_lt_of_cell? _ _ hj0
          have HS := Lib.hid (seenTo_next l0_0 i j)
          generalize rd_T26 l0_0 (i : Nat) = di at *
          generalize rd_T26 l0_0 (j : Nat) = dj at *
          rcases hs : seenTo l0_0 i j with _ | _
          · go_wp2_with fail
            refine wp_region_below (by kernel_rfl) (by kernel_rfl) ?_
            repeat (first | go_big_quiet_skip | (go_big_quiet_want; apply quiet_one; (focus (intro w2 hC; obtain ⟨hc2, hf2⟩ := below_rules hC; obtain ⟨hc3, hf3⟩ := below_rules (below_on hBj hC); go_simp; first | rfl | exact ⟨rfl, rfl⟩)); simp only [Act.put, List.setIfInBounds_toArray, List.set_cons_zero, List.set_cons_succ]; go_big_quiet_on))
            refine wpQuiet_nil ?_
            intro w2 hC2
            have hB2 := below_on hBj hC2
            clear hC2
            go_wp2_with fail
            exact ⟨⟨j + 1, by go_num, hjl, by rw [HS.out, hs]; rfl, hB2⟩, by simp [intOf]; omega⟩
          · go_wp2_with fail
            refine wp_region_below (by kernel_rfl) (by kernel_rfl) ?_
            repeat (first | go_big_quiet_skip | (go_big_quiet_want; apply quiet_one; (focus (intro w2 hC; obtain ⟨hc2, hf2⟩ := below_rules hC; obtain ⟨hc3, hf3⟩ := below_rules (below_on hBj hC); go_simp; first | rfl | exact ⟨rfl, rfl⟩)); simp only [Act.put, List.setIfInBounds_toArray, List.set_cons_zero, List.set_cons_succ]; go_big_quiet_on))
            refine wpQuiet_nil ?_
            intro w2 hC2
            have hB2 := below_on hBj hC2
            clear hC2
            go_wp2_with fail
            exact ⟨⟨j + 1, by go_num, hjl, by rw [HS.out, hs]; rfl, hB2⟩, by simp [intOf]; omega⟩
        · obtain rfl : j = i := by omega
          have HO2 := HO
          clear HO
          have HS := Lib.hid (show firstTo l0_0 (j + 1) = if seenTo l0_0 j j = true then firstTo l0_0 j else firstTo l0_0 j ++ [dirN (nameK (newTo l0_0 j)) (rd_T26 l0_0 (j : Nat))] from rfl)
          have HK := Lib.hid (newTo_next l0_0 j)
          rcases hs : seenTo l0_0 j j with _ | _
          · go_wp2_with fail
            have hjl : j < l0_0.length := hlt
            obtain ⟨ad, rfl, hi0, hi1, hi2, hi3⟩ := at_T26 HC.out (j : Int) (by omega) (by omega)
            simp only [Int.toNat_natCast] at hi0 hi1 hi2 hi3
            have hbi := World.block_lt_of_cell? _ _ hi0
            generalize rd_T26 l0_0 (j : Nat) = di at *
            have hkl := newTo_le l0_0 j
            have hfl : (firstTo l0_0 j).length + 1 ≤ 66 := by rw [firstTo_length]; omega
            generalize hkk : newTo l0_0 j = kk at *
            have HKK := Lib.hid hkk
            clear hkk
            have hk48 : IntKind.i64.wrap (48 + (kk : Int)) = 48 + (kk : Int) := IntWalk.i64_in _ (by omega)
            have hk8 : IntKind.u8.wrap (48 + (kk : Int)) = 48 + (kk : Int) := by rw [IntKind.wrap_u8]; omega
            apply wp_region_facts 1 14 [.is u4, .is _, .is _, .is _, .such (oneByte (48 + (kk : Int))), .is _, .is _, .is _, .is _, .is _, .is _, .is _, .is _, .is _] (by kernel_rfl) (by kernel_rfl) rfl (by rfl) ?hmono ?hp ?hs ?ht
            case hp => exact ⟨.inl ⟨rfl, fun w => rfl⟩, trivial⟩
            case hs =>
              simp only [List.take_succ_cons, List.take_zero, List.zip_cons_cons, List.zip_nil_left, wpMakes, List.nil_append, List.cons_append]
              repeat
                refine And.intro (fun W hW => ?_) ?_
                focus
                  obtain ⟨hc2, hf2⟩ := below_rules hW
                  obtain ⟨hc3, hf3⟩ := below_rules (below_on hBj hW)
                  repeat (first | (with_reducible refine forPuts_is ?_) | ((with_reducible refine forPuts_not ?_ ?_); (focus exact rfl)) | ((with_reducible refine forPuts_such ?_ ?_); (focus exact rfl); intro v hv))
                  with_reducible refine forPuts_nil ?_
                  (try (obtain ⟨kb, rfl, hrb⟩ := hv; have hcv := string_of_reads (P := Tryd.prog) (src := 80) (dst := 9) (c := 1) Tryd.underlying80 Tryd.underlying5 Tryd.underlying9 hrb))
                  (try simp only [Act.put, List.setIfInBounds_toArray, List.set_cons_zero, List.set_cons_succ])
                  go_simp
                  first
                  | exact Below.refl _ _
                  | exact ⟨rfl, Below.refl _ _⟩
                  | exact ⟨oneByte_new _ _ _, below_alloc (Below.refl _ _) _⟩
                  | exact makes_call (donjonref4_Bottom.calls _ _ _ _ _ rfl)
              exact trivial
            case hmono =>
              intro F hF v W W' hv hb
              simp at hF
              subst hF
              exact oneByte_mono hv hb
            case ht =>
              intro W hW
              obtain ⟨hc2, hf2⟩ := below_rules hW
              simp only [List.take_succ_cons, List.take_zero, List.map_cons, List.map_nil, List.zip_cons_cons, List.zip_nil_left]
              repeat (first | (with_reducible refine forPuts_is ?_) | ((with_reducible refine forPuts_such ?_ ?_); (focus exact rfl); intro v hv))
              with_reducible refine forPuts_nil ?_
              simp only [Act.put, List.setIfInBounds_toArray, List.set_cons_zero, List.set_cons_succ, List.drop_succ_cons, List.drop_zero]
              have hBW : Below wo.heap.size wo W := below_on hBj hW
              have hBW2 : Below w.heap.size w W := below_on hB hBW
              have hNW := Lib.hid (Kd.N_below HO2.out.1 hBW)
              have hRW := Lib.hid (Kd.R_below HO2.out.2 hBW)
              have hbW : W.cell? ⟨w.heap.size, 0, none⟩ = some (.slice (some ad) l0_0.length c0_0) := (hBW.cell hbl).trans hbx
              have hszW := hBW2.size
              have hnb : ∀ k, u4.ownBlock = some k → k < W.heap.size := fun k hk => Kd.N_lt hNW.out k hk
              have HFK := Lib.hid (k32_mkF W (fun k => w.heap.size < k ∧ some k ≠ u4.ownBlock) (dirN (nameK kk) di) (Kd.R_reads' hRW.out).2.1 (Kd.R_F hRW.out) (c11 := 0) (A11 := none) (Nat.le_refl _) (Kd.R_F (Kd.R_nil _ 2 _ w.heap.size _)))
              have hne : some w.heap.size ≠ u4.ownBlock := fun he => Nat.lt_irrefl _ (HO2.out.1.1 _ he.symm)
              go_wp2_with (first | ((with_reducible refine gate_builtin (b := .append) (xs := #[.tmp 44, .tmp 59]) rfl ?_); at_builtin; refine Kd.N_append k32 (w0 := w) w.heap.size rfl (.tmp 44) (.tmp 59) 22 32 (.agg #[(.string ⟨#[]⟩), (.bool false), (.int .i64 0), (.int .i64 0), (.int .i64 0), (.int .i64 0), (.slice none 0 0), (.int .i64 0), (.int .i64 0), (.int .i64 0), (.int .i64 0), (.slice none 0 0), (.int .i64 0), (.int .i64 0), (.int .i64 0), (.int .i64 0)]) 168 rfl Tryd.underlying22 info32 rfl (by decide) (by omega) u4 (firstTo l0_0 j) _ _ _ _ rfl rfl HFK.out (fun _ hk => hk) (fun k hk => Nat.lt_of_lt_of_le (World.block_lt_of_cell? _ _ hbW) hk) hNW.out hBW2 hszW (by omega) ?_; intro v1 w6 ho hbb hg hat))
              refine NoPanic.normal ?_
              have hb6 := Go.Proofs.YtpdflhgcdehmoaaDoorW.PrintWords.cell_grown hg hbW hne
              have hR6 := Lib.hid (Kd.R_after hRW.out hg hat)
              go_wp2_with fail
              exact ⟨⟨j + 1, by go_num, hlt, by rw [HK.out, hs]; simp, ⟨by rw [HS.out, hs]; exact ho, hR6.out⟩, hb6, hbb⟩, by simp [intOf]; omega⟩
          · go_wp2_with fail
            exact ⟨⟨j + 1, by go_num, hlt, by rw [HK.out, hs]; rfl, ⟨by rw [HS.out, hs]; exact Kd.N_below HO2.out.1 hBj, Kd.R_below HO2.out.2 hBj⟩, (hBj.cell hbl).trans hbx, below_on hB hBj⟩, by simp [intOf]; omega⟩
    · obtain rfl : i = l0_0.length := by omega
      go_wp2_with fail
      go_ret
      exact ⟨_, rfl, Kd.N_mono HO.out.1 (fun _ h => Nat.le_of_lt h), hB⟩
end Go.Proofs.YtpdflhgcdehmoaaDoor.T
namespace Go.Proofs.YtpdflhgcdehmoaaDoor.T
open Go.RowKit Go.Proofs.YtpdflhgcdehmoaaDoorW.PrintWords Go.Proofs.YtpdflhgcdehmoaaDoorW.PrintLast Go.Proofs.YtpdflhgcdehmoaaDoorW.PrintMore
attribute [local go_sem] max2_int min2_int max_two min_two max_three min_three max_four min_four
set_option linter.unusedVariables false
set_option linter.unusedSimpArgs false
theorem sizeMake : (Tryd.prog.info? 54).map (·.size) = some 16 := by kernel_rfl
noncomputable def loadM (x : Value) : Sem Value := Instr.loadAt 54 x
noncomputable def loadMQ (w : World) (x : Value) : Result Value := (loadM x).run Tryd.prog w
noncomputable def loadMR (w : World) (A : Addr) : Option (List Value) → Result Value
  | some cs => .ok (.agg cs.toArray) w
  | none => loadMQ w (.pointer (some A))
theorem loadMR_some (w : World) (A : Addr) (cs : List Value) : loadMR w A (some cs) = .ok (.agg cs.toArray) w := rfl
theorem loadM_is (x : Value) : Instr.loadAt 54 x = loadM x := rfl
theorem loadMQ_is (w : World) (x : Value) : (loadM x).run Tryd.prog w = loadMQ w x := rfl
theorem loadMQ_at (w : World) (A : Addr) : loadMQ w (.pointer (some A)) = loadMR w A (cellsQ w A 0 16) := by
  cases h : cellsQ w A 0 16 with
  | none => rfl
  | some cs =>
    obtain ⟨hn, hc⟩ := cellsQ_get 16 0 cs h
    have hl := run_loadCells_list (P := Tryd.prog) w A cs (fun j v hj => by have := hc j v hj; rwa [Nat.zero_add] at this)
    rw [hn] at hl
    have hu := Tryd.underlying54
    have hag : (isAgg 54).run Tryd.prog w = .ok true w := by
      unfold isAgg
      rw [Sem.run_bind, run_underlying hu w]
      rfl
    have hsz : (sizeOf 54).run Tryd.prog w = .ok 16 w := by
      have hi := sizeMake
      cases hq2 : Tryd.prog.info? 54 with
      | none => rw [hq2] at hi; cases hi
      | some i =>
        rw [hq2] at hi
        have hs : i.size = 16 := Option.some.inj hi
        simp [sizeOf, typeInfo, hq2, hs]
    unfold loadMQ loadMR loadM
    simp [Instr.loadAt, Instr.sureAddr, loadVar, Sem.run_bind, hag, hsz, hl]
attribute [irreducible] loadMQ loadM
noncomputable def storeM (x y : Value) : Sem Unit := Instr.storeAt 54 x y
theorem storeM_is (x y : Value) : Instr.storeAt 54 x y = storeM x y := rfl
theorem storeM_new (w : World) (k : Nat) (c : Array Value) (A0 : Option Addr) (n0 c0 : Nat) (b : Bool) (i1 i2 i3 i4 j1 j2 j3 j4 m1 m2 m3 m4 : Int) (A A' : Option Addr) (n n' c' c'' : Nat) (hk : k = w.heap.size) (hc : c.size = 16) :
    (storeM (.pointer (some ⟨k, 0, none⟩)) (.agg #[.slice A0 n0 c0, .bool b, .int .i64 i1, .int .i64 i2, .int .i64 i3, .int .i64 i4, .slice A n c', .int .i64 j1, .int .i64 j2, .int .i64 j3, .int .i64 j4, .slice A' n' c'', .int .i64 m1, .int .i64 m2, .int .i64 m3, .int .i64 m4])).run Tryd.prog (w.alloc (.cells c 54)) = .ok () (w.alloc (.cells #[.slice A0 n0 c0, .bool b, .int .i64 i1, .int .i64 i2, .int .i64 i3, .int .i64 i4, .slice A n c', .int .i64 j1, .int .i64 j2, .int .i64 j3, .int .i64 j4, .slice A' n' c'', .int .i64 m1, .int .i64 m2, .int .i64 m3, .int .i64 m4] 54)) := by
  subst hk
  have hs := sizeMake
  exact run_storeAt_new w 54 c #[.slice A0 n0 c0, .bool b, .int .i64 i1, .int .i64 i2, .int .i64 i3, .int .i64 i4, .slice A n c', .int .i64 j1, .int .i64 j2, .int .i64 j3, .int .i64 j4, .slice A' n' c'', .int .i64 m1, .int .i64 m2, .int .i64 m3, .int .i64 m4] hs hc (by simp [Value.oneCell'])
attribute [irreducible] storeM
theorem make_at {w : World} {A : Option Addr} {n : Nat} {xs : List S54} (h : Kd.C k54 w A n xs) (i : Nat) (h1 : i < n) : ∃ ad A0 c0 A6 c6 A11 c11, A = some ad ∧ (ad.add (i * 16)).block < w.heap.size ∧
    cellsQ w (ad.add (i * 16)) 0 16 = some [.slice A0 (rd_T54 xs i).f0.length c0, .bool (rd_T54 xs i).f1, .int .i64 (rd_T54 xs i).f2.f0, .int .i64 (rd_T54 xs i).f2.f1, .int .i64 (rd_T54 xs i).f2.f2, .int .i64 (rd_T54 xs i).f2.f3, .slice A6 (rd_T54 xs i).f3.length c6, .int .i64 (rd_T54 xs i).f4.f0, .int .i64 (rd_T54 xs i).f4.f1, .int .i64 (rd_T54 xs i).f4.f2, .int .i64 (rd_T54 xs i).f4.f3, .slice A11 (rd_T54 xs i).f5.length c11, .int .i64 (rd_T54 xs i).f6.f0, .int .i64 (rd_T54 xs i).f6.f1, .int .i64 (rd_T54 xs i).f6.f2, .int .i64 (rd_T54 xs i).f6.f3] ∧
    (rd_T54 xs i).f0.length ≤ c0 ∧ (Kd.int .i64).C w A0 (rd_T54 xs i).f0.length (rd_T54 xs i).f0 ∧ (rd_T54 xs i).f3.length ≤ c6 ∧ k83.C w A6 (rd_T54 xs i).f3.length (rd_T54 xs i).f3 ∧ (rd_T54 xs i).f5.length ≤ c11 ∧ (Kd.int .i64).C w A11 (rd_T54 xs i).f5.length (rd_T54 xs i).f5 := by
  obtain ⟨ad, c, e, _, hK, hc0⟩ := Kd.C_get h z54 (i : Int) (by omega) (by omega)
  have hc : ∀ j u, c[j]? = some u → w.cell? (ad.add (i * 16 + j)) = some u := fun j u hj => by have := hc0 j u hj; rwa [Int.toNat_natCast] at this
  clear hc0
  have hK' : k54.K w (rd_T54 xs i) c := hK
  clear hK
  generalize rd_T54 xs i = d at *
  obtain ⟨A0, c0, A6, c6, A11, c11, rfl, l0, g0, l6, g6, l11, g11⟩ := k54_open hK'
  have h0 := hc 0 _ rfl
  rw [Nat.add_zero] at h0
  refine ⟨ad, A0, c0, A6, c6, A11, c11, e, World.block_lt_of_cell? _ _ h0, ?_, l0, g0, l6, g6, l11, g11⟩
  exact cellsQ_of [_, _, _, _, _, _, _, _, _, _, _, _, _, _, _, _] 0 (fun j v hj => by
    rw [Nat.zero_add, add_add_addr]
    exact hc j v hj)
end Go.Proofs.YtpdflhgcdehmoaaDoor.T
