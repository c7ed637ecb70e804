/- Part of the proof that TreeRises comes to true: printed and written texts, merged by a program. -/
import Derived.Lib.Hide
import Derived.IntWalk
import Derived.Test.YtpdflhgcdehmoaaDoorR3
import Derived.Test.YtpdflhgcdehmoaaDoorR6
import Derived.Test.YtpdflhgcdehmoaaDoorR14
import Derived.Test.YtpdflhgcdehmoaaDoorR15
import Derived.Test.YtpdflhgcdehmoaaDoorR17
import Derived.Test.YtpdflhgcdehmoaaDoorR18
import Derived.Test.YtpdflhgcdehmoaaDoorR16
import Derived.Test.YtpdflhgcdehmoaaDoorR7
import Derived.Test.YtpdflhgcdehmoaaDoorR11
import Derived.Test.YtpdflhgcdehmoaaDoorR13
namespace Go.Proofs.YtpdflhgcdehmoaaDoor.T
open Go.RowKit Go.Proofs.YtpdflhgcdehmoaaDoorW.PrintWords Go.Proofs.YtpdflhgcdehmoaaDoorW.PrintLast Go.Proofs.YtpdflhgcdehmoaaDoorW.PrintMore
attribute [local go_sem] max2_int min2_int max_two min_two max_three min_three max_four min_four
set_option linter.unusedVariables false
set_option linter.unusedSimpArgs false
attribute [local go_sem high] eqA26
attribute [local go_sem ↓] loadS_is storeS_is loadM_is storeM_is
attribute [local go_sem] storeS_new loadQ_is loadQ_at loadR_some cellsQ_alloc_at cellsQ_alloc_past storeM_new loadMQ_is loadMQ_at loadMR_some
def goodTo (ts : List S26) : Nat → List S26
  | 0 => []
  | i + 1 => goodTo ts i ++ [goodL (rd_T26 ts (i : Nat))]
def newN (p : ByteArray) (d : S32) (m : S54) : S32 :=
  if m.f1 = true then ⟨p, true, joinP d.f2 (goodL m.f2), aclOf m.f3, ⟨0, 0, 0, 0⟩, [], goodL m.f6⟩
  else ⟨p, false, d.f2, aclOf m.f3, goodR m.f4, m.f5.take 16, goodL m.f6⟩
def growStep (l : List S32) (m : S54) : List S32 :=
  if (ofP m.f0).toList = [47] then l else match findN l (parR (ofP m.f0)) with
    | none => l
    | some d => if d.f1 = true ∧ findN l (ofP m.f0) = none then putP l (newN (ofP m.f0) d m) else l
def growTo (ts : List S26) (ms : List S54) : Nat → List S32
  | 0 => firstTo (goodTo ts (min ts.length 4)) (goodTo ts (min ts.length 4)).length
  | i + 1 => growStep (growTo ts ms i) (rd_T54 ms (i : Nat))
def growP (ts : List S26) (ms : List S54) : List S32 := growTo ts ms (min ms.length 14)
theorem goodTo_length (ts : List S26) : ∀ i, (goodTo ts i).length = i
  | 0 => rfl
  | i + 1 => by unfold goodTo; simp [goodTo_length ts i]
theorem growStep_le (l : List S32) (m : S54) : (growStep l m).length ≤ l.length + 1 := by
  unfold growStep
  split
  · omega
  · split
    · omega
    · split
      · exact putP_le _ _
      · omega
theorem growTo_le (ts : List S26) (ms : List S54) : ∀ i, (growTo ts ms i).length ≤ 5 + i
  | 0 => by
    have h1 := newTo_le (goodTo ts (min ts.length 4)) (goodTo ts (min ts.length 4)).length
    show (firstTo _ _).length ≤ _
    rw [firstTo_length]
    rw [goodTo_length] at h1 ⊢
    omega
  | i + 1 => by
    have h1 := growStep_le (growTo ts ms i) (rd_T54 ms (i : Nat))
    have h2 := growTo_le ts ms i
    show (growStep _ _).length ≤ _
    omega
def oneLabel (x : S26) (v : Value) (W : World) : Prop := ∃ k, v = .slice (some ⟨k, 0, none⟩) 1 1 ∧ Kd.C k26 W (some ⟨k, 0, none⟩) 1 [x]
theorem oneLabel_mono {x : S26} {v : Value} {W W' : World} (h : oneLabel x v W) (hb : Below W.heap.size W W') : oneLabel x v W' := by
  obtain ⟨k, rfl, hr⟩ := h
  exact ⟨k, rfl, Kd.C_below hr hb⟩
theorem oneLabel_new (x : S26) (W : World) : oneLabel x (.slice (some ⟨W.heap.size, 0, none⟩) 1 1) (W.alloc (.cells #[.int .i64 x.f0, .int .i64 x.f1, .int .i64 x.f2, .int .i64 x.f3] 26)) :=
  ⟨_, rfl, (Kd.R_reads' (R_one k26 26 0 W (ok := fun _ => True) (fun W' okp => k26_mkM W' _ okp x) trivial (Nat.zero_le _))).2.2⟩
def oneWord (x : Int) (v : Value) (W : World) : Prop := ∃ k, v = .slice (some ⟨k, 0, none⟩) 1 1 ∧ Kd.C (Kd.int .i64) W (some ⟨k, 0, none⟩) 1 [x]
theorem oneWord_mono {x : Int} {v : Value} {W W' : World} (h : oneWord x v W) (hb : Below W.heap.size W W') : oneWord x v W' := by
  obtain ⟨k, rfl, hr⟩ := h
  exact ⟨k, rfl, Kd.C_below hr hb⟩
theorem oneWord_new (x : Int) (W : World) : oneWord x (.slice (some ⟨W.heap.size, 0, none⟩) 1 1) (W.alloc (.cells #[.int .i64 x] 2)) :=
  ⟨_, rfl, (Kd.R_reads' (R_one (Kd.int .i64) 2 0 W (x := x) (cs := [.int .i64 x]) (ok := fun _ => True) (fun W' okp => rfl) trivial (Nat.zero_le _))).2.2⟩
def aclFact (B base : Nat) (l : List S83) (v : Value) (W : World) : Prop := Kd.R k83 83 W base (fun k => B ≤ k) v l
def nodeFact (B base : Nat) (p : ByteArray) (b : Bool) (x y : S26) (l : List S83) (v : Value) (W : World) : Prop :=
  ∃ A c, v = .agg #[.string p, .bool b, .int .i64 x.f0, .int .i64 x.f1, .int .i64 x.f2, .int .i64 x.f3, .slice A l.length c, .int .i64 0, .int .i64 0, .int .i64 0, .int .i64 0, .slice none 0 0, .int .i64 y.f0, .int .i64 y.f1, .int .i64 y.f2, .int .i64 y.f3] ∧ aclFact B base l (.slice A l.length c) W
def boxFact (e sz B base : Nat) (C : List Value) (v : Value) (W : World) : Prop := ∃ k, v = .pointer (some ⟨k, 0, none⟩) ∧ B ≤ k ∧ Box e sz W base k C
theorem aclFact_mono {B base : Nat} {l : List S83} {v : Value} {W W' : World} (h : aclFact B base l v W) (hb : Below W.heap.size W W') : aclFact B base l v W' := Kd.R_below h hb
theorem nodeFact_mono {B base : Nat} {p : ByteArray} {b : Bool} {x y : S26} {l : List S83} {v : Value} {W W' : World} (h : nodeFact B base p b x y l v W) (hb : Below W.heap.size W W') : nodeFact B base p b x y l v W' := by
  obtain ⟨A, c, rfl, h⟩ := h
  exact ⟨A, c, rfl, aclFact_mono h hb⟩
theorem boxFact_mono {e sz B base : Nat} {C : List Value} {v : Value} {W W' : World} (h : boxFact e sz B base C v W) (hb : Below W.heap.size W W') : boxFact e sz B base C v W' := by
  obtain ⟨k, rfl, hk, h⟩ := h
  exact ⟨k, rfl, hk, h.below hb⟩
theorem acl_makes {A : Option Addr} {c B base : Nat} {l : List S83} {W : World} (hC : Kd.C k83 W A l.length l) (hc : l.length ≤ c) (hB : B ≤ W.heap.size) (hb : base ≤ B) :
    Calls Tryd.prog 23 #[.slice A l.length c] W fun e w' => ∃ v, e = .returned v ∧ aclFact B base (aclOf l) v w' ∧ Below W.heap.size W w' :=
  (donjonlaw11_Acl.calls A c l _ W hC hc rfl).mono fun e w' ⟨v, he, hR, hbl⟩ => ⟨v, he, Kd.R_lower (Kd.R_mono (Kd.R_bound hR) (fun k hk => Nat.le_trans hB hk.2.1)) (Nat.le_trans hb hB), hbl⟩
set_option maxHeartbeats 4000000 in
set_option maxRecDepth 100000 in
theorem grow_calls (A0 : Option Addr) (c0 : Nat) (l0 : List (S26)) (A1 : Option Addr) (c1 : Nat) (l1 : List (S54)) (w : World) (hr0 : Kd.C k26 w A0 l0.length l0) (hc0 : l0.length ≤ c0) (hr1 : Kd.C k54 w A1 l1.length l1) (hc1 : l1.length ≤ c1) :
    Calls Tryd.prog 11 #[.slice A0 l0.length c0, .slice A1 l1.length c1] w fun e w' => ∃ v0_ : Value, e = .returned (v0_) ∧ Kd.N k32 32 w' w.heap.size (fun k_ => (w.heap.size ≤ k_)) v0_ (growP l0 l1) ∧ Below w.heap.size w w' := by
  have hmx0 : l0.length ≤ 9223372036854775807 := hr0.2.1
  have hmx1 : l1.length ≤ 9223372036854775807 := hr1.2.1
  have HR0 := Lib.hid hr0
  have HR1 := Lib.hid hr1
  clear hr0 hr1
  have hu := Tryd.underlying32
  have hul := Tryd.underlying26
  have hum := Tryd.underlying54
  have huc := Tryd.underlying65
  have hur := Tryd.underlying29
  have HP := Lib.hid (show growP l0 l1 = growTo l0 l1 (min l1.length 14) from rfl)
  generalize growP l0 l1 = r at *
  go_enter Tryd.func11, Tryd.ntmps11
  go_wp2_with fail
  go_loopw [6] (fun s6 w' => ∃ (i : Nat) (s : Value), s6 = .int .i64 i ∧ i ≤ l0.length ∧ i ≤ 4 ∧ Aside0 (Box 65 3 w' w.heap.size w.heap.size [s, .slice none 0 0, .slice none 0 0]) ∧ Aside0 (Kd.R k26 26 w' w.heap.size (fun k => w.heap.size < k) s (goodTo l0 i)) ∧ Below w.heap.size w w') (fun s6 _ => 4 - (intOf s6).toNat)
  case atStart => exact ⟨0, .slice none 0 0, rfl, Nat.zero_le _, Nat.zero_le _, ⟨Box.new (C := [.slice none 0 0, .slice none 0 0, .slice none 0 0]) (Nat.le_refl _) rfl (by simp [Value.oneCell'])⟩, ⟨Kd.R_nil _ _ _ _ _⟩, below_alloc (Below.refl _ _) _⟩
  case round =>
    obtain ⟨i, s, rfl, hi, hi4, HB, HS, hB⟩ := hrel
    obtain ⟨As, cs, rfl⟩ := Kd.R_slice HS.out
    by_cases hlt : i < l0.length
    · by_cases hlt4 : i < 4
      · go_wp2_with fail
        obtain ⟨ad, rfl, hi0, hi1, hi2, hi3⟩ := at_T26 (Kd.C_below HR0.out hB) (i : Int) (by omega) (by omega)
        simp only [Int.toNat_natCast] at hi0 hi1 hi2 hi3
        have hbi := World.block_lt_of_cell? _ _ hi0
        have hbx := HB.out.cell (j := 0) rfl
        have hbl : w.heap.size < wr.heap.size := HB.out.lt
        have HG := Lib.hid (show goodTo l0 (i + 1) = goodTo l0 i ++ [goodL (rd_T26 l0 (i : Nat))] from rfl)
        have HGL := Lib.hid (goodTo_length l0 i)
        generalize rd_T26 l0 (i : Nat) = di at *
        have HGI := Lib.hid (goodL_is di)
        generalize goodL di = gi at *
        apply wp_region_facts 0 8 [.is _, .is _, .is _, .is _, .is _, .is _, .is _, .such (oneLabel gi)] (by kernel_rfl) (by kernel_rfl) rfl (by rfl) ?hmono ?hp ?hs ?ht
        case hp => exact trivial
        case hmono =>
          intro F hF v W W' hv hb
          simp at hF
          subst hF
          exact oneLabel_mono hv hb
        case hs =>
          simp only [List.take_succ_cons, List.take_zero, List.zip_cons_cons, List.zip_nil_left, wpMakes, List.nil_append, List.cons_append]
          repeat
            refine And.intro (fun W hW => ?_) ?_
            focus
              obtain ⟨hc2, hf2⟩ := below_rules hW
              repeat (first | (with_reducible refine forPuts_is ?_) | ((with_reducible refine forPuts_not ?_ ?_); (focus exact rfl)) | ((with_reducible refine forPuts_such ?_ ?_); (focus exact rfl); intro v hv))
              with_reducible refine forPuts_nil ?_
              (try simp only [Act.put, List.setIfInBounds_toArray, List.set_cons_zero, List.set_cons_succ])
              go_simp
              first
              | exact Below.refl _ _
              | exact ⟨rfl, Below.refl _ _⟩
              | exact ⟨oneLabel_new _ _, below_alloc (Below.refl _ _) _⟩
              | exact makes_call (donjonlaw4_Good.calls _ _ _ _ _ _ _ _ _ HGI.out)
          exact trivial
        case ht =>
          intro W hW
          obtain ⟨hc2, hf2⟩ := below_rules hW
          simp only [List.take_succ_cons, List.take_zero, List.map_cons, List.map_nil, List.zip_cons_cons, List.zip_nil_left]
          repeat (first | (with_reducible refine forPuts_is ?_) | ((with_reducible refine forPuts_such ?_ ?_); (focus exact rfl); intro v hv))
          with_reducible refine forPuts_nil ?_
          simp only [Act.put, List.setIfInBounds_toArray, List.set_cons_zero, List.set_cons_succ, List.drop_succ_cons, List.drop_zero]
          obtain ⟨kb, rfl, hrb⟩ := hv
          have hBW : Below w.heap.size w W := below_on hB hW
          have HSW := Lib.hid (Kd.R_below HS.out hW)
          have HBW := Lib.hid (HB.out.below hW)
          have hszW : w.heap.size ≤ W.heap.size := hBW.size
          have HRB := Lib.hid hrb
          have hne : some w.heap.size ≠ (Value.slice As (goodTo l0 i).length cs).ownBlock := fun h => Nat.lt_irrefl _ (HS.out.1 _ h.symm)
          clear hrb
          go_wp2_with (first
            | ((with_reducible refine gate_builtin (b := .append) (xs := #[.tmp 28, .tmp 34]) rfl ?_); at_builtin; refine Kd.R_append_rows k26 (w0 := w) w.heap.size rfl (.tmp 28) (.tmp 34) 23 26 (.agg #[.int .i64 0, .int .i64 0, .int .i64 0, .int .i64 0]) 32 rfl Tryd.underlying23 (by kernel_rfl) rfl (by decide) (by omega) (.slice As (goodTo l0 i).length cs) (goodTo l0 i) [gi] (some ⟨kb, 0, none⟩) 1 1 (fun k => w.heap.size < k) (fun _ => False) rfl rfl HSW.out HRB.out (fun x q h => by obtain rfl := k26_open h; exact k26_mkM _ _ _ x) (fun _ hk => hk.elim) (fun k hk => Nat.lt_of_lt_of_le HBW.out.lt hk) hBW hszW (by rw [HGL.out]; omega) ?_; intro v1 w6 ho hbb hg hat)
            | (refine Box.store (w0 := w) (base := w.heap.size) (k := w.heap.size) rfl rfl 23 (.tmp 36) (.tmp 35) rfl 0 v1 [v1] rfl rfl (Kd.R_val ho).1 (by kernel_rfl) (by simp [(Kd.R_val ho).2]) (HBW.out.grown hg hne) (by simp) hbb ?_; intro w7 hB7 hbb7 hg7))
          refine NoPanic.normal ?_
          go_wp2_with fail
          exact ⟨⟨i + 1, v1, by go_num, hlt, hlt4, ⟨hB7⟩, ⟨by rw [HG.out]; exact Kd.R_grown ho hg7 (fun k hk he => by injection he with he; omega)⟩, hbb7⟩, by simp [intOf]; omega⟩
      · have HM := Lib.hid (show min l0.length 4 = i by omega)
        have HA := Lib.hid (show growTo l0 l1 0 = firstTo (goodTo l0 i) (goodTo l0 i).length from by show firstTo (goodTo l0 (min l0.length 4)) (goodTo l0 (min l0.length 4)).length = _; rw [HM.out])
        have HL := Lib.hid (goodTo_length l0 i)
        have y0 := HB.out.cell (j := 0) rfl
        have y1 := HB.out.cell (j := 1) rfl
        have y2 := HB.out.cell (j := 2) rfl
        have HRT := Lib.hid (Kd.R_reads' HS.out)
        go_wp2_with fail
        refine (donjonref11_First.calls As cs (goodTo l0 i) none 0 [] none 0 [] _ _ HRT.out.2.2 HRT.out.2.1 ⟨rfl, Nat.zero_le _, fun h => absurd h (Nat.lt_irrefl 0)⟩ (Nat.le_refl _) ⟨rfl, Nat.zero_le _, fun h => absurd h (Nat.lt_irrefl 0)⟩ (Nat.le_refl _) (by unfold donjonref11_First.f; rw [if_pos (by rw [HL.out]; omega)])).mono ?_
        rintro e w1 ⟨v1, rfl, hN1, hb1⟩
        have hB1 := below_on hB hb1
        have hszr := hB.size
        have HN1 := Lib.hid (Kd.N_lower (Kd.N_mono hN1 (fun k hk => Nat.le_trans hszr hk)) hszr)
        clear hN1 hb1 y0 y1 y2
        go_wp2_with fail
        go_loopw [7, 8] (fun s7 s8 w' => ∃ i : Nat, s8 = .int .i64 i ∧ i ≤ l1.length ∧ i ≤ 14 ∧ Aside0 (Kd.N k32 32 w' w.heap.size (fun k => w.heap.size ≤ k) s7 (growTo l0 l1 i)) ∧ Below w.heap.size w w') (fun _ s8 _ => 14 - (intOf s8).toNat)
        case atStart => exact ⟨0, rfl, Nat.zero_le _, Nat.zero_le _, ⟨by rw [HA.out]; exact HN1.out⟩, hB1⟩
        case round =>
          clear HB HS HN1 HRT HR0 HA HL HM hB1 hszr hB hi hi4
          obtain ⟨i, rfl, hi, hi14, HN, hB⟩ := hrel
          by_cases hlt : i < l1.length
          · by_cases hlt14 : i < 14
            · obtain ⟨ad, A0', cA0, A6, c6, A11, c11, rfl, hbk, hq, hlp, hCp, hl6, hC6, hl11, hC11⟩ := make_at (Kd.C_below HR1.out hB) i hlt
              have HCp := Lib.hid hCp
              have HC6 := Lib.hid hC6
              have HC11 := Lib.hid hC11
              clear hCp hC6 hC11
              obtain ⟨Al, cl, rfl⟩ := Kd.N_slice HN.out
              have HGS := Lib.hid (show growTo l0 l1 (i + 1) = growStep (growTo l0 l1 i) (rd_T54 l1 (i : Nat)) from rfl)
              have hgl : (growTo l0 l1 i).length ≤ 19 := by have := growTo_le l0 l1 i; omega
              generalize rd_T54 l1 (i : Nat) = m at *
              generalize growTo l0 l1 i = g at *
              obtain ⟨kO, hO⟩ := of_is m.f0
              have HO := Lib.hid hO
              clear hO
              have HG1 := Lib.hid (growStep.eq_1 g m)
              have hps := ofP_size m.f0
              generalize ofP m.f0 = p at *
              have hszr := hB.size
              by_cases hroot : p.toList = [47]
              · have hrb : (p.toList == [47]) = true := by rw [hroot]; rfl
                have HG2 := Lib.hid (HG1.out.trans (if_pos hroot))
                clear hroot
                go_wp2_with fail
                refine (donjonlaw7_Of.calls kO A0' cA0 m.f0 p _ (Kd.C_below HCp.out (below_alloc (Below.refl _ _) _)) hlp HO.out).mono ?_
                rintro e w2 ⟨rfl, hb2⟩
                have hB2 : Below wr.heap.size wr w2 := below_on (below_alloc (Below.refl _ _) _) hb2
                go_wp2_with fail
                exact ⟨⟨i + 1, by go_num, hlt, hlt14, ⟨by rw [HGS.out, HG2.out]; exact Kd.N_below HN.out hB2⟩, below_on hB hB2⟩, by simp [intOf]; omega⟩
              · have hrb : (p.toList == [47]) = false := by simpa using hroot
                have HG2 := Lib.hid (HG1.out.trans (if_neg hroot))
                have HPR := Lib.hid (parR_is p (by omega))
                clear hroot
                generalize hpp : parR p = pp at *
                clear hpp
                go_wp2_with fail
                refine (donjonlaw7_Of.calls kO A0' cA0 m.f0 p _ (Kd.C_below HCp.out (below_alloc (Below.refl _ _) _)) hlp HO.out).mono ?_
                rintro e w2 ⟨rfl, hb2⟩
                have hB2 : Below wr.heap.size wr w2 := below_on (below_alloc (Below.refl _ _) _) hb2
                obtain ⟨hc2, hf2⟩ := below_rules hb2
                have hlt2 : wr.heap.size < w2.heap.size := by have h1 := hb2.size; simp at h1; omega
                go_wp2_with fail
                refine (donjonref7_Parent.calls _ p pp _ HPR.out).mono ?_
                rintro e w3 ⟨rfl, q3, rfl⟩
                have hB3 : Below wr.heap.size wr (w2.drewN q3) := pw_below_drewN hB2 _
                go_wp2_with fail
                refine (find_calls Al cl g pp _ (Kd.C_below (Kd.N_reads' HN.out).2.2 hB3) (Kd.N_reads' HN.out).2.1 (by omega)).mono ?_
                rintro e w4 ⟨hb4, hcase⟩
                have hB4 : Below wr.heap.size wr w4 := below_on hB3 hb4
                have hlt4 : wr.heap.size < w4.heap.size := Nat.lt_of_lt_of_le hlt2 hb4.size
                obtain ⟨hc4, hf4⟩ := below_rules hb4
                rcases hcase with ⟨hn, rfl⟩ | ⟨d, A6d, c6d, A11d, c11d, hn, rfl, -⟩
                · rw [hn] at HG2
                  have HG3 := HG2
                  clear HG2 hn
                  go_wp2_with fail
                  refine (find_calls Al cl g p _ (Kd.C_below (Kd.N_reads' HN.out).2.2 (below_alloc hB4 _)) (Kd.N_reads' HN.out).2.1 (by omega)).mono ?_
                  rintro e w5 ⟨hb5, hcase⟩
                  have hB5 : Below wr.heap.size wr w5 := below_on (below_alloc hB4 _) hb5
                  clear hb5
                  rcases hcase with ⟨hn, rfl⟩ | ⟨d', A6e, c6e, A11e, c11e, hn, rfl, -⟩
                  all_goals
                    clear hn
                    go_wp2_with fail
                    exact ⟨⟨i + 1, by go_num, hlt, hlt14, ⟨by rw [HGS.out, HG3.out]; exact Kd.N_alloc (Kd.N_below HN.out hB5) _⟩, below_alloc (below_on hB hB5) _⟩, by simp [intOf]; omega⟩
                · rw [hn] at HG2
                  have HG3 := Lib.hid (show growStep g m = if d.f1 = true ∧ findN g p = none then putP g (newN p d m) else g from HG2.out)
                  clear hn HG2
                  go_wp2_with fail
                  refine (find_calls Al cl g p _ (Kd.C_below (Kd.N_reads' HN.out).2.2 (below_alloc hB4 _)) (Kd.N_reads' HN.out).2.1 (by omega)).mono ?_
                  rintro e w5 ⟨hb5, hcase⟩
                  have hB5 : Below wr.heap.size wr w5 := below_on (below_alloc hB4 _) hb5
                  have hlt5 : w4.heap.size < w5.heap.size := by have h1 := hb5.size; simp at h1; omega
                  obtain ⟨hc5, hf5⟩ := below_rules hb5
                  cases hd1 : d.f1 with
                  | false =>
                    rw [hd1] at hc5
                    have HG4 := Lib.hid (HG3.out.trans (if_neg (fun h => by rw [hd1] at h; cases h.1)))
                    rcases hcase with ⟨hn, rfl⟩ | ⟨d', A6e, c6e, A11e, c11e, hn, rfl, -⟩
                    all_goals
                      clear hn
                      go_wp2_with fail
                      exact ⟨⟨i + 1, by go_num, hlt, hlt14, ⟨by rw [HGS.out, HG4.out]; exact Kd.N_alloc (Kd.N_below HN.out hB5) _⟩, below_alloc (below_on hB hB5) _⟩, by simp [intOf]; omega⟩
                  | true =>
                    rw [hd1] at hc5
                    rcases hcase with ⟨hn, rfl⟩ | ⟨d', A6e, c6e, A11e, c11e, hn, rfl, -⟩
                    · have HG4 := Lib.hid (HG3.out.trans (if_pos ⟨hd1, hn⟩))
                      clear hn
                      go_wp2_with fail
                      obtain ⟨w6, hw6⟩ : ∃ w6, w6 = w5.alloc (.cells #[.string ⟨#[]⟩, .bool false, .int .i64 0, .int .i64 0, .int .i64 0, .int .i64 0, .slice none 0 0, .int .i64 0, .int .i64 0, .int .i64 0, .int .i64 0, .slice none 0 0, .int .i64 0, .int .i64 0, .int .i64 0, .int .i64 0] 32) := ⟨_, rfl⟩
                      rw [← hw6]
                      have hb6 : Below w5.heap.size w5 w6 := by rw [hw6]; exact below_alloc (Below.refl _ _) _
                      clear hw6
                      have hB6 : Below wr.heap.size wr w6 := below_on hB5 hb6
                      have hmb : ∀ j : Nat, w6.cell? ⟨wr.heap.size, j, none⟩ = (#[.slice A0' m.f0.length cA0, .bool m.f1, .int .i64 m.f2.f0, .int .i64 m.f2.f1, .int .i64 m.f2.f2, .int .i64 m.f2.f3, .slice A6 m.f3.length c6, .int .i64 m.f4.f0, .int .i64 m.f4.f1, .int .i64 m.f4.f2, .int .i64 m.f4.f3, .slice A11 m.f5.length c11, .int .i64 m.f6.f0, .int .i64 m.f6.f1, .int .i64 m.f6.f2, .int .i64 m.f6.f3] : Array Value)[j]? := fun j => by
                        have h1 : Below (wr.alloc (.cells #[.slice A0' m.f0.length cA0, .bool m.f1, .int .i64 m.f2.f0, .int .i64 m.f2.f1, .int .i64 m.f2.f2, .int .i64 m.f2.f3, .slice A6 m.f3.length c6, .int .i64 m.f4.f0, .int .i64 m.f4.f1, .int .i64 m.f4.f2, .int .i64 m.f4.f3, .slice A11 m.f5.length c11, .int .i64 m.f6.f0, .int .i64 m.f6.f1, .int .i64 m.f6.f2, .int .i64 m.f6.f3] 54)).heap.size (wr.alloc (.cells #[.slice A0' m.f0.length cA0, .bool m.f1, .int .i64 m.f2.f0, .int .i64 m.f2.f1, .int .i64 m.f2.f2, .int .i64 m.f2.f3, .slice A6 m.f3.length c6, .int .i64 m.f4.f0, .int .i64 m.f4.f1, .int .i64 m.f4.f2, .int .i64 m.f4.f3, .slice A11 m.f5.length c11, .int .i64 m.f6.f0, .int .i64 m.f6.f1, .int .i64 m.f6.f2, .int .i64 m.f6.f3] 54)) w6 := below_on (below_on (below_alloc (below_on (pw_below_drewN hb2 q3) hb4) _) hb5) hb6
                        rw [h1.cell (by simp)]
                        exact World.cell?_alloc_at _ _ _ _ rfl
                      have hdb : ∀ j : Nat, w6.cell? ⟨w4.heap.size, j, none⟩ = (#[.string d.f0, .bool true, .int .i64 d.f2.f0, .int .i64 d.f2.f1, .int .i64 d.f2.f2, .int .i64 d.f2.f3, .slice A6d d.f3.length c6d, .int .i64 d.f4.f0, .int .i64 d.f4.f1, .int .i64 d.f4.f2, .int .i64 d.f4.f3, .slice A11d d.f5.length c11d, .int .i64 d.f6.f0, .int .i64 d.f6.f1, .int .i64 d.f6.f2, .int .i64 d.f6.f3] : Array Value)[j]? := fun j => by
                        rw [hb6.cell hlt5, hb5.cell (by simp)]
                        rw [← hd1]
                        exact World.cell?_alloc_at _ _ _ _ rfl
                      have hl6w : wr.heap.size < w6.heap.size := World.block_lt_of_cell? _ _ (hmb 1)
                      have hl64 : w4.heap.size < w6.heap.size := World.block_lt_of_cell? _ _ (hdb 1)
                      have m1 := hmb 1
                      have m2 := hmb 2
                      have m3 := hmb 3
                      have m4 := hmb 4
                      have m5 := hmb 5
                      have m6 := hmb 6
                      have m12 := hmb 12
                      have m13 := hmb 13
                      have m14 := hmb 14
                      have m15 := hmb 15
                      have d2 := hdb 2
                      have d3 := hdb 3
                      have d4 := hdb 4
                      have d5 := hdb 5
                      have HMB := Lib.hid hmb
                      have HDB := Lib.hid hdb
                      clear hmb hdb hc2 hf2 hc4 hf4 hc5 hf5 hb2 hb4 hb5 hb6 hq
                      have HB6 := Lib.hid hB6
                      have HGy := Lib.hid (goodL_is m.f6)
                      have HGu := Lib.hid (goodL_is m.f2)
                      have HNN := Lib.hid (newN.eq_1 p d m)
                      generalize hgy : goodL m.f6 = gy at *
                      generalize hgu : goodL m.f2 = gu at *
                      clear hgy hgu
                      have HCa := Lib.hid (Kd.C_below HC6.out hB6)
                      have hszw : w.heap.size ≤ wr.heap.size := hszr
                      apply wp_region_facts 0 13 [.is _, .is _, .is _, .is _, .is _, .is _, .is _, .such (aclFact w6.heap.size wr.heap.size (aclOf m.f3)), .is _, .is _, .is _, .such (nodeFact w6.heap.size wr.heap.size p m.f1 d.f2 gy (aclOf m.f3)), .such (boxFact 32 16 w6.heap.size wr.heap.size (#[.string ⟨#[]⟩, .bool false, .int .i64 0, .int .i64 0, .int .i64 0, .int .i64 0, .slice none 0 0, .int .i64 0, .int .i64 0, .int .i64 0, .int .i64 0, .slice none 0 0, .int .i64 0, .int .i64 0, .int .i64 0, .int .i64 0] : Array Value).toList)] (by kernel_rfl) (by kernel_rfl) rfl (by rfl) ?hmono ?hp ?hs ?ht
                      case hp => exact trivial
                      case hmono =>
                        intro F hF v W W' hv hb
                        simp at hF
                        rcases hF with rfl | rfl | rfl
                        · exact aclFact_mono hv hb
                        · exact nodeFact_mono hv hb
                        · exact boxFact_mono hv hb
                      case hs =>
                        simp only [List.take_succ_cons, List.take_zero, List.zip_cons_cons, List.zip_nil_left, wpMakes, List.nil_append, List.cons_append]
                        repeat
                          refine And.intro (fun W hW => ?_) ?_
                          focus
                            obtain ⟨hc7, hf7⟩ := below_rules hW
                            have hszW : w6.heap.size ≤ W.heap.size := hW.size
                            repeat (first | (with_reducible refine forPuts_is ?_) | ((with_reducible refine forPuts_not ?_ ?_); (focus exact rfl)) | ((with_reducible refine forPuts_such ?_ ?_); (focus exact rfl); intro v hv))
                            with_reducible refine forPuts_nil ?_
                            (try simp only [Act.put, List.setIfInBounds_toArray, List.set_cons_zero, List.set_cons_succ])
                            (try obtain ⟨Av, cv, rfl⟩ := Kd.R_slice hv)
                            go_simp
                            first
                            | exact Below.refl _ _
                            | exact ⟨rfl, Below.refl _ _⟩
                            | exact makes_call (donjonlaw4_Good.calls _ _ _ _ _ _ _ _ _ HGy.out)
                            | exact acl_makes (Kd.C_below HCa.out hW) hl6 hszW (Nat.le_of_lt hl6w)
                            | exact ⟨⟨_, _, rfl, hv⟩, Below.refl _ _⟩
                            | exact ⟨⟨_, rfl, hszW, Box.new' (Nat.le_trans (Nat.le_of_lt hl6w) hszW) rfl rfl (by simp [Value.oneCell'])⟩, below_alloc (Below.refl _ _) _⟩
                        exact trivial
                      case ht =>
                        intro W hW
                        obtain ⟨hc7, hf7⟩ := below_rules hW
                        simp only [List.take_succ_cons, List.take_zero, List.map_cons, List.map_nil, List.zip_cons_cons, List.zip_nil_left]
                        iterate 7 (with_reducible refine forPuts_is ?_)
                        (with_reducible refine forPuts_such ?_ ?_)
                        · exact rfl
                        intro vA hvA
                        iterate 3 (with_reducible refine forPuts_is ?_)
                        (with_reducible refine forPuts_such ?_ ?_)
                        · exact rfl
                        intro vN hvN
                        (with_reducible refine forPuts_such ?_ ?_)
                        · exact rfl
                        intro vB hvB
                        with_reducible refine forPuts_nil ?_
                        obtain ⟨An, cn, rfl, hAn⟩ := hvN
                        obtain ⟨kb, rfl, hkb, hbox⟩ := hvB
                        clear hvA
                        simp only [Act.put, List.setIfInBounds_toArray, List.set_cons_zero, List.set_cons_succ, List.drop_succ_cons, List.drop_zero]
                        have hBW : Below wr.heap.size wr W := below_on hB6 hW
                        have HAN := Lib.hid hAn
                        have HBX := Lib.hid hbox
                        have hnek : ∀ q : Nat, q < w6.heap.size → some q ≠ some kb := fun q hq he => by injection he with he; omega
                        clear hAn hbox
                        refine Box.store (w0 := wr) (base := wr.heap.size) (k := kb) rfl rfl 32 (.tmp 15) (.tmp 92) rfl 0 _ [.string p, .bool m.f1, .int .i64 d.f2.f0, .int .i64 d.f2.f1, .int .i64 d.f2.f2, .int .i64 d.f2.f3, .slice An (aclOf m.f3).length cn, .int .i64 0, .int .i64 0, .int .i64 0, .int .i64 0, .slice none 0 0, .int .i64 gy.f0, .int .i64 gy.f1, .int .i64 gy.f2, .int .i64 gy.f3] rfl rfl rfl (by kernel_rfl) (by simp [Value.oneCell']) HBX.out (by simp) hBW ?_
                        intro w7 hB7 hbb7 hg7
                        refine NoPanic.normal ?_
                        have HB7 := Lib.hid (show Box 32 16 w7 wr.heap.size kb [.string p, .bool m.f1, .int .i64 d.f2.f0, .int .i64 d.f2.f1, .int .i64 d.f2.f2, .int .i64 d.f2.f3, .slice An (aclOf m.f3).length cn, .int .i64 0, .int .i64 0, .int .i64 0, .int .i64 0, .slice none 0 0, .int .i64 gy.f0, .int .i64 gy.f1, .int .i64 gy.f2, .int .i64 gy.f3] from hB7)
                        obtain ⟨cb, hcb⟩ := Kd.R_typed HBX.out kb (by simp [Value.ownBlock])
                        have HA7 := Lib.hid (Kd.R_grown2 HAN.out rfl hg7 (fun k he => by obtain rfl := Option.some.inj he; exact Kd.R_ne HAN.out hcb (by decide)))
                        have HM7 := Lib.hid (fun (j : Nat) (v : Value) (h : (#[.slice A0' m.f0.length cA0, .bool m.f1, .int .i64 m.f2.f0, .int .i64 m.f2.f1, .int .i64 m.f2.f2, .int .i64 m.f2.f3, .slice A6 m.f3.length c6, .int .i64 m.f4.f0, .int .i64 m.f4.f1, .int .i64 m.f4.f2, .int .i64 m.f4.f3, .slice A11 m.f5.length c11, .int .i64 m.f6.f0, .int .i64 m.f6.f1, .int .i64 m.f6.f2, .int .i64 m.f6.f3] : Array Value)[j]? = some v) => Go.Proofs.YtpdflhgcdehmoaaDoorW.PrintWords.cell_grown hg7 ((hW.cell (p := ⟨wr.heap.size, j, none⟩) hl6w).trans ((HMB.out j).trans h)) (hnek _ hl6w))
                        have HD7 := Lib.hid (fun (j : Nat) (v : Value) (h : (#[.string d.f0, .bool true, .int .i64 d.f2.f0, .int .i64 d.f2.f1, .int .i64 d.f2.f2, .int .i64 d.f2.f3, .slice A6d d.f3.length c6d, .int .i64 d.f4.f0, .int .i64 d.f4.f1, .int .i64 d.f4.f2, .int .i64 d.f4.f3, .slice A11d d.f5.length c11d, .int .i64 d.f6.f0, .int .i64 d.f6.f1, .int .i64 d.f6.f2, .int .i64 d.f6.f3] : Array Value)[j]? = some v) => Go.Proofs.YtpdflhgcdehmoaaDoorW.PrintWords.cell_grown hg7 ((hW.cell (p := ⟨w4.heap.size, j, none⟩) hl64).trans ((HDB.out j).trans h)) (hnek _ hl64))
                        clear hB7 hg7 hc7 hf7 m1 m2 m3 m4 m5 m6 m12 m13 m14 m15 d2 d3 d4 d5 hcb HBX HAN HMB HDB
                        have m1 := HM7.out 1 _ rfl
                        have hsz7 := hbb7.size
                        have hbb := HB7.out
                        clear HB7
                        rcases hm1 : m.f1 with _ | _
                        · rw [hm1] at m1 hbb
                          have HB7 := Lib.hid hbb
                          clear hbb
                          have m7 := HM7.out 7 _ rfl
                          have m8 := HM7.out 8 _ rfl
                          have m9 := HM7.out 9 _ rfl
                          have m10 := HM7.out 10 _ rfl
                          have hbm := World.block_lt_of_cell? _ _ m1
                          have HNN2 := Lib.hid (HNN.out.trans (if_neg (by rw [hm1]; simp)))
                          have HLG := Lib.hid (law6good_calls m.f4)
                          generalize goodR m.f4 = gr at *
                          go_wp2_with fail
                          refine (HLG.out _).mono ?_
                          rintro e w8 ⟨rfl, hb8⟩
                          go_wp2_with (refine Box.store (w0 := wr) (base := wr.heap.size) (k := kb) rfl rfl 29 (.tmp 105) (.tmp 104) rfl 7 _ [.int .i64 gr.f0, .int .i64 gr.f1, .int .i64 gr.f2, .int .i64 gr.f3] rfl rfl rfl (by kernel_rfl) (by simp [Value.oneCell']) (HB7.out.below hb8) (by simp) (below_on hbb7 hb8) ?_; intro w9 hB9 hbb9 hg9)
                          have HB9 := Lib.hid (show Box 32 16 w9 wr.heap.size kb ([.string p, .bool false, .int .i64 d.f2.f0, .int .i64 d.f2.f1, .int .i64 d.f2.f2, .int .i64 d.f2.f3, .slice An (aclOf m.f3).length cn, .int .i64 gr.f0, .int .i64 gr.f1, .int .i64 gr.f2, .int .i64 gr.f3, .slice none 0 0, .int .i64 gy.f0, .int .i64 gy.f1, .int .i64 gy.f2, .int .i64 gy.f3]) from hB9)
                          obtain ⟨cb, hcb⟩ := Kd.R_typed (HB7.out.below hb8) kb (by simp [Value.ownBlock])
                          have HA9 := Lib.hid (Kd.R_grown2 (Kd.R_below HA7.out hb8) rfl hg9 (fun k he => by obtain rfl := Option.some.inj he; exact Kd.R_ne (Kd.R_below HA7.out hb8) hcb (by decide)))
                          have m11 : w9.cell? ⟨wr.heap.size, 11, none⟩ = some (.slice A11 m.f5.length c11) := Go.Proofs.YtpdflhgcdehmoaaDoorW.PrintWords.cell_grown hg9 ((hb8.cell (p := ⟨wr.heap.size, 11, none⟩) hbm).trans (HM7.out 11 _ rfl)) (hnek _ hl6w)
                          clear hB9 hg9 hcb m1 m7 m8 m9 m10 hb8
                          have HBB9 := Lib.hid hbb9
                          clear hbb9
                          obtain ⟨wo, rfl⟩ : ∃ wo : World, wo = wr := ⟨_, rfl⟩
                          go_wp2_with fail
                          go_loopw [16] (fun s16 w' => ∃ (j : Nat) (s : Value), s16 = .int .i64 j ∧ j ≤ m.f5.length ∧ j ≤ 16 ∧ Aside0 (Box 32 16 w' wo.heap.size kb ([.string p, .bool false, .int .i64 d.f2.f0, .int .i64 d.f2.f1, .int .i64 d.f2.f2, .int .i64 d.f2.f3, .slice An (aclOf m.f3).length cn, .int .i64 gr.f0, .int .i64 gr.f1, .int .i64 gr.f2, .int .i64 gr.f3, s, .int .i64 gy.f0, .int .i64 gy.f1, .int .i64 gy.f2, .int .i64 gy.f3])) ∧ Aside0 (Kd.R (Kd.int .i64) 2 w' wo.heap.size (fun k => w6.heap.size ≤ k) s (m.f5.take j) ∧ Kd.R k83 83 w' wo.heap.size (fun k => w6.heap.size ≤ k) (.slice An (aclOf m.f3).length cn) (aclOf m.f3)) ∧ w'.cell? ⟨wo.heap.size, 11, none⟩ = some (.slice A11 m.f5.length c11) ∧ Below wo.heap.size wo w') (fun s16 _ => 16 - (intOf s16).toNat)
                          case atStart => exact ⟨0, .slice none 0 0, rfl, Nat.zero_le _, Nat.zero_le _, ⟨HB9.out⟩, ⟨Kd.R_nil _ _ _ _ _, HA9.out⟩, m11, HBB9.out⟩
                          case round =>
                            clear HB9 HA9 m11 HBB9
                            obtain ⟨j, s, rfl, hj, hj16, HBX, HRS, m11, hBj⟩ := hrel
                            obtain ⟨As2, cs2, rfl⟩ := Kd.R_slice HRS.out.1
                            have y11 := HBX.out.cell (j := 11) rfl
                            have hkbl := HBX.out.lt
                            have hbm2 := World.block_lt_of_cell? _ _ m11
                            have hw6l : w6.heap.size ≤ wr.heap.size := Nat.le_trans hkb (Nat.le_of_lt hkbl)
                            by_cases hjl : j < m.f5.length
                            · by_cases hjl16 : j < 16
                              · obtain ⟨ad2, rfl, x0⟩ := ReadsInt.at_ (Kd.reads_of_C (enc := Value.int .i64) (d := (0 : Int)) (h1 := fun _ => rfl) (Kd.C_below HC11.out hBj)) (j : Int) (by omega) (by omega)
                                simp only [Int.toNat_natCast] at x0
                                have hbx := World.block_lt_of_cell? _ _ x0
                                have HTK := Lib.hid (show m.f5.take (j + 1) = m.f5.take j ++ [rd m.f5 (j : Int)] by
                                  rw [List.take_succ_eq_append_getElem hjl]
                                  congr 2
                                  simp [rd, List.getD_eq_getElem?_getD, hjl])
                                have HLT := Lib.hid (show (m.f5.take j).length ≤ 16 by simp; omega)
                                generalize rd m.f5 (j : Int) = x at *
                                generalize m.f5.take j = tj at *
                                go_wp2_with fail
                                apply wp_region_facts 0 8 [.is _, .is _, .is _, .is _, .is _, .is _, .is _, .such (oneWord x)] (by kernel_rfl) (by kernel_rfl) rfl (by rfl) ?hmono3 ?hp3 ?hs3 ?ht3
                                case hp3 => exact trivial
                                case hmono3 =>
                                  intro F hF v W W' hv hb
                                  simp at hF
                                  subst hF
                                  exact oneWord_mono hv hb
                                case hs3 =>
                                  simp only [List.take_succ_cons, List.take_zero, List.zip_cons_cons, List.zip_nil_left, wpMakes, List.nil_append, List.cons_append]
                                  repeat
                                    refine And.intro (fun W hW => ?_) ?_
                                    focus
                                      obtain ⟨hc8, hf8⟩ := below_rules hW
                                      repeat (first | (with_reducible refine forPuts_is ?_) | ((with_reducible refine forPuts_not ?_ ?_); (focus exact rfl)) | ((with_reducible refine forPuts_such ?_ ?_); (focus exact rfl); intro v hv))
                                      with_reducible refine forPuts_nil ?_
                                      (try simp only [Act.put, List.setIfInBounds_toArray, List.set_cons_zero, List.set_cons_succ])
                                      go_simp
                                      first
                                      | exact Below.refl _ _
                                      | exact ⟨rfl, Below.refl _ _⟩
                                      | exact ⟨oneWord_new _ _, below_alloc (Below.refl _ _) _⟩
                                  exact trivial
                                case ht3 =>
                                  intro W hW
                                  simp only [List.take_succ_cons, List.take_zero, List.map_cons, List.map_nil, List.zip_cons_cons, List.zip_nil_left]
                                  iterate 7 (with_reducible refine forPuts_is ?_)
                                  (with_reducible refine forPuts_such ?_ ?_)
                                  · exact rfl
                                  intro v hv
                                  with_reducible refine forPuts_nil ?_
                                  simp only [Act.put, List.setIfInBounds_toArray, List.set_cons_zero, List.set_cons_succ, List.drop_succ_cons, List.drop_zero]
                                  obtain ⟨kw, rfl, hrb⟩ := hv
                                  have HRB := Lib.hid hrb
                                  clear hrb
                                  have hBW : Below wo.heap.size wo W := below_on hBj hW
                                  have HSW := Lib.hid (Kd.R_below HRS.out.1 hW)
                                  have HAW := Lib.hid (Kd.R_below HRS.out.2 hW)
                                  have HBW := Lib.hid (HBX.out.below hW)
                                  have hmW : W.cell? ⟨wo.heap.size, 11, none⟩ = some (.slice (some ad2) m.f5.length c11) := (hW.cell hbm2).trans m11
                                  obtain ⟨cb, hcb⟩ := Kd.R_typed HBW.out kb (by simp [Value.ownBlock])
                                  have hne1 : some kb ≠ (Value.slice As2 tj.length cs2).ownBlock := Kd.R_ne HSW.out hcb (by decide)
                                  have hne2 : some kb ≠ (Value.slice An (aclOf m.f3).length cn).ownBlock := Kd.R_ne HAW.out hcb (by decide)
                                  have hne3 : ∀ k, (Value.slice As2 tj.length cs2).ownBlock = some k → some k ≠ (Value.slice An (aclOf m.f3).length cn).ownBlock := fun k hk => by
                                    obtain ⟨cw, hcw⟩ := Kd.R_typed HSW.out k hk
                                    exact Kd.R_ne HAW.out hcw (by decide)
                                  have hne4 : some wo.heap.size ≠ (Value.slice As2 tj.length cs2).ownBlock := fun h => by have := HSW.out.1 _ h.symm; omega
                                  clear hcb
                                  go_wp2_with (first
                                    | ((with_reducible refine gate_builtin (b := .append) (xs := #[.tmp 118, .tmp 124]) rfl ?_); at_builtin; refine Kd.R_append_rows (Kd.int .i64) (w0 := wo) wo.heap.size rfl (.tmp 118) (.tmp 124) 30 2 (.int .i64 0) 8 rfl Tryd.underlying30 (by kernel_rfl) rfl (by decide) (by omega) (.slice As2 tj.length cs2) tj [x] (some ⟨kw, 0, none⟩) 1 1 (fun k => w6.heap.size ≤ k) (fun _ => False) rfl rfl HSW.out HRB.out (fun _ _ h => h) (fun _ hk => hk.elim) (fun k hk => Nat.le_trans (Nat.le_trans hw6l hW.size) hk) hBW hBW.size (by have := HLT.out; omega) ?_; intro v1 w10 ho hbb hg hat)
                                    | (refine Box.store (w0 := wo) (base := wo.heap.size) (k := kb) rfl rfl 30 (.tmp 126) (.tmp 125) rfl 11 v1 [v1] rfl rfl (Kd.R_val ho).1 (by kernel_rfl) (by simp [(Kd.R_val ho).2]) (HBW.out.grown hg hne1) (by simp) hbb ?_; intro w11 hB11 hbb11 hg11))
                                  refine NoPanic.normal ?_
                                  have hA10 := Kd.R_grown2 HAW.out rfl hg hne3
                                  obtain ⟨cb, hcb⟩ := Kd.R_typed (HBW.out.grown hg hne1) kb (by simp [Value.ownBlock])
                                  have HA11 := Lib.hid (Kd.R_grown2 hA10 rfl hg11 (fun k he => by obtain rfl := Option.some.inj he; exact hne2))
                                  have HS11 := Lib.hid (Kd.R_grown2 ho rfl hg11 (fun k he => by obtain rfl := Option.some.inj he; exact Kd.R_ne ho hcb (by decide)))
                                  have hm11 := Go.Proofs.YtpdflhgcdehmoaaDoorW.PrintWords.cell_grown hg11 (Go.Proofs.YtpdflhgcdehmoaaDoorW.PrintWords.cell_grown hg hmW hne4) (hnek _ hl6w)
                                  have HM11 := Lib.hid hm11
                                  have HB11 := Lib.hid (show Box 32 16 w11 wo.heap.size kb ([.string p, .bool false, .int .i64 d.f2.f0, .int .i64 d.f2.f1, .int .i64 d.f2.f2, .int .i64 d.f2.f3, .slice An (aclOf m.f3).length cn, .int .i64 gr.f0, .int .i64 gr.f1, .int .i64 gr.f2, .int .i64 gr.f3, v1, .int .i64 gy.f0, .int .i64 gy.f1, .int .i64 gy.f2, .int .i64 gy.f3]) from hB11)
                                  clear hm11 hB11 hA10 hcb y11 m11 hmW
                                  go_wp2_with fail
                                  exact ⟨⟨j + 1, v1, by go_num, hjl, hjl16, ⟨HB11.out⟩, ⟨by rw [HTK.out]; exact HS11.out, HA11.out⟩, HM11.out, hbb11⟩, by simp [intOf]; omega⟩
                              · have HT := Lib.hid (show m.f5.take 16 = m.f5.take j by rw [show j = 16 by omega])
                                have hLT : (m.f5.take j).length ≤ 16 := by simp; omega
                                have HN8 := Lib.hid (Kd.N_below HN.out hBj)
                                have hq8 := cellsQ_of (w := wr) (A := ⟨kb, 0, none⟩) ([.string p, .bool false, .int .i64 d.f2.f0, .int .i64 d.f2.f1, .int .i64 d.f2.f2, .int .i64 d.f2.f3, .slice An (aclOf m.f3).length cn, .int .i64 gr.f0, .int .i64 gr.f1, .int .i64 gr.f2, .int .i64 gr.f3, .slice As2 (m.f5.take j).length cs2, .int .i64 gy.f0, .int .i64 gy.f1, .int .i64 gy.f2, .int .i64 gy.f3]) 0 (fun q v hq => by rw [add_plain, Nat.zero_add]; exact HBX.out.cell hq)
                                obtain ⟨kP, hP⟩ := put_is g ⟨p, false, d.f2, aclOf m.f3, gr, m.f5.take j, gy⟩ (by omega)
                                have HPp := Lib.hid hP
                                clear hP
                                simp only [List.length_cons, List.length_nil] at hq8
                                have HNN3 := Lib.hid (show newN p d m = ⟨p, false, d.f2, aclOf m.f3, gr, m.f5.take j, gy⟩ by rw [HNN2.out, HT.out])
                                generalize m.f5.take j = tj at *
                                go_wp2_with fail
                                refine (donjonref11_Put.calls kP (fun k => w.heap.size ≤ k) Al cl g _ _ _ _ _ _ (fun k => w6.heap.size ≤ k) An cn (aclOf m.f3) _ _ _ _ (fun k => w6.heap.size ≤ k) As2 cs2 tj _ _ _ _ _ _ ⟨Al, cl, rfl, (Kd.N_reads' HN8.out).2.1, Kd.N_F HN8.out⟩ ⟨An, cn, rfl, (Kd.R_reads' HRS.out.2).2.1, Kd.R_F HRS.out.2⟩ ⟨As2, cs2, rfl, (Kd.R_reads' HRS.out.1).2.1, Kd.R_F HRS.out.1⟩ HPp.out).mono ?_
                                rintro e w12 ⟨v12, rfl, hN12, hb12⟩
                                have hB12 : Below wo.heap.size wo w12 := below_on hBj hb12
                                have hszj := hBj.size
                                go_wp2_with fail
                                exact ⟨⟨i + 1, by go_num, hlt, hlt14, ⟨by rw [HGS.out, HG4.out, HNN3.out]; exact Kd.N_lower (Kd.N_mono hN12 (fun k hk => by rcases hk with (hk | hk | hk) | hk <;> omega)) (by omega)⟩, below_on hB hB12⟩, by simp [intOf]; omega⟩
                            · have HT := Lib.hid (show m.f5.take 16 = m.f5.take j by rw [List.take_of_length_le (by omega), List.take_of_length_le (by omega)])
                              have hLT : (m.f5.take j).length ≤ 16 := by simp; omega
                              have HN8 := Lib.hid (Kd.N_below HN.out hBj)
                              have hq8 := cellsQ_of (w := wr) (A := ⟨kb, 0, none⟩) ([.string p, .bool false, .int .i64 d.f2.f0, .int .i64 d.f2.f1, .int .i64 d.f2.f2, .int .i64 d.f2.f3, .slice An (aclOf m.f3).length cn, .int .i64 gr.f0, .int .i64 gr.f1, .int .i64 gr.f2, .int .i64 gr.f3, .slice As2 (m.f5.take j).length cs2, .int .i64 gy.f0, .int .i64 gy.f1, .int .i64 gy.f2, .int .i64 gy.f3]) 0 (fun q v hq => by rw [add_plain, Nat.zero_add]; exact HBX.out.cell hq)
                              obtain ⟨kP, hP⟩ := put_is g ⟨p, false, d.f2, aclOf m.f3, gr, m.f5.take j, gy⟩ (by omega)
                              have HPp := Lib.hid hP
                              clear hP
                              simp only [List.length_cons, List.length_nil] at hq8
                              have HNN3 := Lib.hid (show newN p d m = ⟨p, false, d.f2, aclOf m.f3, gr, m.f5.take j, gy⟩ by rw [HNN2.out, HT.out])
                              generalize m.f5.take j = tj at *
                              go_wp2_with fail
                              refine (donjonref11_Put.calls kP (fun k => w.heap.size ≤ k) Al cl g _ _ _ _ _ _ (fun k => w6.heap.size ≤ k) An cn (aclOf m.f3) _ _ _ _ (fun k => w6.heap.size ≤ k) As2 cs2 tj _ _ _ _ _ _ ⟨Al, cl, rfl, (Kd.N_reads' HN8.out).2.1, Kd.N_F HN8.out⟩ ⟨An, cn, rfl, (Kd.R_reads' HRS.out.2).2.1, Kd.R_F HRS.out.2⟩ ⟨As2, cs2, rfl, (Kd.R_reads' HRS.out.1).2.1, Kd.R_F HRS.out.1⟩ HPp.out).mono ?_
                              rintro e w12 ⟨v12, rfl, hN12, hb12⟩
                              have hB12 : Below wo.heap.size wo w12 := below_on hBj hb12
                              have hszj := hBj.size
                              go_wp2_with fail
                              exact ⟨⟨i + 1, by go_num, hlt, hlt14, ⟨by rw [HGS.out, HG4.out, HNN3.out]; exact Kd.N_lower (Kd.N_mono hN12 (fun k hk => by rcases hk with (hk | hk | hk) | hk <;> omega)) (by omega)⟩, below_on hB hB12⟩, by simp [intOf]; omega⟩
                        · rw [hm1] at m1 hbb
                          have HB7 := Lib.hid hbb
                          clear hbb
                          have m2 := HM7.out 2 _ rfl
                          have m3 := HM7.out 3 _ rfl
                          have m4 := HM7.out 4 _ rfl
                          have m5 := HM7.out 5 _ rfl
                          have d2 := HD7.out 2 _ rfl
                          have d3 := HD7.out 3 _ rfl
                          have d4 := HD7.out 4 _ rfl
                          have d5 := HD7.out 5 _ rfl
                          have hbm := World.block_lt_of_cell? _ _ m1
                          have hbd := World.block_lt_of_cell? _ _ d2
                          have HJ := Lib.hid (joinP_is d.f2 gu)
                          have HNN2 := Lib.hid (HNN.out.trans (if_pos hm1))
                          generalize joinP d.f2 gu = gj at *
                          go_wp2_with fail
                          apply wp_region_facts 0 6 [.is _, .is _, .is _, .is _, .is _, .is _] (by kernel_rfl) (by kernel_rfl) rfl (by rfl) ?hmono2 ?hp2 ?hs2 ?ht2
                          case hp2 => exact trivial
                          case hmono2 =>
                            intro F hF
                            simp at hF
                          case hs2 =>
                            simp only [List.take_succ_cons, List.take_zero, List.zip_cons_cons, List.zip_nil_left, wpMakes, List.nil_append, List.cons_append]
                            repeat
                              refine And.intro (fun W hW => ?_) ?_
                              focus
                                obtain ⟨hc8, hf8⟩ := below_rules hW
                                repeat (with_reducible refine forPuts_is ?_)
                                with_reducible refine forPuts_nil ?_
                                (try simp only [Act.put, List.setIfInBounds_toArray, List.set_cons_zero, List.set_cons_succ])
                                go_simp
                                first
                                | exact Below.refl _ _
                                | exact ⟨rfl, Below.refl _ _⟩
                                | exact makes_call (donjonlaw4_Good.calls _ _ _ _ _ _ _ _ _ HGu.out)
                                | exact makes_call (donjonref4_Join.calls _ _ _ _ _ _ _ _ _ _ _ _ _ HJ.out)
                            exact trivial
                          case ht2 =>
                            intro W hW
                            simp only [List.take_succ_cons, List.take_zero, List.map_cons, List.map_nil, List.zip_cons_cons, List.zip_nil_left]
                            repeat (with_reducible refine forPuts_is ?_)
                            with_reducible refine forPuts_nil ?_
                            simp only [Act.put, List.setIfInBounds_toArray, List.set_cons_zero, List.set_cons_succ, List.drop_succ_cons, List.drop_zero]
                            have hBW2 : Below wr.heap.size wr W := below_on hbb7 hW
                            go_wp2_with (refine Box.store (w0 := wr) (base := wr.heap.size) (k := kb) rfl rfl 26 (.tmp 101) (.tmp 100) rfl 2 _ [.int .i64 gj.f0, .int .i64 gj.f1, .int .i64 gj.f2, .int .i64 gj.f3] rfl rfl rfl (by kernel_rfl) (by simp [Value.oneCell']) (HB7.out.below hW) (by simp) hBW2 ?_; intro w8 hB8 hbb8 hg8)
                            refine NoPanic.normal ?_
                            have HB8 := Lib.hid (show Box 32 16 w8 wr.heap.size kb [.string p, .bool true, .int .i64 gj.f0, .int .i64 gj.f1, .int .i64 gj.f2, .int .i64 gj.f3, .slice An (aclOf m.f3).length cn, .int .i64 0, .int .i64 0, .int .i64 0, .int .i64 0, .slice none 0 0, .int .i64 gy.f0, .int .i64 gy.f1, .int .i64 gy.f2, .int .i64 gy.f3] from hB8)
                            obtain ⟨cb, hcb⟩ := Kd.R_typed (HB7.out.below hW) kb (by simp [Value.ownBlock])
                            have HA8 := Lib.hid (Kd.R_grown2 (Kd.R_below HA7.out hW) rfl hg8 (fun k he => by obtain rfl := Option.some.inj he; exact Kd.R_ne (Kd.R_below HA7.out hW) hcb (by decide)))
                            have HN8 := Lib.hid (Kd.N_below HN.out hbb8)
                            have hq8 := cellsQ_of (w := w8) (A := ⟨kb, 0, none⟩) [.string p, .bool true, .int .i64 gj.f0, .int .i64 gj.f1, .int .i64 gj.f2, .int .i64 gj.f3, .slice An (aclOf m.f3).length cn, .int .i64 0, .int .i64 0, .int .i64 0, .int .i64 0, .slice none 0 0, .int .i64 gy.f0, .int .i64 gy.f1, .int .i64 gy.f2, .int .i64 gy.f3] 0 (fun j v hj => by rw [add_plain, Nat.zero_add]; exact HB8.out.cell hj)
                            have hkb8 := HB8.out.lt
                            clear hB8 hg8 hcb m1 m2 m3 m4 m5 d2 d3 d4 d5
                            obtain ⟨kP, hP⟩ := put_is g ⟨p, true, gj, aclOf m.f3, ⟨0, 0, 0, 0⟩, [], gy⟩ (by omega)
                            have HPp := Lib.hid hP
                            clear hP
                            simp only [List.length_cons, List.length_nil] at hq8
                            go_wp2_with fail
                            refine (donjonref11_Put.calls kP (fun k => w.heap.size ≤ k) Al cl g _ _ _ _ _ _ (fun k => w6.heap.size ≤ k) An cn (aclOf m.f3) _ _ _ _ (fun k => w6.heap.size ≤ k) none 0 [] _ _ _ _ _ _ ⟨Al, cl, rfl, (Kd.N_reads' HN8.out).2.1, Kd.N_F HN8.out⟩ ⟨An, cn, rfl, (Kd.R_reads' HA8.out).2.1, Kd.R_F HA8.out⟩ ⟨none, 0, rfl, Nat.le_refl _, Kd.R_F (Kd.R_nil _ 2 _ w.heap.size _)⟩ HPp.out).mono ?_
                            rintro e w9 ⟨v9, rfl, hN9, hb9⟩
                            have hB9 : Below wr.heap.size wr w9 := below_on hbb8 hb9
                            go_wp2_with fail
                            exact ⟨⟨i + 1, by go_num, hlt, hlt14, ⟨by rw [HGS.out, HG4.out, HNN2.out]; exact Kd.N_lower (Kd.N_mono hN9 (fun k hk => by rcases hk with (hk | hk | hk) | hk <;> omega)) (by omega)⟩, below_on hB hB9⟩, by simp [intOf]; omega⟩
                    · have HG4 := Lib.hid (HG3.out.trans (if_neg (fun h => by rw [hn] at h; cases h.2)))
                      clear hn
                      go_wp2_with fail
                      exact ⟨⟨i + 1, by go_num, hlt, hlt14, ⟨by rw [HGS.out, HG4.out]; exact Kd.N_alloc (Kd.N_below HN.out hB5) _⟩, below_alloc (below_on hB hB5) _⟩, by simp [intOf]; omega⟩
            · have HQ := Lib.hid (show min l1.length 14 = i by omega)
              go_wp2_with fail
              go_ret
              exact ⟨_, rfl, by rw [HP.out, HQ.out]; exact HN.out, hB⟩
          · have HQ := Lib.hid (show min l1.length 14 = i by omega)
            go_wp2_with fail
            go_ret
            exact ⟨_, rfl, by rw [HP.out, HQ.out]; exact HN.out, hB⟩
    · have HM := Lib.hid (show min l0.length 4 = i by omega)
      have HA := Lib.hid (show growTo l0 l1 0 = firstTo (goodTo l0 i) (goodTo l0 i).length from by show firstTo (goodTo l0 (min l0.length 4)) (goodTo l0 (min l0.length 4)).length = _; rw [HM.out])
      have HL := Lib.hid (goodTo_length l0 i)
      have y0 := HB.out.cell (j := 0) rfl
      have y1 := HB.out.cell (j := 1) rfl
      have y2 := HB.out.cell (j := 2) rfl
      have HRT := Lib.hid (Kd.R_reads' HS.out)
      go_wp2_with fail
      refine (donjonref11_First.calls As cs (goodTo l0 i) none 0 [] none 0 [] _ _ HRT.out.2.2 HRT.out.2.1 ⟨rfl, Nat.zero_le _, fun h => absurd h (Nat.lt_irrefl 0)⟩ (Nat.le_refl _) ⟨rfl, Nat.zero_le _, fun h => absurd h (Nat.lt_irrefl 0)⟩ (Nat.le_refl _) (by unfold donjonref11_First.f; rw [if_pos (by rw [HL.out]; omega)])).mono ?_
      rintro e w1 ⟨v1, rfl, hN1, hb1⟩
      have hB1 := below_on hB hb1
      have hszr := hB.size
      have HN1 := Lib.hid (Kd.N_lower (Kd.N_mono hN1 (fun k hk => Nat.le_trans hszr hk)) hszr)
      clear hN1 hb1 y0 y1 y2
      go_wp2_with fail
      go_loopw [7, 8] (fun s7 s8 w' => ∃ i : Nat, s8 = .int .i64 i ∧ i ≤ l1.length ∧ i ≤ 14 ∧ Aside0 (Kd.N k32 32 w' w.heap.size (fun k => w.heap.size ≤ k) s7 (growTo l0 l1 i)) ∧ Below w.heap.size w w') (fun _ s8 _ => 14 - (intOf s8).toNat)
      case atStart => exact ⟨0, rfl, Nat.zero_le _, Nat.zero_le _, ⟨by rw [HA.out]; exact HN1.out⟩, hB1⟩
      case round =>
        clear HB HS HN1 HRT HR0 HA HL HM hB1 hszr hB hi hi4
        obtain ⟨i, rfl, hi, hi14, HN, hB⟩ := hrel
        by_cases hlt : i < l1.length
        · by_cases hlt14 : i < 14
          · obtain ⟨ad, A0', cA0, A6, c6, A11, c11, rfl, hbk, hq, hlp, hCp, hl6, hC6, hl11, hC11⟩ := make_at (Kd.C_below HR1.out hB) i hlt
            have HCp := Lib.hid hCp
            have HC6 := Lib.hid hC6
            have HC11 := Lib.hid hC11
            clear hCp hC6 hC11
            obtain ⟨Al, cl, rfl⟩ := Kd.N_slice HN.out
            have HGS := Lib.hid (show growTo l0 l1 (i + 1) = growStep (growTo l0 l1 i) (rd_T54 l1 (i : Nat)) from rfl)
            have hgl : (growTo l0 l1 i).length ≤ 19 := by have := growTo_le l0 l1 i; omega
            generalize rd_T54 l1 (i : Nat) = m at *
            generalize growTo l0 l1 i = g at *
            obtain ⟨kO, hO⟩ := of_is m.f0
            have HO := Lib.hid hO
            clear hO
            have HG1 := Lib.hid (growStep.eq_1 g m)
            have hps := ofP_size m.f0
            generalize ofP m.f0 = p at *
            have hszr := hB.size
            by_cases hroot : p.toList = [47]
            · have hrb : (p.toList == [47]) = true := by rw [hroot]; rfl
              have HG2 := Lib.hid (HG1.out.trans (if_pos hroot))
              clear hroot
              go_wp2_with fail
              refine (donjonlaw7_Of.calls kO A0' cA0 m.f0 p _ (Kd.C_below HCp.out (below_alloc (Below.refl _ _) _)) hlp HO.out).mono ?_
              rintro e w2 ⟨rfl, hb2⟩
              have hB2 : Below wr.heap.size wr w2 := below_on (below_alloc (Below.refl _ _) _) hb2
              go_wp2_with fail
              exact ⟨⟨i + 1, by go_num, hlt, hlt14, ⟨by rw [HGS.out, HG2.out]; exact Kd.N_below HN.out hB2⟩, below_on hB hB2⟩, by simp [intOf]; omega⟩
            · have hrb : (p.toList == [47]) = false := by simpa using hroot
              have HG2 := Lib.hid (HG1.out.trans (if_neg hroot))
              have HPR := Lib.hid (parR_is p (by omega))
              clear hroot
              generalize hpp : parR p = pp at *
              clear hpp
              go_wp2_with fail
              refine (donjonlaw7_Of.calls kO A0' cA0 m.f0 p _ (Kd.C_below HCp.out (below_alloc (Below.refl _ _) _)) hlp HO.out).mono ?_
              rintro e w2 ⟨rfl, hb2⟩
              have hB2 : Below wr.heap.size wr w2 := below_on (below_alloc (Below.refl _ _) _) hb2
              obtain ⟨hc2, hf2⟩ := below_rules hb2
              have hlt2 : wr.heap.size < w2.heap.size := by have h1 := hb2.size; simp at h1; omega
              go_wp2_with fail
              refine (donjonref7_Parent.calls _ p pp _ HPR.out).mono ?_
              rintro e w3 ⟨rfl, q3, rfl⟩
              have hB3 : Below wr.heap.size wr (w2.drewN q3) := pw_below_drewN hB2 _
              go_wp2_with fail
              refine (find_calls Al cl g pp _ (Kd.C_below (Kd.N_reads' HN.out).2.2 hB3) (Kd.N_reads' HN.out).2.1 (by omega)).mono ?_
              rintro e w4 ⟨hb4, hcase⟩
              have hB4 : Below wr.heap.size wr w4 := below_on hB3 hb4
              have hlt4 : wr.heap.size < w4.heap.size := Nat.lt_of_lt_of_le hlt2 hb4.size
              obtain ⟨hc4, hf4⟩ := below_rules hb4
              rcases hcase with ⟨hn, rfl⟩ | ⟨d, A6d, c6d, A11d, c11d, hn, rfl, -⟩
              · rw [hn] at HG2
                have HG3 := HG2
                clear HG2 hn
                go_wp2_with fail
                refine (find_calls Al cl g p _ (Kd.C_below (Kd.N_reads' HN.out).2.2 (below_alloc hB4 _)) (Kd.N_reads' HN.out).2.1 (by omega)).mono ?_
                rintro e w5 ⟨hb5, hcase⟩
                have hB5 : Below wr.heap.size wr w5 := below_on (below_alloc hB4 _) hb5
                clear hb5
                rcases hcase with ⟨hn, rfl⟩ | ⟨d', A6e, c6e, A11e, c11e, hn, rfl, -⟩
                all_goals
                  clear hn
                  go_wp2_with fail
                  exact ⟨⟨i + 1, by go_num, hlt, hlt14, ⟨by rw [HGS.out, HG3.out]; exact Kd.N_alloc (Kd.N_below HN.out hB5) _⟩, below_alloc (below_on hB hB5) _⟩, by simp [intOf]; omega⟩
              · rw [hn] at HG2
                have HG3 := Lib.hid (show growStep g m = if d.f1 = true ∧ findN g p = none then putP g (newN p d m) else g from HG2.out)
                clear hn HG2
                go_wp2_with fail
                refine (find_calls Al cl g p _ (Kd.C_below (Kd.N_reads' HN.out).2.2 (below_alloc hB4 _)) (Kd.N_reads' HN.out).2.1 (by omega)).mono ?_
                rintro e w5 ⟨hb5, hcase⟩
                have hB5 : Below wr.heap.size wr w5 := below_on (below_alloc hB4 _) hb5
                have hlt5 : w4.heap.size < w5.heap.size := by have h1 := hb5.size; simp at h1; omega
                obtain ⟨hc5, hf5⟩ := below_rules hb5
                cases hd1 : d.f1 with
                | false =>
                  rw [hd1] at hc5
                  have HG4 := Lib.hid (HG3.out.trans (if_neg (fun h => by rw [hd1] at h; cases h.1)))
                  rcases hcase with ⟨hn, rfl⟩ | ⟨d', A6e, c6e, A11e, c11e, hn, rfl, -⟩
                  all_goals
                    clear hn
                    go_wp2_with fail
                    exact ⟨⟨i + 1, by go_num, hlt, hlt14, ⟨by rw [HGS.out, HG4.out]; exact Kd.N_alloc (Kd.N_below HN.out hB5) _⟩, below_alloc (below_on hB hB5) _⟩, by simp [intOf]; omega⟩
                | true =>
                  rw [hd1] at hc5
                  rcases hcase with ⟨hn, rfl⟩ | ⟨d', A6e, c6e, A11e, c11e, hn, rfl, -⟩
                  · have HG4 := Lib.hid (HG3.out.trans (if_pos ⟨hd1, hn⟩))
                    clear hn
                    go_wp2_with fail
                    obtain ⟨w6, hw6⟩ : ∃ w6, w6 = w5.alloc (.cells #[.string ⟨#[]⟩, .bool false, .int .i64 0, .int .i64 0, .int .i64 0, .int .i64 0, .slice none 0 0, .int .i64 0, .int .i64 0, .int .i64 0, .int .i64 0, .slice none 0 0, .int .i64 0, .int .i64 0, .int .i64 0, .int .i64 0] 32) := ⟨_, rfl⟩
                    rw [← hw6]
                    have hb6 : Below w5.heap.size w5 w6 := by rw [hw6]; exact below_alloc (Below.refl _ _) _
                    clear hw6
                    have hB6 : Below wr.heap.size wr w6 := below_on hB5 hb6
                    have hmb : ∀ j : Nat, w6.cell? ⟨wr.heap.size, j, none⟩ = (#[.slice A0' m.f0.length cA0, .bool m.f1, .int .i64 m.f2.f0, .int .i64 m.f2.f1, .int .i64 m.f2.f2, .int .i64 m.f2.f3, .slice A6 m.f3.length c6, .int .i64 m.f4.f0, .int .i64 m.f4.f1, .int .i64 m.f4.f2, .int .i64 m.f4.f3, .slice A11 m.f5.length c11, .int .i64 m.f6.f0, .int .i64 m.f6.f1, .int .i64 m.f6.f2, .int .i64 m.f6.f3] : Array Value)[j]? := fun j => by
                      have h1 : Below (wr.alloc (.cells #[.slice A0' m.f0.length cA0, .bool m.f1, .int .i64 m.f2.f0, .int .i64 m.f2.f1, .int .i64 m.f2.f2, .int .i64 m.f2.f3, .slice A6 m.f3.length c6, .int .i64 m.f4.f0, .int .i64 m.f4.f1, .int .i64 m.f4.f2, .int .i64 m.f4.f3, .slice A11 m.f5.length c11, .int .i64 m.f6.f0, .int .i64 m.f6.f1, .int .i64 m.f6.f2, .int .i64 m.f6.f3] 54)).heap.size (wr.alloc (.cells #[.slice A0' m.f0.length cA0, .bool m.f1, .int .i64 m.f2.f0, .int .i64 m.f2.f1, .int .i64 m.f2.f2, .int .i64 m.f2.f3, .slice A6 m.f3.length c6, .int .i64 m.f4.f0, .int .i64 m.f4.f1, .int .i64 m.f4.f2, .int .i64 m.f4.f3, .slice A11 m.f5.length c11, .int .i64 m.f6.f0, .int .i64 m.f6.f1, .int .i64 m.f6.f2, .int .i64 m.f6.f3] 54)) w6 := below_on (below_on (below_alloc (below_on (pw_below_drewN hb2 q3) hb4) _) hb5) hb6
                      rw [h1.cell (by simp)]
                      exact World.cell?_alloc_at _ _ _ _ rfl
                    have hdb : ∀ j : Nat, w6.cell? ⟨w4.heap.size, j, none⟩ = (#[.string d.f0, .bool true, .int .i64 d.f2.f0, .int .i64 d.f2.f1, .int .i64 d.f2.f2, .int .i64 d.f2.f3, .slice A6d d.f3.length c6d, .int .i64 d.f4.f0, .int .i64 d.f4.f1, .int .i64 d.f4.f2, .int .i64 d.f4.f3, .slice A11d d.f5.length c11d, .int .i64 d.f6.f0, .int .i64 d.f6.f1, .int .i64 d.f6.f2, .int .i64 d.f6.f3] : Array Value)[j]? := fun j => by
                      rw [hb6.cell hlt5, hb5.cell (by simp)]
                      rw [← hd1]
                      exact World.cell?_alloc_at _ _ _ _ rfl
                    have hl6w : wr.heap.size < w6.heap.size := World.block_lt_of_cell? _ _ (hmb 1)
                    have hl64 : w4.heap.size < w6.heap.size := World.block_lt_of_cell? _ _ (hdb 1)
                    have m1 := hmb 1
                    have m2 := hmb 2
                    have m3 := hmb 3
                    have m4 := hmb 4
                    have m5 := hmb 5
                    have m6 := hmb 6
                    have m12 := hmb 12
                    have m13 := hmb 13
                    have m14 := hmb 14
                    have m15 := hmb 15
                    have d2 := hdb 2
                    have d3 := hdb 3
                    have d4 := hdb 4
                    have d5 := hdb 5
                    have HMB := Lib.hid hmb
                    have HDB := Lib.hid hdb
                    clear hmb hdb hc2 hf2 hc4 hf4 hc5 hf5 hb2 hb4 hb5 hb6 hq
                    have HB6 := Lib.hid hB6
                    have HGy := Lib.hid (goodL_is m.f6)
                    have HGu := Lib.hid (goodL_is m.f2)
                    have HNN := Lib.hid (newN.eq_1 p d m)
                    generalize hgy : goodL m.f6 = gy at *
                    generalize hgu : goodL m.f2 = gu at *
                    clear hgy hgu
                    have HCa := Lib.hid (Kd.C_below HC6.out hB6)
                    have hszw : w.heap.size ≤ wr.heap.size := hszr
                    apply wp_region_facts 0 13 [.is _, .is _, .is _, .is _, .is _, .is _, .is _, .such (aclFact w6.heap.size wr.heap.size (aclOf m.f3)), .is _, .is _, .is _, .such (nodeFact w6.heap.size wr.heap.size p m.f1 d.f2 gy (aclOf m.f3)), .such (boxFact 32 16 w6.heap.size wr.heap.size (#[.string ⟨#[]⟩, .bool false, .int .i64 0, .int .i64 0, .int .i64 0, .int .i64 0, .slice none 0 0, .int .i64 0, .int .i64 0, .int .i64 0, .int .i64 0, .slice none 0 0, .int .i64 0, .int .i64 0, .int .i64 0, .int .i64 0] : Array Value).toList)] (by kernel_rfl) (by kernel_rfl) rfl (by rfl) ?hmono ?hp ?hs ?ht
                    case hp => exact trivial
                    case hmono =>
                      intro F hF v W W' hv hb
                      simp at hF
                      rcases hF with rfl | rfl | rfl
                      · exact aclFact_mono hv hb
                      · exact nodeFact_mono hv hb
                      · exact boxFact_mono hv hb
                    case hs =>
                      simp only [List.take_succ_cons, List.take_zero, List.zip_cons_cons, List.zip_nil_left, wpMakes, List.nil_append, List.cons_append]
                      repeat
                        refine And.intro (fun W hW => ?_) ?_
                        focus
                          obtain ⟨hc7, hf7⟩ := below_rules hW
                          have hszW : w6.heap.size ≤ W.heap.size := hW.size
                          repeat (first | (with_reducible refine forPuts_is ?_) | ((with_reducible refine forPuts_not ?_ ?_); (focus exact rfl)) | ((with_reducible refine forPuts_such ?_ ?_); (focus exact rfl); intro v hv))
                          with_reducible refine forPuts_nil ?_
                          (try simp only [Act.put, List.setIfInBounds_toArray, List.set_cons_zero, List.set_cons_succ])
                          (try obtain ⟨Av, cv, rfl⟩ := Kd.R_slice hv)
                          go_simp
                          first
                          | exact Below.refl _ _
                          | exact ⟨rfl, Below.refl _ _⟩
                          | exact makes_call (donjonlaw4_Good.calls _ _ _ _ _ _ _ _ _ HGy.out)
                          | exact acl_makes (Kd.C_below HCa.out hW) hl6 hszW (Nat.le_of_lt hl6w)
                          | exact ⟨⟨_, _, rfl, hv⟩, Below.refl _ _⟩
                          | exact ⟨⟨_, rfl, hszW, Box.new' (Nat.le_trans (Nat.le_of_lt hl6w) hszW) rfl rfl (by simp [Value.oneCell'])⟩, below_alloc (Below.refl _ _) _⟩
                      exact trivial
                    case ht =>
                      intro W hW
                      obtain ⟨hc7, hf7⟩ := below_rules hW
                      simp only [List.take_succ_cons, List.take_zero, List.map_cons, List.map_nil, List.zip_cons_cons, List.zip_nil_left]
                      iterate 7 (with_reducible refine forPuts_is ?_)
                      (with_reducible refine forPuts_such ?_ ?_)
                      · exact rfl
                      intro vA hvA
                      iterate 3 (with_reducible refine forPuts_is ?_)
                      (with_reducible refine forPuts_such ?_ ?_)
                      · exact rfl
                      intro vN hvN
                      (with_reducible refine forPuts_such ?_ ?_)
                      · exact rfl
                      intro vB hvB
                      with_reducible refine forPuts_nil ?_
                      obtain ⟨An, cn, rfl, hAn⟩ := hvN
                      obtain ⟨kb, rfl, hkb, hbox⟩ := hvB
                      clear hvA
                      simp only [Act.put, List.setIfInBounds_toArray, List.set_cons_zero, List.set_cons_succ, List.drop_succ_cons, List.drop_zero]
                      have hBW : Below wr.heap.size wr W := below_on hB6 hW
                      have HAN := Lib.hid hAn
                      have HBX := Lib.hid hbox
                      have hnek : ∀ q : Nat, q < w6.heap.size → some q ≠ some kb := fun q hq he => by injection he with he; omega
                      clear hAn hbox
                      refine Box.store (w0 := wr) (base := wr.heap.size) (k := kb) rfl rfl 32 (.tmp 15) (.tmp 92) rfl 0 _ [.string p, .bool m.f1, .int .i64 d.f2.f0, .int .i64 d.f2.f1, .int .i64 d.f2.f2, .int .i64 d.f2.f3, .slice An (aclOf m.f3).length cn, .int .i64 0, .int .i64 0, .int .i64 0, .int .i64 0, .slice none 0 0, .int .i64 gy.f0, .int .i64 gy.f1, .int .i64 gy.f2, .int .i64 gy.f3] rfl rfl rfl (by kernel_rfl) (by simp [Value.oneCell']) HBX.out (by simp) hBW ?_
                      intro w7 hB7 hbb7 hg7
                      refine NoPanic.normal ?_
                      have HB7 := Lib.hid (show Box 32 16 w7 wr.heap.size kb [.string p, .bool m.f1, .int .i64 d.f2.f0, .int .i64 d.f2.f1, .int .i64 d.f2.f2, .int .i64 d.f2.f3, .slice An (aclOf m.f3).length cn, .int .i64 0, .int .i64 0, .int .i64 0, .int .i64 0, .slice none 0 0, .int .i64 gy.f0, .int .i64 gy.f1, .int .i64 gy.f2, .int .i64 gy.f3] from hB7)
                      obtain ⟨cb, hcb⟩ := Kd.R_typed HBX.out kb (by simp [Value.ownBlock])
                      have HA7 := Lib.hid (Kd.R_grown2 HAN.out rfl hg7 (fun k he => by obtain rfl := Option.some.inj he; exact Kd.R_ne HAN.out hcb (by decide)))
                      have HM7 := Lib.hid (fun (j : Nat) (v : Value) (h : (#[.slice A0' m.f0.length cA0, .bool m.f1, .int .i64 m.f2.f0, .int .i64 m.f2.f1, .int .i64 m.f2.f2, .int .i64 m.f2.f3, .slice A6 m.f3.length c6, .int .i64 m.f4.f0, .int .i64 m.f4.f1, .int .i64 m.f4.f2, .int .i64 m.f4.f3, .slice A11 m.f5.length c11, .int .i64 m.f6.f0, .int .i64 m.f6.f1, .int .i64 m.f6.f2, .int .i64 m.f6.f3] : Array Value)[j]? = some v) => Go.Proofs.YtpdflhgcdehmoaaDoorW.PrintWords.cell_grown hg7 ((hW.cell (p := ⟨wr.heap.size, j, none⟩) hl6w).trans ((HMB.out j).trans h)) (hnek _ hl6w))
                      have HD7 := Lib.hid (fun (j : Nat) (v : Value) (h : (#[.string d.f0, .bool true, .int .i64 d.f2.f0, .int .i64 d.f2.f1, .int .i64 d.f2.f2, .int .i64 d.f2.f3, .slice A6d d.f3.length c6d, .int .i64 d.f4.f0, .int .i64 d.f4.f1, .int .i64 d.f4.f2, .int .i64 d.f4.f3, .slice A11d d.f5.length c11d, .int .i64 d.f6.f0, .int .i64 d.f6.f1, .int .i64 d.f6.f2, .int .i64 d.f6.f3] : Array Value)[j]? = some v) => Go.Proofs.YtpdflhgcdehmoaaDoorW.PrintWords.cell_grown hg7 ((hW.cell (p := ⟨w4.heap.size, j, none⟩) hl64).trans ((HDB.out j).trans h)) (hnek _ hl64))
                      clear hB7 hg7 hc7 hf7 m1 m2 m3 m4 m5 m6 m12 m13 m14 m15 d2 d3 d4 d5 hcb HBX HAN HMB HDB
                      have m1 := HM7.out 1 _ rfl
                      have hsz7 := hbb7.size
                      have hbb := HB7.out
                      clear HB7
                      rcases hm1 : m.f1 with _ | _
                      · rw [hm1] at m1 hbb
                        have HB7 := Lib.hid hbb
                        clear hbb
                        have m7 := HM7.out 7 _ rfl
                        have m8 := HM7.out 8 _ rfl
                        have m9 := HM7.out 9 _ rfl
                        have m10 := HM7.out 10 _ rfl
                        have hbm := World.block_lt_of_cell? _ _ m1
                        have HNN2 := Lib.hid (HNN.out.trans (if_neg (by rw [hm1]; simp)))
                        have HLG := Lib.hid (law6good_calls m.f4)
                        generalize goodR m.f4 = gr at *
                        go_wp2_with fail
                        refine (HLG.out _).mono ?_
                        rintro e w8 ⟨rfl, hb8⟩
                        go_wp2_with (refine Box.store (w0 := wr) (base := wr.heap.size) (k := kb) rfl rfl 29 (.tmp 105) (.tmp 104) rfl 7 _ [.int .i64 gr.f0, .int .i64 gr.f1, .int .i64 gr.f2, .int .i64 gr.f3] rfl rfl rfl (by kernel_rfl) (by simp [Value.oneCell']) (HB7.out.below hb8) (by simp) (below_on hbb7 hb8) ?_; intro w9 hB9 hbb9 hg9)
                        have HB9 := Lib.hid (show Box 32 16 w9 wr.heap.size kb ([.string p, .bool false, .int .i64 d.f2.f0, .int .i64 d.f2.f1, .int .i64 d.f2.f2, .int .i64 d.f2.f3, .slice An (aclOf m.f3).length cn, .int .i64 gr.f0, .int .i64 gr.f1, .int .i64 gr.f2, .int .i64 gr.f3, .slice none 0 0, .int .i64 gy.f0, .int .i64 gy.f1, .int .i64 gy.f2, .int .i64 gy.f3]) from hB9)
                        obtain ⟨cb, hcb⟩ := Kd.R_typed (HB7.out.below hb8) kb (by simp [Value.ownBlock])
                        have HA9 := Lib.hid (Kd.R_grown2 (Kd.R_below HA7.out hb8) rfl hg9 (fun k he => by obtain rfl := Option.some.inj he; exact Kd.R_ne (Kd.R_below HA7.out hb8) hcb (by decide)))
                        have m11 : w9.cell? ⟨wr.heap.size, 11, none⟩ = some (.slice A11 m.f5.length c11) := Go.Proofs.YtpdflhgcdehmoaaDoorW.PrintWords.cell_grown hg9 ((hb8.cell (p := ⟨wr.heap.size, 11, none⟩) hbm).trans (HM7.out 11 _ rfl)) (hnek _ hl6w)
                        clear hB9 hg9 hcb m1 m7 m8 m9 m10 hb8
                        have HBB9 := Lib.hid hbb9
                        clear hbb9
                        obtain ⟨wo, rfl⟩ : ∃ wo : World, wo = wr := ⟨_, rfl⟩
                        go_wp2_with fail
                        go_loopw [16] (fun s16 w' => ∃ (j : Nat) (s : Value), s16 = .int .i64 j ∧ j ≤ m.f5.length ∧ j ≤ 16 ∧ Aside0 (Box 32 16 w' wo.heap.size kb ([.string p, .bool false, .int .i64 d.f2.f0, .int .i64 d.f2.f1, .int .i64 d.f2.f2, .int .i64 d.f2.f3, .slice An (aclOf m.f3).length cn, .int .i64 gr.f0, .int .i64 gr.f1, .int .i64 gr.f2, .int .i64 gr.f3, s, .int .i64 gy.f0, .int .i64 gy.f1, .int .i64 gy.f2, .int .i64 gy.f3])) ∧ Aside0 (Kd.R (Kd.int .i64) 2 w' wo.heap.size (fun k => w6.heap.size ≤ k) s (m.f5.take j) ∧ Kd.R k83 83 w' wo.heap.size (fun k => w6.heap.size ≤ k) (.slice An (aclOf m.f3).length cn) (aclOf m.f3)) ∧ w'.cell? ⟨wo.heap.size, 11, none⟩ = some (.slice A11 m.f5.length c11) ∧ Below wo.heap.size wo w') (fun s16 _ => 16 - (intOf s16).toNat)
                        case atStart => exact ⟨0, .slice none 0 0, rfl, Nat.zero_le _, Nat.zero_le _, ⟨HB9.out⟩, ⟨Kd.R_nil _ _ _ _ _, HA9.out⟩, m11, HBB9.out⟩
                        case round =>
                          clear HB9 HA9 m11 HBB9
                          obtain ⟨j, s, rfl, hj, hj16, HBX, HRS, m11, hBj⟩ := hrel
                          obtain ⟨As2, cs2, rfl⟩ := Kd.R_slice HRS.out.1
                          have y11 := HBX.out.cell (j := 11) rfl
                          have hkbl := HBX.out.lt
                          have hbm2 := World.block_lt_of_cell? _ _ m11
                          have hw6l : w6.heap.size ≤ wr.heap.size := Nat.le_trans hkb (Nat.le_of_lt hkbl)
                          by_cases hjl : j < m.f5.length
                          · by_cases hjl16 : j < 16
                            · obtain ⟨ad2, rfl, x0⟩ := ReadsInt.at_ (Kd.reads_of_C (enc := Value.int .i64) (d := (0 : Int)) (h1 := fun _ => rfl) (Kd.C_below HC11.out hBj)) (j : Int) (by omega) (by omega)
                              simp only [Int.toNat_natCast] at x0
                              have hbx := World.block_lt_of_cell? _ _ x0
                              have HTK := Lib.hid (show m.f5.take (j + 1) = m.f5.take j ++ [rd m.f5 (j : Int)] by
                                rw [List.take_succ_eq_append_getElem hjl]
                                congr 2
                                simp [rd, List.getD_eq_getElem?_getD, hjl])
                              have HLT := Lib.hid (show (m.f5.take j).length ≤ 16 by simp; omega)
                              generalize rd m.f5 (j : Int) = x at *
                              generalize m.f5.take j = tj at *
                              go_wp2_with fail
                              apply wp_region_facts 0 8 [.is _, .is _, .is _, .is _, .is _, .is _, .is _, .such (oneWord x)] (by kernel_rfl) (by kernel_rfl) rfl (by rfl) ?hmono3 ?hp3 ?hs3 ?ht3
                              case hp3 => exact trivial
                              case hmono3 =>
                                intro F hF v W W' hv hb
                                simp at hF
                                subst hF
                                exact oneWord_mono hv hb
                              case hs3 =>
                                simp only [List.take_succ_cons, List.take_zero, List.zip_cons_cons, List.zip_nil_left, wpMakes, List.nil_append, List.cons_append]
                                repeat
                                  refine And.intro (fun W hW => ?_) ?_
                                  focus
                                    obtain ⟨hc8, hf8⟩ := below_rules hW
                                    repeat (first | (with_reducible refine forPuts_is ?_) | ((with_reducible refine forPuts_not ?_ ?_); (focus exact rfl)) | ((with_reducible refine forPuts_such ?_ ?_); (focus exact rfl); intro v hv))
                                    with_reducible refine forPuts_nil ?_
                                    (try simp only [Act.put, List.setIfInBounds_toArray, List.set_cons_zero, List.set_cons_succ])
                                    go_simp
                                    first
                                    | exact Below.refl _ _
                                    | exact ⟨rfl, Below.refl _ _⟩
                                    | exact ⟨oneWord_new _ _, below_alloc (Below.refl _ _) _⟩
                                exact trivial
                              case ht3 =>
                                intro W hW
                                simp only [List.take_succ_cons, List.take_zero, List.map_cons, List.map_nil, List.zip_cons_cons, List.zip_nil_left]
                                iterate 7 (with_reducible refine forPuts_is ?_)
                                (with_reducible refine forPuts_such ?_ ?_)
                                · exact rfl
                                intro v hv
                                with_reducible refine forPuts_nil ?_
                                simp only [Act.put, List.setIfInBounds_toArray, List.set_cons_zero, List.set_cons_succ, List.drop_succ_cons, List.drop_zero]
                                obtain ⟨kw, rfl, hrb⟩ := hv
                                have HRB := Lib.hid hrb
                                clear hrb
                                have hBW : Below wo.heap.size wo W := below_on hBj hW
                                have HSW := Lib.hid (Kd.R_below HRS.out.1 hW)
                                have HAW := Lib.hid (Kd.R_below HRS.out.2 hW)
                                have HBW := Lib.hid (HBX.out.below hW)
                                have hmW : W.cell? ⟨wo.heap.size, 11, none⟩ = some (.slice (some ad2) m.f5.length c11) := (hW.cell hbm2).trans m11
                                obtain ⟨cb, hcb⟩ := Kd.R_typed HBW.out kb (by simp [Value.ownBlock])
                                have hne1 : some kb ≠ (Value.slice As2 tj.length cs2).ownBlock := Kd.R_ne HSW.out hcb (by decide)
                                have hne2 : some kb ≠ (Value.slice An (aclOf m.f3).length cn).ownBlock := Kd.R_ne HAW.out hcb (by decide)
                                have hne3 : ∀ k, (Value.slice As2 tj.length cs2).ownBlock = some k → some k ≠ (Value.slice An (aclOf m.f3).length cn).ownBlock := fun k hk => by
                                  obtain ⟨cw, hcw⟩ := Kd.R_typed HSW.out k hk
                                  exact Kd.R_ne HAW.out hcw (by decide)
                                have hne4 : some wo.heap.size ≠ (Value.slice As2 tj.length cs2).ownBlock := fun h => by have := HSW.out.1 _ h.symm; omega
                                clear hcb
                                go_wp2_with (first
                                  | ((with_reducible refine gate_builtin (b := .append) (xs := #[.tmp 118, .tmp 124]) rfl ?_); at_builtin; refine Kd.R_append_rows (Kd.int .i64) (w0 := wo) wo.heap.size rfl (.tmp 118) (.tmp 124) 30 2 (.int .i64 0) 8 rfl Tryd.underlying30 (by kernel_rfl) rfl (by decide) (by omega) (.slice As2 tj.length cs2) tj [x] (some ⟨kw, 0, none⟩) 1 1 (fun k => w6.heap.size ≤ k) (fun _ => False) rfl rfl HSW.out HRB.out (fun _ _ h => h) (fun _ hk => hk.elim) (fun k hk => Nat.le_trans (Nat.le_trans hw6l hW.size) hk) hBW hBW.size (by have := HLT.out; omega) ?_; intro v1 w10 ho hbb hg hat)
                                  | (refine Box.store (w0 := wo) (base := wo.heap.size) (k := kb) rfl rfl 30 (.tmp 126) (.tmp 125) rfl 11 v1 [v1] rfl rfl (Kd.R_val ho).1 (by kernel_rfl) (by simp [(Kd.R_val ho).2]) (HBW.out.grown hg hne1) (by simp) hbb ?_; intro w11 hB11 hbb11 hg11))
                                refine NoPanic.normal ?_
                                have hA10 := Kd.R_grown2 HAW.out rfl hg hne3
                                obtain ⟨cb, hcb⟩ := Kd.R_typed (HBW.out.grown hg hne1) kb (by simp [Value.ownBlock])
                                have HA11 := Lib.hid (Kd.R_grown2 hA10 rfl hg11 (fun k he => by obtain rfl := Option.some.inj he; exact hne2))
                                have HS11 := Lib.hid (Kd.R_grown2 ho rfl hg11 (fun k he => by obtain rfl := Option.some.inj he; exact Kd.R_ne ho hcb (by decide)))
                                have hm11 := Go.Proofs.YtpdflhgcdehmoaaDoorW.PrintWords.cell_grown hg11 (Go.Proofs.YtpdflhgcdehmoaaDoorW.PrintWords.cell_grown hg hmW hne4) (hnek _ hl6w)
                                have HM11 := Lib.hid hm11
                                have HB11 := Lib.hid (show Box 32 16 w11 wo.heap.size kb ([.string p, .bool false, .int .i64 d.f2.f0, .int .i64 d.f2.f1, .int .i64 d.f2.f2, .int .i64 d.f2.f3, .slice An (aclOf m.f3).length cn, .int .i64 gr.f0, .int .i64 gr.f1, .int .i64 gr.f2, .int .i64 gr.f3, v1, .int .i64 gy.f0, .int .i64 gy.f1, .int .i64 gy.f2, .int .i64 gy.f3]) from hB11)
                                clear hm11 hB11 hA10 hcb y11 m11 hmW
                                go_wp2_with fail
                                exact ⟨⟨j + 1, v1, by go_num, hjl, hjl16, ⟨HB11.out⟩, ⟨by rw [HTK.out]; exact HS11.out, HA11.out⟩, HM11.out, hbb11⟩, by simp [intOf]; omega⟩
                            · have HT := Lib.hid (show m.f5.take 16 = m.f5.take j by rw [show j = 16 by omega])
                              have hLT : (m.f5.take j).length ≤ 16 := by simp; omega
                              have HN8 := Lib.hid (Kd.N_below HN.out hBj)
                              have hq8 := cellsQ_of (w := wr) (A := ⟨kb, 0, none⟩) ([.string p, .bool false, .int .i64 d.f2.f0, .int .i64 d.f2.f1, .int .i64 d.f2.f2, .int .i64 d.f2.f3, .slice An (aclOf m.f3).length cn, .int .i64 gr.f0, .int .i64 gr.f1, .int .i64 gr.f2, .int .i64 gr.f3, .slice As2 (m.f5.take j).length cs2, .int .i64 gy.f0, .int .i64 gy.f1, .int .i64 gy.f2, .int .i64 gy.f3]) 0 (fun q v hq => by rw [add_plain, Nat.zero_add]; exact HBX.out.cell hq)
                              obtain ⟨kP, hP⟩ := put_is g ⟨p, false, d.f2, aclOf m.f3, gr, m.f5.take j, gy⟩ (by omega)
                              have HPp := Lib.hid hP
                              clear hP
                              simp only [List.length_cons, List.length_nil] at hq8
                              have HNN3 := Lib.hid (show newN p d m = ⟨p, false, d.f2, aclOf m.f3, gr, m.f5.take j, gy⟩ by rw [HNN2.out, HT.out])
                              generalize m.f5.take j = tj at *
                              go_wp2_with fail
                              refine (donjonref11_Put.calls kP (fun k => w.heap.size ≤ k) Al cl g _ _ _ _ _ _ (fun k => w6.heap.size ≤ k) An cn (aclOf m.f3) _ _ _ _ (fun k => w6.heap.size ≤ k) As2 cs2 tj _ _ _ _ _ _ ⟨Al, cl, rfl, (Kd.N_reads' HN8.out).2.1, Kd.N_F HN8.out⟩ ⟨An, cn, rfl, (Kd.R_reads' HRS.out.2).2.1, Kd.R_F HRS.out.2⟩ ⟨As2, cs2, rfl, (Kd.R_reads' HRS.out.1).2.1, Kd.R_F HRS.out.1⟩ HPp.out).mono ?_
                              rintro e w12 ⟨v12, rfl, hN12, hb12⟩
                              have hB12 : Below wo.heap.size wo w12 := below_on hBj hb12
                              have hszj := hBj.size
                              go_wp2_with fail
                              exact ⟨⟨i + 1, by go_num, hlt, hlt14, ⟨by rw [HGS.out, HG4.out, HNN3.out]; exact Kd.N_lower (Kd.N_mono hN12 (fun k hk => by rcases hk with (hk | hk | hk) | hk <;> omega)) (by omega)⟩, below_on hB hB12⟩, by simp [intOf]; omega⟩
                          · have HT := Lib.hid (show m.f5.take 16 = m.f5.take j by rw [List.take_of_length_le (by omega), List.take_of_length_le (by omega)])
                            have hLT : (m.f5.take j).length ≤ 16 := by simp; omega
                            have HN8 := Lib.hid (Kd.N_below HN.out hBj)
                            have hq8 := cellsQ_of (w := wr) (A := ⟨kb, 0, none⟩) ([.string p, .bool false, .int .i64 d.f2.f0, .int .i64 d.f2.f1, .int .i64 d.f2.f2, .int .i64 d.f2.f3, .slice An (aclOf m.f3).length cn, .int .i64 gr.f0, .int .i64 gr.f1, .int .i64 gr.f2, .int .i64 gr.f3, .slice As2 (m.f5.take j).length cs2, .int .i64 gy.f0, .int .i64 gy.f1, .int .i64 gy.f2, .int .i64 gy.f3]) 0 (fun q v hq => by rw [add_plain, Nat.zero_add]; exact HBX.out.cell hq)
                            obtain ⟨kP, hP⟩ := put_is g ⟨p, false, d.f2, aclOf m.f3, gr, m.f5.take j, gy⟩ (by omega)
                            have HPp := Lib.hid hP
                            clear hP
                            simp only [List.length_cons, List.length_nil] at hq8
                            have HNN3 := Lib.hid (show newN p d m = ⟨p, false, d.f2, aclOf m.f3, gr, m.f5.take j, gy⟩ by rw [HNN2.out, HT.out])
                            generalize m.f5.take j = tj at *
                            go_wp2_with fail
                            refine (donjonref11_Put.calls kP (fun k => w.heap.size ≤ k) Al cl g _ _ _ _ _ _ (fun k => w6.heap.size ≤ k) An cn (aclOf m.f3) _ _ _ _ (fun k => w6.heap.size ≤ k) As2 cs2 tj _ _ _ _ _ _ ⟨Al, cl, rfl, (Kd.N_reads' HN8.out).2.1, Kd.N_F HN8.out⟩ ⟨An, cn, rfl, (Kd.R_reads' HRS.out.2).2.1, Kd.R_F HRS.out.2⟩ ⟨As2, cs2, rfl, (Kd.R_reads' HRS.out.1).2.1, Kd.R_F HRS.out.1⟩ HPp.out).mono ?_
                            rintro e w12 ⟨v12, rfl, hN12, hb12⟩
                            have hB12 : Below wo.heap.size wo w12 := below_on hBj hb12
                            have hszj := hBj.size
                            go_wp2_with fail
                            exact ⟨⟨i + 1, by go_num, hlt, hlt14, ⟨by rw [HGS.out, HG4.out, HNN3.out]; exact Kd.N_lower (Kd.N_mono hN12 (fun k hk => by rcases hk with (hk | hk | hk) | hk <;> omega)) (by omega)⟩, below_on hB hB12⟩, by simp [intOf]; omega⟩
                      · rw [hm1] at m1 hbb
                        have HB7 := Lib.hid hbb
                        clear hbb
                        have m2 := HM7.out 2 _ rfl
                        have m3 := HM7.out 3 _ rfl
                        have m4 := HM7.out 4 _ rfl
                        have m5 := HM7.out 5 _ rfl
                        have d2 := HD7.out 2 _ rfl
                        have d3 := HD7.out 3 _ rfl
                        have d4 := HD7.out 4 _ rfl
                        have d5 := HD7.out 5 _ rfl
                        have hbm := World.block_lt_of_cell? _ _ m1
                        have hbd := World.block_lt_of_cell? _ _ d2
                        have HJ := Lib.hid (joinP_is d.f2 gu)
                        have HNN2 := Lib.hid (HNN.out.trans (if_pos hm1))
                        generalize joinP d.f2 gu = gj at *
                        go_wp2_with fail
                        apply wp_region_facts 0 6 [.is _, .is _, .is _, .is _, .is _, .is _] (by kernel_rfl) (by kernel_rfl) rfl (by rfl) ?hmono2 ?hp2 ?hs2 ?ht2
                        case hp2 => exact trivial
                        case hmono2 =>
                          intro F hF
                          simp at hF
                        case hs2 =>
                          simp only [List.take_succ_cons, List.take_zero, List.zip_cons_cons, List.zip_nil_left, wpMakes, List.nil_append, List.cons_append]
                          repeat
                            refine And.intro (fun W hW => ?_) ?_
                            focus
                              obtain ⟨hc8, hf8⟩ := below_rules hW
                              repeat (with_reducible refine forPuts_is ?_)
                              with_reducible refine forPuts_nil ?_
                              (try simp only [Act.put, List.setIfInBounds_toArray, List.set_cons_zero, List.set_cons_succ])
                              go_simp
                              first
                              | exact Below.refl _ _
                              | exact ⟨rfl, Below.refl _ _⟩
                              | exact makes_call (donjonlaw4_Good.calls _ _ _ _ _ _ _ _ _ HGu.out)
                              | exact makes_call (donjonref4_Join.calls _ _ _ _ _ _ _ _ _ _ _ _ _ HJ.out)
                          exact trivial
                        case ht2 =>
                          intro W hW
                          simp only [List.take_succ_cons, List.take_zero, List.map_cons, List.map_nil, List.zip_cons_cons, List.zip_nil_left]
                          repeat (with_reducible refine forPuts_is ?_)
                          with_reducible refine forPuts_nil ?_
                          simp only [Act.put, List.setIfInBounds_toArray, List.set_cons_zero, List.set_cons_succ, List.drop_succ_cons, List.drop_zero]
                          have hBW2 : Below wr.heap.size wr W := below_on hbb7 hW
                          go_wp2_with (refine Box.store (w0 := wr) (base := wr.heap.size) (k := kb) rfl rfl 26 (.tmp 101) (.tmp 100) rfl 2 _ [.int .i64 gj.f0, .int .i64 gj.f1, .int .i64 gj.f2, .int .i64 gj.f3] rfl rfl rfl (by kernel_rfl) (by simp [Value.oneCell']) (HB7.out.below hW) (by simp) hBW2 ?_; intro w8 hB8 hbb8 hg8)
                          refine NoPanic.normal ?_
                          have HB8 := Lib.hid (show Box 32 16 w8 wr.heap.size kb [.string p, .bool true, .int .i64 gj.f0, .int .i64 gj.f1, .int .i64 gj.f2, .int .i64 gj.f3, .slice An (aclOf m.f3).length cn, .int .i64 0, .int .i64 0, .int .i64 0, .int .i64 0, .slice none 0 0, .int .i64 gy.f0, .int .i64 gy.f1, .int .i64 gy.f2, .int .i64 gy.f3] from hB8)
                          obtain ⟨cb, hcb⟩ := Kd.R_typed (HB7.out.below hW) kb (by simp [Value.ownBlock])
                          have HA8 := Lib.hid (Kd.R_grown2 (Kd.R_below HA7.out hW) rfl hg8 (fun k he => by obtain rfl := Option.some.inj he; exact Kd.R_ne (Kd.R_below HA7.out hW) hcb (by decide)))
                          have HN8 := Lib.hid (Kd.N_below HN.out hbb8)
                          have hq8 := cellsQ_of (w := w8) (A := ⟨kb, 0, none⟩) [.string p, .bool true, .int .i64 gj.f0, .int .i64 gj.f1, .int .i64 gj.f2, .int .i64 gj.f3, .slice An (aclOf m.f3).length cn, .int .i64 0, .int .i64 0, .int .i64 0, .int .i64 0, .slice none 0 0, .int .i64 gy.f0, .int .i64 gy.f1, .int .i64 gy.f2, .int .i64 gy.f3] 0 (fun j v hj => by rw [add_plain, Nat.zero_add]; exact HB8.out.cell hj)
                          have hkb8 := HB8.out.lt
                          clear hB8 hg8 hcb m1 m2 m3 m4 m5 d2 d3 d4 d5
                          obtain ⟨kP, hP⟩ := put_is g ⟨p, true, gj, aclOf m.f3, ⟨0, 0, 0, 0⟩, [], gy⟩ (by omega)
                          have HPp := Lib.hid hP
                          clear hP
                          simp only [List.length_cons, List.length_nil] at hq8
                          go_wp2_with fail
                          refine (donjonref11_Put.calls kP (fun k => w.heap.size ≤ k) Al cl g _ _ _ _ _ _ (fun k => w6.heap.size ≤ k) An cn (aclOf m.f3) _ _ _ _ (fun k => w6.heap.size ≤ k) none 0 [] _ _ _ _ _ _ ⟨Al, cl, rfl, (Kd.N_reads' HN8.out).2.1, Kd.N_F HN8.out⟩ ⟨An, cn, rfl, (Kd.R_reads' HA8.out).2.1, Kd.R_F HA8.out⟩ ⟨none, 0, rfl, Nat.le_refl _, Kd.R_F (Kd.R_nil _ 2 _ w.heap.size _)⟩ HPp.out).mono ?_
                          rintro e w9 ⟨v9, rfl, hN9, hb9⟩
                          have hB9 : Below wr.heap.size wr w9 := below_on hbb8 hb9
                          go_wp2_with fail
                          exact ⟨⟨i + 1, by go_num, hlt, hlt14, ⟨by rw [HGS.out, HG4.out, HNN2.out]; exact Kd.N_lower (Kd.N_mono hN9 (fun k hk => by rcases hk with (hk | hk | hk) | hk <;> omega)) (by omega)⟩, below_on hB hB9⟩, by simp [intOf]; omega⟩
                  · have HG4 := Lib.hid (HG3.out.trans (if_neg (fun h => by rw [hn] at h; cases h.2)))
                    clear hn
                    go_wp2_with fail
                    exact ⟨⟨i + 1, by go_num, hlt, hlt14, ⟨by rw [HGS.out, HG4.out]; exact Kd.N_alloc (Kd.N_below HN.out hB5) _⟩, below_alloc (below_on hB hB5) _⟩, by simp [intOf]; omega⟩
          · have HQ := Lib.hid (show min l1.length 14 = i by omega)
            go_wp2_with fail
            go_ret
            exact ⟨_, rfl, by rw [HP.out, HQ.out]; exact HN.out, hB⟩
        · have HQ := Lib.hid (show min l1.length 14 = i by omega)
          go_wp2_with fail
          go_ret
          exact ⟨_, rfl, by rw [HP.out, HQ.out]; exact HN.out, hB⟩
def donjonlaw11_Grow.f (l0 : List (S26)) (l1 : List (S54)) : Option ((List (S32))) := some (growP l0 l1)
theorem donjonlaw11_Grow.calls (A0 : Option Addr) (c0 : Nat) (l0 : List (S26)) (A1 : Option Addr) (c1 : Nat) (l1 : List (S54)) (r : List (S32)) (w : World) (hr0 : Kd.C k26 w A0 l0.length l0) (hc0 : l0.length ≤ c0) (hr1 : Kd.C k54 w A1 l1.length l1) (hc1 : l1.length ≤ c1) (h : donjonlaw11_Grow.f l0 l1 = some r) :
    Calls Tryd.prog 11 #[.slice A0 l0.length c0, .slice A1 l1.length c1] w fun e w' => ∃ v0_ : Value, e = .returned (v0_) ∧ Kd.N k32 32 w' w.heap.size (fun k_ => (w.heap.size ≤ k_)) v0_ r ∧ Below w.heap.size w w' := by
  obtain rfl := Option.some.inj h
  exact grow_calls A0 c0 l0 A1 c1 l1 w hr0 hc0 hr1 hc1
end Go.Proofs.YtpdflhgcdehmoaaDoor.T
