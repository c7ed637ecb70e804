/- Part of the proof that TreeRises comes to true: printed and written texts, merged by a program. -/
import Derived.Test.YtpdflhgcdehmoaaDoorProg
import Derived.Below
import Derived.Deep.Draws
import Derived.Deep.AppendLies
import Derived.Maps.AppendAt
import Derived.OwnWalk
import Derived.Laws.BytesArg
import Derived.Laws.MakeOwn
import Derived.Laws.OwnMore
import Derived.Deep.OwnRows
import Derived.Tactics
import Derived.Lib.ConvBytes
import Derived.Laws.Slices
import Derived.WalkKit
import Derived.KernelRfl
import Derived.RowKit3
import Derived.Deep.LoopGhost
import Derived.Deep.QuietTactic
import Derived.BigQuiet
import Derived.WideLaws
import Derived.Deep.DeepCutAuto
import Derived.Deep.CutBlock
import Derived.Deep.RegionHeld3
import Derived.Laws.Rows
import Derived.Lib.AppendStr
import Derived.ArgAppend
import Derived.Laws.IdiomCopy
import Derived.OrdersHeld
import Derived.Laws.BitsLemmas
import Derived.RowKit
import Derived.Deep.Slices
import Derived.ChangeSame
import Derived.StillTail
import Derived.Lib.Hide
import Derived.WalkLawsBesides
import Derived.Lib.LastIndexByte
import Derived.Test.YtpdflhgcdehmoaaDoorR0
import Derived.Test.YtpdflhgcdehmoaaDoorR1
import Derived.Test.YtpdflhgcdehmoaaDoorR2
namespace Go.Proofs.YtpdflhgcdehmoaaDoor.T
open Go.RowKit Go.Proofs.YtpdflhgcdehmoaaDoorW.PrintWords Go.Proofs.YtpdflhgcdehmoaaDoorW.PrintLast Go.Proofs.YtpdflhgcdehmoaaDoorW.PrintMore
attribute [local go_sem] max2_int min2_int max_two min_two max_three min_three max_four min_four
set_option linter.unusedVariables false
set_option linter.unusedSimpArgs false
def errW : Option Int → Value
  | none => .nilIface
  | some c => .iface 0 (.int .i64 c)
theorem errW_none : errW none = .nilIface := rfl
theorem errW_some (c : Int) : errW (some c) = .iface 0 (.int .i64 c) := rfl
theorem info9 : (Tryd.prog.info? 9).map (fun i => (i.zero, i.size, i.bytes)) = some (some (.string ⟨#[]⟩), 1, 16) := by kernel_rfl
theorem info32 : (Tryd.prog.info? 32).map (fun i => (i.zero, i.size, i.bytes)) = some (some (.agg #[(.string ⟨#[]⟩), (.bool false), (.int .i64 0), (.int .i64 0), (.int .i64 0), (.int .i64 0), (.slice none 0 0), (.int .i64 0), (.int .i64 0), (.int .i64 0), (.int .i64 0), (.slice none 0 0), (.int .i64 0), (.int .i64 0), (.int .i64 0), (.int .i64 0)]), 16, 168) := by kernel_rfl
structure S26 where
  f0 : Int
  f1 : Int
  f2 : Int
  f3 : Int
def z26 : S26 := ⟨(0 : Int), (0 : Int), (0 : Int), (0 : Int)⟩
def k26 : Kd S26 := Kd.iso (Kd.pair (Kd.int .i64) (Kd.pair (Kd.int .i64) (Kd.pair (Kd.int .i64) (Kd.int .i64)))) (fun x : S26 => (x.f0, x.f1, x.f2, x.f3))
theorem k26_open {w : World} {x : S26} {cs : List Value} (h : k26.K w x cs) : cs = [.int .i64 x.f0, .int .i64 x.f1, .int .i64 x.f2, .int .i64 x.f3] := by
  obtain ⟨_, _, rfl, rfl, ⟨_, _, rfl, rfl, ⟨_, _, rfl, rfl, rfl⟩⟩⟩ := h
  exact rfl
theorem k26_mk (w : World) (x : S26)  : k26.K w x [.int .i64 x.f0, .int .i64 x.f1, .int .i64 x.f2, .int .i64 x.f3] := ⟨[.int .i64 x.f0], [.int .i64 x.f1, .int .i64 x.f2, .int .i64 x.f3], rfl, rfl, ⟨[.int .i64 x.f1], [.int .i64 x.f2, .int .i64 x.f3], rfl, rfl, ⟨[.int .i64 x.f2], [.int .i64 x.f3], rfl, rfl, rfl⟩⟩⟩
theorem k26_mkM (w : World) (base : Nat) (ok : Nat → Prop) (x : S26)  : k26.M w base ok x [.int .i64 x.f0, .int .i64 x.f1, .int .i64 x.f2, .int .i64 x.f3] := ⟨[.int .i64 x.f0], [.int .i64 x.f1, .int .i64 x.f2, .int .i64 x.f3], rfl, rfl, ⟨[.int .i64 x.f1], [.int .i64 x.f2, .int .i64 x.f3], rfl, rfl, ⟨[.int .i64 x.f2], [.int .i64 x.f3], rfl, rfl, rfl⟩⟩⟩
def rd_T26 (xs : List S26) (i : Int) : S26 := xs.getD i.toNat z26
theorem at_T26 {w : World} {A : Option Addr} {n : Nat} {xs : List S26} (h : Kd.C k26 w A n xs) (i : Int) (h0 : 0 ≤ i) (h1 : i < n) : ∃ ad , A = some ad ∧ w.cell? (ad.add (i.toNat * 4)) = some (.int .i64 (rd_T26 xs i).f0) ∧ w.cell? ⟨(ad.add (i.toNat * 4)).block, (ad.add (i.toNat * 4)).off + 1, none⟩ = some (.int .i64 (rd_T26 xs i).f1) ∧ w.cell? ⟨(ad.add (i.toNat * 4)).block, (ad.add (i.toNat * 4)).off + 2, none⟩ = some (.int .i64 (rd_T26 xs i).f2) ∧ w.cell? ⟨(ad.add (i.toNat * 4)).block, (ad.add (i.toNat * 4)).off + 3, none⟩ = some (.int .i64 (rd_T26 xs i).f3) := by
  obtain ⟨ad, c, e, _, hK, hc0⟩ := Kd.C_get h z26 i h0 h1
  have hc : ∀ j u, c[j]? = some u → w.cell? (ad.add (i.toNat * 4 + j)) = some u := hc0
  obtain rfl := k26_open hK
  exact ⟨ad, e, hc 0 _ rfl, by rw [← add_field _ _ 1 (by omega)]; exact hc 1 _ rfl, by rw [← add_field _ _ 2 (by omega)]; exact hc 2 _ rfl, by rw [← add_field _ _ 3 (by omega)]; exact hc 3 _ rfl⟩
structure S83 where
  f0 : ByteArray
  f1 : Int
def z83 : S83 := ⟨(⟨#[]⟩ : ByteArray), (0 : Int)⟩
def k83 : Kd S83 := Kd.iso (Kd.pair Kd.string (Kd.int .i64)) (fun x : S83 => (x.f0, x.f1))
theorem k83_open {w : World} {x : S83} {cs : List Value} (h : k83.K w x cs) : cs = [.string x.f0, .int .i64 x.f1] := by
  obtain ⟨_, _, rfl, rfl, rfl⟩ := h
  exact rfl
theorem k83_mkM (w : World) (base : Nat) (ok : Nat → Prop) (x : S83)  : k83.M w base ok x [.string x.f0, .int .i64 x.f1] := ⟨[.string x.f0], [.int .i64 x.f1], rfl, rfl, rfl⟩
def rd_T83 (xs : List S83) (i : Int) : S83 := xs.getD i.toNat z83
theorem at_T83 {w : World} {A : Option Addr} {n : Nat} {xs : List S83} (h : Kd.C k83 w A n xs) (i : Int) (h0 : 0 ≤ i) (h1 : i < n) : ∃ ad , A = some ad ∧ w.cell? (ad.add (i.toNat * 2)) = some (.string (rd_T83 xs i).f0) ∧ w.cell? ⟨(ad.add (i.toNat * 2)).block, (ad.add (i.toNat * 2)).off + 1, none⟩ = some (.int .i64 (rd_T83 xs i).f1) := by
  obtain ⟨ad, c, e, _, hK, hc0⟩ := Kd.C_get h z83 i h0 h1
  have hc : ∀ j u, c[j]? = some u → w.cell? (ad.add (i.toNat * 2 + j)) = some u := hc0
  obtain rfl := k83_open hK
  exact ⟨ad, e, hc 0 _ rfl, by rw [← add_field _ _ 1 (by omega)]; exact hc 1 _ rfl⟩
structure S167 where
  f0 : ByteArray
  f1 : Int
  f2 : Int
  f3 : S26
  f4 : Bool
def k167 : Kd S167 := Kd.iso (Kd.pair Kd.string (Kd.pair (Kd.int .i64) (Kd.pair (Kd.int .u64) (Kd.pair k26 Kd.bool)))) (fun x : S167 => (x.f0, x.f1, x.f2, x.f3, x.f4))
structure S169 where
  f0 : S26
  f1 : S26
  f2 : ByteArray
def k169 : Kd S169 := Kd.iso (Kd.pair k26 (Kd.pair k26 Kd.string)) (fun x : S169 => (x.f0, x.f1, x.f2))
structure S65 where
  f0 : (List S26)
  f1 : (List S167)
  f2 : (List S169)
structure S29 where
  f0 : Int
  f1 : Int
  f2 : Int
  f3 : Int
def z29 : S29 := ⟨(0 : Int), (0 : Int), (0 : Int), (0 : Int)⟩
def k29 : Kd S29 := Kd.iso (Kd.pair (Kd.int .i64) (Kd.pair (Kd.int .i64) (Kd.pair (Kd.int .i64) (Kd.int .i64)))) (fun x : S29 => (x.f0, x.f1, x.f2, x.f3))
theorem k29_open {w : World} {x : S29} {cs : List Value} (h : k29.K w x cs) : cs = [.int .i64 x.f0, .int .i64 x.f1, .int .i64 x.f2, .int .i64 x.f3] := by
  obtain ⟨_, _, rfl, rfl, ⟨_, _, rfl, rfl, ⟨_, _, rfl, rfl, rfl⟩⟩⟩ := h
  exact rfl
theorem k29_mk (w : World) (x : S29)  : k29.K w x [.int .i64 x.f0, .int .i64 x.f1, .int .i64 x.f2, .int .i64 x.f3] := ⟨[.int .i64 x.f0], [.int .i64 x.f1, .int .i64 x.f2, .int .i64 x.f3], rfl, rfl, ⟨[.int .i64 x.f1], [.int .i64 x.f2, .int .i64 x.f3], rfl, rfl, ⟨[.int .i64 x.f2], [.int .i64 x.f3], rfl, rfl, rfl⟩⟩⟩
structure S32 where
  f0 : ByteArray
  f1 : Bool
  f2 : S26
  f3 : (List S83)
  f4 : S29
  f5 : (List Int)
  f6 : S26
def z32 : S32 := ⟨(⟨#[]⟩ : ByteArray), false, z26, ([] : List S83), z29, ([] : List Int), z26⟩
def k32 : Kd S32 := Kd.iso (Kd.pair Kd.string (Kd.pair Kd.bool (Kd.pair k26 (Kd.pair (Kd.slice 83 k83) (Kd.pair k29 (Kd.pair (Kd.slice 2 (Kd.int .i64)) k26)))))) (fun x : S32 => (x.f0, x.f1, x.f2, x.f3, x.f4, x.f5, x.f6))
theorem k32_open {w : World} {x : S32} {cs : List Value} (h : k32.K w x cs) : ∃ A6 c6 A11 c11, cs = [.string x.f0, .bool x.f1, .int .i64 x.f2.f0, .int .i64 x.f2.f1, .int .i64 x.f2.f2, .int .i64 x.f2.f3, .slice A6 x.f3.length c6, .int .i64 x.f4.f0, .int .i64 x.f4.f1, .int .i64 x.f4.f2, .int .i64 x.f4.f3, .slice A11 x.f5.length c11, .int .i64 x.f6.f0, .int .i64 x.f6.f1, .int .i64 x.f6.f2, .int .i64 x.f6.f3] ∧ x.f3.length ≤ c6 ∧ k83.C w A6 x.f3.length x.f3 ∧ x.f5.length ≤ c11 ∧ (Kd.int .i64).C w A11 x.f5.length x.f5 := by
  obtain ⟨_, _, rfl, rfl, ⟨_, _, rfl, rfl, ⟨_, _, rfl, s2, ⟨_, _, rfl, ⟨A6, c6, rfl, l6, g6⟩, ⟨_, _, rfl, s7, ⟨_, _, rfl, ⟨A11, c11, rfl, l11, g11⟩, s12⟩⟩⟩⟩⟩⟩ := h
  obtain rfl := k26_open s2
  obtain rfl := k29_open s7
  obtain rfl := k26_open s12
  exact ⟨A6, c6, A11, c11, rfl, l6, g6, l11, g11⟩
theorem k32_mk (w : World) (x : S32) {A6 : Option Addr} {c6 : Nat} (l6 : x.f3.length ≤ c6) (g6 : k83.C w A6 x.f3.length x.f3) {A11 : Option Addr} {c11 : Nat} (l11 : x.f5.length ≤ c11) (g11 : (Kd.int .i64).C w A11 x.f5.length x.f5) : k32.K w x [.string x.f0, .bool x.f1, .int .i64 x.f2.f0, .int .i64 x.f2.f1, .int .i64 x.f2.f2, .int .i64 x.f2.f3, .slice A6 x.f3.length c6, .int .i64 x.f4.f0, .int .i64 x.f4.f1, .int .i64 x.f4.f2, .int .i64 x.f4.f3, .slice A11 x.f5.length c11, .int .i64 x.f6.f0, .int .i64 x.f6.f1, .int .i64 x.f6.f2, .int .i64 x.f6.f3] := ⟨[.string x.f0], [.bool x.f1, .int .i64 x.f2.f0, .int .i64 x.f2.f1, .int .i64 x.f2.f2, .int .i64 x.f2.f3, .slice A6 x.f3.length c6, .int .i64 x.f4.f0, .int .i64 x.f4.f1, .int .i64 x.f4.f2, .int .i64 x.f4.f3, .slice A11 x.f5.length c11, .int .i64 x.f6.f0, .int .i64 x.f6.f1, .int .i64 x.f6.f2, .int .i64 x.f6.f3], rfl, rfl, ⟨[.bool x.f1], [.int .i64 x.f2.f0, .int .i64 x.f2.f1, .int .i64 x.f2.f2, .int .i64 x.f2.f3, .slice A6 x.f3.length c6, .int .i64 x.f4.f0, .int .i64 x.f4.f1, .int .i64 x.f4.f2, .int .i64 x.f4.f3, .slice A11 x.f5.length c11, .int .i64 x.f6.f0, .int .i64 x.f6.f1, .int .i64 x.f6.f2, .int .i64 x.f6.f3], rfl, rfl, ⟨[.int .i64 x.f2.f0, .int .i64 x.f2.f1, .int .i64 x.f2.f2, .int .i64 x.f2.f3], [.slice A6 x.f3.length c6, .int .i64 x.f4.f0, .int .i64 x.f4.f1, .int .i64 x.f4.f2, .int .i64 x.f4.f3, .slice A11 x.f5.length c11, .int .i64 x.f6.f0, .int .i64 x.f6.f1, .int .i64 x.f6.f2, .int .i64 x.f6.f3], rfl, (k26_mk w x.f2 ), ⟨[.slice A6 x.f3.length c6], [.int .i64 x.f4.f0, .int .i64 x.f4.f1, .int .i64 x.f4.f2, .int .i64 x.f4.f3, .slice A11 x.f5.length c11, .int .i64 x.f6.f0, .int .i64 x.f6.f1, .int .i64 x.f6.f2, .int .i64 x.f6.f3], rfl, ⟨A6, c6, rfl, l6, g6⟩, ⟨[.int .i64 x.f4.f0, .int .i64 x.f4.f1, .int .i64 x.f4.f2, .int .i64 x.f4.f3], [.slice A11 x.f5.length c11, .int .i64 x.f6.f0, .int .i64 x.f6.f1, .int .i64 x.f6.f2, .int .i64 x.f6.f3], rfl, (k29_mk w x.f4 ), ⟨[.slice A11 x.f5.length c11], [.int .i64 x.f6.f0, .int .i64 x.f6.f1, .int .i64 x.f6.f2, .int .i64 x.f6.f3], rfl, ⟨A11, c11, rfl, l11, g11⟩, (k26_mk w x.f6 )⟩⟩⟩⟩⟩⟩
theorem k32_openF {W : World} {ok : Nat → Prop} {x : S32} {cs : List Value} (h : Kd.FK k32 W ok x cs) : ∃ A6 c6 A11 c11, cs = [.string x.f0, .bool x.f1, .int .i64 x.f2.f0, .int .i64 x.f2.f1, .int .i64 x.f2.f2, .int .i64 x.f2.f3, .slice A6 x.f3.length c6, .int .i64 x.f4.f0, .int .i64 x.f4.f1, .int .i64 x.f4.f2, .int .i64 x.f4.f3, .slice A11 x.f5.length c11, .int .i64 x.f6.f0, .int .i64 x.f6.f1, .int .i64 x.f6.f2, .int .i64 x.f6.f3] ∧ x.f3.length ≤ c6 ∧ Kd.F k83 W ok A6 x.f3.length x.f3 ∧ x.f5.length ≤ c11 ∧ Kd.F (Kd.int .i64) W ok A11 x.f5.length x.f5 := by
  obtain ⟨A6, c6, A11, c11, rfl, l6, _, l11, _⟩ := k32_open (Kd.FK_now h)
  exact ⟨A6, c6, A11, c11, rfl, l6, (fun W' hW => by obtain ⟨A6_, c6_, A11_, c11_, he, l6_, g6_, l11_, g11_⟩ := k32_open (h W' hW); injection (Option.some.inj (show some (Value.slice A6 x.f3.length c6) = some (Value.slice A6_ x.f3.length c6_) from congrArg (fun l => l[6]?) he)) with ha_ _ _; rw [ha_]; exact g6_), l11, (fun W' hW => by obtain ⟨A6_, c6_, A11_, c11_, he, l6_, g6_, l11_, g11_⟩ := k32_open (h W' hW); injection (Option.some.inj (show some (Value.slice A11 x.f5.length c11) = some (Value.slice A11_ x.f5.length c11_) from congrArg (fun l => l[11]?) he)) with ha_ _ _; rw [ha_]; exact g11_)⟩
theorem k32_mkF (W : World) (ok : Nat → Prop) (x : S32) {A6 : Option Addr} {c6 : Nat} (l6 : x.f3.length ≤ c6) (g6 : Kd.F k83 W ok A6 x.f3.length x.f3) {A11 : Option Addr} {c11 : Nat} (l11 : x.f5.length ≤ c11) (g11 : Kd.F (Kd.int .i64) W ok A11 x.f5.length x.f5) : Kd.FK k32 W ok x [.string x.f0, .bool x.f1, .int .i64 x.f2.f0, .int .i64 x.f2.f1, .int .i64 x.f2.f2, .int .i64 x.f2.f3, .slice A6 x.f3.length c6, .int .i64 x.f4.f0, .int .i64 x.f4.f1, .int .i64 x.f4.f2, .int .i64 x.f4.f3, .slice A11 x.f5.length c11, .int .i64 x.f6.f0, .int .i64 x.f6.f1, .int .i64 x.f6.f2, .int .i64 x.f6.f3] := fun W2 hW => k32_mk W2 x l6 (g6 W2 hW) l11 (g11 W2 hW)
def rd_T32 (xs : List S32) (i : Int) : S32 := xs.getD i.toNat z32
theorem at_T32 {w : World} {A : Option Addr} {n : Nat} {xs : List S32} (h : Kd.C k32 w A n xs) (i : Int) (h0 : 0 ≤ i) (h1 : i < n) : ∃ ad A6 c6 A11 c11, A = some ad ∧ w.cell? (ad.add (i.toNat * 16)) = some (.string (rd_T32 xs i).f0) ∧ w.cell? ⟨(ad.add (i.toNat * 16)).block, (ad.add (i.toNat * 16)).off + 1, none⟩ = some (.bool (rd_T32 xs i).f1) ∧ w.cell? ⟨(ad.add (i.toNat * 16)).block, (ad.add (i.toNat * 16)).off + 2, none⟩ = some (.int .i64 (rd_T32 xs i).f2.f0) ∧ w.cell? ⟨(ad.add (i.toNat * 16)).block, (ad.add (i.toNat * 16)).off + 3, none⟩ = some (.int .i64 (rd_T32 xs i).f2.f1) ∧ w.cell? ⟨(ad.add (i.toNat * 16)).block, (ad.add (i.toNat * 16)).off + 4, none⟩ = some (.int .i64 (rd_T32 xs i).f2.f2) ∧ w.cell? ⟨(ad.add (i.toNat * 16)).block, (ad.add (i.toNat * 16)).off + 5, none⟩ = some (.int .i64 (rd_T32 xs i).f2.f3) ∧ w.cell? ⟨(ad.add (i.toNat * 16)).block, (ad.add (i.toNat * 16)).off + 6, none⟩ = some (.slice A6 (rd_T32 xs i).f3.length c6) ∧ w.cell? ⟨(ad.add (i.toNat * 16)).block, (ad.add (i.toNat * 16)).off + 7, none⟩ = some (.int .i64 (rd_T32 xs i).f4.f0) ∧ w.cell? ⟨(ad.add (i.toNat * 16)).block, (ad.add (i.toNat * 16)).off + 8, none⟩ = some (.int .i64 (rd_T32 xs i).f4.f1) ∧ w.cell? ⟨(ad.add (i.toNat * 16)).block, (ad.add (i.toNat * 16)).off + 9, none⟩ = some (.int .i64 (rd_T32 xs i).f4.f2) ∧ w.cell? ⟨(ad.add (i.toNat * 16)).block, (ad.add (i.toNat * 16)).off + 10, none⟩ = some (.int .i64 (rd_T32 xs i).f4.f3) ∧ w.cell? ⟨(ad.add (i.toNat * 16)).block, (ad.add (i.toNat * 16)).off + 11, none⟩ = some (.slice A11 (rd_T32 xs i).f5.length c11) ∧ w.cell? ⟨(ad.add (i.toNat * 16)).block, (ad.add (i.toNat * 16)).off + 12, none⟩ = some (.int .i64 (rd_T32 xs i).f6.f0) ∧ w.cell? ⟨(ad.add (i.toNat * 16)).block, (ad.add (i.toNat * 16)).off + 13, none⟩ = some (.int .i64 (rd_T32 xs i).f6.f1) ∧ w.cell? ⟨(ad.add (i.toNat * 16)).block, (ad.add (i.toNat * 16)).off + 14, none⟩ = some (.int .i64 (rd_T32 xs i).f6.f2) ∧ w.cell? ⟨(ad.add (i.toNat * 16)).block, (ad.add (i.toNat * 16)).off + 15, none⟩ = some (.int .i64 (rd_T32 xs i).f6.f3) ∧ (rd_T32 xs i).f3.length ≤ c6 ∧ k83.C w A6 (rd_T32 xs i).f3.length (rd_T32 xs i).f3 ∧ (rd_T32 xs i).f5.length ≤ c11 ∧ (Kd.int .i64).C w A11 (rd_T32 xs i).f5.length (rd_T32 xs i).f5 := by
  obtain ⟨ad, c, e, _, hK, hc0⟩ := Kd.C_get h z32 i h0 h1
  have hc : ∀ j u, c[j]? = some u → w.cell? (ad.add (i.toNat * 16 + j)) = some u := hc0
  obtain ⟨A6, c6, A11, c11, rfl, l6, g6, l11, g11⟩ := k32_open hK
  exact ⟨ad, A6, c6, A11, c11, e, hc 0 _ rfl, by rw [← add_field _ _ 1 (by omega)]; exact hc 1 _ rfl, by rw [← add_field _ _ 2 (by omega)]; exact hc 2 _ rfl, by rw [← add_field _ _ 3 (by omega)]; exact hc 3 _ rfl, by rw [← add_field _ _ 4 (by omega)]; exact hc 4 _ rfl, by rw [← add_field _ _ 5 (by omega)]; exact hc 5 _ rfl, by rw [← add_field _ _ 6 (by omega)]; exact hc 6 _ rfl, by rw [← add_field _ _ 7 (by omega)]; exact hc 7 _ rfl, by rw [← add_field _ _ 8 (by omega)]; exact hc 8 _ rfl, by rw [← add_field _ _ 9 (by omega)]; exact hc 9 _ rfl, by rw [← add_field _ _ 10 (by omega)]; exact hc 10 _ rfl, by rw [← add_field _ _ 11 (by omega)]; exact hc 11 _ rfl, by rw [← add_field _ _ 12 (by omega)]; exact hc 12 _ rfl, by rw [← add_field _ _ 13 (by omega)]; exact hc 13 _ rfl, by rw [← add_field _ _ 14 (by omega)]; exact hc 14 _ rfl, by rw [← add_field _ _ 15 (by omega)]; exact hc 15 _ rfl, l6, g6, l11, g11⟩
structure S54 where
  f0 : (List Int)
  f1 : Bool
  f2 : S26
  f3 : (List S83)
  f4 : S29
  f5 : (List Int)
  f6 : S26
def z54 : S54 := ⟨([] : List Int), false, z26, ([] : List S83), z29, ([] : List Int), z26⟩
def k54 : Kd S54 := Kd.iso (Kd.pair (Kd.slice 3 (Kd.int .i64)) (Kd.pair Kd.bool (Kd.pair k26 (Kd.pair (Kd.slice 83 k83) (Kd.pair k29 (Kd.pair (Kd.slice 2 (Kd.int .i64)) k26)))))) (fun x : S54 => (x.f0, x.f1, x.f2, x.f3, x.f4, x.f5, x.f6))
theorem k54_open {w : World} {x : S54} {cs : List Value} (h : k54.K w x cs) : ∃ A0 c0 A6 c6 A11 c11, cs = [.slice A0 x.f0.length c0, .bool x.f1, .int .i64 x.f2.f0, .int .i64 x.f2.f1, .int .i64 x.f2.f2, .int .i64 x.f2.f3, .slice A6 x.f3.length c6, .int .i64 x.f4.f0, .int .i64 x.f4.f1, .int .i64 x.f4.f2, .int .i64 x.f4.f3, .slice A11 x.f5.length c11, .int .i64 x.f6.f0, .int .i64 x.f6.f1, .int .i64 x.f6.f2, .int .i64 x.f6.f3] ∧ x.f0.length ≤ c0 ∧ (Kd.int .i64).C w A0 x.f0.length x.f0 ∧ x.f3.length ≤ c6 ∧ k83.C w A6 x.f3.length x.f3 ∧ x.f5.length ≤ c11 ∧ (Kd.int .i64).C w A11 x.f5.length x.f5 := by
  obtain ⟨_, _, rfl, ⟨A0, c0, rfl, l0, g0⟩, ⟨_, _, rfl, rfl, ⟨_, _, rfl, s2, ⟨_, _, rfl, ⟨A6, c6, rfl, l6, g6⟩, ⟨_, _, rfl, s7, ⟨_, _, rfl, ⟨A11, c11, rfl, l11, g11⟩, s12⟩⟩⟩⟩⟩⟩ := h
  obtain rfl := k26_open s2
  obtain rfl := k29_open s7
  obtain rfl := k26_open s12
  exact ⟨A0, c0, A6, c6, A11, c11, rfl, l0, g0, l6, g6, l11, g11⟩
def rd_T54 (xs : List S54) (i : Int) : S54 := xs.getD i.toNat z54
end Go.Proofs.YtpdflhgcdehmoaaDoor.T
namespace Go.Proofs.YtpdflhgcdehmoaaDoor.T
open Go.RowKit Go.Proofs.YtpdflhgcdehmoaaDoorW.PrintWords Go.Proofs.YtpdflhgcdehmoaaDoorW.PrintLast Go.Proofs.YtpdflhgcdehmoaaDoorW.PrintMore
attribute [local go_sem] max2_int min2_int max_two min_two max_three min_three max_four min_four
set_option linter.unusedVariables false
set_option linter.unusedSimpArgs false
theorem list_of_each {α : Type} {p : Nat → α → Prop} : ∀ (n : Nat), (∀ i, i < n → ∃ a, p i a) → ∃ l : List α, l.length = n ∧ ∀ i x, l[i]? = some x → p i x
  | 0, _ => ⟨[], rfl, fun i x h => by simp at h⟩
  | n + 1, h => by
    obtain ⟨l, hl, hp⟩ := list_of_each n (fun i hi => h i (by omega))
    obtain ⟨a, ha⟩ := h n (by omega)
    refine ⟨l ++ [a], by simp [hl], fun i x hx => ?_⟩
    rcases Nat.lt_or_ge i l.length with h1 | h1
    · rw [List.getElem?_append_left h1] at hx
      exact hp i x hx
    · rw [List.getElem?_append_right h1] at hx
      have hi : i - l.length < [a].length := (List.getElem?_eq_some_iff.1 hx).1
      have : i = n := by simp at hi; omega
      subst this
      rw [← hl, Nat.sub_self] at hx
      obtain rfl : a = x := by simpa using hx
      exact ha
section
variable {H : Type} {enc : TypeId × Value → H} {P : Program} {w : World} {base : Nat} {spare : Nat → Bool} {held : Bool}
def Opens {α : Type} (enc : TypeId × Value → H) (P : Program) (w : World) (base : Nat) (spare : Nat → Bool) (held : Bool) (d : Kd α) (t : TypeId) (ok : α → Prop) : Prop :=
  P.cellsOf t = d.sz ∧ ∀ fuel cs x, DataW.trod enc P w base spare held fuel t cs = some x → ∃ a, ok a ∧ d.K w a cs
theorem opens_int {t : TypeId} {k : IntKind} (ht : P.underlying t = some (.int k)) (hc : P.cellsOf t = 1) : Opens enc P w base spare held (Kd.int k) t (fun n => (Lit.int k n).wf = true) :=
  ⟨hc, fun fuel cs x h => by
    obtain ⟨n, hn, -, hw⟩ := DataW.trod_int ht h
    exact ⟨n, hw, hn⟩⟩
theorem opens_bool {t : TypeId} (ht : P.underlying t = some .bool) (hc : P.cellsOf t = 1) : Opens enc P w base spare held Kd.bool t (fun _ => True) :=
  ⟨hc, fun fuel cs x h => by
    obtain ⟨b, hb, -⟩ := DataW.trod_bool ht h
    exact ⟨b, trivial, hb⟩⟩
theorem opens_string {t : TypeId} (ht : P.underlying t = some .string) (hc : P.cellsOf t = 1) : Opens enc P w base spare held Kd.string t (fun s => s.size ≤ 9223372036854775807) :=
  ⟨hc, fun fuel cs x h => by
    obtain ⟨s, hs, -, hw⟩ := DataW.trod_string ht h
    exact ⟨s, hw, hs⟩⟩
theorem opens_rows {α : Type} {d : Kd α} {ok : α → Prop} {t e : TypeId} (ht : P.underlying t = some (.slice e)) (h : Opens enc P w base spare held d e ok) {fuel : Nat} {cs : List Value} {x : DataW H × List MemPlace}
    (hx : DataW.trod enc P w base spare held fuel t cs = some x) : ∃ (A : Option Addr) (l : List α) (c : Nat), cs = [.slice A l.length c] ∧ l.length ≤ c ∧ c ≤ 9223372036854775807 ∧ (∀ y ∈ l, ok y) ∧ d.C w A l.length l := by
  rcases Go.Deep.open_slice ht hx with ⟨rfl, -⟩ | ⟨a, len, cap, m, n, D, Pl, rfl, -, hl, hm, hmm, -, hi⟩
  · exact ⟨none, [], 0, rfl, Nat.le_refl _, by decide, (fun y hy => absurd hy (by simp)), ⟨rfl, Nat.zero_le _, fun h0 => absurd h0 (Nat.lt_irrefl 0)⟩⟩
  · have hlm : len ≤ m := by rw [hmm]; split <;> omega
    obtain ⟨l, hll, hlp⟩ := list_of_each (p := fun i y => ok y ∧ ∃ cs', d.K w y cs' ∧ ∀ j u, cs'[j]? = some u → w.cell? (a.add (i * d.sz + j)) = some u) len (fun i hil => by
      obtain ⟨cs', hc, hd⟩ := hi i (by omega)
      obtain ⟨y, hy, hK⟩ := h.2 _ _ _ hd
      obtain ⟨-, hcl, hat⟩ := World.cells?_some hc
      rw [h.1] at hcl hat
      refine ⟨y, hy, cs', hK, fun j u hu => ?_⟩
      have hj : j < d.sz := by rw [← hcl]; exact (List.getElem?_eq_some_iff.1 hu).1
      have h1 := hat j hj
      rw [Addr.add_add] at h1
      rw [h1, hu])
    refine ⟨some a, l, cap, by rw [hll], by omega, hm, fun y hy => ?_, rfl, by have h9 : cap ≤ 9223372036854775807 := hm; omega, fun _ => ⟨a, rfl, fun j p hj => ?_⟩⟩
    · obtain ⟨i, hi', he⟩ := List.getElem_of_mem hy
      exact (hlp i y (by rw [List.getElem?_eq_getElem hi', he])).1
    · obtain ⟨-, cs', hK, hcc⟩ := hlp j p hj
      exact ⟨cs', d.K_len hK, hK, hcc⟩
theorem opens_slice {α : Type} {d : Kd α} {ok : α → Prop} {t e : TypeId} {q : Nat} (ht : P.underlying t = some (.slice e)) (hc : P.cellsOf t = 1) (h : Opens enc P w base spare held d e ok) : Opens enc P w base spare held (Kd.slice q d) t (fun l => ∀ y ∈ l, ok y) :=
  ⟨hc, fun fuel cs x hx => by
    obtain ⟨A, l, c, rfl, hl, -, hok, hC⟩ := opens_rows ht h hx
    exact ⟨l, hok, A, c, rfl, hl, hC⟩⟩
def OpensF {α : Type} (enc : TypeId × Value → H) (P : Program) (w : World) (base : Nat) (spare : Nat → Bool) (held : Bool) (d : Kd α) (fs : List Field) (off : Nat) (ok : α → Prop) : Prop :=
  ∀ cs : List Value, cs.length = off + d.sz → (∀ f ∈ fs, ∃ n x, DataW.trod enc P w base spare held n f.type ((cs.drop f.offset).take (P.cellsOf f.type)) = some x) → ∃ a, ok a ∧ d.K w a (cs.drop off)
theorem opensF_one {α : Type} {d : Kd α} {ok : α → Prop} {f : Field} (h : Opens enc P w base spare held d f.type ok) : OpensF enc P w base spare held d [f] f.offset ok := fun cs hl hf => by
  obtain ⟨n, x, hx⟩ := hf f (List.mem_singleton.2 rfl)
  rw [h.1, List.take_of_length_le (by rw [List.length_drop]; omega)] at hx
  exact h.2 _ _ _ hx
theorem opensF_cons {α β : Type} {d : Kd α} {d' : Kd β} {ok : α → Prop} {ok' : β → Prop} {f : Field} {fs : List Field} (h : Opens enc P w base spare held d f.type ok) (h' : OpensF enc P w base spare held d' fs (f.offset + d.sz) ok') :
    OpensF enc P w base spare held (Kd.pair d d') (f :: fs) f.offset (fun p => ok p.1 ∧ ok' p.2) := fun cs hl hf => by
  obtain ⟨n, x, hx⟩ := hf f List.mem_cons_self
  have hsz : (Kd.pair d d').sz = d.sz + d'.sz := rfl
  rw [h.1] at hx
  obtain ⟨a, ha, hK⟩ := h.2 _ _ _ hx
  obtain ⟨b, hb, hK'⟩ := h' cs (by omega) (fun g hg => hf g (List.mem_cons_of_mem _ hg))
  refine ⟨(a, b), ⟨ha, hb⟩, _, _, ?_, hK, hK'⟩
  rw [← List.drop_drop, List.take_append_drop]
theorem opens_struct {α β : Type} {d : Kd α} {ok : α → Prop} {t : TypeId} {fs : Array Field} (f : β → α) (g : α → β) (hg : ∀ a, f (g a) = a) (ht : P.underlying t = some (.struct fs)) (hc : P.cellsOf t = d.sz) (h : OpensF enc P w base spare held d fs.toList 0 ok) :
    Opens enc P w base spare held (Kd.iso d f) t (fun b => ok (f b)) :=
  ⟨hc, fun fuel cs x hx => by
    obtain ⟨xs, n, -, -, hl, hxl, hf⟩ := DataW.trod_struct ht hx
    obtain ⟨a, ha, hK⟩ := h cs (by rw [hl, hc]; omega) (fun q hq => by
      obtain ⟨i, hi, he⟩ := List.getElem_of_mem hq
      have h1 : i < xs.length := by rw [hxl]; simpa using hi
      have h2 : fs[i]? = some q := by
        rw [← Array.getElem?_toList, List.getElem?_eq_getElem hi, he]
      exact ⟨n, xs[i], by rw [hf i q h2, List.getElem?_eq_getElem h1]⟩)
    exact ⟨g a, by show ok (f (g a)); rw [hg]; exact ha, by show d.K w (f (g a)) cs; rw [hg]; simpa using hK⟩⟩
end
end Go.Proofs.YtpdflhgcdehmoaaDoor.T
namespace Go.Proofs.YtpdflhgcdehmoaaDoor.T
open Go.RowKit Go.Proofs.YtpdflhgcdehmoaaDoorW.PrintWords Go.Proofs.YtpdflhgcdehmoaaDoorW.PrintLast Go.Proofs.YtpdflhgcdehmoaaDoorW.PrintMore
attribute [local go_sem] max2_int min2_int max_two min_two max_three min_three max_four min_four
set_option linter.unusedVariables false
set_option linter.unusedSimpArgs false
theorem opens_mono {α H : Type} {enc : TypeId × Value → H} {P : Program} {w : World} {base : Nat} {spare : Nat → Bool} {held : Bool} {d : Kd α} {t : TypeId} {ok ok' : α → Prop} (h : Opens enc P w base spare held d t ok) (hk : ∀ a, ok a → ok' a) : Opens enc P w base spare held d t ok' :=
  ⟨h.1, fun f cs x hx => by obtain ⟨a, ha, hK⟩ := h.2 f cs x hx; exact ⟨a, hk a ha, hK⟩⟩
section
variable {H : Type} {enc : TypeId × Value → H} {w : World} {base : Nat} {spare : Nat → Bool} {held : Bool}
theorem opens_num : Opens enc Tryd.prog w base spare held (Kd.int .i64) 3 (fun n => (Lit.int .i64 n).wf = true) := opens_int Tryd.underlying3 (by kernel_rfl)
theorem opens_word : Opens enc Tryd.prog w base spare held (Kd.int .i64) 2 (fun n => (Lit.int .i64 n).wf = true) := opens_int Tryd.underlying2 (by kernel_rfl)
theorem opens_flag : Opens enc Tryd.prog w base spare held Kd.bool 4 (fun _ => True) := opens_bool Tryd.underlying4 (by kernel_rfl)
theorem opens_text : Opens enc Tryd.prog w base spare held Kd.string 9 (fun s => s.size ≤ 9223372036854775807) := opens_string Tryd.underlying9 (by kernel_rfl)
theorem opens_label : Opens enc Tryd.prog w base spare held k26 26 (fun _ => True) :=
  opens_mono (opens_struct (fun x : S26 => (x.f0, x.f1, x.f2, x.f3)) (fun a => ⟨a.1, a.2.1, a.2.2.1, a.2.2.2⟩) (fun _ => rfl) Tryd.underlying26 (by kernel_rfl)
    (opensF_cons opens_num (opensF_cons opens_num (opensF_cons opens_num (opensF_one opens_num))))) (fun _ _ => trivial)
theorem opens_rings : Opens enc Tryd.prog w base spare held k29 29 (fun _ => True) :=
  opens_mono (opens_struct (fun x : S29 => (x.f0, x.f1, x.f2, x.f3)) (fun a => ⟨a.1, a.2.1, a.2.2.1, a.2.2.2⟩) (fun _ => rfl) Tryd.underlying29 (by kernel_rfl)
    (opensF_cons opens_num (opensF_cons opens_num (opensF_cons opens_num (opensF_one opens_num))))) (fun _ _ => trivial)
theorem opens_grant : Opens enc Tryd.prog w base spare held k83 83 (fun g => g.f0.size ≤ 9223372036854775807) :=
  opens_mono (opens_struct (fun x : S83 => (x.f0, x.f1)) (fun a => ⟨a.1, a.2⟩) (fun _ => rfl) Tryd.underlying83 (by kernel_rfl)
    (opensF_cons opens_text (opensF_one opens_num))) (fun _ h => h.1)
theorem opens_make : Opens enc Tryd.prog w base spare held k54 54 (fun _ => True) :=
  opens_mono (opens_struct (fun x : S54 => (x.f0, x.f1, x.f2, x.f3, x.f4, x.f5, x.f6)) (fun a => ⟨a.1, a.2.1, a.2.2.1, a.2.2.2.1, a.2.2.2.2.1, a.2.2.2.2.2.1, a.2.2.2.2.2.2⟩) (fun _ => rfl) Tryd.underlying54 (by kernel_rfl)
    (opensF_cons (opens_slice Tryd.underlying52 (by kernel_rfl) opens_num) (opensF_cons opens_flag (opensF_cons opens_label (opensF_cons (opens_slice Tryd.underlying27 (by kernel_rfl) opens_grant) (opensF_cons opens_rings (opensF_cons (opens_slice Tryd.underlying30 (by kernel_rfl) opens_word) (opensF_one opens_label))))))))
    (fun _ _ => trivial)
end
end Go.Proofs.YtpdflhgcdehmoaaDoor.T
namespace Go.Proofs.YtpdflhgcdehmoaaDoor.T
open Go.RowKit Go.Proofs.YtpdflhgcdehmoaaDoorW.PrintWords Go.Proofs.YtpdflhgcdehmoaaDoorW.PrintLast Go.Proofs.YtpdflhgcdehmoaaDoorW.PrintMore
attribute [local go_sem] max2_int min2_int max_two min_two max_three min_three max_four min_four
set_option linter.unusedVariables false
set_option linter.unusedSimpArgs false
theorem ret_bool {a b : Bool} (h : a = b) : Ending.returned (.bool a) = .returned (.bool b) := by rw [h]
theorem ret_int {k : IntKind} {a b : Int} (h : a = b) : Ending.returned (.int k a) = .returned (.int k b) := by rw [h]
theorem below_iter (w : World) (s : ByteArray) (pos : Nat) : Below w.heap.size w (w.iter s pos) := by
  unfold World.iter
  exact below_alloc (Below.refl _ _) _
theorem bytes_lt : ∀ (x y : List UInt8), Op.bytesLess x y = decide (x < y)
  | [], [] => by simp [Op.bytesLess]
  | _ :: _, [] => by simp [Op.bytesLess]
  | [], _ :: _ => by simp [Op.bytesLess]
  | a :: x, b :: y => by
    unfold Op.bytesLess
    rw [bytes_lt x y, Bool.eq_iff_iff]
    simp only [List.cons_lt_cons_iff]
    by_cases h1 : a < b <;> by_cases h2 : a = b <;> simp_all
theorem bytes_le (a b : List UInt8) : (Op.bytesLess a b || a == b) = !Op.bytesLess b a := by
  rw [bytes_lt, bytes_lt, Bool.eq_iff_iff]
  simp only [Bool.or_eq_true, decide_eq_true_eq, beq_iff_eq, Bool.not_eq_true', decide_eq_false_iff_not]
  constructor
  · rintro (h | h)
    · exact fun h' => List.lt_asymm h h'
    · subst h; exact List.lt_irrefl _
  · intro h
    rcases List.le_iff_lt_or_eq.1 (List.not_lt.1 h) with h | h
    · exact .inl h
    · exact .inr h
theorem below_rules {B : Nat} {W W1 : World} (h : Below B W W1) : (∀ p : Addr, p.block < B → W1.cell? p = W.cell? p) ∧ (∀ p : Addr, p.block < B → W1.frozen? p = W.frozen? p) :=
  ⟨fun p hp => h.cell hp, fun p hp => h.frozen hp⟩
theorem add_block (a : Addr) (n : Nat) : (a.add n).block = a.block := by unfold Addr.add; split <;> rfl
theorem below_on {w W W1 : World} (h : Below w.heap.size w W) (k : Below W.heap.size W W1) : Below w.heap.size w W1 := below_then h h.size k
section
variable {P : Program}
theorem wp_region_below {id : Nat} {Q : Exit → Act → World → Prop} {a : Act} {w : World} {l : List Oper} (hm : P.follows .mixedOrders = true) (hB : Region.lexB .any l.toArray = true)
    (h : wpQuiet P l.toArray (fun w' => Below w.heap.size w w') (fun a' => ∀ w', Below w.heap.size w w' → Q .normal a' w') l a) : (Code.region id l.toArray true).wp P Q a w :=
  wp_region_quiet (C := fun w' => Below w.heap.size w w') hm hB (below_drew (Below.refl _ _)) (by simpa using h)
theorem quiet_one {o : Oper} {a : Act} {C : World → Prop} {K : Act → Prop} {v : Value} (h : ∀ w, C w → o.quietAt P a C w v) (hk : K (a.put o.dst v)) : o.quiet P a C K := ⟨v, h, hk⟩
theorem quiet_call {B : Nat} {W W1 : World} {f : FuncId} {args : Array Value} {v : Value} (hb : Below W.heap.size W W1) (e : B = W.heap.size) (h : Calls P f args W1 fun e w' => e = .returned v ∧ Below W1.heap.size W1 w') :
    Calls P f args W1 fun e w' => e = .returned v ∧ Below B W w' := h.mono fun _ _ ⟨he, hk⟩ => ⟨he, e ▸ below_on hb hk⟩
theorem drawn_calls {W : World} {f : FuncId} {args : Array Value} {v : Value} (h : Calls P f args W fun e w' => e = .returned v ∧ Drawn0 W w') : Calls P f args W fun e w' => e = .returned v ∧ Below W.heap.size W w' := h.mono fun _ _ ⟨he, hk⟩ => ⟨he, hk.below⟩
def wpAnyT (P : Program) (md : Region.Mode) (ops : Array Oper) (C : World → Prop) (n : Nat) (L : Array Bool → Act → Prop) : Nat → Array Bool → Act → Prop
  | 0, done, a => L done a
  | f + 1, done, a => Region.ready md ops done ≠ [] ∧ ∀ i ∈ Region.ready md ops done, i < n ∧ qOp P ops C i (wpAnyT P md ops C n L f (done.setIfInBounds i true)) a
variable {ops : Array Oper} {md : Region.Mode} {C : World → Prop}
theorem wpAny_of_T {n g : Nat} {L : Array Bool → Act → Prop} {Q' : Exit → Act → World → Prop} (hL : ∀ done a w, C w → L done a → wpAny P md ops Q' g done a w) :
    ∀ (f : Nat) (done : Array Bool) (a : Act) (w : World), C w → wpAnyT P md ops C n L f done a → wpAny P md ops Q' (f + g) done a w
  | 0, done, a, w, hw, h => by rw [Nat.zero_add]; exact hL _ _ _ hw h
  | f + 1, done, a, w, hw, h => by
    rw [show f + 1 + g = (f + g) + 1 by omega]
    exact ⟨fun h0 => absurd h0 h.1, fun i hi => wpOp_of_qOp hw (fun a' w' hw' h' => wpAny_of_T hL f _ a' w' hw' h') (h.2 i hi).2⟩
theorem wpAnyT_take {n i : Nat} {oi : Oper} {v : Value} {L : Array Bool → Act → Prop} (hi : ops[i]? = some oi) (hsel : ∀ (j : Nat) (o : Oper) cs b, ops[j]? = some o → o.op ≠ .select cs b)
    (hs : Region.sinkB md ops n = true) (hc : Region.chainB md ops n = true) (hn : n < ops.size) (hin : i < n) (hdone : ∀ done a, L done a → ∀ j ∈ Region.ready md ops done, n ≤ j) :
    ∀ (f : Nat) (done : Array Bool) (a : Act), HeadInv md ops n done →
      (∀ j oj, ops[j]? = some oj → j ≠ i → done.getD j true = false → (∀ e ∈ oj.after, Region.binds md e = true → e.on ≠ i) → oi.apart ops oj = true) →
      i ∈ Region.ready md ops done → YieldsIn P ops C oi v a →
      wpAnyT P md ops C n L f (done.setIfInBounds i true) (a.put oi.dst v) → wpAnyT P md ops C n L (f + 1) done a := by
  intro f
  induction f with
  | zero =>
    intro done a inv _ hr hy H
    have hun := (mem_ready.1 hr).1
    refine ⟨fun h => (by rw [h] at hr; cases hr), fun j hj => ?_⟩
    have hjn : j < n := Nat.lt_of_not_le fun h => tail_waits hs hc hn inv _ i rfl hin hun j h hj
    refine ⟨hjn, ?_⟩
    rcases Nat.decEq j i with hji | hji
    · exact absurd (hdone _ _ H j (ready_mono hj hji)) (by omega)
    · subst hji
      exact hy.qOp hi H
  | succ f ih =>
    intro done a inv hfree hr hy H
    have hun := (mem_ready.1 hr).1
    refine ⟨fun h => (by rw [h] at hr; cases hr), fun j hj => ?_⟩
    have hjn : j < n := Nat.lt_of_not_le fun h => tail_waits hs hc hn inv _ i rfl hin hun j h hj
    refine ⟨hjn, ?_⟩
    rcases Nat.decEq j i with hji | hji
    · have h1 := (H.2 j (ready_mono hj hji)).2
      obtain ⟨hjun, oj, hoj, hall⟩ := mem_ready.1 hj
      have hnot : ∀ e ∈ oj.after, Region.binds md e = true → e.on ≠ i := fun e he hb heq => by
        have h2 := hall e he hb
        rw [heq, getD_both hun] at h2
        cases h2
      have h2 := qOp_put hoj (hfree j oj hoj hji hjun hnot) (fun cs b => hsel i oi cs b hi) (fun cs b => hsel j oj cs b hoj) hy h1
      refine qOp_mono (fun a' h3 => ih _ a' (inv.set hj hjn) (fun k ok hk hki hunk hno => hfree k ok hk hki ?_ hno) (ready_mono hr (Ne.symm hji)) h3.1 ?_) h2
      · rcases Nat.decEq j k with hjk | hjk
        · rwa [getD_set_ne true hjk] at hunk
        · exact hjk ▸ hjun
      · rw [Array.setIfInBounds_comm _ _ hji]
        exact h3.2
    · subst hji
      exact hy.qOp hi H
theorem wpAnyT_text {n g : Nat} {Lq : Act → Prop} (hsel : Region.noSelect ops = true) (hs : Region.sinkB md ops n = true) (hc : Region.chainB md ops n = true) (hn : n < ops.size) :
    ∀ (l : List Oper) (k : Nat) (done : Array Bool) (a : Act), (∀ j, j < l.length → l[j]? = ops[k + j]?) → k + l.length = n → HeadInv md ops n done →
    Region.lexHead md ops g l.length k done = true → wpQuiet P ops C Lq l a →
    wpAnyT P md ops C n (fun done' a' => Region.seqB md ops g n done' = true ∧ Lq a') l.length done a
  | [], k, done, a, _, hk, _, hB, h => by
    obtain rfl : k = n := by simpa using hk
    exact ⟨by simpa [Region.lexHead] using hB, h⟩
  | o :: l, k, done, a, hl, hk, inv, hB, h => by
    have h0 : ops[k]? = some o := by simpa using (hl 0 (by simp)).symm
    simp only [List.length_cons, Region.lexHead, Bool.and_eq_true] at hB
    obtain ⟨⟨hr, hf⟩, hB'⟩ := hB
    have hkn : k < n := by simp only [List.length_cons] at hk; omega
    have hr' : k ∈ Region.ready md ops done := by simpa using hr
    obtain ⟨v, hy, hK⟩ := yieldsIn_of_qOp (C := C) (K := wpQuiet P ops C Lq l) h0 (by unfold qOp; simp only [h0]; exact h)
    exact wpAnyT_take h0 (Region.noSelect_spec hsel) hs hc hn hkn (fun done' a' hL => seqB_ready hL.1) l.length done a inv (Region.free_spec h0 hf) hr' hy
      (wpAnyT_text hsel hs hc hn l (k + 1) _ _ (fun j hj => by have := hl (j + 1) (by simp; omega); simpa [Nat.add_assoc, Nat.add_comm 1 j] using this) (by simp only [List.length_cons] at hk; omega) (inv.set hr' hkn) hB' hK)
theorem wp_region_tail {id : Nat} {Q : Exit → Act → World → Prop} {a : Act} {w : World} {l : List Oper} (n : Nat) (hm : P.follows .mixedOrders = true) (hB : Region.lexTailB .any l.toArray n = true)
    (h : wpQuiet P l.toArray (fun w' => Below w.heap.size w w') (fun a' => ∀ w', Below w.heap.size w w' → wpList P l.toArray Q (l.drop n) a' w') (l.take n) a) : (Code.region id l.toArray true).wp P Q a w := by
  simp only [Region.lexTailB, Bool.and_eq_true, decide_eq_true_eq] at hB
  obtain ⟨⟨⟨⟨hsel, hn⟩, hs⟩, hc⟩, hlex⟩ := hB
  have hn' : n < l.length := by simpa using hn
  have htl : (l.take n).length = n := by simp; omega
  have hdl : (l.drop n).length = l.toArray.size - n := by simp
  have H := wpAnyT_text (C := fun w' => Below w.heap.size w w') (md := .any) (g := l.toArray.size - n) hsel hs hc hn (l.take n) 0 (Array.replicate l.toArray.size false) a
    (fun j hj => by have hj' : j < n := by rwa [htl] at hj
                    simp [hj']) (by simpa using htl)
    ⟨by simp, fun j oj _ hl => (by rw [getD_replicate_false] at hl; cases hl), fun t _ ht => getD_in (by simpa using ht) (getD_replicate_false _ _)⟩ (by rw [htl]; exact hlex) h
  refine wp_region_any hm ?_
  have H2 := wpAny_of_T (Q' := Q) (g := l.toArray.size - n) (fun done a' w' hw' hL => by
    have h3 := wpAny_of_seq (md := .any) (Q' := Q) (l.drop n) n done a' w' (fun j => by simp [List.getElem?_drop]) (by rw [hdl]; exact hL.1) (hL.2 w' hw')
    rwa [hdl] at h3) _ _ _ _ (below_drew (Below.refl _ _)) H
  rw [htl, show n + (l.toArray.size - n) = l.toArray.size by omega] at H2
  exact H2
end
end Go.Proofs.YtpdflhgcdehmoaaDoor.T
namespace Go.Proofs.YtpdflhgcdehmoaaDoor.T
open Go.RowKit Go.Proofs.YtpdflhgcdehmoaaDoorW.PrintWords Go.Proofs.YtpdflhgcdehmoaaDoorW.PrintLast Go.Proofs.YtpdflhgcdehmoaaDoorW.PrintMore
attribute [local go_sem] max2_int min2_int max_two min_two max_three min_three max_four min_four
set_option linter.unusedVariables false
set_option linter.unusedSimpArgs false
def donjonref7_slash.l0 : Nat → ByteArray → Int → Int → Option (Int)
  | 0, _, _, _ => none
  | k + 1, x0, x3, x4 => if x4 < (x0.size : Int) then (if 0 ≤ x4 then (if (bt x0 x4) = 47 then (donjonref7_slash.l0 k x0 x4 (wrap64 (x4 + 1))) else (donjonref7_slash.l0 k x0 x3 (wrap64 (x4 + 1)))) else (none)) else (some x3)
def donjonref7_slash.f (k : Nat) (a0 : ByteArray) : Option (Int) := donjonref7_slash.l0 k a0 0 0
theorem donjonref7_slash.mono_l : ∀ k, (∀ y0 y1 y2, LeO (donjonref7_slash.l0 k y0 y1 y2) (donjonref7_slash.l0 (k + 1) y0 y1 y2))
  | 0 => fun _ _ _ r h => by simp [donjonref7_slash.l0] at h
  | k + 1 => by
    have ih0 := donjonref7_slash.mono_l k
    · intro y0 y1 y2
      unfold donjonref7_slash.l0
      repeat' first
      | (with_reducible exact ih0 _ _ _)
      | (with_reducible exact LeO.refl _)
      | (with_reducible exact LeO.none _)
      | (with_reducible refine LeO.ite ?_ ?_)
      | (with_reducible refine LeO.bind ?_ (fun _ => ?_))
      | exact ih0 _ _ _
      | exact LeO.none _
      | refine LeO.ite ?_ ?_
      | refine LeO.bind ?_ (fun _ => ?_)
theorem donjonref7_slash.mono : ∀ a0 k, LeO (donjonref7_slash.f k a0) (donjonref7_slash.f (k + 1) a0) := by
  intro a0 k
  have ih0 := donjonref7_slash.mono_l k
  unfold donjonref7_slash.f
  repeat' first
      | (with_reducible exact ih0 _ _ _)
      | (with_reducible exact LeO.refl _)
      | (with_reducible exact LeO.none _)
      | (with_reducible refine LeO.ite ?_ ?_)
      | (with_reducible refine LeO.bind ?_ (fun _ => ?_))
      | exact ih0 _ _ _
      | exact LeO.none _
      | refine LeO.ite ?_ ?_
      | refine LeO.bind ?_ (fun _ => ?_)
set_option maxHeartbeats 8000000 in
set_option maxRecDepth 100000 in
theorem donjonref7_slash.calls (k : Nat) (a0 : ByteArray) (r : Int) (w : World) (h : donjonref7_slash.f k a0 = some r) :
    Calls Tryd.prog 45 #[.string a0] w fun e w' => e = .returned (.int .i64 r) ∧ Drawn0 w w' := by
  have H : (donjonref7_slash.l0 k a0 0 0) = some r := h
  clear h
  have H' := Aside0.mk H
  clear H
  go_enter Tryd.func45, Tryd.ntmps45
  go_wp2
  go_loopg [3, 4] k (fun kq v3 v4 w' => ∃ (x3_1 : Int) (x4_1 : Int), v3 = .int .i64 x3_1 ∧ v4 = .int .i64 x4_1 ∧ Aside0 (donjonref7_slash.l0 kq a0 x3_1 x4_1 = some r) ∧ Aside0 (kq ≤ k) ∧ Drawn0 w w')
  case atStart => exact ⟨(0), (0), (by first | rfl | (simp; done) | (simp [*]; done)), (by first | rfl | (simp; done) | (simp [*]; done)), H', ⟨Nat.le_refl _⟩, by repeat (first | exact Drawn0.refl _ | apply Drawn0.step)⟩
  case round =>
    clear H'
    obtain ⟨x3_1, x4_1, rfl, rfl, HA, HK1, ⟨m1, rfl⟩⟩ := hrel
    cases gk with
    | zero => exact absurd HA.out (by simp [donjonref7_slash.l0])
    | succ k1 =>
      have H := HA.out
      clear HA
      simp only [donjonref7_slash.l0] at H
      by_cases c2 : x4_1 < (a0.size : Int)
      · rw [if_pos c2] at H
        have c2b0 : decide (x4_1 < (a0.size : Int)) = true := decide_eq_true c2
        clear c2
        by_cases c3 : 0 ≤ x4_1
        · rw [if_pos c3] at H
          have c3b0 : decide (0 ≤ x4_1) = true := decide_eq_true c3
          clear c3
          by_cases c5 : (bt a0 x4_1) = 47
          · rw [if_pos c5] at H
            have c5b0 : ((bt a0 x4_1) == 47) = true := beq_iff_eq.mpr c5
            have c5b1 : ((bt a0 x4_1) != 47) = false := bne_eq_false_iff_eq.mpr c5
            clear c5
            have H' := Aside0.mk H
            clear H
            have p4 : 0 ≤ (x4_1 : Int) := of_decide_eq_true (by first | (with_reducible assumption) | assumption)
            have q4 : x4_1 < (a0.size : Int) := of_decide_eq_true (by first | (with_reducible assumption) | assumption)
            have hx4 := bt_at a0 x4_1
            replace p4 := eq_true p4
            replace q4 := eq_true q4
            go_wp2
            go_roundg k1
            case measure => have := HK1.out; omega
            case rel => exact ⟨(x4_1), (wrap64 (x4_1 + 1)), (by first | rfl | (simp; done) | (simp [*]; done)), (by first | rfl | (simp; done) | (simp [*]; done)), H', ⟨by have := HK1.out; omega⟩, by repeat (first | exact Drawn0.refl _ | apply Drawn0.step)⟩
          · rw [if_neg c5] at H
            have c5b0 : ((bt a0 x4_1) == 47) = false := beq_eq_false_iff_ne.mpr c5
            have c5b1 : ((bt a0 x4_1) != 47) = true := bne_iff_ne.mpr c5
            have H' := Aside0.mk H
            clear H
            have p4 : 0 ≤ (x4_1 : Int) := of_decide_eq_true (by first | (with_reducible assumption) | assumption)
            have q4 : x4_1 < (a0.size : Int) := of_decide_eq_true (by first | (with_reducible assumption) | assumption)
            have hx4 := bt_at a0 x4_1
            replace p4 := eq_true p4
            replace q4 := eq_true q4
            go_wp2
            go_roundg k1
            case measure => have := HK1.out; omega
            case rel => exact ⟨(x3_1), (wrap64 (x4_1 + 1)), (by first | rfl | (simp; done) | (simp [*]; done)), (by first | rfl | (simp; done) | (simp [*]; done)), H', ⟨by have := HK1.out; omega⟩, by repeat (first | exact Drawn0.refl _ | apply Drawn0.step)⟩
        · rw [if_neg c3] at H
          exact absurd H (by simp)
      · rw [if_neg c2] at H
        have c2b0 : decide (x4_1 < (a0.size : Int)) = false := decide_eq_false c2
        clear c2
        obtain rfl := Option.some.inj H
        go_wp2
        go_ret
        exact ⟨by first | rfl | (simp; done) | (simp [*]; done), by repeat (first | exact Drawn0.refl _ | apply Drawn0.step)⟩
end Go.Proofs.YtpdflhgcdehmoaaDoor.T
namespace Go.Proofs.YtpdflhgcdehmoaaDoor.T
open Go.RowKit Go.Proofs.YtpdflhgcdehmoaaDoorW.PrintWords Go.Proofs.YtpdflhgcdehmoaaDoorW.PrintLast Go.Proofs.YtpdflhgcdehmoaaDoorW.PrintMore
attribute [local go_sem] max2_int min2_int max_two min_two max_three min_three max_four min_four
set_option linter.unusedVariables false
set_option linter.unusedSimpArgs false
def donjonref7_Parent.f (k : Nat) (a0 : ByteArray) : Option (ByteArray) := if (a0.size : Int) < 2 then (some (⟨#[]⟩ : ByteArray)) else ((donjonref7_slash.f k a0).bind fun t133 => (if t133 = 0 then (some (⟨#[47]⟩ : ByteArray)) else (if 0 ≤ t133 then (if t133 ≤ (a0.size : Int) then (some (a0.extract 0 (t133 : Int).toNat)) else (none)) else (none))))
theorem donjonref7_Parent.mono : ∀ a0 k, LeO (donjonref7_Parent.f k a0) (donjonref7_Parent.f (k + 1) a0) := by
  intro a0 k
  unfold donjonref7_Parent.f
  repeat' first
      | (with_reducible exact donjonref7_slash.mono _ _)
      | (with_reducible exact LeO.refl _)
      | (with_reducible exact LeO.none _)
      | (with_reducible refine LeO.ite ?_ ?_)
      | (with_reducible refine LeO.bind ?_ (fun _ => ?_))
      | exact donjonref7_slash.mono _ _
      | exact LeO.none _
      | refine LeO.ite ?_ ?_
      | refine LeO.bind ?_ (fun _ => ?_)
set_option maxHeartbeats 8000000 in
set_option maxRecDepth 100000 in
theorem donjonref7_Parent.calls (k : Nat) (a0 : ByteArray) (r : ByteArray) (w : World) (h : donjonref7_Parent.f k a0 = some r) :
    Calls Tryd.prog 16 #[.string a0] w fun e w' => e = .returned (.string r) ∧ Drawn0 w w' := by
  have H : (if (a0.size : Int) < 2 then (some (⟨#[]⟩ : ByteArray)) else ((donjonref7_slash.f k a0).bind fun t133 => (if t133 = 0 then (some (⟨#[47]⟩ : ByteArray)) else (if 0 ≤ t133 then (if t133 ≤ (a0.size : Int) then (some (a0.extract 0 (t133 : Int).toNat)) else (none)) else (none))))) = some r := h
  clear h
  by_cases c2 : (a0.size : Int) < 2
  · rw [if_pos c2] at H
    have c2b0 : decide ((a0.size : Int) < 2) = true := decide_eq_true c2
    have c2b1 : decide (a0.size < 2) = true := decide_eq_true (by omega)
    clear c2
    obtain rfl := Option.some.inj H
    go_enter Tryd.func16, Tryd.ntmps16
    go_wp2
    go_ret
    exact ⟨by first | rfl | (simp; done) | (simp [*]; done), by repeat (first | exact Drawn0.refl _ | apply Drawn0.step)⟩
  · rw [if_neg c2] at H
    have c2b0 : decide ((a0.size : Int) < 2) = false := decide_eq_false c2
    have c2b1 : decide (a0.size < 2) = false := decide_eq_false (by omega)
    clear c2
    replace H := Option.bind_eq_some_iff.mp H
    obtain ⟨t133, A30, H⟩ := H
    replace H : (if t133 = 0 then (some (⟨#[47]⟩ : ByteArray)) else (if 0 ≤ t133 then (if t133 ≤ (a0.size : Int) then (some (a0.extract 0 (t133 : Int).toNat)) else (none)) else (none))) = some r := H
    have A3 := Aside0.mk A30
    clear A30
    by_cases c4 : t133 = 0
    · rw [if_pos c4] at H
      have c4b0 : (t133 == 0) = true := beq_iff_eq.mpr c4
      have c4b1 : (t133 != 0) = false := bne_eq_false_iff_eq.mpr c4
      clear c4
      obtain rfl := Option.some.inj H
      go_enter Tryd.func16, Tryd.ntmps16
      go_wp2_with (first | ((with_reducible refine gate_callee (f := 45) rfl ?_); refine goesL_ (some 8) rfl rfl Tryd.func45 (by kernel_rfl) rfl #[.string a0] rfl (by (try simp only [List.map_toArray, List.map_cons, List.map_nil]); first | done | rfl | (simp only [List.length_drop, List.length_take]; rfl)) ?_; (with_reducible refine (donjonref7_slash.calls k a0 t133 _ A3.out).mono ?_); rintro e w' ⟨rfl, ⟨nd, rfl⟩⟩; refine ⟨_, rfl, ?_⟩))
      go_ret
      exact ⟨by first | rfl | (simp; done) | (simp [*]; done), by repeat (first | exact Drawn0.refl _ | apply Drawn0.step)⟩
    · rw [if_neg c4] at H
      have c4b0 : (t133 == 0) = false := beq_eq_false_iff_ne.mpr c4
      have c4b1 : (t133 != 0) = true := bne_iff_ne.mpr c4
      by_cases c5 : 0 ≤ t133
      · rw [if_pos c5] at H
        have c5b0 := eq_true c5
        have c5b1 : decide (0 ≤ t133) = true := decide_eq_true c5
        clear c5
        by_cases c6 : t133 ≤ (a0.size : Int)
        · rw [if_pos c6] at H
          have c6b0 := eq_true c6
          have c6b1 : decide (t133 ≤ (a0.size : Int)) = true := decide_eq_true c6
          clear c6
          obtain rfl := Option.some.inj H
          go_enter Tryd.func16, Tryd.ntmps16
          go_wp2_with (first | ((with_reducible refine gate_callee (f := 45) rfl ?_); refine goesL_ (some 8) rfl rfl Tryd.func45 (by kernel_rfl) rfl #[.string a0] rfl (by (try simp only [List.map_toArray, List.map_cons, List.map_nil]); first | done | rfl | (simp only [List.length_drop, List.length_take]; rfl)) ?_; (with_reducible refine (donjonref7_slash.calls k a0 t133 _ A3.out).mono ?_); rintro e w' ⟨rfl, ⟨nd, rfl⟩⟩; refine ⟨_, rfl, ?_⟩))
          go_ret
          exact ⟨by first | rfl | (simp; done) | (simp [*]; done), by repeat (first | exact Drawn0.refl _ | apply Drawn0.step)⟩
        · rw [if_neg c6] at H
          exact absurd H (by simp)
      · rw [if_neg c5] at H
        exact absurd H (by simp)
end Go.Proofs.YtpdflhgcdehmoaaDoor.T
namespace Go.Proofs.YtpdflhgcdehmoaaDoor.T
open Go.RowKit Go.Proofs.YtpdflhgcdehmoaaDoorW.PrintWords Go.Proofs.YtpdflhgcdehmoaaDoorW.PrintLast Go.Proofs.YtpdflhgcdehmoaaDoorW.PrintMore
attribute [local go_sem] max2_int min2_int max_two min_two max_three min_three max_four min_four
set_option linter.unusedVariables false
set_option linter.unusedSimpArgs false
theorem byteBang (s : ByteArray) (j : Nat) (hj : j < s.size) : (s.data[j]!).toNat = (s[j]).toNat := by
  rw [getElem!_pos s.data j (by simpa using hj)]; rfl
def slashP (s : ByteArray) : Nat := (Lib.lastIndexByte s 47).toNat
theorem slash_l0 (s : ByteArray) (hs : s.size ≤ 9223372036854775807) (d : Nat) : ∀ (k i : Nat), s.size - i = d → d < k → i ≤ s.size → donjonref7_slash.l0 k s ((Lib.lastIdx s 47 i).toNat : Int) (i : Int) = some ((slashP s : Nat) : Int) := by
  induction d with
  | zero =>
    intro k i hd hk hi
    obtain ⟨k, rfl⟩ : ∃ m, k = m + 1 := ⟨k - 1, by omega⟩
    obtain rfl : i = s.size := by omega
    simp only [donjonref7_slash.l0]
    rw [if_neg (by omega)]
    rfl
  | succ d ih =>
    intro k i hd hk hi
    obtain ⟨k, rfl⟩ : ∃ m, k = m + 1 := ⟨k - 1, by omega⟩
    have hlt : i < s.size := by omega
    have hw : wrap64 ((i : Int) + 1) = ((i + 1 : Nat) : Int) := by unfold wrap64; omega
    have hb : bt s (i : Int) = (s[i].toNat : Int) := (bt_at s i hlt).symm
    have hn := ih k (i + 1) (by omega) (by omega) (by omega)
    simp only [donjonref7_slash.l0]
    rw [if_pos (by omega), if_pos (by omega), hb, hw]
    by_cases h47 : (s[i].toNat : Int) = 47
    · rw [if_pos h47]
      rw [Lib.lastIdx_hit s 47 i (by rw [byteBang s i hlt]; exact h47)] at hn
      simpa using hn
    · rw [if_neg h47]
      rw [Lib.lastIdx_miss s 47 i (by rw [byteBang s i hlt]; exact h47)] at hn
      exact hn
theorem slash_is (s : ByteArray) (hs : s.size ≤ 9223372036854775807) : donjonref7_slash.f (s.size + 1) s = some ((slashP s : Nat) : Int) :=
  slash_l0 s hs s.size (s.size + 1) 0 (by omega) (by omega) (by omega)
theorem slashP_le (s : ByteArray) : slashP s ≤ s.size := by
  unfold slashP
  rcases Lib.lastIndexByte_spec s 47 with ⟨e, -⟩ | ⟨i, hi, e, -⟩ <;> rw [e] <;> simp <;> omega
def parR (s : ByteArray) : ByteArray := if s.size < 2 then ⟨#[]⟩ else if slashP s = 0 then ⟨#[47]⟩ else s.extract 0 (slashP s)
theorem parR_is (s : ByteArray) (hs : s.size ≤ 9223372036854775807) : donjonref7_Parent.f (s.size + 1) s = some (parR s) := by
  have hle := slashP_le s
  unfold donjonref7_Parent.f parR
  rw [slash_is s hs]
  simp only [Option.bind_some]
  by_cases h2 : s.size < 2
  · rw [if_pos (by omega), if_pos h2]
  · rw [if_neg (by omega), if_neg h2]
    by_cases h0 : slashP s = 0
    · rw [if_pos (by omega), if_pos h0]
    · rw [if_neg (by omega), if_neg h0, if_pos (by omega), if_pos (by omega)]
      simp
end Go.Proofs.YtpdflhgcdehmoaaDoor.T
namespace Go.Proofs.YtpdflhgcdehmoaaDoor.T
open Go.RowKit Go.Proofs.YtpdflhgcdehmoaaDoorW.PrintWords Go.Proofs.YtpdflhgcdehmoaaDoorW.PrintLast Go.Proofs.YtpdflhgcdehmoaaDoorW.PrintMore
attribute [local go_sem] max2_int min2_int max_two min_two max_three min_three max_four min_four
set_option linter.unusedVariables false
set_option linter.unusedSimpArgs false
def okB (c : UInt8) : Bool := (97 ≤ c && c ≤ 122) || (48 ≤ c && c ≤ 57)
def nameP (s : ByteArray) : Bool := s.data.toList.all okB && decide (1 ≤ s.size) && decide (s.size ≤ 12)
theorem okB_range {c : UInt8} (h : okB c = true) : (97 ≤ c.toNat ∧ c.toNat ≤ 122) ∨ (48 ≤ c.toNat ∧ c.toNat ≤ 57) := by
  simpa [okB, UInt8.le_iff_toNat_le] using h
theorem okB_not {c : UInt8} (h : ¬ okB c = true) : ¬ ((97 ≤ c.toNat ∧ c.toNat ≤ 122) ∨ (48 ≤ c.toNat ∧ c.toNat ≤ 57)) := by
  simpa [okB, UInt8.le_iff_toNat_le] using h
theorem all_ok (s : ByteArray) (h : ∀ i (h : i < s.size), okB s[i] = true) : s.data.toList.all okB = true := by
  rw [List.all_eq_true]
  intro c hc
  obtain ⟨i, hi, rfl⟩ := List.getElem_of_mem hc
  exact h i (by simpa using hi)
def path_Name.f (a0 : ByteArray) : Option (Bool) := some (nameP a0)
theorem nameP_no (s : ByteArray) (i : Nat) (h : i < s.size) (hb : okB s[i] = false) : nameP s = false := by
  unfold nameP
  have : s.data.toList.all okB = false := by
    rw [List.all_eq_false]
    exact ⟨s[i], by simp [ByteArray.getElem_eq_getElem_data] , by simp [hb]⟩
  simp [this]
set_option maxHeartbeats 1000000 in
set_option maxRecDepth 100000 in
theorem path_Name.calls (a0 : ByteArray) (r : Bool) (w : World) (h : path_Name.f a0 = some r) :
    Calls Tryd.prog 80 #[.string a0] w fun e w' => e = .returned (.bool r) ∧ Below w.heap.size w w' := by
  obtain rfl := Option.some.inj h
  clear h
  go_enter Tryd.func80, Tryd.ntmps80
  go_wp2
  go_loopw [2] (fun n w' => ∃ pos : Nat, w' = w.iter a0 pos ∧ n = .bool false ∧ pos ≤ a0.size ∧ Aside0 (∀ i (h : i < a0.size), i < pos → okB a0[i] = true)) (fun _ w' => a0.size - w'.iterPos w.heap.size)
  case atStart => exact ⟨0, rfl, rfl, Nat.zero_le _, ⟨fun i _ h => absurd h (Nat.not_lt_zero _)⟩⟩
  case round =>
    obtain ⟨pos, rfl, rfl, hle, HA⟩ := hrel
    by_cases hp : pos < a0.size
    · have hnx : ∀ ty, (Instr.next (.pointer (some ⟨w.heap.size, 0, none⟩)) true ty).run Tryd.prog (w.iter a0 pos) = _ := fun ty => run_next_any w a0 pos ty hp
      by_cases hb : okB a0[pos] = true
      · have hr := okB_range hb
        have hd := decode_ascii a0 pos hp (by omega)
        rw [hd] at hnx
        have hlo : (((a0[pos].toNat : Int) < 97 → (48 : Int) ≤ a0[pos].toNat ∧ (a0[pos].toNat : Int) ≤ 57)) := by omega
        go_wp2
        all_goals
          go_roundw
          case rel =>
            refine ⟨pos + 1, rfl, rfl, hp, ⟨fun i h hi => ?_⟩⟩
            rcases Nat.lt_or_ge i pos with h1 | h1
            · exact HA.out i h h1
            · obtain rfl : i = pos := by omega
              exact hb
          case measure => simp; omega
      · have hN : nameP a0 = false := nameP_no a0 pos hp (by simpa using hb)
        have hr := okB_not hb
        have hc : (Utf8.decode a0 pos).1 < 48 ∨ 57 < (Utf8.decode a0 pos).1 := by
          by_cases ha : a0[pos].toNat < 128
          · rw [decode_ascii a0 pos hp ha]; simp only; omega
          · have := (decode_high a0 pos hp (by omega)).1; omega
        have hc2 : (Utf8.decode a0 pos).1 < 97 ∨ 122 < (Utf8.decode a0 pos).1 := by
          by_cases ha : a0[pos].toNat < 128
          · rw [decode_ascii a0 pos hp ha]; simp only; omega
          · have := (decode_high a0 pos hp (by omega)).1; omega
        have HN := Lib.hid hN
        clear hN hr
        generalize (Utf8.decode a0 pos).1 = c at *
        go_wp2
        all_goals
          first
          | (go_ret; exact ⟨by rw [HN.out]; rfl, below_iter w a0 _⟩)
          | (exfalso; omega)
    · have hnx : ∀ ty, (Instr.next (.pointer (some ⟨w.heap.size, 0, none⟩)) true ty).run Tryd.prog (w.iter a0 pos) = _ := fun ty => run_next_end w a0 pos ty hp
      have hall : a0.data.toList.all okB = true := all_ok a0 fun i h => HA.out i h (by omega)
      have HL := Lib.hid hall
      clear hall
      go_wp2
      all_goals
        go_ret
        exact ⟨ret_bool (by unfold nameP; rw [HL.out, Bool.eq_iff_iff]; simp; omega), below_iter w a0 _⟩
end Go.Proofs.YtpdflhgcdehmoaaDoor.T
