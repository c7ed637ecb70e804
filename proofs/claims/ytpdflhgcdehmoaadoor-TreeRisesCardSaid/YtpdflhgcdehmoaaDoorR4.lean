/- Part of the proof that TreeRises comes to true: printed and written texts, merged by a program. -/
import Derived.Shelf.Small.Bits
import Derived.Shelf.Utf8.RuneCount
import Derived.Shelf.Strconv.Itoa0
import Derived.Shelf.Strconv.Itoa1
import Derived.Shelf.LaysM
import Derived.Shelf.Strconv.Itoa2
import Derived.Shelf.Strconv.Itoa3
import Derived.Shelf.Strings.Search1
import Derived.Shelf.Strings.Search2
import Derived.Shelf.Strings.Search3
import Derived.Shelf.Strings.Count
import Derived.Shelf.Strings.Shaped
import Derived.Shelf.Strings.Split
import Derived.Shelf.Strings.SplitShaped
import Derived.Shelf.Unicode.Decode
import Derived.Shelf.Strings.RuneCount
import Derived.Shelf.Strings.Explode
import Derived.Shelf.Unicode.DecodeSlow
import Derived.Shelf.Unicode.DecodeAny
import Derived.Ground.SlgnProg
import Derived.Shelf.SlicesE.Clone
import Derived.Ground.SlsoProg
import Derived.Shelf.SlSorted.Search
import Derived.Shelf.Strings.LastIndex
import Derived.Test.YtpdflhgcdehmoaaDoorProg
import Derived.Lib.Hide
import Derived.Shelf.Strings.SplitCore
import Derived.Lib.SplitLaws
import Derived.Test.YtpdflhgcdehmoaaDoorR3
namespace Go.Proofs
open Go.Shelf
def Tryd.lays171_ren : Go.Shelf.Ren := ⟨fun | 171 => 57 | 243 => 78 | 246 => 100 | 283 => 111 | 284 => 112 | 285 => 113 | 286 => 114 | 129 => 98 | 317 => 119 | 318 => 120 | 319 => 121 | 320 => 122 | 337 => 127 | 338 => 128 | n => n, fun | 3 => 3 | 9 => 9 | 2 => 2 | 4 => 4 | 171 => 131 | 0 => 0 | 53 => 119 | 37 => 80 | 5 => 5 | 173 => 133 | 212 => 141 | 51 => 117 | 20 => 20 | 213 => 142 | 46 => 99 | 232 => 145 | 233 => 146 | n => n, fun | 17 => 1 | 18 => 2 | 19 => 3 | n => n⟩
theorem Tryd.lays171 : Go.Proofs.Lays.n171 Tryd.prog Tryd.lays171_ren := {
  mixed := by kernel_rfl
  f129 := Tryd.func98.trans (congrArg some (by kernel_rfl))
  f171 := Tryd.func57.trans (congrArg some (by kernel_rfl))
  f243 := Tryd.func78.trans (congrArg some (by kernel_rfl))
  f246 := Tryd.func100.trans (congrArg some (by kernel_rfl))
  f283 := Tryd.func111.trans (congrArg some (by kernel_rfl))
  f284 := Tryd.func112.trans (congrArg some (by kernel_rfl))
  f285 := Tryd.func113.trans (congrArg some (by kernel_rfl))
  f286 := Tryd.func114.trans (congrArg some (by kernel_rfl))
  f317 := Tryd.func119.trans (congrArg some (by kernel_rfl))
  f318 := Tryd.func120.trans (congrArg some (by kernel_rfl))
  f319 := Tryd.func121.trans (congrArg some (by kernel_rfl))
  f320 := Tryd.func122.trans (congrArg some (by kernel_rfl))
  f337 := Tryd.func127.trans (congrArg some (by kernel_rfl))
  f338 := Tryd.func128.trans (congrArg some (by kernel_rfl))
  t0 := Tryd.underlying0
  a0 := Tryd.isAgg0
  z0 := Tryd.sizeOf0
  v0 := Tryd.zeroValue0
  t2 := Tryd.underlying2
  a2 := Tryd.isAgg2
  z2 := Tryd.sizeOf2
  v2 := Tryd.zeroValue2
  t3 := Tryd.underlying3
  a3 := Tryd.isAgg3
  z3 := Tryd.sizeOf3
  v3 := Tryd.zeroValue3
  t4 := Tryd.underlying4
  a4 := Tryd.isAgg4
  z4 := Tryd.sizeOf4
  v4 := Tryd.zeroValue4
  t5 := Tryd.underlying5
  a5 := Tryd.isAgg5
  z5 := Tryd.sizeOf5
  v5 := Tryd.zeroValue5
  t9 := Tryd.underlying9
  a9 := Tryd.isAgg9
  z9 := Tryd.sizeOf9
  v9 := Tryd.zeroValue9
  t20 := Tryd.underlying20
  a20 := Tryd.isAgg20
  z20 := Tryd.sizeOf20
  v20 := Tryd.zeroValue20
  t37 := Tryd.underlying80
  a37 := Tryd.isAgg80
  z37 := Tryd.sizeOf80
  v37 := Tryd.zeroValue80
  t46 := Tryd.underlying99
  a46 := Tryd.isAgg99
  z46 := Tryd.sizeOf99
  v46 := Tryd.zeroValue99
  t51 := Tryd.underlying117
  a51 := Tryd.isAgg117
  z51 := Tryd.sizeOf117
  v51 := Tryd.zeroValue117
  t53 := Tryd.underlying119
  a53 := Tryd.isAgg119
  z53 := Tryd.sizeOf119
  v53 := Tryd.zeroValue119
  t171 := Tryd.underlying131
  a171 := Tryd.isAgg131
  z171 := Tryd.sizeOf131
  v171 := Tryd.zeroValue131
  t173 := Tryd.underlying133
  a173 := Tryd.isAgg133
  z173 := Tryd.sizeOf133
  v173 := Tryd.zeroValue133
  t212 := Tryd.underlying141
  a212 := Tryd.isAgg141
  z212 := Tryd.sizeOf141
  v212 := Tryd.zeroValue141
  t213 := Tryd.underlying142
  a213 := Tryd.isAgg142
  z213 := Tryd.sizeOf142
  t232 := Tryd.underlying145
  a232 := Tryd.isAgg145
  z232 := Tryd.sizeOf145
  v232 := Tryd.zeroValue145
  t233 := Tryd.underlying146
  a233 := Tryd.isAgg146
  z233 := Tryd.sizeOf146
  v233 := Tryd.zeroValue146
  g17 := by kernel_rfl
  g18 := by kernel_rfl
  g19 := by kernel_rfl }
open Go.RowKit Go.Sort Go.Lib in
theorem Tryd.strconv_Itoa_small (i : Nat) (hi : i < 100) (w : World) :
    Calls Tryd.prog 57 #[.int .i64 i] w fun e w' => e = .returned (.string ⟨(Lib.decDigits i).toArray⟩) ∧ w' = w := Any.strconv_Itoa_small Tryd.lays171 i hi w
def Tryd.lays143_ren : Go.Shelf.Ren := ⟨fun | 143 => 117 | 219 => 126 | 217 => 130 | 225 => 131 | 224 => 132 | 267 => 133 | 266 => 134 | 314 => 135 | n => n, fun | 9 => 9 | 3 => 3 | 4 => 4 | 5 => 5 | 46 => 99 | 146 => 122 | 51 => 117 | n => n, fun | 1 => 0 | n => n⟩
theorem Tryd.lays143 : Go.Proofs.Lays.n143 Tryd.prog Tryd.lays143_ren := {
  mixed := by kernel_rfl
  f143 := Tryd.func117.trans (congrArg some (by kernel_rfl))
  f217 := Tryd.func130.trans (congrArg some (by kernel_rfl))
  f219 := Tryd.func126.trans (congrArg some (by kernel_rfl))
  f224 := Tryd.func132.trans (congrArg some (by kernel_rfl))
  f225 := Tryd.func131.trans (congrArg some (by kernel_rfl))
  f266 := Tryd.func134.trans (congrArg some (by kernel_rfl))
  f267 := Tryd.func133.trans (congrArg some (by kernel_rfl))
  f314 := Tryd.func135.trans (congrArg some (by kernel_rfl))
  t3 := Tryd.underlying3
  a3 := Tryd.isAgg3
  z3 := Tryd.sizeOf3
  v3 := Tryd.zeroValue3
  t4 := Tryd.underlying4
  a4 := Tryd.isAgg4
  z4 := Tryd.sizeOf4
  v4 := Tryd.zeroValue4
  t5 := Tryd.underlying5
  a5 := Tryd.isAgg5
  z5 := Tryd.sizeOf5
  v5 := Tryd.zeroValue5
  t9 := Tryd.underlying9
  a9 := Tryd.isAgg9
  z9 := Tryd.sizeOf9
  v9 := Tryd.zeroValue9
  t46 := Tryd.underlying99
  a46 := Tryd.isAgg99
  z46 := Tryd.sizeOf99
  v46 := Tryd.zeroValue99
  t51 := Tryd.underlying117
  a51 := Tryd.isAgg117
  z51 := Tryd.sizeOf117
  v51 := Tryd.zeroValue117
  t146 := Tryd.underlying122
  a146 := Tryd.isAgg122
  z146 := Tryd.sizeOf122
  v146 := Tryd.zeroValue122
  g1 := by kernel_rfl }
open Go.RowKit Go.Lib in
theorem Tryd.strings_Index_one (s : ByteArray) (c : UInt8) (w : World) :
    Calls Tryd.prog 117 #[.string s, .string ⟨#[c]⟩] w fun e w' => e = .returned (.int .i64 (Lib.indexByte s.data.toList c)) ∧ w' = w := Any.strings_Index_one Tryd.lays143 s c w
def Tryd.lays138_ren : Go.Shelf.Ren := ⟨fun | 138 => 116 | 195 => 123 | 218 => 125 | 143 => 117 | 219 => 126 | 217 => 130 | 225 => 131 | 224 => 132 | 267 => 133 | 266 => 134 | 314 => 135 | n => n, fun | 9 => 9 | 3 => 3 | 4 => 4 | 5 => 5 | 0 => 0 | 46 => 99 | 146 => 122 | 51 => 117 | n => n, fun | 1 => 0 | n => n⟩
theorem Tryd.lays138 : Go.Proofs.Lays.n138 Tryd.prog Tryd.lays138_ren := {
  mixed := by kernel_rfl
  f138 := Tryd.func116.trans (congrArg some (by kernel_rfl))
  f143 := Tryd.func117.trans (congrArg some (by kernel_rfl))
  f195 := Tryd.func123.trans (congrArg some (by kernel_rfl))
  f217 := Tryd.func130.trans (congrArg some (by kernel_rfl))
  f218 := Tryd.func125.trans (congrArg some (by kernel_rfl))
  f219 := Tryd.func126.trans (congrArg some (by kernel_rfl))
  f224 := Tryd.func132.trans (congrArg some (by kernel_rfl))
  f225 := Tryd.func131.trans (congrArg some (by kernel_rfl))
  f266 := Tryd.func134.trans (congrArg some (by kernel_rfl))
  f267 := Tryd.func133.trans (congrArg some (by kernel_rfl))
  f314 := Tryd.func135.trans (congrArg some (by kernel_rfl))
  t0 := Tryd.underlying0
  a0 := Tryd.isAgg0
  z0 := Tryd.sizeOf0
  v0 := Tryd.zeroValue0
  t3 := Tryd.underlying3
  a3 := Tryd.isAgg3
  z3 := Tryd.sizeOf3
  v3 := Tryd.zeroValue3
  t4 := Tryd.underlying4
  a4 := Tryd.isAgg4
  z4 := Tryd.sizeOf4
  v4 := Tryd.zeroValue4
  t5 := Tryd.underlying5
  a5 := Tryd.isAgg5
  z5 := Tryd.sizeOf5
  v5 := Tryd.zeroValue5
  t9 := Tryd.underlying9
  a9 := Tryd.isAgg9
  z9 := Tryd.sizeOf9
  v9 := Tryd.zeroValue9
  t46 := Tryd.underlying99
  a46 := Tryd.isAgg99
  z46 := Tryd.sizeOf99
  v46 := Tryd.zeroValue99
  t51 := Tryd.underlying117
  a51 := Tryd.isAgg117
  z51 := Tryd.sizeOf117
  v51 := Tryd.zeroValue117
  t146 := Tryd.underlying122
  a146 := Tryd.isAgg122
  z146 := Tryd.sizeOf122
  v146 := Tryd.zeroValue122
  g1 := by kernel_rfl }
open Go.RowKit Go.Lib in
theorem Tryd.strings_Count_one (s : ByteArray) (c : UInt8) (w : World) :
    Calls Tryd.prog 116 #[.string s, .string ⟨#[c]⟩] w fun e w' => e = .returned (.int .i64 (Lib.countByte s.data.toList c)) ∧ w' = w := Any.strings_Count_one Tryd.lays138 s c w
def Tryd.lays221_ren : Go.Shelf.Ren := ⟨fun | 221 => 101 | 268 => 115 | 138 => 116 | 143 => 117 | 195 => 123 | 197 => 124 | 218 => 125 | 219 => 126 | 260 => 129 | 217 => 130 | 225 => 131 | 224 => 132 | 267 => 133 | 266 => 134 | 314 => 135 | n => n, fun | 9 => 9 | 3 => 3 | 31 => 40 | 4 => 4 | 0 => 0 | 105 => 143 | 21 => 21 | 5 => 5 | 46 => 99 | 119 => 147 | 139 => 150 | 138 => 149 | 146 => 122 | 51 => 117 | n => n, fun | 1 => 0 | 3 => 4 | 4 => 5 | n => n⟩
theorem Tryd.lays221 : Go.Proofs.Lays.n221 Tryd.prog Tryd.lays221_ren := {
  mixed := by kernel_rfl
  f138 := Tryd.func116.trans (congrArg some (by kernel_rfl))
  f143 := Tryd.func117.trans (congrArg some (by kernel_rfl))
  f195 := Tryd.func123.trans (congrArg some (by kernel_rfl))
  f197 := Tryd.func124.trans (congrArg some (by kernel_rfl))
  f217 := Tryd.func130.trans (congrArg some (by kernel_rfl))
  f218 := Tryd.func125.trans (congrArg some (by kernel_rfl))
  f219 := Tryd.func126.trans (congrArg some (by kernel_rfl))
  f221 := Tryd.func101.trans (congrArg some (by kernel_rfl))
  f224 := Tryd.func132.trans (congrArg some (by kernel_rfl))
  f225 := Tryd.func131.trans (congrArg some (by kernel_rfl))
  f260 := Tryd.func129.trans (congrArg some (by kernel_rfl))
  f266 := Tryd.func134.trans (congrArg some (by kernel_rfl))
  f267 := Tryd.func133.trans (congrArg some (by kernel_rfl))
  f268 := Tryd.func115.trans (congrArg some (by kernel_rfl))
  f314 := Tryd.func135.trans (congrArg some (by kernel_rfl))
  t0 := Tryd.underlying0
  a0 := Tryd.isAgg0
  z0 := Tryd.sizeOf0
  v0 := Tryd.zeroValue0
  t3 := Tryd.underlying3
  a3 := Tryd.isAgg3
  z3 := Tryd.sizeOf3
  v3 := Tryd.zeroValue3
  t4 := Tryd.underlying4
  a4 := Tryd.isAgg4
  z4 := Tryd.sizeOf4
  v4 := Tryd.zeroValue4
  t5 := Tryd.underlying5
  a5 := Tryd.isAgg5
  z5 := Tryd.sizeOf5
  v5 := Tryd.zeroValue5
  t9 := Tryd.underlying9
  a9 := Tryd.isAgg9
  z9 := Tryd.sizeOf9
  v9 := Tryd.zeroValue9
  t21 := Tryd.underlying21
  a21 := Tryd.isAgg21
  z21 := Tryd.sizeOf21
  v21 := Tryd.zeroValue21
  t31 := Tryd.underlying40
  a31 := Tryd.isAgg40
  z31 := Tryd.sizeOf40
  v31 := Tryd.zeroValue40
  t46 := Tryd.underlying99
  a46 := Tryd.isAgg99
  z46 := Tryd.sizeOf99
  v46 := Tryd.zeroValue99
  t51 := Tryd.underlying117
  a51 := Tryd.isAgg117
  z51 := Tryd.sizeOf117
  v51 := Tryd.zeroValue117
  t105 := Tryd.underlying143
  a105 := Tryd.isAgg143
  z105 := Tryd.sizeOf143
  v105 := Tryd.zeroValue143
  t119 := Tryd.underlying147
  a119 := Tryd.isAgg147
  z119 := Tryd.sizeOf147
  t138 := Tryd.underlying149
  a138 := Tryd.isAgg149
  z138 := Tryd.sizeOf149
  v138 := Tryd.zeroValue149
  t139 := Tryd.underlying150
  a139 := Tryd.isAgg150
  z139 := Tryd.sizeOf150
  v139 := Tryd.zeroValue150
  t146 := Tryd.underlying122
  a146 := Tryd.isAgg122
  z146 := Tryd.sizeOf122
  v146 := Tryd.zeroValue122
  g1 := by kernel_rfl
  g3 := by kernel_rfl
  g4 := by kernel_rfl }
def Tryd.search_ren : Go.Shelf.Ren := ⟨fun | 16 => 71 | n => n, fun | 3 => 3 | 35 => 101 | 4 => 4 | 38 => 99 | n => n, fun | n => n⟩
theorem Tryd.search : Go.Proofs.SlLaysO.n16 Tryd.prog Tryd.search_ren := {
  mixed := by kernel_rfl
  f16 := Tryd.func71.trans (congrArg some (by kernel_rfl))
  t3 := Tryd.underlying3
  a3 := Tryd.isAgg3
  z3 := Tryd.sizeOf3
  v3 := Tryd.zeroValue3
  t4 := Tryd.underlying4
  a4 := Tryd.isAgg4
  z4 := Tryd.sizeOf4
  v4 := Tryd.zeroValue4
  t35 := Tryd.underlying101
  a35 := Tryd.isAgg101
  z35 := Tryd.sizeOf101
  v35 := Tryd.zeroValue101
  t38 := Tryd.underlying99
  a38 := Tryd.isAgg99
  z38 := Tryd.sizeOf99
  v38 := Tryd.zeroValue99 }
def Tryd.lays148_ren : Go.Shelf.Ren := ⟨fun | 148 => 68 | 222 => 86 | 223 => 87 | 269 => 103 | n => n, fun | 9 => 9 | 3 => 3 | 4 => 4 | 5 => 5 | 146 => 122 | 51 => 117 | 46 => 99 | n => n, fun | n => n⟩
theorem Tryd.lays148 : Go.Proofs.Lays.n148 Tryd.prog Tryd.lays148_ren := {
  mixed := by kernel_rfl
  f148 := Tryd.func68.trans (congrArg some (by kernel_rfl))
  f222 := Tryd.func86.trans (congrArg some (by kernel_rfl))
  f223 := Tryd.func87.trans (congrArg some (by kernel_rfl))
  f269 := Tryd.func103.trans (congrArg some (by kernel_rfl))
  t3 := Tryd.underlying3
  a3 := Tryd.isAgg3
  z3 := Tryd.sizeOf3
  v3 := Tryd.zeroValue3
  t4 := Tryd.underlying4
  a4 := Tryd.isAgg4
  z4 := Tryd.sizeOf4
  v4 := Tryd.zeroValue4
  t5 := Tryd.underlying5
  a5 := Tryd.isAgg5
  z5 := Tryd.sizeOf5
  v5 := Tryd.zeroValue5
  t9 := Tryd.underlying9
  a9 := Tryd.isAgg9
  z9 := Tryd.sizeOf9
  v9 := Tryd.zeroValue9
  t46 := Tryd.underlying99
  a46 := Tryd.isAgg99
  z46 := Tryd.sizeOf99
  v46 := Tryd.zeroValue99
  t51 := Tryd.underlying117
  a51 := Tryd.isAgg117
  z51 := Tryd.sizeOf117
  v51 := Tryd.zeroValue117
  t146 := Tryd.underlying122
  a146 := Tryd.isAgg122
  z146 := Tryd.sizeOf122
  v146 := Tryd.zeroValue122 }
end Go.Proofs
namespace Go.Proofs.YtpdflhgcdehmoaaDoor.T
open Go.RowKit Go.Proofs.YtpdflhgcdehmoaaDoorW.PrintWords Go.Proofs.YtpdflhgcdehmoaaDoorW.PrintLast Go.Proofs.YtpdflhgcdehmoaaDoorW.PrintMore
attribute [local go_sem] max2_int min2_int max_two min_two max_three min_three max_four min_four
set_option linter.unusedVariables false
set_option linter.unusedSimpArgs false
def segs : List UInt8 → List (List UInt8)
  | [] => [[]]
  | c :: r => if c = 47 then [] :: segs r else match segs r with
    | [] => [[c]]
    | x :: xs => (c :: x) :: xs
theorem segs_ne (l : List UInt8) : segs l ≠ [] := by
  cases l with
  | nil => simp [segs]
  | cons c r =>
    unfold segs
    split
    · simp
    · split <;> simp
theorem split_segs (l : List UInt8) : Lib.splitK [47] 0 (Lib.count l [47]) l = segs l := by
  induction l with
  | nil => rw [Lib.count_miss (by simp [Lib.index])]; rfl
  | cons b l ih =>
    by_cases hb : b = 47
    · subst hb
      rw [Lib.count_cons_eq, Nat.add_comm]
      have hix : Lib.index (47 :: l) [47] = 0 := by rw [Lib.index]; simp [List.isPrefixOf]
      unfold Lib.splitK segs
      rw [hix, if_neg (by decide), if_pos rfl]
      simpa using ih
    · rw [Lib.count_cons_ne b 47 l hb]
      have hp : ([47] : List UInt8).isPrefixOf (b :: l) = false := by simp [List.isPrefixOf, Ne.symm hb]
      have hix : Lib.index (b :: l) [47] = if Lib.index l [47] == -1 then -1 else Lib.index l [47] + 1 := by rw [Lib.index, hp]; simp
      unfold segs
      rw [if_neg hb, ← ih]
      cases hc : Lib.count l [47] with
      | zero => rfl
      | succ k =>
        have hm : ¬ Lib.index l [47] = -1 := fun h => by rw [Lib.count_miss h] at hc; cases hc
        have hge := Lib.index_ge l [47]
        obtain ⟨j, hj⟩ : ∃ j : Nat, Lib.index l [47] = j := ⟨(Lib.index l [47]).toNat, by omega⟩
        have hj2 : Lib.index (b :: l) [47] = ((j + 1 : Nat) : Int) := by rw [hix, if_neg (fun e => hm (beq_iff_eq.1 e)), hj]; omega
        unfold Lib.splitK
        rw [hj, hj2, if_neg (by first | (simp; done) | (simp; omega)), if_neg (by first | (simp; done) | (simp; omega))]
        simp
def nameL (l : List UInt8) : Bool := l.all okB && decide (1 ≤ l.length) && decide (l.length ≤ 12)
theorem nameP_nameL (s : ByteArray) : nameP s = nameL s.data.toList := by
  unfold nameP nameL
  rw [data_length]
def pathChk (s : ByteArray) : Int :=
  if 78 < s.size then 5 else if s.data.toList = [47] then 0 else
  match segs s.data.toList with
  | [] => 1
  | x :: xs => if x = [] ∧ 1 ≤ xs.length ∧ xs.length ≤ 6 ∧ xs.all nameL = true then 0 else 1
def path_Check.f (a0 : ByteArray) : Option (Int) := some (pathChk a0)
set_option maxHeartbeats 1000000 in
set_option maxRecDepth 100000 in
theorem split_calls (s : ByteArray) (w : World) (hs : s.size < 4294967281) :
    Calls Tryd.prog 79 #[.string s, .string ⟨#[47]⟩] w fun e w' => ∃ L : List ByteArray, L.map (·.data.toList) = segs s.data.toList ∧ e = .returned (.slice (some ⟨w.heap.size, 0, none⟩) L.length L.length) ∧ w' = w.alloc (.cells (L.map Value.string).toArray 9) := by
  have hcl := Lib.countB_le ⟨#[47]⟩ (by decide) s.size s (Nat.le_refl _)
  have hlen := Lib.splitB_all ⟨#[47]⟩ (by decide) 0 _ s rfl
  have c := Any.strings_genSplit_core Tryd.lays221 (by kernel_rfl) s ⟨#[47]⟩ 0 (-1) (Lib.countB s ⟨#[47]⟩ + 1) w hs (by decide) (Nat.zero_le _)
    (fun x c hx => by
      have h := Tryd.strings_Index_one x 47 (w.alloc (.cells c 9))
      rw [← Lib.index_one] at h
      exact h)
    (by
      have h := Tryd.strings_Count_one s 47 w
      have e : Lib.countByte s.data.toList 47 = Lib.countB s ⟨#[47]⟩ := (Lib.count_one 47 _).symm
      rw [e] at h
      exact h) (by decide) (by decide) (by rw [if_pos (by decide)]; omega)
  rw [Nat.add_sub_cancel, hlen] at c
  have e2 : Lib.cellsOf (Lib.splitB ⟨#[47]⟩ 0 (Lib.countB s ⟨#[47]⟩) s) (Lib.countB s ⟨#[47]⟩ + 1) = ((Lib.splitB ⟨#[47]⟩ 0 (Lib.countB s ⟨#[47]⟩) s).map Value.string).toArray := by rw [← hlen]; exact Lib.cellsOf_full _
  rw [e2] at c
  have hL : (Lib.splitB ⟨#[47]⟩ 0 (Lib.countB s ⟨#[47]⟩) s).map (·.data.toList) = segs s.data.toList := by rw [Lib.splitB_data]; exact split_segs _
  have c' : Calls Tryd.prog 101 #[.string s, .string ⟨#[47]⟩, .int .i64 0, .int .i64 (-1)] w fun e w' => e = .returned (.slice (some ⟨w.heap.size, 0, none⟩) (Lib.countB s ⟨#[47]⟩ + 1) (Lib.countB s ⟨#[47]⟩ + 1)) ∧ w' = w.alloc (.cells ((Lib.splitB ⟨#[47]⟩ 0 (Lib.countB s ⟨#[47]⟩) s).map Value.string).toArray 9) := c
  clear c
  generalize Lib.splitB ⟨#[47]⟩ 0 (Lib.countB s ⟨#[47]⟩) s = L at *
  rw [← hlen] at c'
  clear hlen e2 hcl
  have HL := Lib.hid hL
  clear hL
  go_enter Tryd.func79, Tryd.ntmps79
  go_wp2_with (go_at_call 101; refine c'.mono ?_; rintro e w1 ⟨rfl, rfl⟩)
  go_ret
  exact ⟨L, HL.out, rfl, rfl⟩
theorem bts_eq (s : ByteArray) (l : List UInt8) : (s.toList = l) = (s.data.toList = l) := by rw [Lib.toList_data]
theorem pathChk_bad {s : ByteArray} {x : List UInt8} {xs : List (List UInt8)} (h1 : ¬ 78 < s.size) (h2 : ¬ s.data.toList = [47]) (hs : segs s.data.toList = x :: xs) (hb : ¬ (x = [] ∧ 1 ≤ xs.length ∧ xs.length ≤ 6 ∧ xs.all nameL = true)) : pathChk s = 1 := by
  unfold pathChk
  rw [if_neg h1, if_neg h2, hs]
  simp only
  rw [if_neg hb]
theorem pathChk_good {s : ByteArray} {x : List UInt8} {xs : List (List UInt8)} (h1 : ¬ 78 < s.size) (hs : segs s.data.toList = x :: xs) (hb : x = [] ∧ 1 ≤ xs.length ∧ xs.length ≤ 6 ∧ xs.all nameL = true) : pathChk s = 0 := by
  unfold pathChk
  rw [if_neg h1]
  by_cases h2 : s.data.toList = [47]
  · rw [if_pos h2]
  · rw [if_neg h2, hs]
    simp only
    rw [if_pos hb]
theorem cell_new_row (w : World) (L : List ByteArray) (t : TypeId) (j : Nat) (hj : j < L.length) : (w.alloc (.cells (L.map Value.string).toArray t)).cell? ⟨w.heap.size, j, none⟩ = some (.string (L.getD j ByteArray.empty)) := by
  rw [World.cell?_alloc_at _ _ _ _ (by simp)]
  simp [List.getD_eq_getElem?_getD, hj]
set_option maxHeartbeats 1000000 in
set_option maxRecDepth 100000 in
theorem path_Check.calls (a0 : ByteArray) (r : Int) (w : World) (h : path_Check.f a0 = some r) :
    Calls Tryd.prog 59 #[.string a0] w fun e w' => e = .returned (.int .i64 r) ∧ Below w.heap.size w w' := by
  obtain rfl := Option.some.inj h
  clear h
  by_cases h78 : 78 < a0.size
  · have e : pathChk a0 = 5 := by unfold pathChk; rw [if_pos h78]
    have HE := Lib.hid e
    clear e
    go_enter Tryd.func59, Tryd.ntmps59
    go_wp2
    go_ret
    exact ⟨ret_int HE.out.symm, Below.refl _ _⟩
  · by_cases hroot : a0.toList = [47]
    · have e : pathChk a0 = 0 := by unfold pathChk; rw [if_neg h78, if_pos (by rw [← bts_eq]; exact hroot)]
      have HE := Lib.hid e
      clear e
      go_enter Tryd.func59, Tryd.ntmps59
      go_wp2
      go_ret
      exact ⟨ret_int HE.out.symm, Below.refl _ _⟩
    · have hr2 : ¬ a0.data.toList = [47] := by rw [← bts_eq]; exact hroot
      have HR2 := Lib.hid hr2
      clear hr2
      have hr3 : (a0.toList == [47]) = false := by simpa using hroot
      go_enter Tryd.func59, Tryd.ntmps59
      go_wp2_with fail
      refine (split_calls a0 _ (by omega)).mono ?_
      rintro e w1 ⟨L, hL, rfl, hw1⟩
      obtain ⟨x0, L, rfl⟩ : ∃ x0 xs, L = x0 :: xs := by
        cases L with
        | nil => exact absurd hL.symm (segs_ne _)
        | cons x0 xs => exact ⟨x0, xs, rfl⟩
      have hc0 := fun j hj => cell_new_row w (x0 :: L) 9 j hj
      rw [← hw1] at hc0
      have hB1 : Below w.heap.size w w1 := by rw [hw1]; exact below_alloc (Below.refl _ _) _
      have hlt1 : w.heap.size < w1.heap.size := by rw [hw1]; simp
      clear hw1
      have hs : segs a0.data.toList = x0.data.toList :: L.map (·.data.toList) := hL.symm
      have HS := Lib.hid hs
      clear hs hL
      have hcz := hc0 0 (by simp)
      simp only [List.getD_cons_zero] at hcz
      have hl : (x0 :: L).length = L.length + 1 := rfl
      rw [hl] at hc0 ⊢
      clear hl
      by_cases hx0 : x0.toList = []
      · by_cases hl1 : 1 ≤ L.length ∧ L.length ≤ 6
        · obtain ⟨hl1, hl6⟩ := hl1
          have hx1 : (x0.toList.isEmpty) = true := by rw [hx0]; rfl
          have hne : ¬ L = [] := by rintro rfl; simp at hl1
          go_wp2
          go_loopw [30] (fun n w' => ∃ k : Nat, n = .int .i64 k ∧ k ≤ L.length ∧ Aside0 (∀ i, i < k → nameP (L.getD i ByteArray.empty) = true) ∧ Below w1.heap.size w1 w') (fun n _ => L.length - (intOf n).toNat)
          case atStart => exact ⟨0, rfl, Nat.zero_le _, ⟨fun i h => absurd h (Nat.not_lt_zero _)⟩, Below.refl _ _⟩
          case round =>
            obtain ⟨k, rfl, hk, HA, hB⟩ := hrel
            obtain ⟨hcr, hfr⟩ := below_rules hB
            by_cases hlt : k < L.length
            · have hck := hc0 (k + 1) (by omega)
              rw [List.getD_cons_succ] at hck
              have hck2 : w1.cell? ⟨w.heap.size, 1 + k, none⟩ = some (.string (L.getD k ByteArray.empty)) := by rw [Nat.add_comm]; exact hck
              have hgx : L.getD k ByteArray.empty = L[k] := by rw [List.getD_eq_getElem?_getD, List.getElem?_eq_getElem hlt]; rfl
              rw [hgx] at hck2
              have HG := Lib.hid hgx
              clear hc0 hcz hck hgx
              cases hn : nameP L[k] with
              | true =>
                go_wp2_with (go_at_call 80; refine (path_Name.calls _ true _ (by unfold path_Name.f; rw [hn])).mono ?_; rintro e w2 ⟨rfl, hb⟩)
                go_roundw
                case rel =>
                  refine ⟨k + 1, by go_num, hlt, ⟨fun i hi => ?_⟩, below_on hB hb⟩
                  rcases Nat.lt_or_ge i k with h1 | h1
                  · exact HA.out i h1
                  · obtain rfl : i = k := by omega
                    rw [HG.out]
                    exact hn
                case measure => simp [intOf]; omega
              | false =>
                have hbad : pathChk a0 = 1 := pathChk_bad h78 HR2.out HS.out (fun h => by
                  have h4 := h.2.2.2
                  rw [List.all_eq_true] at h4
                  have h5 := h4 (L[k]).data.toList (List.mem_map.2 ⟨_, List.getElem_mem hlt, rfl⟩)
                  rw [← nameP_nameL] at h5
                  rw [hn] at h5
                  cases h5)
                have HB := Lib.hid hbad
                clear hbad
                go_wp2_with (go_at_call 80; refine (path_Name.calls _ false _ (by unfold path_Name.f; rw [hn])).mono ?_; rintro e w2 ⟨rfl, hb⟩)
                go_ret
                exact ⟨ret_int HB.out.symm, below_on hB1 (below_on hB hb)⟩
            · obtain rfl : k = L.length := by omega
              have hgood : pathChk a0 = 0 := pathChk_good h78 HS.out ⟨by rw [← bts_eq]; exact hx0, by simpa using hl1, by simpa using hl6, by
                rw [List.all_eq_true]
                intro x hx
                obtain ⟨y, hy, rfl⟩ := List.mem_map.1 hx
                obtain ⟨i, hi, rfl⟩ := List.getElem_of_mem hy
                have h5 := HA.out i hi
                rw [List.getD_eq_getElem?_getD, List.getElem?_eq_getElem hi] at h5
                rw [← nameP_nameL]
                simpa using h5⟩
              have HB := Lib.hid hgood
              clear hgood
              go_wp2
              go_ret
              exact ⟨ret_int HB.out.symm, below_on hB1 hB⟩
        · have hbad : pathChk a0 = 1 := pathChk_bad h78 HR2.out HS.out (fun h => hl1 ⟨by simpa using h.2.1, by simpa using h.2.2.1⟩)
          have HB := Lib.hid hbad
          clear hbad
          have hx1 : (x0.toList.isEmpty) = true := by rw [hx0]; rfl
          rcases (by omega : L.length = 0 ∨ 6 < L.length) with h0 | h7
          · have h0' : L.length < 1 := by omega
            clear h0
            go_wp2
            go_ret
            exact ⟨ret_int HB.out.symm, hB1⟩
          · go_wp2
            go_ret
            exact ⟨ret_int HB.out.symm, hB1⟩
      · have hbad : pathChk a0 = 1 := pathChk_bad h78 HR2.out HS.out (fun h => hx0 (by rw [bts_eq]; exact h.1))
        have HB := Lib.hid hbad
        clear hbad
        have hx1 : (x0.toList.isEmpty) = false := by
          cases h : x0.toList with
          | nil => exact absurd h hx0
          | cons _ _ => rfl
        go_wp2
        go_ret
        exact ⟨ret_int HB.out.symm, hB1⟩
end Go.Proofs.YtpdflhgcdehmoaaDoor.T
namespace Go.Proofs.YtpdflhgcdehmoaaDoor.T
open Go.RowKit Go.Proofs.YtpdflhgcdehmoaaDoorW.PrintWords Go.Proofs.YtpdflhgcdehmoaaDoorW.PrintLast Go.Proofs.YtpdflhgcdehmoaaDoorW.PrintMore
attribute [local go_sem] max2_int min2_int max_two min_two max_three min_three max_four min_four
set_option linter.unusedVariables false
set_option linter.unusedSimpArgs false
theorem eqA29 (d : Nat) (w : World) (x0 y0 : Int) (x1 y1 : Int) (x2 y2 : Int) (x3 y3 : Int) :
    (Op.equalIn (d + 2) 29 (.agg #[.int .i64 x0, .int .i64 x1, .int .i64 x2, .int .i64 x3]) (.agg #[.int .i64 y0, .int .i64 y1, .int .i64 y2, .int .i64 y3])).run Tryd.prog w = .ok (x0 == y0 && (x1 == y1 && (x2 == y2 && (x3 == y3)))) w := by
  refine eqA_of Tryd.underlying29 (by kernel_rfl) ?_
  refine eqf_cons (by rfl) (by go_simp; rfl) (by go_simp; rfl) (by go_simp) ?_
  refine eqf_cons (by rfl) (by go_simp; rfl) (by go_simp; rfl) (by go_simp) ?_
  refine eqf_cons (by rfl) (by go_simp; rfl) (by go_simp; rfl) (by go_simp) ?_
  exact eqf_last (by rfl) (by go_simp; rfl) (by go_simp; rfl) (by go_simp)
end Go.Proofs.YtpdflhgcdehmoaaDoor.T
namespace Go.Proofs.YtpdflhgcdehmoaaDoor.T
open Go.RowKit Go.Proofs.YtpdflhgcdehmoaaDoorW.PrintWords Go.Proofs.YtpdflhgcdehmoaaDoorW.PrintLast Go.Proofs.YtpdflhgcdehmoaaDoorW.PrintMore
attribute [local go_sem] max2_int min2_int max_two min_two max_three min_three max_four min_four
set_option linter.unusedVariables false
set_option linter.unusedSimpArgs false
def node_first.l0 : Nat → List Int → Int → Int → Option (Int)
  | 0, _, _, _ => none
  | k + 1, x5, x6, x7 => if x7 < x6 then (if 0 ≤ x7 then (if x7 < (x5.length : Int) then (if (rd x5 x7) = 0 then (node_first.l0 k x5 x6 (wrap64 (x7 + 1))) else (some (rd x5 x7))) else (none)) else (none)) else (some 0)
def node_first.f (k : Nat) (l0 : List Int) : Option (Int) := node_first.l0 k l0 (l0.length : Int) 0
theorem node_first.mono_l : ∀ k, (∀ y0 y1 y2, LeO (node_first.l0 k y0 y1 y2) (node_first.l0 (k + 1) y0 y1 y2))
  | 0 => fun _ _ _ r h => by simp [node_first.l0] at h
  | k + 1 => by
    have ih0 := node_first.mono_l k
    · intro y0 y1 y2
      unfold node_first.l0
      repeat' first
      | (with_reducible exact ih0 _ _ _)
      | (with_reducible exact LeO.refl _)
      | (with_reducible exact LeO.none _)
      | (with_reducible refine LeO.ite ?_ ?_)
      | (with_reducible refine LeO.bind ?_ (fun _ => ?_))
      | exact ih0 _ _ _
      | exact LeO.none _
      | refine LeO.ite ?_ ?_
      | refine LeO.bind ?_ (fun _ => ?_)
theorem node_first.mono : ∀ a0 k, LeO (node_first.f k a0) (node_first.f (k + 1) a0) := by
  intro a0 k
  have ih0 := node_first.mono_l k
  unfold node_first.f
  repeat' first
      | (with_reducible exact ih0 _ _ _)
      | (with_reducible exact LeO.refl _)
      | (with_reducible exact LeO.none _)
      | (with_reducible refine LeO.ite ?_ ?_)
      | (with_reducible refine LeO.bind ?_ (fun _ => ?_))
      | exact ih0 _ _ _
      | exact LeO.none _
      | refine LeO.ite ?_ ?_
      | refine LeO.bind ?_ (fun _ => ?_)
set_option maxHeartbeats 8000000 in
set_option maxRecDepth 100000 in
theorem node_first.calls (k : Nat) (A0 : Option Addr) (c0 : Nat) (l0 : List Int) (r : Int) (w : World) (hr0 : Kd.C (Kd.int .i64) w A0 l0.length l0) (hc0 : l0.length ≤ c0) (h : node_first.f k l0 = some r) :
    Calls Tryd.prog 58 #[.slice A0 l0.length c0] w fun e w' => e = .returned (.int .i64 r) ∧ Drawn0 w w' := by
  have HR0 := Aside0.mk hr0
  have HC0 := Aside0.mk hc0
  clear hr0 hc0
  have H : (node_first.l0 k l0 (l0.length : Int) 0) = some r := h
  clear h
  have H' := Aside0.mk H
  clear H
  go_enter Tryd.func58, Tryd.ntmps58
  go_wp2
  go_loopg [7] k (fun kq v7 w' => ∃ (x7_1 : Int), v7 = .int .i64 x7_1 ∧ Aside0 (node_first.l0 kq l0 (l0.length : Int) x7_1 = some r) ∧ Aside0 (kq ≤ k) ∧ Drawn0 w w')
  case atStart => exact ⟨(0), (by first | rfl | (simp; done) | (simp [*]; done)), H', ⟨Nat.le_refl _⟩, by repeat (first | exact Drawn0.refl _ | apply Drawn0.step)⟩
  case round =>
    clear H'
    obtain ⟨x7_1, rfl, HA, HK1, ⟨m1, rfl⟩⟩ := hrel
    cases gk with
    | zero => exact absurd HA.out (by simp [node_first.l0])
    | succ k1 =>
      have H := HA.out
      clear HA
      simp only [node_first.l0] at H
      by_cases c2 : x7_1 < (l0.length : Int)
      · rw [if_pos c2] at H
        have c2b0 : decide (x7_1 < (l0.length : Int)) = true := decide_eq_true c2
        clear c2
        by_cases c3 : 0 ≤ x7_1
        · rw [if_pos c3] at H
          have c3b0 : decide (0 ≤ x7_1) = true := decide_eq_true c3
          clear c3
          by_cases c4 : x7_1 < (l0.length : Int)
          · rw [if_pos c4] at H
            have c4b0 : decide (x7_1 < (l0.length : Int)) = true := decide_eq_true c4
            clear c4
            by_cases c5 : (rd l0 x7_1) = 0
            · rw [if_pos c5] at H
              have c5b0 : ((rd l0 x7_1) == 0) = true := beq_iff_eq.mpr c5
              have c5b1 : ((rd l0 x7_1) != 0) = false := bne_eq_false_iff_eq.mpr c5
              clear c5
              have H' := Aside0.mk H
              clear H
              have p115 : 0 ≤ (x7_1 : Int) := of_decide_eq_true (by first | (with_reducible assumption) | assumption)
              have q115 : x7_1 < (l0.length : Int) := of_decide_eq_true (by first | (with_reducible assumption) | assumption)
              obtain ⟨ad115, e115, hx115_0⟩ := Kd.at_int HR0.out x7_1 p115 q115
              cases e115
              replace p115 := eq_true p115
              replace q115 := eq_true q115
              go_wp2
              go_roundg k1
              case measure => have := HK1.out; omega
              case rel => exact ⟨(wrap64 (x7_1 + 1)), (by first | rfl | (simp; done) | (simp [*]; done)), H', ⟨by have := HK1.out; omega⟩, by repeat (first | exact Drawn0.refl _ | apply Drawn0.step)⟩
            · rw [if_neg c5] at H
              have c5b0 : ((rd l0 x7_1) == 0) = false := beq_eq_false_iff_ne.mpr c5
              have c5b1 : ((rd l0 x7_1) != 0) = true := bne_iff_ne.mpr c5
              obtain rfl := Option.some.inj H
              have p115 : 0 ≤ (x7_1 : Int) := of_decide_eq_true (by first | (with_reducible assumption) | assumption)
              have q115 : x7_1 < (l0.length : Int) := of_decide_eq_true (by first | (with_reducible assumption) | assumption)
              obtain ⟨ad115, e115, hx115_0⟩ := Kd.at_int HR0.out x7_1 p115 q115
              cases e115
              replace p115 := eq_true p115
              replace q115 := eq_true q115
              go_wp2
              go_ret
              exact ⟨by first | rfl | (simp; done) | (simp [*]; done), by repeat (first | exact Drawn0.refl _ | apply Drawn0.step)⟩
          · rw [if_neg c4] at H
            exact absurd H (by simp)
        · rw [if_neg c3] at H
          exact absurd H (by simp)
      · rw [if_neg c2] at H
        have c2b0 : decide (x7_1 < (l0.length : Int)) = false := decide_eq_false c2
        clear c2
        obtain rfl := Option.some.inj H
        go_wp2
        go_ret
        exact ⟨by first | rfl | (simp; done) | (simp [*]; done), by repeat (first | exact Drawn0.refl _ | apply Drawn0.step)⟩
end Go.Proofs.YtpdflhgcdehmoaaDoor.T
namespace Go.Proofs.YtpdflhgcdehmoaaDoor.T
open Go.RowKit Go.Proofs.YtpdflhgcdehmoaaDoorW.PrintWords Go.Proofs.YtpdflhgcdehmoaaDoorW.PrintLast Go.Proofs.YtpdflhgcdehmoaaDoorW.PrintMore
attribute [local go_sem] max2_int min2_int max_two min_two max_three min_three max_four min_four
set_option linter.unusedVariables false
set_option linter.unusedSimpArgs false
def label_level.f (a0 : Int) : Option (Bool) := if a0 ≥ 0 then (some (decide (a0 ≤ 3))) else (some false)
set_option maxHeartbeats 8000000 in
set_option maxRecDepth 100000 in
theorem label_level.calls (a0 : Int) (r : Bool) (w : World) (h : label_level.f a0 = some r) :
    Calls Tryd.prog 81 #[.int .i64 a0] w fun e w' => e = .returned (.bool r) ∧ Drawn0 w w' := by
  have H : (if a0 ≥ 0 then (some (decide (a0 ≤ 3))) else (some false)) = some r := h
  clear h
  by_cases c2 : a0 ≥ 0
  · rw [if_pos c2] at H
    have c2b0 : decide (0 ≤ a0) = true := decide_eq_true c2
    clear c2
    obtain rfl := Option.some.inj H
    go_enter Tryd.func81, Tryd.ntmps81
    go_wp2
    go_ret
    exact ⟨by first | rfl | (simp; done) | (simp [*]; done), by repeat (first | exact Drawn0.refl _ | apply Drawn0.step)⟩
  · rw [if_neg c2] at H
    have c2b0 : decide (0 ≤ a0) = false := decide_eq_false c2
    clear c2
    obtain rfl := Option.some.inj H
    go_enter Tryd.func81, Tryd.ntmps81
    go_wp2
    go_ret
    exact ⟨by first | rfl | (simp; done) | (simp [*]; done), by repeat (first | exact Drawn0.refl _ | apply Drawn0.step)⟩
end Go.Proofs.YtpdflhgcdehmoaaDoor.T
namespace Go.Proofs.YtpdflhgcdehmoaaDoor.T
open Go.RowKit Go.Proofs.YtpdflhgcdehmoaaDoorW.PrintWords Go.Proofs.YtpdflhgcdehmoaaDoorW.PrintLast Go.Proofs.YtpdflhgcdehmoaaDoorW.PrintMore
attribute [local go_sem] max2_int min2_int max_two min_two max_three min_three max_four min_four
set_option linter.unusedVariables false
set_option linter.unusedSimpArgs false
def label_cats.f (a0 : Int) : Option (Bool) := if a0 ≥ 0 then (some (decide (a0 ≤ 255))) else (some false)
set_option maxHeartbeats 8000000 in
set_option maxRecDepth 100000 in
theorem label_cats.calls (a0 : Int) (r : Bool) (w : World) (h : label_cats.f a0 = some r) :
    Calls Tryd.prog 82 #[.int .i64 a0] w fun e w' => e = .returned (.bool r) ∧ Drawn0 w w' := by
  have H : (if a0 ≥ 0 then (some (decide (a0 ≤ 255))) else (some false)) = some r := h
  clear h
  by_cases c2 : a0 ≥ 0
  · rw [if_pos c2] at H
    have c2b0 : decide (0 ≤ a0) = true := decide_eq_true c2
    clear c2
    obtain rfl := Option.some.inj H
    go_enter Tryd.func82, Tryd.ntmps82
    go_wp2
    go_ret
    exact ⟨by first | rfl | (simp; done) | (simp [*]; done), by repeat (first | exact Drawn0.refl _ | apply Drawn0.step)⟩
  · rw [if_neg c2] at H
    have c2b0 : decide (0 ≤ a0) = false := decide_eq_false c2
    clear c2
    obtain rfl := Option.some.inj H
    go_enter Tryd.func82, Tryd.ntmps82
    go_wp2
    go_ret
    exact ⟨by first | rfl | (simp; done) | (simp [*]; done), by repeat (first | exact Drawn0.refl _ | apply Drawn0.step)⟩
end Go.Proofs.YtpdflhgcdehmoaaDoor.T
namespace Go.Proofs.YtpdflhgcdehmoaaDoor.T
open Go.RowKit Go.Proofs.YtpdflhgcdehmoaaDoorW.PrintWords Go.Proofs.YtpdflhgcdehmoaaDoorW.PrintLast Go.Proofs.YtpdflhgcdehmoaaDoorW.PrintMore
attribute [local go_sem] max2_int min2_int max_two min_two max_three min_three max_four min_four
set_option linter.unusedVariables false
set_option linter.unusedSimpArgs false
def label_Check.f (a0_0 : Int) (a0_1 : Int) (a0_2 : Int) (a0_3 : Int) : Option (Int) := (label_level.f a0_0).bind fun t117 => (if t117 = true then ((label_level.f a0_2).bind fun t118 => (if t118 = true then ((label_cats.f a0_1).bind fun t119 => (if t119 = true then ((label_cats.f a0_3).bind fun t120 => (if t120 = true then (some 0) else (some 1))) else (some 1))) else (some 1))) else (some 1))
set_option maxHeartbeats 8000000 in
set_option maxRecDepth 100000 in
theorem label_Check.calls (a0_0 : Int) (a0_1 : Int) (a0_2 : Int) (a0_3 : Int) (r : Int) (w : World) (h : label_Check.f a0_0 a0_1 a0_2 a0_3 = some r) :
    Calls Tryd.prog 60 #[.agg #[.int .i64 a0_0, .int .i64 a0_1, .int .i64 a0_2, .int .i64 a0_3]] w fun e w' => e = .returned (.int .i64 r) ∧ Below w.heap.size w w' := by
  have hu26 := Tryd.underlying26
  have HB := Aside0.mk (Below.refl w.heap.size w)
  have H : ((label_level.f a0_0).bind fun t117 => (if t117 = true then ((label_level.f a0_2).bind fun t118 => (if t118 = true then ((label_cats.f a0_1).bind fun t119 => (if t119 = true then ((label_cats.f a0_3).bind fun t120 => (if t120 = true then (some 0) else (some 1))) else (some 1))) else (some 1))) else (some 1))) = some r := h
  clear h
  replace H := Option.bind_eq_some_iff.mp H
  obtain ⟨t117, A20, H⟩ := H
  replace H : (if t117 = true then ((label_level.f a0_2).bind fun t118 => (if t118 = true then ((label_cats.f a0_1).bind fun t119 => (if t119 = true then ((label_cats.f a0_3).bind fun t120 => (if t120 = true then (some 0) else (some 1))) else (some 1))) else (some 1))) else (some 1)) = some r := H
  have A2 := Aside0.mk A20
  clear A20
  by_cases c3 : t117 = true
  · subst c3
    have H1 : ((label_level.f a0_2).bind fun t118 => (if t118 = true then ((label_cats.f a0_1).bind fun t119 => (if t119 = true then ((label_cats.f a0_3).bind fun t120 => (if t120 = true then (some 0) else (some 1))) else (some 1))) else (some 1))) = some r := by rw [if_pos rfl] at H; exact H
    clear H
    have H := H1
    clear H1
    replace H := Option.bind_eq_some_iff.mp H
    obtain ⟨t118, A40, H⟩ := H
    replace H : (if t118 = true then ((label_cats.f a0_1).bind fun t119 => (if t119 = true then ((label_cats.f a0_3).bind fun t120 => (if t120 = true then (some 0) else (some 1))) else (some 1))) else (some 1)) = some r := H
    have A4 := Aside0.mk A40
    clear A40
    by_cases c5 : t118 = true
    · subst c5
      have H1 : ((label_cats.f a0_1).bind fun t119 => (if t119 = true then ((label_cats.f a0_3).bind fun t120 => (if t120 = true then (some 0) else (some 1))) else (some 1))) = some r := by rw [if_pos rfl] at H; exact H
      clear H
      have H := H1
      clear H1
      replace H := Option.bind_eq_some_iff.mp H
      obtain ⟨t119, A60, H⟩ := H
      replace H : (if t119 = true then ((label_cats.f a0_3).bind fun t120 => (if t120 = true then (some 0) else (some 1))) else (some 1)) = some r := H
      have A6 := Aside0.mk A60
      clear A60
      by_cases c7 : t119 = true
      · subst c7
        have H1 : ((label_cats.f a0_3).bind fun t120 => (if t120 = true then (some 0) else (some 1))) = some r := by rw [if_pos rfl] at H; exact H
        clear H
        have H := H1
        clear H1
        replace H := Option.bind_eq_some_iff.mp H
        obtain ⟨t120, A80, H⟩ := H
        replace H : (if t120 = true then (some 0) else (some 1)) = some r := H
        have A8 := Aside0.mk A80
        clear A80
        by_cases c9 : t120 = true
        · subst c9
          have H1 : (some 0) = some r := by rw [if_pos rfl] at H; exact H
          clear H
          have H := H1
          clear H1
          obtain rfl := Option.some.inj H
          go_enter Tryd.func60, Tryd.ntmps60
          go_wp2_with (first | ((with_reducible refine gate_dst (N := 1) rfl ?_); refine box_event ?hg (N := 1) ?hd (cs := #[.int .i64 a0_0, .int .i64 a0_1, .int .i64 a0_2, .int .i64 a0_3]) (t := 26) ?hr ?_; (case hd => rfl); (case hg => rfl); (case hr => first | (go_simp; done) | (go_simp; rfl)); intro gb116 hg w10 hbox hb; have n0_ := Aside0.mk (below_step (by repeat (first | (with_reducible first | exact HB.out | apply below_alloc | apply pw_below_drewN | apply below_drew1) | exact HB.out)) hb); have n1_ := Aside0.mk (hbox); have n2_ := Aside0.mk ((by rw [hg]; exact (below_size (by repeat (first | (with_reducible first | exact HB.out | apply below_alloc | apply pw_below_drewN | apply below_drew1) | exact HB.out))) : w.heap.size ≤ gb116)); have n3_ := Aside0.mk ((by rw [hg]; exact (below_size (by repeat (first | (with_reducible first | exact HB.out | apply below_alloc | apply pw_below_drewN | apply below_drew1) | exact HB.out))) : w.heap.size ≤ gb116)); clear HB; have HB := n0_; have BK116 := n1_; have GW116 := n2_; have GE116 := n3_; clear n0_ n1_ n2_ n3_; clear hb hbox hg; have hcz11_0 : w10.cell? ⟨gb116, 0, none⟩ = some (.int .i64 a0_0) := (blk_cell BK116.out 0).trans rfl; have hcz11_1 : w10.cell? ⟨gb116, 1, none⟩ = some (.int .i64 a0_1) := (blk_cell BK116.out 1).trans rfl; have hcz11_2 : w10.cell? ⟨gb116, 2, none⟩ = some (.int .i64 a0_2) := (blk_cell BK116.out 2).trans rfl; have hcz11_3 : w10.cell? ⟨gb116, 3, none⟩ = some (.int .i64 a0_3) := (blk_cell BK116.out 3).trans rfl; have hfz11_0 := blk_frozen BK116.out 0; have hfz11_1 := blk_frozen BK116.out 1; have hfz11_2 := blk_frozen BK116.out 2; have hfz11_3 := blk_frozen BK116.out 3) | ((with_reducible refine gate_callee (f := 81) rfl ?_); refine goesL_ (some 5) rfl rfl Tryd.func81 (by kernel_rfl) rfl #[.int .i64 a0_0] rfl (by (try simp only [List.map_toArray, List.map_cons, List.map_nil]); first | done | rfl | (simp only [List.length_drop, List.length_take]; rfl)) ?_; (with_reducible refine (label_level.calls a0_0 true _ A2.out).mono ?_); rintro e w' ⟨rfl, ⟨nd, rfl⟩⟩; refine ⟨_, rfl, ?_⟩) | (go_at_call 81; (with_reducible refine (label_level.calls a0_2 true _ A4.out).mono ?_); rintro e w' ⟨rfl, ⟨nd, rfl⟩⟩) | (go_at_call 82; (with_reducible refine (label_cats.calls a0_1 true _ A6.out).mono ?_); rintro e w' ⟨rfl, ⟨nd, rfl⟩⟩) | (go_at_call 82; (with_reducible refine (label_cats.calls a0_3 true _ A8.out).mono ?_); rintro e w' ⟨rfl, ⟨nd, rfl⟩⟩))
          go_ret
          exact ⟨by first | rfl | (simp [errW_none, errW_some] <;> rfl) | (simp [*, errW_none, errW_some] <;> rfl), by repeat (first | (with_reducible first | exact HB.out | apply below_alloc | apply pw_below_drewN | apply below_drew1 | refine below_set ?_ GE116.out) | exact HB.out)⟩
        · replace c9 := Bool.eq_false_iff.mpr c9
          subst c9
          have H1 : (some 1) = some r := by rw [if_neg (show ¬ (false = true) by decide)] at H; exact H
          clear H
          have H := H1
          clear H1
          obtain rfl := Option.some.inj H
          go_enter Tryd.func60, Tryd.ntmps60
          go_wp2_with (first | ((with_reducible refine gate_dst (N := 1) rfl ?_); refine box_event ?hg (N := 1) ?hd (cs := #[.int .i64 a0_0, .int .i64 a0_1, .int .i64 a0_2, .int .i64 a0_3]) (t := 26) ?hr ?_; (case hd => rfl); (case hg => rfl); (case hr => first | (go_simp; done) | (go_simp; rfl)); intro gb116 hg w12 hbox hb; have n0_ := Aside0.mk (below_step (by repeat (first | (with_reducible first | exact HB.out | apply below_alloc | apply pw_below_drewN | apply below_drew1) | exact HB.out)) hb); have n1_ := Aside0.mk (hbox); have n2_ := Aside0.mk ((by rw [hg]; exact (below_size (by repeat (first | (with_reducible first | exact HB.out | apply below_alloc | apply pw_below_drewN | apply below_drew1) | exact HB.out))) : w.heap.size ≤ gb116)); have n3_ := Aside0.mk ((by rw [hg]; exact (below_size (by repeat (first | (with_reducible first | exact HB.out | apply below_alloc | apply pw_below_drewN | apply below_drew1) | exact HB.out))) : w.heap.size ≤ gb116)); clear HB; have HB := n0_; have BK116 := n1_; have GW116 := n2_; have GE116 := n3_; clear n0_ n1_ n2_ n3_; clear hb hbox hg; have hcz13_0 : w12.cell? ⟨gb116, 0, none⟩ = some (.int .i64 a0_0) := (blk_cell BK116.out 0).trans rfl; have hcz13_1 : w12.cell? ⟨gb116, 1, none⟩ = some (.int .i64 a0_1) := (blk_cell BK116.out 1).trans rfl; have hcz13_2 : w12.cell? ⟨gb116, 2, none⟩ = some (.int .i64 a0_2) := (blk_cell BK116.out 2).trans rfl; have hcz13_3 : w12.cell? ⟨gb116, 3, none⟩ = some (.int .i64 a0_3) := (blk_cell BK116.out 3).trans rfl; have hfz13_0 := blk_frozen BK116.out 0; have hfz13_1 := blk_frozen BK116.out 1; have hfz13_2 := blk_frozen BK116.out 2; have hfz13_3 := blk_frozen BK116.out 3) | ((with_reducible refine gate_callee (f := 81) rfl ?_); refine goesL_ (some 5) rfl rfl Tryd.func81 (by kernel_rfl) rfl #[.int .i64 a0_0] rfl (by (try simp only [List.map_toArray, List.map_cons, List.map_nil]); first | done | rfl | (simp only [List.length_drop, List.length_take]; rfl)) ?_; (with_reducible refine (label_level.calls a0_0 true _ A2.out).mono ?_); rintro e w' ⟨rfl, ⟨nd, rfl⟩⟩; refine ⟨_, rfl, ?_⟩) | (go_at_call 81; (with_reducible refine (label_level.calls a0_2 true _ A4.out).mono ?_); rintro e w' ⟨rfl, ⟨nd, rfl⟩⟩) | (go_at_call 82; (with_reducible refine (label_cats.calls a0_1 true _ A6.out).mono ?_); rintro e w' ⟨rfl, ⟨nd, rfl⟩⟩) | (go_at_call 82; (with_reducible refine (label_cats.calls a0_3 false _ A8.out).mono ?_); rintro e w' ⟨rfl, ⟨nd, rfl⟩⟩))
          go_ret
          exact ⟨by first | rfl | (simp [errW_none, errW_some] <;> rfl) | (simp [*, errW_none, errW_some] <;> rfl), by repeat (first | (with_reducible first | exact HB.out | apply below_alloc | apply pw_below_drewN | apply below_drew1 | refine below_set ?_ GE116.out) | exact HB.out)⟩
      · replace c7 := Bool.eq_false_iff.mpr c7
        subst c7
        have H1 : (some 1) = some r := by rw [if_neg (show ¬ (false = true) by decide)] at H; exact H
        clear H
        have H := H1
        clear H1
        obtain rfl := Option.some.inj H
        go_enter Tryd.func60, Tryd.ntmps60
        go_wp2_with (first | ((with_reducible refine gate_dst (N := 1) rfl ?_); refine box_event ?hg (N := 1) ?hd (cs := #[.int .i64 a0_0, .int .i64 a0_1, .int .i64 a0_2, .int .i64 a0_3]) (t := 26) ?hr ?_; (case hd => rfl); (case hg => rfl); (case hr => first | (go_simp; done) | (go_simp; rfl)); intro gb116 hg w14 hbox hb; have n0_ := Aside0.mk (below_step (by repeat (first | (with_reducible first | exact HB.out | apply below_alloc | apply pw_below_drewN | apply below_drew1) | exact HB.out)) hb); have n1_ := Aside0.mk (hbox); have n2_ := Aside0.mk ((by rw [hg]; exact (below_size (by repeat (first | (with_reducible first | exact HB.out | apply below_alloc | apply pw_below_drewN | apply below_drew1) | exact HB.out))) : w.heap.size ≤ gb116)); have n3_ := Aside0.mk ((by rw [hg]; exact (below_size (by repeat (first | (with_reducible first | exact HB.out | apply below_alloc | apply pw_below_drewN | apply below_drew1) | exact HB.out))) : w.heap.size ≤ gb116)); clear HB; have HB := n0_; have BK116 := n1_; have GW116 := n2_; have GE116 := n3_; clear n0_ n1_ n2_ n3_; clear hb hbox hg; have hcz15_0 : w14.cell? ⟨gb116, 0, none⟩ = some (.int .i64 a0_0) := (blk_cell BK116.out 0).trans rfl; have hcz15_1 : w14.cell? ⟨gb116, 1, none⟩ = some (.int .i64 a0_1) := (blk_cell BK116.out 1).trans rfl; have hcz15_2 : w14.cell? ⟨gb116, 2, none⟩ = some (.int .i64 a0_2) := (blk_cell BK116.out 2).trans rfl; have hcz15_3 : w14.cell? ⟨gb116, 3, none⟩ = some (.int .i64 a0_3) := (blk_cell BK116.out 3).trans rfl; have hfz15_0 := blk_frozen BK116.out 0; have hfz15_1 := blk_frozen BK116.out 1; have hfz15_2 := blk_frozen BK116.out 2; have hfz15_3 := blk_frozen BK116.out 3) | ((with_reducible refine gate_callee (f := 81) rfl ?_); refine goesL_ (some 5) rfl rfl Tryd.func81 (by kernel_rfl) rfl #[.int .i64 a0_0] rfl (by (try simp only [List.map_toArray, List.map_cons, List.map_nil]); first | done | rfl | (simp only [List.length_drop, List.length_take]; rfl)) ?_; (with_reducible refine (label_level.calls a0_0 true _ A2.out).mono ?_); rintro e w' ⟨rfl, ⟨nd, rfl⟩⟩; refine ⟨_, rfl, ?_⟩) | (go_at_call 81; (with_reducible refine (label_level.calls a0_2 true _ A4.out).mono ?_); rintro e w' ⟨rfl, ⟨nd, rfl⟩⟩) | (go_at_call 82; (with_reducible refine (label_cats.calls a0_1 false _ A6.out).mono ?_); rintro e w' ⟨rfl, ⟨nd, rfl⟩⟩))
        go_ret
        exact ⟨by first | rfl | (simp [errW_none, errW_some] <;> rfl) | (simp [*, errW_none, errW_some] <;> rfl), by repeat (first | (with_reducible first | exact HB.out | apply below_alloc | apply pw_below_drewN | apply below_drew1 | refine below_set ?_ GE116.out) | exact HB.out)⟩
    · replace c5 := Bool.eq_false_iff.mpr c5
      subst c5
      have H1 : (some 1) = some r := by rw [if_neg (show ¬ (false = true) by decide)] at H; exact H
      clear H
      have H := H1
      clear H1
      obtain rfl := Option.some.inj H
      go_enter Tryd.func60, Tryd.ntmps60
      go_wp2_with (first | ((with_reducible refine gate_dst (N := 1) rfl ?_); refine box_event ?hg (N := 1) ?hd (cs := #[.int .i64 a0_0, .int .i64 a0_1, .int .i64 a0_2, .int .i64 a0_3]) (t := 26) ?hr ?_; (case hd => rfl); (case hg => rfl); (case hr => first | (go_simp; done) | (go_simp; rfl)); intro gb116 hg w16 hbox hb; have n0_ := Aside0.mk (below_step (by repeat (first | (with_reducible first | exact HB.out | apply below_alloc | apply pw_below_drewN | apply below_drew1) | exact HB.out)) hb); have n1_ := Aside0.mk (hbox); have n2_ := Aside0.mk ((by rw [hg]; exact (below_size (by repeat (first | (with_reducible first | exact HB.out | apply below_alloc | apply pw_below_drewN | apply below_drew1) | exact HB.out))) : w.heap.size ≤ gb116)); have n3_ := Aside0.mk ((by rw [hg]; exact (below_size (by repeat (first | (with_reducible first | exact HB.out | apply below_alloc | apply pw_below_drewN | apply below_drew1) | exact HB.out))) : w.heap.size ≤ gb116)); clear HB; have HB := n0_; have BK116 := n1_; have GW116 := n2_; have GE116 := n3_; clear n0_ n1_ n2_ n3_; clear hb hbox hg; have hcz17_0 : w16.cell? ⟨gb116, 0, none⟩ = some (.int .i64 a0_0) := (blk_cell BK116.out 0).trans rfl; have hcz17_1 : w16.cell? ⟨gb116, 1, none⟩ = some (.int .i64 a0_1) := (blk_cell BK116.out 1).trans rfl; have hcz17_2 : w16.cell? ⟨gb116, 2, none⟩ = some (.int .i64 a0_2) := (blk_cell BK116.out 2).trans rfl; have hcz17_3 : w16.cell? ⟨gb116, 3, none⟩ = some (.int .i64 a0_3) := (blk_cell BK116.out 3).trans rfl; have hfz17_0 := blk_frozen BK116.out 0; have hfz17_1 := blk_frozen BK116.out 1; have hfz17_2 := blk_frozen BK116.out 2; have hfz17_3 := blk_frozen BK116.out 3) | ((with_reducible refine gate_callee (f := 81) rfl ?_); refine goesL_ (some 5) rfl rfl Tryd.func81 (by kernel_rfl) rfl #[.int .i64 a0_0] rfl (by (try simp only [List.map_toArray, List.map_cons, List.map_nil]); first | done | rfl | (simp only [List.length_drop, List.length_take]; rfl)) ?_; (with_reducible refine (label_level.calls a0_0 true _ A2.out).mono ?_); rintro e w' ⟨rfl, ⟨nd, rfl⟩⟩; refine ⟨_, rfl, ?_⟩) | (go_at_call 81; (with_reducible refine (label_level.calls a0_2 false _ A4.out).mono ?_); rintro e w' ⟨rfl, ⟨nd, rfl⟩⟩))
      go_ret
      exact ⟨by first | rfl | (simp [errW_none, errW_some] <;> rfl) | (simp [*, errW_none, errW_some] <;> rfl), by repeat (first | (with_reducible first | exact HB.out | apply below_alloc | apply pw_below_drewN | apply below_drew1 | refine below_set ?_ GE116.out) | exact HB.out)⟩
  · replace c3 := Bool.eq_false_iff.mpr c3
    subst c3
    have H1 : (some 1) = some r := by rw [if_neg (show ¬ (false = true) by decide)] at H; exact H
    clear H
    have H := H1
    clear H1
    obtain rfl := Option.some.inj H
    go_enter Tryd.func60, Tryd.ntmps60
    go_wp2_with (first | ((with_reducible refine gate_dst (N := 1) rfl ?_); refine box_event ?hg (N := 1) ?hd (cs := #[.int .i64 a0_0, .int .i64 a0_1, .int .i64 a0_2, .int .i64 a0_3]) (t := 26) ?hr ?_; (case hd => rfl); (case hg => rfl); (case hr => first | (go_simp; done) | (go_simp; rfl)); intro gb116 hg w18 hbox hb; have n0_ := Aside0.mk (below_step (by repeat (first | (with_reducible first | exact HB.out | apply below_alloc | apply pw_below_drewN | apply below_drew1) | exact HB.out)) hb); have n1_ := Aside0.mk (hbox); have n2_ := Aside0.mk ((by rw [hg]; exact (below_size (by repeat (first | (with_reducible first | exact HB.out | apply below_alloc | apply pw_below_drewN | apply below_drew1) | exact HB.out))) : w.heap.size ≤ gb116)); have n3_ := Aside0.mk ((by rw [hg]; exact (below_size (by repeat (first | (with_reducible first | exact HB.out | apply below_alloc | apply pw_below_drewN | apply below_drew1) | exact HB.out))) : w.heap.size ≤ gb116)); clear HB; have HB := n0_; have BK116 := n1_; have GW116 := n2_; have GE116 := n3_; clear n0_ n1_ n2_ n3_; clear hb hbox hg; have hcz19_0 : w18.cell? ⟨gb116, 0, none⟩ = some (.int .i64 a0_0) := (blk_cell BK116.out 0).trans rfl; have hcz19_1 : w18.cell? ⟨gb116, 1, none⟩ = some (.int .i64 a0_1) := (blk_cell BK116.out 1).trans rfl; have hcz19_2 : w18.cell? ⟨gb116, 2, none⟩ = some (.int .i64 a0_2) := (blk_cell BK116.out 2).trans rfl; have hcz19_3 : w18.cell? ⟨gb116, 3, none⟩ = some (.int .i64 a0_3) := (blk_cell BK116.out 3).trans rfl; have hfz19_0 := blk_frozen BK116.out 0; have hfz19_1 := blk_frozen BK116.out 1; have hfz19_2 := blk_frozen BK116.out 2; have hfz19_3 := blk_frozen BK116.out 3) | ((with_reducible refine gate_callee (f := 81) rfl ?_); refine goesL_ (some 5) rfl rfl Tryd.func81 (by kernel_rfl) rfl #[.int .i64 a0_0] rfl (by (try simp only [List.map_toArray, List.map_cons, List.map_nil]); first | done | rfl | (simp only [List.length_drop, List.length_take]; rfl)) ?_; (with_reducible refine (label_level.calls a0_0 false _ A2.out).mono ?_); rintro e w' ⟨rfl, ⟨nd, rfl⟩⟩; refine ⟨_, rfl, ?_⟩))
    go_ret
    exact ⟨by first | rfl | (simp [errW_none, errW_some] <;> rfl) | (simp [*, errW_none, errW_some] <;> rfl), by repeat (first | (with_reducible first | exact HB.out | apply below_alloc | apply pw_below_drewN | apply below_drew1 | refine below_set ?_ GE116.out) | exact HB.out)⟩
end Go.Proofs.YtpdflhgcdehmoaaDoor.T
namespace Go.Proofs.YtpdflhgcdehmoaaDoor.T
open Go.RowKit Go.Proofs.YtpdflhgcdehmoaaDoorW.PrintWords Go.Proofs.YtpdflhgcdehmoaaDoorW.PrintLast Go.Proofs.YtpdflhgcdehmoaaDoorW.PrintMore
attribute [local go_sem] max2_int min2_int max_two min_two max_three min_three max_four min_four
set_option linter.unusedVariables false
set_option linter.unusedSimpArgs false
def acl_who.f (a0 : ByteArray) : Option (Bool) := if a0.toList = ([42] : List UInt8) then (some true) else ((path_Name.f a0).bind fun t121 => (some t121))
set_option maxHeartbeats 8000000 in
set_option maxRecDepth 100000 in
theorem acl_who.calls (a0 : ByteArray) (r : Bool) (w : World) (h : acl_who.f a0 = some r) :
    Calls Tryd.prog 83 #[.string a0] w fun e w' => e = .returned (.bool r) ∧ Below w.heap.size w w' := by
  have HB := Aside0.mk (Below.refl w.heap.size w)
  have H : (if a0.toList = ([42] : List UInt8) then (some true) else ((path_Name.f a0).bind fun t121 => (some t121))) = some r := h
  clear h
  by_cases c2 : a0.toList = ([42] : List UInt8)
  · rw [if_pos c2] at H
    have c2b0 : (a0.toList == ([42] : List UInt8)) = true := beq_iff_eq.mpr c2
    have c2b1 : (a0.toList != ([42] : List UInt8)) = false := bne_eq_false_iff_eq.mpr c2
    clear c2
    obtain rfl := Option.some.inj H
    go_enter Tryd.func83, Tryd.ntmps83
    go_wp2
    go_ret
    exact ⟨by first | rfl | (simp [errW_none, errW_some] <;> rfl) | (simp [*, errW_none, errW_some] <;> rfl), by repeat (first | (with_reducible first | exact HB.out | apply below_alloc | apply pw_below_drewN | apply below_drew1) | exact HB.out)⟩
  · rw [if_neg c2] at H
    have c2b0 : (a0.toList == ([42] : List UInt8)) = false := beq_eq_false_iff_ne.mpr c2
    have c2b1 : (a0.toList != ([42] : List UInt8)) = true := bne_iff_ne.mpr c2
    replace H := Option.bind_eq_some_iff.mp H
    obtain ⟨t121, A30, H⟩ := H
    replace H : (some t121) = some r := H
    have A3 := Aside0.mk A30
    clear A30
    obtain rfl := Option.some.inj H
    go_enter Tryd.func83, Tryd.ntmps83
    go_wp2_with (first | (go_at_call 80; (with_reducible refine (path_Name.calls a0 t121 _ A3.out).mono ?_); rintro e w4 ⟨rfl, hb⟩; have n0_ := Aside0.mk (below_step (by repeat (first | (with_reducible first | exact HB.out | apply below_alloc | apply pw_below_drewN | apply below_drew1) | exact HB.out)) hb); clear HB; have HB := n0_; clear n0_; (try clear hb); (try clear hb2); (try clear hk); (try clear hi)))
    go_ret
    exact ⟨by first | rfl | (simp [errW_none, errW_some] <;> rfl) | (simp [*, errW_none, errW_some] <;> rfl), by repeat (first | (with_reducible first | exact HB.out | apply below_alloc | apply pw_below_drewN | apply below_drew1) | exact HB.out)⟩
end Go.Proofs.YtpdflhgcdehmoaaDoor.T
