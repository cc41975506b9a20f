/- The engine and the contracts of the functions that the statement reaches, part 4. -/
import Derived.Test.YtilhkmlghhdpaaaDoorMc
import Derived.Shelf.Strings.Builder1
import Derived.Shelf.Strconv.Itoa0
import Derived.Shelf.Strconv.Itoa1
import Derived.Shelf.LaysM
import Derived.Shelf.Strconv.Itoa2
import Derived.Shelf.Strconv.Itoa3
import Derived.Shelf.Strings.Fields
import Derived.Shelf.Unicode.Latin
import Derived.Shelf.Unicode.Is16White
import Derived.Shelf.Unicode.IsSpaceAny
import Derived.Shelf.Unicode.Is16Any
import Derived.Shelf.Unicode.Is32Any
import Derived.Shelf.Unicode.ExclAny
import Derived.Ground.Names2Prog
import Derived.Shelf.Slices.Clone
import Derived.Test.YtilhkmlghhdpaaaDoorProg
/-
  DERIVED: THE SHELF's CONTRACTS AT THIS DUMP, IN PLAIN WORDS (tools/lay-plain.mjs out of 'TrydShelf.lean', which tools/lay-shelf.mjs wrote): THE SAME DECLARATIONS UNDER THE SAME NAMES: 'import', 'namespace', 'open', 'def', 'theorem' AND NOTHING ELSE: no command of the shelf's: FOR A HAND-IN. Each laying: the table of numbers ('.._ren') and one theorem, a field a fact of the dump's own or the kernel's comparison; each contract: ONE APPLICATION.
-/
namespace Go.Proofs
open Go.Shelf
def Tryd.lays169_ren : Go.Shelf.Ren := ⟨fun | 169 => 29 | n => n, fun | 70 => 58 | 9 => 9 | 0 => 0 | 72 => 61 | 37 => 59 | 127 => 95 | 3 => 3 | 5 => 5 | n => n, fun | n => n⟩
theorem Tryd.lays169 : Go.Proofs.Lays.n169 Tryd.prog Tryd.lays169_ren := {
  mixed := by kernel_rfl
  f169 := Tryd.func29.trans (congrArg some (by kernel_rfl))
  t0 := Tryd.underlying0
  a0 := Tryd.isAgg0
  z0 := Tryd.sizeOf0
  v0 := Tryd.zeroValue0
  t3 := Tryd.underlying3
  a3 := Tryd.isAgg3
  z3 := Tryd.sizeOf3
  v3 := Tryd.zeroValue3
  t9 := Tryd.underlying9
  a9 := Tryd.isAgg9
  z9 := Tryd.sizeOf9
  v9 := Tryd.zeroValue9
  t37 := Tryd.underlying59
  a37 := Tryd.isAgg59
  z37 := Tryd.sizeOf59
  v37 := Tryd.zeroValue59
  t70 := Tryd.underlying58
  a70 := Tryd.isAgg58
  z70 := Tryd.sizeOf58
  v70 := Tryd.zeroValue58
  t72 := Tryd.underlying61
  a72 := Tryd.isAgg61
  z72 := Tryd.sizeOf61
  v72 := Tryd.zeroValue61
  t127 := Tryd.underlying95
  a127 := Tryd.isAgg95
  z127 := Tryd.sizeOf95
  v127 := Tryd.zeroValue95 }
theorem Tryd.Builder_Extra_169 : Builder.Extra Tryd.prog Tryd.lays169_ren := {
  sizeBuilder := by kernel_rfl
  liesBuilder := by kernel_rfl
  t5 := Tryd.underlying5
  a5 := Tryd.isAgg5
  z5 := Tryd.sizeOf5
  v5 := Tryd.zeroValue5
  infoByte := by kernel_rfl
  cellsByte := by kernel_rfl
  sizeByte := by kernel_rfl
  neB5 := by decide }
open Go.RowKit in
/-- (*strings.Builder).String: "String returns the accumulated string.": OF A BUILDER THAT HOLDS AT LEAST ONE BYTE. ✋ THE MODEL FREEZES THOSE BYTES IN THE BUFFER (unsafe.String): a later write INTO them ends the model's run without an answer; a later append BEHIND them goes on. The statement's order of evaluation is drawn: one draw. (LAID: no walk: one application.) -/
theorem Tryd.Builder_String (B b : Nat) (l : List UInt8) (w : World) (h : Lib.IsBuilder 61 5 B b (Lib.byteCells l) w) (h0 : l ≠ []) :
    Calls Tryd.prog 29 #[.pointer (some ⟨b, 0, none⟩)] w fun e w' => e = .returned (.string ⟨l.toArray⟩) ∧ Below B w w' := Any.Builder_String Tryd.lays169 Tryd.Builder_Extra_169 B b l w h h0
open Go.RowKit in
/-- (*strings.Builder).String OF A BUILDER THAT HOLDS NO BYTE: the empty string. (Its buffer is nil, or a row of which it has taken nothing yet; where that row has NO capacity the model lays one new block for unsafe.SliceData's 'some address'.) One draw. (LAID: no walk: one application.) -/
theorem Tryd.Builder_String_empty (B b : Nat) (w : World) (h : Lib.IsBuilder 61 5 B b [] w) (hBw : B ≤ w.heap.size) :
    Calls Tryd.prog 29 #[.pointer (some ⟨b, 0, none⟩)] w fun e w' => e = .returned (.string ⟨#[]⟩) ∧ Below B w w' := Any.Builder_String_empty Tryd.lays169 Tryd.Builder_Extra_169 B b w h hBw
open Go.RowKit in
/-- (*strings.Builder).String: "String returns the accumulated string.": WHATEVER THE BUILDER HOLDS. (LAID: no walk: one application.) -/
theorem Tryd.Builder_String_any (B b : Nat) (l : List UInt8) (w : World) (h : Lib.IsBuilder 61 5 B b (Lib.byteCells l) w) (hBw : B ≤ w.heap.size) :
    Calls Tryd.prog 29 #[.pointer (some ⟨b, 0, none⟩)] w fun e w' => e = .returned (.string ⟨l.toArray⟩) ∧ Below B w w' := Any.Builder_String_any Tryd.lays169 Tryd.Builder_Extra_169 B b l w h hBw
def Tryd.lays129_ren : Go.Shelf.Ren := ⟨fun | 129 => 81 | n => n, fun | 53 => 69 | 3 => 3 | 4 => 4 | 46 => 125 | 5 => 5 | 9 => 9 | n => n, fun | n => n⟩
theorem Tryd.lays129 : Go.Proofs.Lays.n129 Tryd.prog Tryd.lays129_ren := {
  mixed := by kernel_rfl
  f129 := Tryd.func81.trans (congrArg some (by kernel_rfl))
  t3 := Tryd.underlying3
  a3 := Tryd.isAgg3
  z3 := Tryd.sizeOf3
  v3 := Tryd.zeroValue3
  t4 := Tryd.underlying4
  a4 := Tryd.isAgg4
  z4 := Tryd.sizeOf4
  v4 := Tryd.zeroValue4
  t5 := Tryd.underlying5
  a5 := Tryd.isAgg5
  z5 := Tryd.sizeOf5
  v5 := Tryd.zeroValue5
  t9 := Tryd.underlying9
  a9 := Tryd.isAgg9
  z9 := Tryd.sizeOf9
  v9 := Tryd.zeroValue9
  t46 := Tryd.underlying125
  a46 := Tryd.isAgg125
  z46 := Tryd.sizeOf125
  v46 := Tryd.zeroValue125
  t53 := Tryd.underlying69
  a53 := Tryd.isAgg69
  z53 := Tryd.sizeOf69
  v53 := Tryd.zeroValue69 }
/-- bits.Len64: "Len64 returns the minimum number of bits required to represent x; the result is 0 for x == 0.": IT RETURNS 'Lib.bitLen x'; the world is as it was. ('h0', 'h1': x is a uint64.) (LAID: no walk: one application.) -/
theorem Tryd.bits_Len64 (x : Int) (w : World) (h0 : 0 ≤ x) (h1 : x ≤ 18446744073709551615) :
    Calls Tryd.prog 81 #[.int .u64 x] w fun e w' => e = .returned (.int .i64 (Lib.bitLen x.toNat)) ∧ w' = w := Any.bits_Len64 Tryd.lays129 x w h0 h1
def Tryd.lays317_ren : Go.Shelf.Ren := ⟨fun | 317 => 80 | n => n, fun | 3 => 3 | 46 => 125 | n => n, fun | n => n⟩
theorem Tryd.lays317 : Go.Proofs.Lays.n317 Tryd.prog Tryd.lays317_ren := {
  mixed := by kernel_rfl
  f317 := Tryd.func80.trans (congrArg some (by kernel_rfl))
  t3 := Tryd.underlying3
  a3 := Tryd.isAgg3
  z3 := Tryd.sizeOf3
  v3 := Tryd.zeroValue3
  t46 := Tryd.underlying125
  a46 := Tryd.isAgg125
  z46 := Tryd.sizeOf125
  v46 := Tryd.zeroValue125 }
open Go.Lib in
/-- internal/strconv.log10Pow2: "log10Pow2(x) returns ⌊log₁₀ 2**x⌋ = ⌊x * log₁₀ 2⌋.": '(x * 78913) >> 18', at an x up to 64 (a length in bits). The world is as it was. (LAID: no walk: one application.) -/
theorem Tryd.internal_strconv_log10Pow2 (x : Nat) (h : x ≤ 64) (w : World) :
    Calls Tryd.prog 80 #[.int .i64 x] w fun e w' => e = .returned (.int .i64 (Lib.l10 x)) ∧ w' = w := Any.internal_strconv_log10Pow2 Tryd.lays317 x h w
def Tryd.lays318_ren : Go.Shelf.Ren := ⟨fun | 318 => 82 | n => n, fun | 3 => 3 | 4 => 4 | n => n, fun | n => n⟩
theorem Tryd.lays318 : Go.Proofs.Lays.n318 Tryd.prog Tryd.lays318_ren := {
  mixed := by kernel_rfl
  f318 := Tryd.func82.trans (congrArg some (by kernel_rfl))
  t3 := Tryd.underlying3
  a3 := Tryd.isAgg3
  z3 := Tryd.sizeOf3
  v3 := Tryd.zeroValue3
  t4 := Tryd.underlying4
  a4 := Tryd.isAgg4
  z4 := Tryd.sizeOf4
  v4 := Tryd.zeroValue4 }
open Go.Lib in
/-- internal/strconv.bool2: "bool2 converts b to an integer: 1 for true, 0 for false." The world is as it was. (LAID: no walk: one application.) -/
theorem Tryd.internal_strconv_bool2_int (b : Bool) (w : World) :
    Calls Tryd.prog 82 #[.bool b] w fun e w' => e = .returned (.int .i64 (if b then 1 else 0)) ∧ w' = w := Any.internal_strconv_bool2_int Tryd.lays318 b w
def Tryd.lays283_ren : Go.Shelf.Ren := ⟨fun | 283 => 74 | n => n, fun | 3 => 3 | 9 => 9 | 4 => 4 | n => n, fun | n => n⟩
theorem Tryd.lays283 : Go.Proofs.Lays.n283 Tryd.prog Tryd.lays283_ren := {
  mixed := by kernel_rfl
  f283 := Tryd.func74.trans (congrArg some (by kernel_rfl))
  t3 := Tryd.underlying3
  a3 := Tryd.isAgg3
  z3 := Tryd.sizeOf3
  v3 := Tryd.zeroValue3
  t4 := Tryd.underlying4
  a4 := Tryd.isAgg4
  z4 := Tryd.sizeOf4
  v4 := Tryd.zeroValue4
  t9 := Tryd.underlying9
  a9 := Tryd.isAgg9
  z9 := Tryd.sizeOf9
  v9 := Tryd.zeroValue9 }
open Go.Lib in
/-- internal/strconv.small: "small returns the string for an i with 0 <= i < nSmalls.": i's decimal numeral. The world is as it was. (LAID: no walk: one application.) -/
theorem Tryd.internal_strconv_small (i : Nat) (h : i < 100) (w : World) :
    Calls Tryd.prog 74 #[.int .i64 i] w fun e w' => e = .returned (.string ⟨(Lib.decDigits i).toArray⟩) ∧ w' = w := Any.internal_strconv_small Tryd.lays283 i h w
def Tryd.laysM284_ren : Go.Shelf.Ren := ⟨fun | 284 => 75 | 129 => 81 | 317 => 80 | 318 => 82 | n => n, fun | 53 => 69 | 3 => 3 | 212 => 123 | 0 => 0 | 4 => 4 | 46 => 125 | 5 => 5 | 9 => 9 | n => n, fun | 17 => 2 | n => n⟩
theorem Tryd.laysM284 : Go.Proofs.LaysM.n284 Tryd.prog Tryd.laysM284_ren := {
  mixed := by kernel_rfl
  f129 := Tryd.func81.trans (congrArg some (by kernel_rfl))
  f284 := Tryd.func75.trans (congrArg some (by kernel_rfl))
  f317 := Tryd.func80.trans (congrArg some (by kernel_rfl))
  f318 := Tryd.func82.trans (congrArg some (by kernel_rfl))
  t0 := Tryd.underlying0
  a0 := Tryd.isAgg0
  z0 := Tryd.sizeOf0
  v0 := Tryd.zeroValue0
  t3 := Tryd.underlying3
  a3 := Tryd.isAgg3
  z3 := Tryd.sizeOf3
  v3 := Tryd.zeroValue3
  t4 := Tryd.underlying4
  a4 := Tryd.isAgg4
  z4 := Tryd.sizeOf4
  v4 := Tryd.zeroValue4
  t5 := Tryd.underlying5
  a5 := Tryd.isAgg5
  z5 := Tryd.sizeOf5
  v5 := Tryd.zeroValue5
  t9 := Tryd.underlying9
  a9 := Tryd.isAgg9
  z9 := Tryd.sizeOf9
  v9 := Tryd.zeroValue9
  t46 := Tryd.underlying125
  a46 := Tryd.isAgg125
  z46 := Tryd.sizeOf125
  v46 := Tryd.zeroValue125
  t53 := Tryd.underlying69
  a53 := Tryd.isAgg69
  z53 := Tryd.sizeOf69
  v53 := Tryd.zeroValue69
  t212 := Tryd.underlying123
  a212 := Tryd.isAgg123
  z212 := Tryd.sizeOf123
  v212 := Tryd.zeroValue123
  g17 := by kernel_rfl
  i0 := by kernel_rfl
  i3 := by kernel_rfl
  i4 := by kernel_rfl
  i5 := by kernel_rfl
  i9 := by kernel_rfl
  i46 := by kernel_rfl
  i53 := by kernel_rfl
  i212 := by kernel_rfl
  m17 := by kernel_rfl }
open Go.Lib in
/-- internal/strconv.numDigits, at a d that is not 0: THE NUMBER OF d's DECIMAL DIGITS. The world is as it was. (LAID: no walk: one application.) -/
theorem Tryd.internal_strconv_numDigits (u : Nat) (h1 : 1 ≤ u) (h2 : u < 18446744073709551616) (w : World) (htab : Lib.TabIs Tryd.prog w "internal/strconv.uint64pow10" .u64 Lib.pow10Tab) :
    Calls Tryd.prog 75 #[.int .u64 u] w fun e w' => e = .returned (.int .i64 (Lib.nDigits u)) ∧ w' = w := Any.internal_strconv_numDigits Tryd.laysM284 u h1 h2 w htab
def Tryd.lays285_ren : Go.Shelf.Ren := ⟨fun | 285 => 76 | n => n, fun | 37 => 59 | 53 => 69 | 3 => 3 | 4 => 4 | 51 => 118 | 9 => 9 | 5 => 5 | 0 => 0 | n => n, fun | n => n⟩
theorem Tryd.lays285 : Go.Proofs.Lays.n285 Tryd.prog Tryd.lays285_ren := {
  mixed := by kernel_rfl
  f285 := Tryd.func76.trans (congrArg some (by kernel_rfl))
  t0 := Tryd.underlying0
  a0 := Tryd.isAgg0
  z0 := Tryd.sizeOf0
  v0 := Tryd.zeroValue0
  t3 := Tryd.underlying3
  a3 := Tryd.isAgg3
  z3 := Tryd.sizeOf3
  v3 := Tryd.zeroValue3
  t4 := Tryd.underlying4
  a4 := Tryd.isAgg4
  z4 := Tryd.sizeOf4
  v4 := Tryd.zeroValue4
  t5 := Tryd.underlying5
  a5 := Tryd.isAgg5
  z5 := Tryd.sizeOf5
  v5 := Tryd.zeroValue5
  t9 := Tryd.underlying9
  a9 := Tryd.isAgg9
  z9 := Tryd.sizeOf9
  v9 := Tryd.zeroValue9
  t37 := Tryd.underlying59
  a37 := Tryd.isAgg59
  z37 := Tryd.sizeOf59
  v37 := Tryd.zeroValue59
  t51 := Tryd.underlying118
  a51 := Tryd.isAgg118
  z51 := Tryd.sizeOf118
  v51 := Tryd.zeroValue118
  t53 := Tryd.underlying69
  a53 := Tryd.isAgg69
  z53 := Tryd.sizeOf69
  v53 := Tryd.zeroValue69 }
open Go.RowKit Go.Sort Go.Lib in
/-- internal/strconv.formatBase10: "formatBase10 formats the decimal representation of u into a. The caller is responsible for ensuring that a is big enough to hold u. If a is too big, leading zeros will be filled in as needed.": THE ROW HOLDS u's DIGITS ('FmtInv .. 0 ..': every place t holds 'dg u (len - 1 - t)'); all else is as it was but for the count of draws. (LAID: no walk: one application.) -/
theorem Tryd.internal_strconv_formatBase10 (blk off cap : Nat) (u : Nat) (d : Array UInt8) (w : World) (hH : Holds (fun (b : UInt8) => Value.int .u8 (b.toNat : Int)) w blk off d) (hu : u < 10 ^ d.size) (hu64 : u < 18446744073709551616) (hsz : d.size < 4611686018427387904) :
    Calls Tryd.prog 76 #[.slice (some ⟨blk, off, none⟩) d.size cap, .int .u64 u] w fun e w' =>
      e = .returned (.tuple #[]) ∧ ∃ (n v' : Nat) (dk : Array UInt8), w' = (putRow (fun (b : UInt8) => Value.int .u8 (b.toNat : Int)) w blk off dk).drewN n ∧ FmtInv d.size u 0 v' dk := Any.internal_strconv_formatBase10 Tryd.lays285 blk off cap u d w hH hu hu64 hsz
def Tryd.laysM246_ren : Go.Shelf.Ren := ⟨fun | 246 => 65 | 283 => 74 | 284 => 75 | 285 => 76 | 286 => 77 | 129 => 81 | 317 => 80 | 318 => 82 | 319 => 83 | 320 => 84 | 337 => 87 | 338 => 88 | n => n, fun | 2 => 2 | 3 => 3 | 9 => 9 | 4 => 4 | 171 => 110 | 0 => 0 | 53 => 69 | 37 => 59 | 5 => 5 | 173 => 113 | 212 => 123 | 51 => 118 | 20 => 20 | 213 => 124 | 46 => 125 | 232 => 141 | 233 => 142 | n => n, fun | 17 => 2 | 18 => 3 | 19 => 4 | n => n⟩
theorem Tryd.laysM246 : Go.Proofs.LaysM.n246 Tryd.prog Tryd.laysM246_ren := {
  mixed := by kernel_rfl
  f129 := Tryd.func81.trans (congrArg some (by kernel_rfl))
  f246 := Tryd.func65.trans (congrArg some (by kernel_rfl))
  f283 := Tryd.func74.trans (congrArg some (by kernel_rfl))
  f284 := Tryd.func75.trans (congrArg some (by kernel_rfl))
  f285 := Tryd.func76.trans (congrArg some (by kernel_rfl))
  f286 := Tryd.func77.trans (congrArg some (by kernel_rfl))
  f317 := Tryd.func80.trans (congrArg some (by kernel_rfl))
  f318 := Tryd.func82.trans (congrArg some (by kernel_rfl))
  f319 := Tryd.func83.trans (congrArg some (by kernel_rfl))
  f320 := Tryd.func84.trans (congrArg some (by kernel_rfl))
  f337 := Tryd.func87.trans (congrArg some (by kernel_rfl))
  f338 := Tryd.func88.trans (congrArg some (by kernel_rfl))
  t0 := Tryd.underlying0
  a0 := Tryd.isAgg0
  z0 := Tryd.sizeOf0
  v0 := Tryd.zeroValue0
  t2 := Tryd.underlying2
  a2 := Tryd.isAgg2
  z2 := Tryd.sizeOf2
  v2 := Tryd.zeroValue2
  t3 := Tryd.underlying3
  a3 := Tryd.isAgg3
  z3 := Tryd.sizeOf3
  v3 := Tryd.zeroValue3
  t4 := Tryd.underlying4
  a4 := Tryd.isAgg4
  z4 := Tryd.sizeOf4
  v4 := Tryd.zeroValue4
  t5 := Tryd.underlying5
  a5 := Tryd.isAgg5
  z5 := Tryd.sizeOf5
  v5 := Tryd.zeroValue5
  t9 := Tryd.underlying9
  a9 := Tryd.isAgg9
  z9 := Tryd.sizeOf9
  v9 := Tryd.zeroValue9
  t20 := Tryd.underlying20
  a20 := Tryd.isAgg20
  z20 := Tryd.sizeOf20
  v20 := Tryd.zeroValue20
  t37 := Tryd.underlying59
  a37 := Tryd.isAgg59
  z37 := Tryd.sizeOf59
  v37 := Tryd.zeroValue59
  t46 := Tryd.underlying125
  a46 := Tryd.isAgg125
  z46 := Tryd.sizeOf125
  v46 := Tryd.zeroValue125
  t51 := Tryd.underlying118
  a51 := Tryd.isAgg118
  z51 := Tryd.sizeOf118
  v51 := Tryd.zeroValue118
  t53 := Tryd.underlying69
  a53 := Tryd.isAgg69
  z53 := Tryd.sizeOf69
  v53 := Tryd.zeroValue69
  t171 := Tryd.underlying110
  a171 := Tryd.isAgg110
  z171 := Tryd.sizeOf110
  v171 := Tryd.zeroValue110
  t173 := Tryd.underlying113
  a173 := Tryd.isAgg113
  z173 := Tryd.sizeOf113
  v173 := Tryd.zeroValue113
  t212 := Tryd.underlying123
  a212 := Tryd.isAgg123
  z212 := Tryd.sizeOf123
  v212 := Tryd.zeroValue123
  t213 := Tryd.underlying124
  a213 := Tryd.isAgg124
  z213 := Tryd.sizeOf124
  t232 := Tryd.underlying141
  a232 := Tryd.isAgg141
  z232 := Tryd.sizeOf141
  v232 := Tryd.zeroValue141
  t233 := Tryd.underlying142
  a233 := Tryd.isAgg142
  z233 := Tryd.sizeOf142
  v233 := Tryd.zeroValue142
  g17 := by kernel_rfl
  g18 := by kernel_rfl
  g19 := by kernel_rfl
  i0 := by kernel_rfl
  i2 := by kernel_rfl
  i3 := by kernel_rfl
  i4 := by kernel_rfl
  i5 := by kernel_rfl
  i9 := by kernel_rfl
  i20 := by kernel_rfl
  i37 := by kernel_rfl
  i46 := by kernel_rfl
  i51 := by kernel_rfl
  i53 := by kernel_rfl
  i171 := by kernel_rfl
  i173 := by kernel_rfl
  i212 := by kernel_rfl
  i232 := by kernel_rfl
  i233 := by kernel_rfl
  m17 := by kernel_rfl
  m18 := by kernel_rfl
  m19 := by kernel_rfl }
open Go.RowKit Go.Sort Go.Lib in
/-- internal/strconv.FormatInt: "FormatInt returns the string representation of i in the given base": AT BASE 10: i's decimal numeral, for every int64. The world behind the call: the world before it, new blocks behind the heap, draws. (LAID: no walk: one application.) -/
theorem Tryd.internal_strconv_FormatInt_10 (n : Int) (h0 : -9223372036854775808 ≤ n) (h1 : n ≤ 9223372036854775807) (w : World) (htab : Lib.TabIs Tryd.prog w "internal/strconv.uint64pow10" .u64 Lib.pow10Tab) :
    Calls Tryd.prog 65 #[.int .i64 n, .int .i64 10] w fun e w' => e = .returned (.string ⟨(Lib.itoa n).toArray⟩) ∧ ∃ k os, w' = grow (w.drewN k) os := Any.internal_strconv_FormatInt_10 Tryd.laysM246 n h0 h1 w htab
def Tryd.lays246_ren : Go.Shelf.Ren := ⟨fun | 246 => 65 | 283 => 74 | 284 => 75 | 285 => 76 | 286 => 77 | 129 => 81 | 317 => 80 | 318 => 82 | 319 => 83 | 320 => 84 | 337 => 87 | 338 => 88 | n => n, fun | 2 => 2 | 3 => 3 | 9 => 9 | 4 => 4 | 171 => 110 | 0 => 0 | 53 => 69 | 37 => 59 | 5 => 5 | 173 => 113 | 212 => 123 | 51 => 118 | 20 => 20 | 213 => 124 | 46 => 125 | 232 => 141 | 233 => 142 | n => n, fun | 17 => 2 | 18 => 3 | 19 => 4 | n => n⟩
theorem Tryd.lays246 : Go.Proofs.Lays.n246 Tryd.prog Tryd.lays246_ren := {
  mixed := by kernel_rfl
  f129 := Tryd.func81.trans (congrArg some (by kernel_rfl))
  f246 := Tryd.func65.trans (congrArg some (by kernel_rfl))
  f283 := Tryd.func74.trans (congrArg some (by kernel_rfl))
  f284 := Tryd.func75.trans (congrArg some (by kernel_rfl))
  f285 := Tryd.func76.trans (congrArg some (by kernel_rfl))
  f286 := Tryd.func77.trans (congrArg some (by kernel_rfl))
  f317 := Tryd.func80.trans (congrArg some (by kernel_rfl))
  f318 := Tryd.func82.trans (congrArg some (by kernel_rfl))
  f319 := Tryd.func83.trans (congrArg some (by kernel_rfl))
  f320 := Tryd.func84.trans (congrArg some (by kernel_rfl))
  f337 := Tryd.func87.trans (congrArg some (by kernel_rfl))
  f338 := Tryd.func88.trans (congrArg some (by kernel_rfl))
  t0 := Tryd.underlying0
  a0 := Tryd.isAgg0
  z0 := Tryd.sizeOf0
  v0 := Tryd.zeroValue0
  t2 := Tryd.underlying2
  a2 := Tryd.isAgg2
  z2 := Tryd.sizeOf2
  v2 := Tryd.zeroValue2
  t3 := Tryd.underlying3
  a3 := Tryd.isAgg3
  z3 := Tryd.sizeOf3
  v3 := Tryd.zeroValue3
  t4 := Tryd.underlying4
  a4 := Tryd.isAgg4
  z4 := Tryd.sizeOf4
  v4 := Tryd.zeroValue4
  t5 := Tryd.underlying5
  a5 := Tryd.isAgg5
  z5 := Tryd.sizeOf5
  v5 := Tryd.zeroValue5
  t9 := Tryd.underlying9
  a9 := Tryd.isAgg9
  z9 := Tryd.sizeOf9
  v9 := Tryd.zeroValue9
  t20 := Tryd.underlying20
  a20 := Tryd.isAgg20
  z20 := Tryd.sizeOf20
  v20 := Tryd.zeroValue20
  t37 := Tryd.underlying59
  a37 := Tryd.isAgg59
  z37 := Tryd.sizeOf59
  v37 := Tryd.zeroValue59
  t46 := Tryd.underlying125
  a46 := Tryd.isAgg125
  z46 := Tryd.sizeOf125
  v46 := Tryd.zeroValue125
  t51 := Tryd.underlying118
  a51 := Tryd.isAgg118
  z51 := Tryd.sizeOf118
  v51 := Tryd.zeroValue118
  t53 := Tryd.underlying69
  a53 := Tryd.isAgg69
  z53 := Tryd.sizeOf69
  v53 := Tryd.zeroValue69
  t171 := Tryd.underlying110
  a171 := Tryd.isAgg110
  z171 := Tryd.sizeOf110
  v171 := Tryd.zeroValue110
  t173 := Tryd.underlying113
  a173 := Tryd.isAgg113
  z173 := Tryd.sizeOf113
  v173 := Tryd.zeroValue113
  t212 := Tryd.underlying123
  a212 := Tryd.isAgg123
  z212 := Tryd.sizeOf123
  v212 := Tryd.zeroValue123
  t213 := Tryd.underlying124
  a213 := Tryd.isAgg124
  z213 := Tryd.sizeOf124
  t232 := Tryd.underlying141
  a232 := Tryd.isAgg141
  z232 := Tryd.sizeOf141
  v232 := Tryd.zeroValue141
  t233 := Tryd.underlying142
  a233 := Tryd.isAgg142
  z233 := Tryd.sizeOf142
  v233 := Tryd.zeroValue142
  g17 := by kernel_rfl
  g18 := by kernel_rfl
  g19 := by kernel_rfl }
open Go.RowKit Go.Sort Go.Lib in
/-- THE ROAD WITHOUT THE TABLE: 0 <= i < 100: two constants are read, nothing is laid: no premise on the world, and the world is as it was. (LAID: no walk: one application.) -/
theorem Tryd.internal_strconv_FormatInt_10_small (i : Nat) (hi : i < 100) (w : World) :
    Calls Tryd.prog 65 #[.int .i64 i, .int .i64 10] w fun e w' => e = .returned (.string ⟨(Lib.decDigits i).toArray⟩) ∧ w' = w := Any.internal_strconv_FormatInt_10_small Tryd.lays246 i hi w
def Tryd.laysM243_ren : Go.Shelf.Ren := ⟨fun | 243 => 50 | 246 => 65 | 283 => 74 | 284 => 75 | 285 => 76 | 286 => 77 | 129 => 81 | 317 => 80 | 318 => 82 | 319 => 83 | 320 => 84 | 337 => 87 | 338 => 88 | n => n, fun | 3 => 3 | 9 => 9 | 2 => 2 | 4 => 4 | 171 => 110 | 0 => 0 | 53 => 69 | 37 => 59 | 5 => 5 | 173 => 113 | 212 => 123 | 51 => 118 | 20 => 20 | 213 => 124 | 46 => 125 | 232 => 141 | 233 => 142 | n => n, fun | 17 => 2 | 18 => 3 | 19 => 4 | n => n⟩
theorem Tryd.laysM243 : Go.Proofs.LaysM.n243 Tryd.prog Tryd.laysM243_ren := {
  mixed := by kernel_rfl
  f129 := Tryd.func81.trans (congrArg some (by kernel_rfl))
  f243 := Tryd.func50.trans (congrArg some (by kernel_rfl))
  f246 := Tryd.func65.trans (congrArg some (by kernel_rfl))
  f283 := Tryd.func74.trans (congrArg some (by kernel_rfl))
  f284 := Tryd.func75.trans (congrArg some (by kernel_rfl))
  f285 := Tryd.func76.trans (congrArg some (by kernel_rfl))
  f286 := Tryd.func77.trans (congrArg some (by kernel_rfl))
  f317 := Tryd.func80.trans (congrArg some (by kernel_rfl))
  f318 := Tryd.func82.trans (congrArg some (by kernel_rfl))
  f319 := Tryd.func83.trans (congrArg some (by kernel_rfl))
  f320 := Tryd.func84.trans (congrArg some (by kernel_rfl))
  f337 := Tryd.func87.trans (congrArg some (by kernel_rfl))
  f338 := Tryd.func88.trans (congrArg some (by kernel_rfl))
  t0 := Tryd.underlying0
  a0 := Tryd.isAgg0
  z0 := Tryd.sizeOf0
  v0 := Tryd.zeroValue0
  t2 := Tryd.underlying2
  a2 := Tryd.isAgg2
  z2 := Tryd.sizeOf2
  v2 := Tryd.zeroValue2
  t3 := Tryd.underlying3
  a3 := Tryd.isAgg3
  z3 := Tryd.sizeOf3
  v3 := Tryd.zeroValue3
  t4 := Tryd.underlying4
  a4 := Tryd.isAgg4
  z4 := Tryd.sizeOf4
  v4 := Tryd.zeroValue4
  t5 := Tryd.underlying5
  a5 := Tryd.isAgg5
  z5 := Tryd.sizeOf5
  v5 := Tryd.zeroValue5
  t9 := Tryd.underlying9
  a9 := Tryd.isAgg9
  z9 := Tryd.sizeOf9
  v9 := Tryd.zeroValue9
  t20 := Tryd.underlying20
  a20 := Tryd.isAgg20
  z20 := Tryd.sizeOf20
  v20 := Tryd.zeroValue20
  t37 := Tryd.underlying59
  a37 := Tryd.isAgg59
  z37 := Tryd.sizeOf59
  v37 := Tryd.zeroValue59
  t46 := Tryd.underlying125
  a46 := Tryd.isAgg125
  z46 := Tryd.sizeOf125
  v46 := Tryd.zeroValue125
  t51 := Tryd.underlying118
  a51 := Tryd.isAgg118
  z51 := Tryd.sizeOf118
  v51 := Tryd.zeroValue118
  t53 := Tryd.underlying69
  a53 := Tryd.isAgg69
  z53 := Tryd.sizeOf69
  v53 := Tryd.zeroValue69
  t171 := Tryd.underlying110
  a171 := Tryd.isAgg110
  z171 := Tryd.sizeOf110
  v171 := Tryd.zeroValue110
  t173 := Tryd.underlying113
  a173 := Tryd.isAgg113
  z173 := Tryd.sizeOf113
  v173 := Tryd.zeroValue113
  t212 := Tryd.underlying123
  a212 := Tryd.isAgg123
  z212 := Tryd.sizeOf123
  v212 := Tryd.zeroValue123
  t213 := Tryd.underlying124
  a213 := Tryd.isAgg124
  z213 := Tryd.sizeOf124
  t232 := Tryd.underlying141
  a232 := Tryd.isAgg141
  z232 := Tryd.sizeOf141
  v232 := Tryd.zeroValue141
  t233 := Tryd.underlying142
  a233 := Tryd.isAgg142
  z233 := Tryd.sizeOf142
  v233 := Tryd.zeroValue142
  g17 := by kernel_rfl
  g18 := by kernel_rfl
  g19 := by kernel_rfl
  i0 := by kernel_rfl
  i2 := by kernel_rfl
  i3 := by kernel_rfl
  i4 := by kernel_rfl
  i5 := by kernel_rfl
  i9 := by kernel_rfl
  i20 := by kernel_rfl
  i37 := by kernel_rfl
  i46 := by kernel_rfl
  i51 := by kernel_rfl
  i53 := by kernel_rfl
  i171 := by kernel_rfl
  i173 := by kernel_rfl
  i212 := by kernel_rfl
  i232 := by kernel_rfl
  i233 := by kernel_rfl
  m17 := by kernel_rfl
  m18 := by kernel_rfl
  m19 := by kernel_rfl }
open Go.RowKit Go.Sort Go.Lib in
/-- internal/strconv.Itoa: "Itoa is equivalent to FormatInt(int64(i), 10).": i's decimal numeral, for every int. (LAID: no walk: one application.) -/
theorem Tryd.internal_strconv_Itoa (n : Int) (h0 : -9223372036854775808 ≤ n) (h1 : n ≤ 9223372036854775807) (w : World) (htab : Lib.TabIs Tryd.prog w "internal/strconv.uint64pow10" .u64 Lib.pow10Tab) :
    Calls Tryd.prog 50 #[.int .i64 n] w fun e w' => e = .returned (.string ⟨(Lib.itoa n).toArray⟩) ∧ ∃ k os, w' = grow (w.drewN k) os := Any.internal_strconv_Itoa Tryd.laysM243 n h0 h1 w htab
def Tryd.lays243_ren : Go.Shelf.Ren := ⟨fun | 243 => 50 | 246 => 65 | 283 => 74 | 284 => 75 | 285 => 76 | 286 => 77 | 129 => 81 | 317 => 80 | 318 => 82 | 319 => 83 | 320 => 84 | 337 => 87 | 338 => 88 | n => n, fun | 3 => 3 | 9 => 9 | 2 => 2 | 4 => 4 | 171 => 110 | 0 => 0 | 53 => 69 | 37 => 59 | 5 => 5 | 173 => 113 | 212 => 123 | 51 => 118 | 20 => 20 | 213 => 124 | 46 => 125 | 232 => 141 | 233 => 142 | n => n, fun | 17 => 2 | 18 => 3 | 19 => 4 | n => n⟩
theorem Tryd.lays243 : Go.Proofs.Lays.n243 Tryd.prog Tryd.lays243_ren := {
  mixed := by kernel_rfl
  f129 := Tryd.func81.trans (congrArg some (by kernel_rfl))
  f243 := Tryd.func50.trans (congrArg some (by kernel_rfl))
  f246 := Tryd.func65.trans (congrArg some (by kernel_rfl))
  f283 := Tryd.func74.trans (congrArg some (by kernel_rfl))
  f284 := Tryd.func75.trans (congrArg some (by kernel_rfl))
  f285 := Tryd.func76.trans (congrArg some (by kernel_rfl))
  f286 := Tryd.func77.trans (congrArg some (by kernel_rfl))
  f317 := Tryd.func80.trans (congrArg some (by kernel_rfl))
  f318 := Tryd.func82.trans (congrArg some (by kernel_rfl))
  f319 := Tryd.func83.trans (congrArg some (by kernel_rfl))
  f320 := Tryd.func84.trans (congrArg some (by kernel_rfl))
  f337 := Tryd.func87.trans (congrArg some (by kernel_rfl))
  f338 := Tryd.func88.trans (congrArg some (by kernel_rfl))
  t0 := Tryd.underlying0
  a0 := Tryd.isAgg0
  z0 := Tryd.sizeOf0
  v0 := Tryd.zeroValue0
  t2 := Tryd.underlying2
  a2 := Tryd.isAgg2
  z2 := Tryd.sizeOf2
  v2 := Tryd.zeroValue2
  t3 := Tryd.underlying3
  a3 := Tryd.isAgg3
  z3 := Tryd.sizeOf3
  v3 := Tryd.zeroValue3
  t4 := Tryd.underlying4
  a4 := Tryd.isAgg4
  z4 := Tryd.sizeOf4
  v4 := Tryd.zeroValue4
  t5 := Tryd.underlying5
  a5 := Tryd.isAgg5
  z5 := Tryd.sizeOf5
  v5 := Tryd.zeroValue5
  t9 := Tryd.underlying9
  a9 := Tryd.isAgg9
  z9 := Tryd.sizeOf9
  v9 := Tryd.zeroValue9
  t20 := Tryd.underlying20
  a20 := Tryd.isAgg20
  z20 := Tryd.sizeOf20
  v20 := Tryd.zeroValue20
  t37 := Tryd.underlying59
  a37 := Tryd.isAgg59
  z37 := Tryd.sizeOf59
  v37 := Tryd.zeroValue59
  t46 := Tryd.underlying125
  a46 := Tryd.isAgg125
  z46 := Tryd.sizeOf125
  v46 := Tryd.zeroValue125
  t51 := Tryd.underlying118
  a51 := Tryd.isAgg118
  z51 := Tryd.sizeOf118
  v51 := Tryd.zeroValue118
  t53 := Tryd.underlying69
  a53 := Tryd.isAgg69
  z53 := Tryd.sizeOf69
  v53 := Tryd.zeroValue69
  t171 := Tryd.underlying110
  a171 := Tryd.isAgg110
  z171 := Tryd.sizeOf110
  v171 := Tryd.zeroValue110
  t173 := Tryd.underlying113
  a173 := Tryd.isAgg113
  z173 := Tryd.sizeOf113
  v173 := Tryd.zeroValue113
  t212 := Tryd.underlying123
  a212 := Tryd.isAgg123
  z212 := Tryd.sizeOf123
  v212 := Tryd.zeroValue123
  t213 := Tryd.underlying124
  a213 := Tryd.isAgg124
  z213 := Tryd.sizeOf124
  t232 := Tryd.underlying141
  a232 := Tryd.isAgg141
  z232 := Tryd.sizeOf141
  v232 := Tryd.zeroValue141
  t233 := Tryd.underlying142
  a233 := Tryd.isAgg142
  z233 := Tryd.sizeOf142
  v233 := Tryd.zeroValue142
  g17 := by kernel_rfl
  g18 := by kernel_rfl
  g19 := by kernel_rfl }
open Go.RowKit Go.Sort Go.Lib in
/-- THE ROAD WITHOUT THE TABLE: 0 <= i < 100. (LAID: no walk: one application.) -/
theorem Tryd.internal_strconv_Itoa_small (i : Nat) (hi : i < 100) (w : World) :
    Calls Tryd.prog 50 #[.int .i64 i] w fun e w' => e = .returned (.string ⟨(Lib.decDigits i).toArray⟩) ∧ w' = w := Any.internal_strconv_Itoa_small Tryd.lays243 i hi w
def Tryd.laysM171_ren : Go.Shelf.Ren := ⟨fun | 171 => 25 | 243 => 50 | 246 => 65 | 283 => 74 | 284 => 75 | 285 => 76 | 286 => 77 | 129 => 81 | 317 => 80 | 318 => 82 | 319 => 83 | 320 => 84 | 337 => 87 | 338 => 88 | n => n, fun | 3 => 3 | 9 => 9 | 2 => 2 | 4 => 4 | 171 => 110 | 0 => 0 | 53 => 69 | 37 => 59 | 5 => 5 | 173 => 113 | 212 => 123 | 51 => 118 | 20 => 20 | 213 => 124 | 46 => 125 | 232 => 141 | 233 => 142 | n => n, fun | 17 => 2 | 18 => 3 | 19 => 4 | n => n⟩
theorem Tryd.laysM171 : Go.Proofs.LaysM.n171 Tryd.prog Tryd.laysM171_ren := {
  mixed := by kernel_rfl
  f129 := Tryd.func81.trans (congrArg some (by kernel_rfl))
  f171 := Tryd.func25.trans (congrArg some (by kernel_rfl))
  f243 := Tryd.func50.trans (congrArg some (by kernel_rfl))
  f246 := Tryd.func65.trans (congrArg some (by kernel_rfl))
  f283 := Tryd.func74.trans (congrArg some (by kernel_rfl))
  f284 := Tryd.func75.trans (congrArg some (by kernel_rfl))
  f285 := Tryd.func76.trans (congrArg some (by kernel_rfl))
  f286 := Tryd.func77.trans (congrArg some (by kernel_rfl))
  f317 := Tryd.func80.trans (congrArg some (by kernel_rfl))
  f318 := Tryd.func82.trans (congrArg some (by kernel_rfl))
  f319 := Tryd.func83.trans (congrArg some (by kernel_rfl))
  f320 := Tryd.func84.trans (congrArg some (by kernel_rfl))
  f337 := Tryd.func87.trans (congrArg some (by kernel_rfl))
  f338 := Tryd.func88.trans (congrArg some (by kernel_rfl))
  t0 := Tryd.underlying0
  a0 := Tryd.isAgg0
  z0 := Tryd.sizeOf0
  v0 := Tryd.zeroValue0
  t2 := Tryd.underlying2
  a2 := Tryd.isAgg2
  z2 := Tryd.sizeOf2
  v2 := Tryd.zeroValue2
  t3 := Tryd.underlying3
  a3 := Tryd.isAgg3
  z3 := Tryd.sizeOf3
  v3 := Tryd.zeroValue3
  t4 := Tryd.underlying4
  a4 := Tryd.isAgg4
  z4 := Tryd.sizeOf4
  v4 := Tryd.zeroValue4
  t5 := Tryd.underlying5
  a5 := Tryd.isAgg5
  z5 := Tryd.sizeOf5
  v5 := Tryd.zeroValue5
  t9 := Tryd.underlying9
  a9 := Tryd.isAgg9
  z9 := Tryd.sizeOf9
  v9 := Tryd.zeroValue9
  t20 := Tryd.underlying20
  a20 := Tryd.isAgg20
  z20 := Tryd.sizeOf20
  v20 := Tryd.zeroValue20
  t37 := Tryd.underlying59
  a37 := Tryd.isAgg59
  z37 := Tryd.sizeOf59
  v37 := Tryd.zeroValue59
  t46 := Tryd.underlying125
  a46 := Tryd.isAgg125
  z46 := Tryd.sizeOf125
  v46 := Tryd.zeroValue125
  t51 := Tryd.underlying118
  a51 := Tryd.isAgg118
  z51 := Tryd.sizeOf118
  v51 := Tryd.zeroValue118
  t53 := Tryd.underlying69
  a53 := Tryd.isAgg69
  z53 := Tryd.sizeOf69
  v53 := Tryd.zeroValue69
  t171 := Tryd.underlying110
  a171 := Tryd.isAgg110
  z171 := Tryd.sizeOf110
  v171 := Tryd.zeroValue110
  t173 := Tryd.underlying113
  a173 := Tryd.isAgg113
  z173 := Tryd.sizeOf113
  v173 := Tryd.zeroValue113
  t212 := Tryd.underlying123
  a212 := Tryd.isAgg123
  z212 := Tryd.sizeOf123
  v212 := Tryd.zeroValue123
  t213 := Tryd.underlying124
  a213 := Tryd.isAgg124
  z213 := Tryd.sizeOf124
  t232 := Tryd.underlying141
  a232 := Tryd.isAgg141
  z232 := Tryd.sizeOf141
  v232 := Tryd.zeroValue141
  t233 := Tryd.underlying142
  a233 := Tryd.isAgg142
  z233 := Tryd.sizeOf142
  v233 := Tryd.zeroValue142
  g17 := by kernel_rfl
  g18 := by kernel_rfl
  g19 := by kernel_rfl
  i0 := by kernel_rfl
  i2 := by kernel_rfl
  i3 := by kernel_rfl
  i4 := by kernel_rfl
  i5 := by kernel_rfl
  i9 := by kernel_rfl
  i20 := by kernel_rfl
  i37 := by kernel_rfl
  i46 := by kernel_rfl
  i51 := by kernel_rfl
  i53 := by kernel_rfl
  i171 := by kernel_rfl
  i173 := by kernel_rfl
  i212 := by kernel_rfl
  i232 := by kernel_rfl
  i233 := by kernel_rfl
  m17 := by kernel_rfl
  m18 := by kernel_rfl
  m19 := by kernel_rfl }
open Go.RowKit Go.Sort Go.Lib in
/-- strconv.Itoa: "Itoa is equivalent to FormatInt(int64(i), 10).": i's DECIMAL NUMERAL ('Lib.itoa': a '-' where i is negative, then the digits), FOR EVERY int. The world behind the call: the world before it, new blocks behind the heap (the library's 'var a [24]byte'), draws. (LAID: no walk: one application.) -/
theorem Tryd.strconv_Itoa (n : Int) (h0 : -9223372036854775808 ≤ n) (h1 : n ≤ 9223372036854775807) (w : World) (htab : Lib.TabIs Tryd.prog w "internal/strconv.uint64pow10" .u64 Lib.pow10Tab) :
    Calls Tryd.prog 25 #[.int .i64 n] w fun e w' => e = .returned (.string ⟨(Lib.itoa n).toArray⟩) ∧ ∃ k os, w' = grow (w.drewN k) os := Any.strconv_Itoa Tryd.laysM171 n h0 h1 w htab
def Tryd.lays171_ren : Go.Shelf.Ren := ⟨fun | 171 => 25 | 243 => 50 | 246 => 65 | 283 => 74 | 284 => 75 | 285 => 76 | 286 => 77 | 129 => 81 | 317 => 80 | 318 => 82 | 319 => 83 | 320 => 84 | 337 => 87 | 338 => 88 | n => n, fun | 3 => 3 | 9 => 9 | 2 => 2 | 4 => 4 | 171 => 110 | 0 => 0 | 53 => 69 | 37 => 59 | 5 => 5 | 173 => 113 | 212 => 123 | 51 => 118 | 20 => 20 | 213 => 124 | 46 => 125 | 232 => 141 | 233 => 142 | n => n, fun | 17 => 2 | 18 => 3 | 19 => 4 | n => n⟩
theorem Tryd.lays171 : Go.Proofs.Lays.n171 Tryd.prog Tryd.lays171_ren := {
  mixed := by kernel_rfl
  f129 := Tryd.func81.trans (congrArg some (by kernel_rfl))
  f171 := Tryd.func25.trans (congrArg some (by kernel_rfl))
  f243 := Tryd.func50.trans (congrArg some (by kernel_rfl))
  f246 := Tryd.func65.trans (congrArg some (by kernel_rfl))
  f283 := Tryd.func74.trans (congrArg some (by kernel_rfl))
  f284 := Tryd.func75.trans (congrArg some (by kernel_rfl))
  f285 := Tryd.func76.trans (congrArg some (by kernel_rfl))
  f286 := Tryd.func77.trans (congrArg some (by kernel_rfl))
  f317 := Tryd.func80.trans (congrArg some (by kernel_rfl))
  f318 := Tryd.func82.trans (congrArg some (by kernel_rfl))
  f319 := Tryd.func83.trans (congrArg some (by kernel_rfl))
  f320 := Tryd.func84.trans (congrArg some (by kernel_rfl))
  f337 := Tryd.func87.trans (congrArg some (by kernel_rfl))
  f338 := Tryd.func88.trans (congrArg some (by kernel_rfl))
  t0 := Tryd.underlying0
  a0 := Tryd.isAgg0
  z0 := Tryd.sizeOf0
  v0 := Tryd.zeroValue0
  t2 := Tryd.underlying2
  a2 := Tryd.isAgg2
  z2 := Tryd.sizeOf2
  v2 := Tryd.zeroValue2
  t3 := Tryd.underlying3
  a3 := Tryd.isAgg3
  z3 := Tryd.sizeOf3
  v3 := Tryd.zeroValue3
  t4 := Tryd.underlying4
  a4 := Tryd.isAgg4
  z4 := Tryd.sizeOf4
  v4 := Tryd.zeroValue4
  t5 := Tryd.underlying5
  a5 := Tryd.isAgg5
  z5 := Tryd.sizeOf5
  v5 := Tryd.zeroValue5
  t9 := Tryd.underlying9
  a9 := Tryd.isAgg9
  z9 := Tryd.sizeOf9
  v9 := Tryd.zeroValue9
  t20 := Tryd.underlying20
  a20 := Tryd.isAgg20
  z20 := Tryd.sizeOf20
  v20 := Tryd.zeroValue20
  t37 := Tryd.underlying59
  a37 := Tryd.isAgg59
  z37 := Tryd.sizeOf59
  v37 := Tryd.zeroValue59
  t46 := Tryd.underlying125
  a46 := Tryd.isAgg125
  z46 := Tryd.sizeOf125
  v46 := Tryd.zeroValue125
  t51 := Tryd.underlying118
  a51 := Tryd.isAgg118
  z51 := Tryd.sizeOf118
  v51 := Tryd.zeroValue118
  t53 := Tryd.underlying69
  a53 := Tryd.isAgg69
  z53 := Tryd.sizeOf69
  v53 := Tryd.zeroValue69
  t171 := Tryd.underlying110
  a171 := Tryd.isAgg110
  z171 := Tryd.sizeOf110
  v171 := Tryd.zeroValue110
  t173 := Tryd.underlying113
  a173 := Tryd.isAgg113
  z173 := Tryd.sizeOf113
  v173 := Tryd.zeroValue113
  t212 := Tryd.underlying123
  a212 := Tryd.isAgg123
  z212 := Tryd.sizeOf123
  v212 := Tryd.zeroValue123
  t213 := Tryd.underlying124
  a213 := Tryd.isAgg124
  z213 := Tryd.sizeOf124
  t232 := Tryd.underlying141
  a232 := Tryd.isAgg141
  z232 := Tryd.sizeOf141
  v232 := Tryd.zeroValue141
  t233 := Tryd.underlying142
  a233 := Tryd.isAgg142
  z233 := Tryd.sizeOf142
  v233 := Tryd.zeroValue142
  g17 := by kernel_rfl
  g18 := by kernel_rfl
  g19 := by kernel_rfl }
open Go.RowKit Go.Sort Go.Lib in
/-- THE ROAD WITHOUT THE TABLE: 0 <= i < 100: NO PREMISE ON THE WORLD, AND THE WORLD IS AS IT WAS: a row that keeps its argument in that range need list no table ('laid = []'). (LAID: no walk: one application.) -/
theorem Tryd.strconv_Itoa_small (i : Nat) (hi : i < 100) (w : World) :
    Calls Tryd.prog 25 #[.int .i64 i] w fun e w' => e = .returned (.string ⟨(Lib.decDigits i).toArray⟩) ∧ w' = w := Any.strconv_Itoa_small Tryd.lays171 i hi w
def Tryd.lays157_ren : Go.Shelf.Ren := ⟨fun | 157 => 51 | 229 => 66 | 199 => 67 | 261 => 78 | 311 => 85 | 312 => 86 | n => n, fun | 9 => 9 | 31 => 87 | 3 => 3 | 5 => 5 | 4 => 4 | 119 => 100 | 0 => 0 | 40 => 102 | 152 => 115 | 21 => 21 | 154 => 117 | 51 => 118 | 141 => 120 | 196 => 130 | 193 => 127 | 198 => 133 | 49 => 131 | 194 => 128 | 201 => 136 | 226 => 139 | 46 => 125 | 227 => 140 | n => n, fun | 0 => 0 | 6 => 1 | n => n⟩
theorem Tryd.lays157 : Go.Proofs.Lays.n157 Tryd.prog Tryd.lays157_ren := {
  mixed := by kernel_rfl
  f157 := Tryd.func51.trans (congrArg some (by kernel_rfl))
  f199 := Tryd.func67.trans (congrArg some (by kernel_rfl))
  f229 := Tryd.func66.trans (congrArg some (by kernel_rfl))
  f261 := Tryd.func78.trans (congrArg some (by kernel_rfl))
  f311 := Tryd.func85.trans (congrArg some (by kernel_rfl))
  f312 := Tryd.func86.trans (congrArg some (by kernel_rfl))
  t0 := Tryd.underlying0
  a0 := Tryd.isAgg0
  z0 := Tryd.sizeOf0
  v0 := Tryd.zeroValue0
  t3 := Tryd.underlying3
  a3 := Tryd.isAgg3
  z3 := Tryd.sizeOf3
  v3 := Tryd.zeroValue3
  t4 := Tryd.underlying4
  a4 := Tryd.isAgg4
  z4 := Tryd.sizeOf4
  v4 := Tryd.zeroValue4
  t5 := Tryd.underlying5
  a5 := Tryd.isAgg5
  z5 := Tryd.sizeOf5
  v5 := Tryd.zeroValue5
  t9 := Tryd.underlying9
  a9 := Tryd.isAgg9
  z9 := Tryd.sizeOf9
  v9 := Tryd.zeroValue9
  t21 := Tryd.underlying21
  a21 := Tryd.isAgg21
  z21 := Tryd.sizeOf21
  v21 := Tryd.zeroValue21
  t31 := Tryd.underlying87
  a31 := Tryd.isAgg87
  z31 := Tryd.sizeOf87
  v31 := Tryd.zeroValue87
  t40 := Tryd.underlying102
  a40 := Tryd.isAgg102
  z40 := Tryd.sizeOf102
  v40 := Tryd.zeroValue102
  t46 := Tryd.underlying125
  a46 := Tryd.isAgg125
  z46 := Tryd.sizeOf125
  v46 := Tryd.zeroValue125
  t49 := Tryd.underlying131
  a49 := Tryd.isAgg131
  z49 := Tryd.sizeOf131
  v49 := Tryd.zeroValue131
  t51 := Tryd.underlying118
  a51 := Tryd.isAgg118
  z51 := Tryd.sizeOf118
  v51 := Tryd.zeroValue118
  t119 := Tryd.underlying100
  a119 := Tryd.isAgg100
  z119 := Tryd.sizeOf100
  t141 := Tryd.underlying120
  a141 := Tryd.isAgg120
  z141 := Tryd.sizeOf120
  v141 := Tryd.zeroValue120
  t152 := Tryd.underlying115
  a152 := Tryd.isAgg115
  z152 := Tryd.sizeOf115
  v152 := Tryd.zeroValue115
  t154 := Tryd.underlying117
  a154 := Tryd.isAgg117
  z154 := Tryd.sizeOf117
  v154 := Tryd.zeroValue117
  t193 := Tryd.underlying127
  a193 := Tryd.isAgg127
  z193 := Tryd.sizeOf127
  v193 := Tryd.zeroValue127
  t194 := Tryd.underlying128
  a194 := Tryd.isAgg128
  z194 := Tryd.sizeOf128
  v194 := Tryd.zeroValue128
  t196 := Tryd.underlying130
  a196 := Tryd.isAgg130
  z196 := Tryd.sizeOf130
  v196 := Tryd.zeroValue130
  t198 := Tryd.underlying133
  a198 := Tryd.isAgg133
  z198 := Tryd.sizeOf133
  v198 := Tryd.zeroValue133
  t201 := Tryd.underlying136
  a201 := Tryd.isAgg136
  z201 := Tryd.sizeOf136
  v201 := Tryd.zeroValue136
  t226 := Tryd.underlying139
  a226 := Tryd.isAgg139
  z226 := Tryd.sizeOf139
  v226 := Tryd.zeroValue139
  t227 := Tryd.underlying140
  a227 := Tryd.isAgg140
  z227 := Tryd.sizeOf140
  v227 := Tryd.zeroValue140
  g0 := by kernel_rfl
  g6 := by kernel_rfl }
open Go.RowKit Go.Lib in
/-- strings.Fields, the table by 'Lib.TabIs' (as strings.TrimSpace's contract). 'hg': the table's number, by its name: at a dump 'by kernel_rfl'. (LAID: no walk: one application.) -/
theorem Tryd.strings_Fields (s : ByteArray) (w : World) (hs : s.size < 4294967281) (hascii : ∀ (j : Nat) b, s.data.toList[j]? = some b → b.toNat < 128) (htab : Lib.TabIs Tryd.prog w "strings.asciiSpace" .u8 Lib.asciiSpaceTab) :
    Calls Tryd.prog 51 #[.string s] w fun e w' =>
      e = .returned (.slice (some ⟨w.heap.size, 0, none⟩) (Lib.fields s.data.toList).length (Lib.fields s.data.toList).length) ∧ w' = w.alloc (.cells ((Lib.fields s.data.toList).map fun l => Value.string ⟨l.toArray⟩).toArray 9) := Any.strings_Fields Tryd.lays157 (by kernel_rfl) (by kernel_rfl) s w hs hascii htab
def Tryd.lays199_ren : Go.Shelf.Ren := ⟨fun | 199 => 67 | 261 => 78 | 311 => 85 | 312 => 86 | n => n, fun | 21 => 21 | 4 => 4 | 51 => 118 | 141 => 120 | 0 => 0 | 196 => 130 | 193 => 127 | 3 => 3 | 198 => 133 | 49 => 131 | 194 => 128 | 201 => 136 | 226 => 139 | 46 => 125 | 227 => 140 | n => n, fun | 6 => 1 | n => n⟩
theorem Tryd.lays199 : Go.Proofs.Lays.n199 Tryd.prog Tryd.lays199_ren := {
  mixed := by kernel_rfl
  f199 := Tryd.func67.trans (congrArg some (by kernel_rfl))
  f261 := Tryd.func78.trans (congrArg some (by kernel_rfl))
  f311 := Tryd.func85.trans (congrArg some (by kernel_rfl))
  f312 := Tryd.func86.trans (congrArg some (by kernel_rfl))
  t0 := Tryd.underlying0
  a0 := Tryd.isAgg0
  z0 := Tryd.sizeOf0
  v0 := Tryd.zeroValue0
  t3 := Tryd.underlying3
  a3 := Tryd.isAgg3
  z3 := Tryd.sizeOf3
  v3 := Tryd.zeroValue3
  t4 := Tryd.underlying4
  a4 := Tryd.isAgg4
  z4 := Tryd.sizeOf4
  v4 := Tryd.zeroValue4
  t21 := Tryd.underlying21
  a21 := Tryd.isAgg21
  z21 := Tryd.sizeOf21
  v21 := Tryd.zeroValue21
  t46 := Tryd.underlying125
  a46 := Tryd.isAgg125
  z46 := Tryd.sizeOf125
  v46 := Tryd.zeroValue125
  t49 := Tryd.underlying131
  a49 := Tryd.isAgg131
  z49 := Tryd.sizeOf131
  v49 := Tryd.zeroValue131
  t51 := Tryd.underlying118
  a51 := Tryd.isAgg118
  z51 := Tryd.sizeOf118
  v51 := Tryd.zeroValue118
  t141 := Tryd.underlying120
  a141 := Tryd.isAgg120
  z141 := Tryd.sizeOf120
  v141 := Tryd.zeroValue120
  t193 := Tryd.underlying127
  a193 := Tryd.isAgg127
  z193 := Tryd.sizeOf127
  v193 := Tryd.zeroValue127
  t194 := Tryd.underlying128
  a194 := Tryd.isAgg128
  z194 := Tryd.sizeOf128
  v194 := Tryd.zeroValue128
  t196 := Tryd.underlying130
  a196 := Tryd.isAgg130
  z196 := Tryd.sizeOf130
  v196 := Tryd.zeroValue130
  t198 := Tryd.underlying133
  a198 := Tryd.isAgg133
  z198 := Tryd.sizeOf133
  v198 := Tryd.zeroValue133
  t201 := Tryd.underlying136
  a201 := Tryd.isAgg136
  z201 := Tryd.sizeOf136
  v201 := Tryd.zeroValue136
  t226 := Tryd.underlying139
  a226 := Tryd.isAgg139
  z226 := Tryd.sizeOf139
  v226 := Tryd.zeroValue139
  t227 := Tryd.underlying140
  a227 := Tryd.isAgg140
  z227 := Tryd.sizeOf140
  v227 := Tryd.zeroValue140
  g6 := by kernel_rfl }
open Go.RowKit Go.Lib in
theorem Tryd.unicode_IsSpace (r : Int) (w : World) (h0 : 0 ≤ r) (h : r ≤ 255) :
    Calls Tryd.prog 67 #[.int .i32 r] w fun e w' => e = .returned (.bool (Lib.isSpaceL r)) ∧ w' = w := Any.unicode_IsSpace Tryd.lays199 r w h0 h
def Tryd.lays311_ren : Go.Shelf.Ren := ⟨fun | 311 => 85 | n => n, fun | 193 => 127 | 49 => 131 | 4 => 4 | 3 => 3 | 0 => 0 | 226 => 139 | 198 => 133 | 46 => 125 | n => n, fun | n => n⟩
theorem Tryd.lays311 : Go.Proofs.Lays.n311 Tryd.prog Tryd.lays311_ren := {
  mixed := by kernel_rfl
  f311 := Tryd.func85.trans (congrArg some (by kernel_rfl))
  t0 := Tryd.underlying0
  a0 := Tryd.isAgg0
  z0 := Tryd.sizeOf0
  v0 := Tryd.zeroValue0
  t3 := Tryd.underlying3
  a3 := Tryd.isAgg3
  z3 := Tryd.sizeOf3
  v3 := Tryd.zeroValue3
  t4 := Tryd.underlying4
  a4 := Tryd.isAgg4
  z4 := Tryd.sizeOf4
  v4 := Tryd.zeroValue4
  t46 := Tryd.underlying125
  a46 := Tryd.isAgg125
  z46 := Tryd.sizeOf125
  v46 := Tryd.zeroValue125
  t49 := Tryd.underlying131
  a49 := Tryd.isAgg131
  z49 := Tryd.sizeOf131
  v49 := Tryd.zeroValue131
  t193 := Tryd.underlying127
  a193 := Tryd.isAgg127
  z193 := Tryd.sizeOf127
  v193 := Tryd.zeroValue127
  t198 := Tryd.underlying133
  a198 := Tryd.isAgg133
  z198 := Tryd.sizeOf133
  v198 := Tryd.zeroValue133
  t226 := Tryd.underlying139
  a226 := Tryd.isAgg139
  z226 := Tryd.sizeOf139
  v226 := Tryd.zeroValue139 }
open Go.RowKit Go.Lib in
theorem Tryd.unicode_is16_white (R oR : Nat) (z : Nat) (w : World) (hz : z < 65536) (hz0 : 255 < z) (c6 : w.cell? ⟨R, oR + 6, none⟩ = some (.int .u16 160)) (c7 : w.cell? ⟨R, oR + 7, none⟩ = some (.int .u16 5760)) (c8 : w.cell? ⟨R, oR + 8, none⟩ = some (.int .u16 5600)) (c9 : w.cell? ⟨R, oR + 9, none⟩ = some (.int .u16 8192)) (c10 : w.cell? ⟨R, oR + 10, none⟩ = some (.int .u16 8202)) (c11 : w.cell? ⟨R, oR + 11, none⟩ = some (.int .u16 1)) (c12 : w.cell? ⟨R, oR + 12, none⟩ = some (.int .u16 8232)) (c13 : w.cell? ⟨R, oR + 13, none⟩ = some (.int .u16 8233)) (c14 : w.cell? ⟨R, oR + 14, none⟩ = some (.int .u16 1)) (c15 : w.cell? ⟨R, oR + 15, none⟩ = some (.int .u16 8239)) (c16 : w.cell? ⟨R, oR + 16, none⟩ = some (.int .u16 8287)) (c17 : w.cell? ⟨R, oR + 17, none⟩ = some (.int .u16 48)) (c18 : w.cell? ⟨R, oR + 18, none⟩ = some (.int .u16 12288)) (c19 : w.cell? ⟨R, oR + 19, none⟩ = some (.int .u16 12288)) (c20 : w.cell? ⟨R, oR + 20, none⟩ = some (.int .u16 1)) :
    Calls Tryd.prog 85 #[.slice (some ⟨R, oR + 6, none⟩) 5 5, .int .u16 z] w fun e w' => e = .returned (.bool (Lib.isSpaceR z)) ∧ Below w.heap.size w w' := Any.unicode_is16_white Tryd.lays311 R oR z w hz hz0 c6 c7 c8 c9 c10 c11 c12 c13 c14 c15 c16 c17 c18 c19 c20
def Tryd.lays261_ren : Go.Shelf.Ren := ⟨fun | 261 => 78 | 311 => 85 | 312 => 86 | n => n, fun | 141 => 120 | 21 => 21 | 4 => 4 | 0 => 0 | 196 => 130 | 193 => 127 | 3 => 3 | 51 => 118 | 198 => 133 | 49 => 131 | 194 => 128 | 201 => 136 | 226 => 139 | 46 => 125 | 227 => 140 | n => n, fun | n => n⟩
theorem Tryd.lays261 : Go.Proofs.Lays.n261 Tryd.prog Tryd.lays261_ren := {
  mixed := by kernel_rfl
  f261 := Tryd.func78.trans (congrArg some (by kernel_rfl))
  f311 := Tryd.func85.trans (congrArg some (by kernel_rfl))
  f312 := Tryd.func86.trans (congrArg some (by kernel_rfl))
  t0 := Tryd.underlying0
  a0 := Tryd.isAgg0
  z0 := Tryd.sizeOf0
  v0 := Tryd.zeroValue0
  t3 := Tryd.underlying3
  a3 := Tryd.isAgg3
  z3 := Tryd.sizeOf3
  v3 := Tryd.zeroValue3
  t4 := Tryd.underlying4
  a4 := Tryd.isAgg4
  z4 := Tryd.sizeOf4
  v4 := Tryd.zeroValue4
  t21 := Tryd.underlying21
  a21 := Tryd.isAgg21
  z21 := Tryd.sizeOf21
  v21 := Tryd.zeroValue21
  t46 := Tryd.underlying125
  a46 := Tryd.isAgg125
  z46 := Tryd.sizeOf125
  v46 := Tryd.zeroValue125
  t49 := Tryd.underlying131
  a49 := Tryd.isAgg131
  z49 := Tryd.sizeOf131
  v49 := Tryd.zeroValue131
  t51 := Tryd.underlying118
  a51 := Tryd.isAgg118
  z51 := Tryd.sizeOf118
  v51 := Tryd.zeroValue118
  t141 := Tryd.underlying120
  a141 := Tryd.isAgg120
  z141 := Tryd.sizeOf120
  v141 := Tryd.zeroValue120
  t193 := Tryd.underlying127
  a193 := Tryd.isAgg127
  z193 := Tryd.sizeOf127
  v193 := Tryd.zeroValue127
  t194 := Tryd.underlying128
  a194 := Tryd.isAgg128
  z194 := Tryd.sizeOf128
  v194 := Tryd.zeroValue128
  t196 := Tryd.underlying130
  a196 := Tryd.isAgg130
  z196 := Tryd.sizeOf130
  v196 := Tryd.zeroValue130
  t198 := Tryd.underlying133
  a198 := Tryd.isAgg133
  z198 := Tryd.sizeOf133
  v198 := Tryd.zeroValue133
  t201 := Tryd.underlying136
  a201 := Tryd.isAgg136
  z201 := Tryd.sizeOf136
  v201 := Tryd.zeroValue136
  t226 := Tryd.underlying139
  a226 := Tryd.isAgg139
  z226 := Tryd.sizeOf139
  v226 := Tryd.zeroValue139
  t227 := Tryd.underlying140
  a227 := Tryd.isAgg140
  z227 := Tryd.sizeOf140
  v227 := Tryd.zeroValue140 }
open Go.RowKit Go.Lib in
/-- unicode.isExcludingLatin(White_Space, r), r beyond U+00FF or negative. (LAID: no walk: one application.) -/
theorem Tryd.unicode_isExcludingLatin_white (T oT R oR : Nat) (r : Int) (w : World) (hlo : -2147483648 ≤ r) (hhi : r ≤ 2147483647) (hr : r < 0 ∨ 255 < r) (h2 : w.cell? ⟨T, oT, none⟩ = some (.slice (some ⟨R, oR, none⟩) 7 7)) (h3 : w.cell? ⟨T, oT + 1, none⟩ = some (.slice none 0 0)) (h4 : w.cell? ⟨T, oT + 2, none⟩ = some (.int .i64 2)) (h5 : ∀ i, i < 21 → w.cell? ⟨R, oR + i, none⟩ = some (.int .u16 (whiteT.getD i 0))) :
    Calls Tryd.prog 78 #[.pointer (some ⟨T, oT, none⟩), .int .i32 r] w fun e w' => e = .returned (.bool (Lib.isSpaceZ r)) ∧ Below w.heap.size w w' := Any.unicode_isExcludingLatin_white Tryd.lays261 T oT R oR r w hlo hhi hr h2 h3 h4 h5
open Go.RowKit Go.Lib in
/-- **unicode.IsSpace AT EVERY int32.** (LAID: no walk: one application.) -/
theorem Tryd.unicode_IsSpace_any (r : Int) (w : World) (hlo : -2147483648 ≤ r) (hhi : r ≤ 2147483647) (hW : Lib.WhiteTab 1 w) :
    Calls Tryd.prog 67 #[.int .i32 r] w fun e w' => e = .returned (.bool (Lib.isSpaceZ r)) ∧ Below w.heap.size w w' := Any.unicode_IsSpace_any Tryd.lays199 r w hlo hhi hW
open Go.RowKit Go.Lib in
theorem Tryd.unicode_is16_any (T : Array Rg) (R oR cap : Nat) (z : Nat) (w : World) (hz : z < 65536) (hT : RgTab .u16 R oR T w) (hok : RgOk 65536 T) (hn : T.size ≤ 1000000000) :
    Calls Tryd.prog 85 #[.slice (some ⟨R, oR, none⟩) T.size cap, .int .u16 z] w fun e w' => e = .returned (.bool (is16Go T z)) ∧ ∃ q, w' = w.drewN q := Any.unicode_is16_any Tryd.lays311 T R oR cap z w hz hT hok hn
def Tryd.lays312_ren : Go.Shelf.Ren := ⟨fun | 312 => 86 | n => n, fun | 194 => 128 | 51 => 118 | 4 => 4 | 3 => 3 | 0 => 0 | 227 => 140 | 201 => 136 | 46 => 125 | n => n, fun | n => n⟩
theorem Tryd.lays312 : Go.Proofs.Lays.n312 Tryd.prog Tryd.lays312_ren := {
  mixed := by kernel_rfl
  f312 := Tryd.func86.trans (congrArg some (by kernel_rfl))
  t0 := Tryd.underlying0
  a0 := Tryd.isAgg0
  z0 := Tryd.sizeOf0
  v0 := Tryd.zeroValue0
  t3 := Tryd.underlying3
  a3 := Tryd.isAgg3
  z3 := Tryd.sizeOf3
  v3 := Tryd.zeroValue3
  t4 := Tryd.underlying4
  a4 := Tryd.isAgg4
  z4 := Tryd.sizeOf4
  v4 := Tryd.zeroValue4
  t46 := Tryd.underlying125
  a46 := Tryd.isAgg125
  z46 := Tryd.sizeOf125
  v46 := Tryd.zeroValue125
  t51 := Tryd.underlying118
  a51 := Tryd.isAgg118
  z51 := Tryd.sizeOf118
  v51 := Tryd.zeroValue118
  t194 := Tryd.underlying128
  a194 := Tryd.isAgg128
  z194 := Tryd.sizeOf128
  v194 := Tryd.zeroValue128
  t201 := Tryd.underlying136
  a201 := Tryd.isAgg136
  z201 := Tryd.sizeOf136
  v201 := Tryd.zeroValue136
  t227 := Tryd.underlying140
  a227 := Tryd.isAgg140
  z227 := Tryd.sizeOf140
  v227 := Tryd.zeroValue140 }
open Go.RowKit Go.Lib in
theorem Tryd.unicode_is32_any (T : Array Rg) (R oR cap : Nat) (z : Nat) (w : World) (hz : z < 4294967296) (hT : RgTab .u32 R oR T w) (hok : RgOk 4294967296 T) (hn : T.size ≤ 1000000000) :
    Calls Tryd.prog 86 #[.slice (some ⟨R, oR, none⟩) T.size cap, .int .u32 z] w fun e w' => e = .returned (.bool (is32Go T z)) ∧ Below w.heap.size w w' := Any.unicode_is32_any Tryd.lays312 T R oR cap z w hz hT hok hn
open Go.RowKit Go.Lib in
theorem Tryd.unicode_isExcludingLatin_any (Tb oT : Nat) (T : RTab) (r : Int) (w : World) (hlo : -2147483648 ≤ r) (hhi : r ≤ 2147483647) (hA : RTabAt Tb oT T w) (hok : RTabOk T) :
    Calls Tryd.prog 78 #[.pointer (some ⟨Tb, oT, none⟩), .int .i32 r] w fun e w' => e = .returned (.bool (exclGo T r)) ∧ Below w.heap.size w w' := Any.unicode_isExcludingLatin_any Tryd.lays261 Tb oT T r w hlo hhi hA hok
def Tryd.laysNm215_ren : Go.Shelf.Ren := ⟨fun | 15 => 72 | n => n, fun | 22 => 36 | 3 => 3 | 4 => 4 | n => n, fun | n => n⟩
theorem Tryd.laysNm215 : Go.Proofs.Lays2.n15 Tryd.prog Tryd.laysNm215_ren := {
  mixed := by kernel_rfl
  f15 := Tryd.func72.trans (congrArg some (by kernel_rfl))
  t3 := Tryd.underlying3
  a3 := Tryd.isAgg3
  z3 := Tryd.sizeOf3
  v3 := Tryd.zeroValue3
  t4 := Tryd.underlying4
  a4 := Tryd.isAgg4
  z4 := Tryd.sizeOf4
  v4 := Tryd.zeroValue4
  t22 := Tryd.underlying36
  a22 := Tryd.isAgg36
  z22 := Tryd.sizeOf36
  v22 := Tryd.zeroValue36
  i3 := by kernel_rfl }
open Go.RowKit Go.Lib in
/-- slices.Clone at []int: "Clone returns a copy of the slice. The elements are copied using assignment, so this is a shallow clone. The result may have additional unused capacity. The result preserves the nilness of s.": OF A SLICE THAT IS NOT nil IT RETURNS A SLICE THAT IS NOT nil, OF THE SAME ELEMENTS, IN MEMORY OF THE CALL's OWN: in the how-to's words (6f): 'w'.ownsRow B e 1 v' n cells': v' begins at the head of a row among the blocks from B on (B: the heap's size at the call), not frozen, whose first cells are the elements · 'Below B w w'': below B all is as it was. The capacity is whatever the run-time gives. 'zs': what the cells behind the slice's address hold; 'zs.take n': its elements. (LAID: no walk: one application.) -/
theorem Tryd.slices_Clone_int (b off n c : Nat) (zs : List Int) (w : World) (hz : n ≤ zs.length) (hbig : n * 8 ≤ 140737488355328) (hc : ∀ j, j < zs.length → w.cell? ⟨b, off + j, none⟩ = some (.int .i64 (zs.getD j 0))) :
    Calls Tryd.prog 72 #[.slice (some ⟨b, off, none⟩) n c] w fun e w' => ∃ v', e = .returned v' ∧ w'.ownsRow w.heap.size 3 1 v' n ((zs.take n).map (Value.int .i64)) ∧ v' ≠ .slice none 0 0 ∧ Below w.heap.size w w' := Any.slices_Clone_int Tryd.laysNm215 b off n c zs w hz hbig hc
open Go.RowKit Go.Lib in
/-- The same at nil: nil comes back; the world is as it was. (LAID: no walk: one application.) -/
theorem Tryd.slices_Clone_int_nil (n c : Nat) (w : World) :
    Calls Tryd.prog 72 #[.slice none n c] w fun e w' => e = .returned (.slice none 0 0) ∧ w' = w := Any.slices_Clone_int_nil Tryd.laysNm215 n c w
open Go.RowKit Go.Lib in
/-- The same at a slice of length 0 that is not nil, WHATEVER ITS ADDRESS (no cell is asked for): a slice that is not nil and owns nothing comes back. (LAID: no walk: one application.) -/
theorem Tryd.slices_Clone_int_zero (a : Addr) (c : Nat) (w : World) :
    Calls Tryd.prog 72 #[.slice (some a) 0 c] w fun e w' => ∃ v', e = .returned v' ∧ w'.ownsRow w.heap.size 3 1 v' 0 [] ∧ v' ≠ .slice none 0 0 ∧ Below w.heap.size w w' := Any.slices_Clone_int_zero Tryd.laysNm215 a c w
end Go.Proofs

/- Layer 5: numerals and words of Go's library, as contracts. -/
namespace Go.Proofs.YtilhkmlghhdpaaaDoor
open Go.RowKit Go.Shelf Go.Sort
set_option linter.unusedVariables false
set_option linter.unusedSimpArgs false
set_option maxRecDepth 100000
set_option maxHeartbeats 6400000
theorem grow_below (w : World) (k : Nat) (os : Array Go.Obj) : Below w.heap.size w (grow (w.drewN k) os) :=
  ⟨rfl, rfl, rfl, by simp [grow, World.drewN], fun j hj => by simp [grow, World.drewN, Array.getElem?_append_left hj]⟩
/-- A contract of the library for a call that reads flat things and hands back flat ones. -/
theorem ASpec.lib {f : FuncId} {args : List AV} {r : AV} (henter : ∀ args w, (callFunc f args).run Tryd.prog w = .ok (.enter f args) w) (hn : noOwn r = true) (h : ∀ (S : Nat → Prop) (w : World) (us : List Value), rels S W0 w args us → Vr w → Calls Tryd.prog f us.toArray w fun e w' => ∃ v, e = .returned v ∧ Below w.heap.size w w' ∧ ∀ S', rel S' W0 w' r v) : ASpec Tryd.prog f args r [] := by
  refine ⟨henter, Clo.one hn, fun S w us hus hv => ?_⟩
  refine (h S w us hus hv.now).mono ?_
  rintro e w' ⟨v, rfl, hb, hr⟩
  exact ⟨v, W0, rfl, hb, fun id ob hl => by simp [lk] at hl, fun k hk => by simp [feet] at hk, by simp [feet], by simp, hr _⟩
def itoaB (n : Int) : ByteArray := ⟨(Lib.itoa n).toArray⟩
theorem Itoa_S (n : Int) (h0 : -9223372036854775808 ≤ n) (h1 : n ≤ 9223372036854775807) : ASpec Tryd.prog 25 [.i .i64 n] (.s (itoaB n)) [] := by
  refine ASpec.lib Tryd.call25 rfl fun S w us hus hv => ?_
  obtain ⟨u, us', rfl, e1, e2⟩ := hus
  unfold rels at e2; subst e2
  unfold rel at e1; subst e1
  refine (Tryd.strconv_Itoa n h0 h1 w hv.1).mono ?_
  rintro e w' ⟨rfl, k, os, rfl⟩
  exact ⟨_, rfl, grow_below w k os, fun S' => rfl⟩
theorem holds0 (w : World) (T : TypeId) (nd : Nat) (hs : nd ≤ 24) : Holds (fun (b : UInt8) => Value.int .u8 (b.toNat : Int)) (w.alloc (.cells Lib.zeros24 T)) w.heap.size 0 (Array.replicate nd (0 : UInt8)) := fun j hj => by
  have hj' : j < nd := by simpa using hj
  refine ⟨?_, World.frozen?_alloc_new _ _ _ _⟩
  rw [World.cell?_alloc_new, Lib.zeros24_at _ (by omega), getElem!_pos _ j hj]
  simp
theorem fin0 (w : World) (o : Go.Obj) (dk : Array UInt8) (k : Nat) : ∃ os, (putRow (fun (b : UInt8) => Value.int .u8 (b.toNat : Int)) (w.alloc o) w.heap.size 0 dk).drewN k = grow (w.drewN k) os := by
  rw [alloc_eq_grow]
  obtain ⟨os', _, e⟩ := putRow_grow_new (fun (b : UInt8) => Value.int .u8 (b.toNat : Int)) w #[o] w.heap.size 0 dk (Nat.le_refl _)
  exact ⟨os', by rw [e]; rfl⟩
/-- internal/strconv.FormatUint at base ten. -/
theorem formatUint_C (u : Nat) (hu64 : u < 18446744073709551616) (w : World) (htab : Lib.TabIs Tryd.prog w "internal/strconv.uint64pow10" .u64 Lib.pow10Tab) :
    Calls Tryd.prog 79 #[.int .u64 u, .int .i64 10] w fun e w' => e = .returned (.string ⟨(Lib.decDigits u).toArray⟩) ∧ ∃ k os, w' = grow (w.drewN k) os := by
  by_cases hi : u < 100
  · go_enter Tryd.func79, Tryd.ntmps79
    go_wp2_with (go_at_call 74; refine (Tryd.internal_strconv_small u hi _).mono ?_; rintro e w' ⟨rfl, rfl⟩)
    go_ret
    exact ⟨rfl, 0, #[], by simp [World.drewN_zero]⟩
  · have hu1 : 1 ≤ u := by omega
    have hnd20 : Lib.nDigits u ≤ 20 := by have := Lib.numDigits_eq u hu1 hu64; split at this <;> omega
    have hH0 := holds0 w 110 (Lib.nDigits u) (by omega)
    have hal : Tryd.prog.arrayLen 110 = 24 := by simp [Program.arrayLen, Tryd.underlying110]
    have hsl2 : ∀ W, (Instr.sliceAt 110 (.pointer (some ⟨w.heap.size, 0, none⟩)) none (some (.int .i64 (Lib.nDigits u : Int))) none).run Tryd.prog W = .ok (.slice (some ⟨w.heap.size, 0, none⟩) (Lib.nDigits u) 24) W := fun W => by
      rw [run_sliceAt_array_h W 110 ⟨w.heap.size, 0, none⟩ (by simp [Program.arrayLen, Program.elem, Tryd.underlying110]) .i64 (Lib.nDigits u : Int) (by omega) (by rw [hal]; omega)]
      go_simp
    have hfmt := Tryd.internal_strconv_formatBase10 w.heap.size 0 24 u (Array.replicate (Lib.nDigits u) 0) (w.alloc (.cells Lib.zeros24 110)) hH0 (by rw [Array.size_replicate]; exact Lib.lt_pow_nDigits u) hu64 (by rw [Array.size_replicate]; omega)
    rw [Array.size_replicate] at hfmt
    have HH0 := Lib.hid hH0
    clear hH0 hal
    go_enter Tryd.func79, Tryd.ntmps79
    go_wp2_with (first
      | (go_at_call 75; refine (Tryd.internal_strconv_numDigits u hu1 hu64 _ (Lib.tabIs_alloc htab _)).mono ?_; rintro e w' ⟨rfl, rfl⟩))
    refine hfmt.mono ?_
    rintro e w' ⟨rfl, k, v', dk, rfl, hF⟩
    have hcv : (convert 59 9 (.slice (some ⟨w.heap.size, 0, none⟩) (Lib.nDigits u) 24)).run Tryd.prog ((putRow (fun (b : UInt8) => Value.int .u8 (b.toNat : Int)) (w.alloc (.cells Lib.zeros24 110)) w.heap.size 0 dk).drewN k) = .ok (.string ⟨(Lib.decDigits u).toArray⟩) ((putRow (fun (b : UInt8) => Value.int .u8 (b.toNat : Int)) (w.alloc (.cells Lib.zeros24 110)) w.heap.size 0 dk).drewN k) := by
      have h := run_convert_bytes_back (P := Tryd.prog) ((putRow (fun (b : UInt8) => Value.int .u8 (b.toNat : Int)) (w.alloc (.cells Lib.zeros24 110)) w.heap.size 0 dk).drewN k) 59 9 5 ⟨w.heap.size, 0, none⟩ 24 (Lib.decDigits u) Tryd.underlying59 Tryd.underlying5 Tryd.underlying9 (fun j hj => by
        rw [Lib.row_is_numeral hF j hj, Lib.add_plain, World.cell?_drewN]
        exact cell?_putRow (fun (b : UInt8) => Value.int .u8 (b.toNat : Int)) _ w.heap.size 0 _ dk HH0.out (by rw [hF.size, Array.size_replicate]) j (by rw [hF.size]; rw [Lib.decDigits_length] at hj; exact hj))
      rw [Lib.decDigits_length] at h
      exact h
    go_wp2
    go_ret
    obtain ⟨os, eo⟩ := fin0 w (.cells Lib.zeros24 110) dk k
    exact ⟨rfl, k, os, eo⟩
theorem FormatUint_S (u : Int) (b : Int) (h : 0 ≤ u ∧ u < 18446744073709551616 ∧ b = 10) : ASpec Tryd.prog 68 [.i .u64 u, .i .i64 b] (.s ⟨(Lib.decDigits u.toNat).toArray⟩) [] := by
  obtain ⟨h0, h1, rfl⟩ := h
  obtain ⟨u, rfl⟩ : ∃ n : Nat, u = n := ⟨u.toNat, by omega⟩
  refine ASpec.lib Tryd.call68 rfl fun S w us hus hv => ?_
  obtain ⟨q, us', rfl, e1, q', us'', rfl, e2, e3⟩ := hus
  unfold rels at e3; subst e3
  unfold rel at e1 e2; subst e1 e2
  go_enter Tryd.func68, Tryd.ntmps68
  go_wp2_with (go_at_call 79; refine (formatUint_C u (by omega) _ hv.1).mono ?_; rintro e w' ⟨rfl, k, os, rfl⟩)
  go_ret
  exact ⟨_, rfl, grow_below w k os, fun S' => rfl⟩
def wordsL : List ByteArray := (Lib.fields [97, 100, 100, 32, 115, 117, 98, 32, 109, 117, 108, 32, 117, 100, 105, 118, 32, 115, 100, 105, 118, 32, 117, 114, 101, 109, 32, 115, 114, 101, 109, 32, 97, 110, 100, 32, 111, 114, 32, 120, 111, 114, 32, 115, 104, 108, 32, 108, 115, 104, 114, 32, 97, 115, 104, 114, 32, 101, 113, 32, 110, 101, 32, 117, 108, 116, 32, 117, 108, 101, 32, 115, 108, 116, 32, 115, 108, 101, 32, 122, 101, 120, 116, 32, 115, 101, 120, 116, 32, 116, 114, 117, 110, 99, 32, 115, 101, 108, 101, 99, 116, 32, 102, 114, 101, 101, 122, 101, 32, 112, 104, 105, 32, 97, 108, 108, 111, 99, 97, 32, 108, 111, 97, 100, 32, 115, 116, 111, 114, 101, 32, 103, 101, 112, 32, 99, 97, 108, 108, 32, 98, 114, 32, 98, 114, 105, 102, 32, 114, 101, 116, 32, 104, 97, 108, 116]).map fun l => ⟨l.toArray⟩
theorem Fields_S (s : ByteArray) (hs : s.size < 4294967281) (hascii : ∀ b ∈ s.data.toList, b.toNat < 128) : ASpec Tryd.prog 51 [.s s] (eL ((Lib.fields s.data.toList).map fun l => (⟨l.toArray⟩ : ByteArray))) [] := by
  refine ⟨Tryd.call51, Clo.one rfl, fun S w us hus hv => ?_⟩
  obtain ⟨q, us', rfl, e1, e3⟩ := hus
  unfold rels at e3; subst e3
  unfold rel at e1; subst e1
  refine (Tryd.strings_Fields s w hs (fun j b hj => hascii b (List.mem_of_getElem? hj)) hv.now.2).mono ?_
  rintro e w' ⟨rfl, rfl⟩
  refine ⟨_, W0, rfl, (Below.refl _ _).alloc (Nat.le_refl _) _, fun id ob hl => by simp [lk] at hl, fun k hk => by simp [feet] at hk, by simp [feet], by simp, ?_⟩
  generalize hl : (Lib.fields s.data.toList).map (fun l => (⟨l.toArray⟩ : ByteArray)) = l
  have hlen : (Lib.fields s.data.toList).length = l.length := by rw [← hl, List.length_map]
  have hcs : ((Lib.fields s.data.toList).map fun l => Value.string ⟨l.toArray⟩) = l.map Value.string := by rw [← hl, List.map_map]; rfl
  rw [hlen, hcs]
  have hsm : l.length ≤ s.size := by
    rw [← hlen, Lib.fields_length]
    have : ∀ (l : List UInt8) b, Lib.cntF b l ≤ l.length := by
      intro l
      induction l with
      | nil => intro b; exact Nat.le_refl _
      | cons x l ih => intro b; have := ih (Lib.isSp x); simp only [Lib.cntF, List.length_cons]; split <;> omega
    exact Nat.le_trans (this _ _) (by rw [Array.length_toList]; exact Nat.le_refl _)
  refine ⟨some ⟨w.heap.size, 0, none⟩, _, fun i => [.string (l.getD i ⟨#[]⟩)], rfl, (fun z hz => by cases hz), by unfold maxLen; omega, fun i hi => ⟨⟨_, rfl, ?_⟩, ⟨rfl, rfl⟩, _, _, rfl, rfl, rfl⟩⟩
  intro w'' hz hb j u hu
  have hk := hb w.heap.size (by rw [heap_push]; omega) ⟨.inr (Nat.le_refl _), by simp [feet]⟩
  rw [heap_alloc_new] at hk
  cases j with
  | succ j => simp at hu
  | zero =>
    simp only [List.getElem?_cons_zero, Option.some.injEq] at hu
    subst hu
    show w''.cell? (((⟨w.heap.size, 0, none⟩ : Addr).add (i * 1)).add 0) = _
    rw [add_none, add_none, cell_blk hk]
    simp only [Nat.zero_add, Nat.mul_one, Nat.add_zero, List.getElem?_map]
    rw [List.getElem?_eq_getElem hi, Option.map_some, List.getD_eq_getElem?_getD, List.getElem?_eq_getElem hi]; rfl
end Go.Proofs.YtilhkmlghhdpaaaDoor

/- Layer 5, the program: what may be said. -/
namespace Go.Proofs.YtilhkmlghhdpaaaDoor
open Go.RowKit
set_option linter.unusedVariables false
set_option linter.unusedSimpArgs false
set_option maxRecDepth 100000
set_option maxHeartbeats 4000000
theorem within_S (n lo hi : Int) : ASpec Tryd.prog 18 [.i .i64 n, .i .i64 lo, .i .i64 hi] (.b (inR n lo hi)) [] := by
  refine ASpec.enter TYok mixed Tryd.func18 rfl Tryd.call18 Tryd.ntmps18 rfl (rs := [.tmp 6]) rfl (nodupB_ok rfl) (Clo.one rfl) (keep := [0, 1, 2, 6]) ?_; conv => whnf
  repeat' first | (refine And.intro (fun (hb : _ = true) => ?_) (fun (hb : _ = false) => ?_) <;> (try simp only [pickB_or, pickB_and] at hb) <;> (have hc := hb; try simp only [Int.toNat_natCast, Int.reduceToNat, Bool.or_eq_false_iff, Bool.and_eq_false_iff, Bool.not_eq_false', decide_eq_true_eq, decide_eq_false_iff_not, Bool.not_eq_true', Bool.and_eq_true, Bool.or_eq_true] at hc) <;> first | (exfalso; omega) | conv => whnf) | (refine ⟨_, wr64 (by first | omega | (simp only [Int.toNat_natCast, Int.reduceToNat]; omega)) (by first | omega | (simp only [Int.toNat_natCast, Int.reduceToNat]; omega)), ?_⟩; conv => whnf) | (refine And.intro (by first | omega | (simp only [Int.toNat_natCast, Int.reduceToNat, addZ]; omega) | (simp only [ByteArray.size_append, size_mk, List.length_cons, List.length_nil, Int.toNat_natCast, Int.reduceToNat]; omega) | exact ⟨rfl, by omega⟩ | ((repeat' apply And.intro) <;> first | exact trivial | omega) | decide +kernel) ?_; conv => whnf) | (refine And.intro (fun (ht : tg _ _ = true) => by (simp only [tg_ite, tg_nil, cn, Nat.reduceMul, Nat.reduceAdd, Nat.reduceEqDiff, ↓reduceIte, pickB_or, pickB_and, Bool.and_eq_true, Bool.or_eq_true, Bool.or_eq_false_iff, Bool.and_eq_false_iff, Bool.not_eq_true', Bool.not_eq_false', decide_eq_true_eq, decide_eq_false_iff_not, Int.toNat_natCast, Int.reduceToNat, ne_eq] at ht ⊢; first | omega | (simp only [Int.toNat_natCast, Int.reduceToNat]; omega))) ?_; conv => whnf) | (refine ⟨_, shl1 (by omega), ?_⟩; conv => whnf) | (refine ⟨_, wru64 (by first | omega | (simp only [Int.toNat_natCast, Int.reduceToNat]; omega)) (by first | omega | (simp only [Int.toNat_natCast, Int.reduceToNat]; omega)), ?_⟩; conv => whnf) | (refine ⟨_, fun _ => (IntKind.wrap_u64 _).symm, ?_⟩; conv => whnf) | exact ⟨_, .keep rfl rfl⟩ | fail
theorem kinds_S (l : List Int) (hl : l.length < 4294967296) : ASpec Tryd.prog 17 [eL l] (.b (typesB l)) [] := by
  refine ASpec.enter TYok mixed Tryd.func17 rfl Tryd.call17 Tryd.ntmps17 rfl (rs := [.tmp 2]) rfl (nodupB_ok rfl) (Clo.one rfl) (keep := [0, 2, 4, 5, 6, 7]) ?_; conv => whnf
  repeat' first | (refine And.intro (fun (hb : _ = true) => ?_) (fun (hb : _ = false) => ?_) <;> (try simp only [pickB_or, pickB_and] at hb) <;> (have hc := hb; try simp only [Int.toNat_natCast, Int.reduceToNat, Bool.or_eq_false_iff, Bool.and_eq_false_iff, Bool.not_eq_false', decide_eq_true_eq, decide_eq_false_iff_not, Bool.not_eq_true', Bool.and_eq_true, Bool.or_eq_true] at hc) <;> first | (exfalso; omega) | conv => whnf) | (refine ⟨_, wr64 (by first | omega | (simp only [Int.toNat_natCast, Int.reduceToNat]; omega)) (by first | omega | (simp only [Int.toNat_natCast, Int.reduceToNat]; omega)), ?_⟩; conv => whnf) | (refine And.intro (by first | omega | (simp only [Int.toNat_natCast, Int.reduceToNat, addZ]; omega) | (simp only [ByteArray.size_append, size_mk, List.length_cons, List.length_nil, Int.toNat_natCast, Int.reduceToNat]; omega) | exact ⟨rfl, by omega⟩ | ((repeat' apply And.intro) <;> first | exact trivial | omega) | decide +kernel) ?_; conv => whnf) | (refine And.intro (fun (ht : tg _ _ = true) => by (simp only [tg_ite, tg_nil, cn, Nat.reduceMul, Nat.reduceAdd, Nat.reduceEqDiff, ↓reduceIte, pickB_or, pickB_and, Bool.and_eq_true, Bool.or_eq_true, Bool.or_eq_false_iff, Bool.and_eq_false_iff, Bool.not_eq_true', Bool.not_eq_false', decide_eq_true_eq, decide_eq_false_iff_not, Int.toNat_natCast, Int.reduceToNat, ne_eq] at ht ⊢; first | omega | (simp only [Int.toNat_natCast, Int.reduceToNat]; omega))) ?_; conv => whnf) | (refine ⟨_, shl1 (by omega), ?_⟩; conv => whnf) | (refine ⟨_, wru64 (by first | omega | (simp only [Int.toNat_natCast, Int.reduceToNat]; omega)) (by first | omega | (simp only [Int.toNat_natCast, Int.reduceToNat]; omega)), ?_⟩; conv => whnf) | (refine ⟨_, fun _ => (IntKind.wrap_u64 _).symm, ?_⟩; conv => whnf) | exact ⟨_, .keep rfl rfl⟩ | fail
  refine lp [7] (fun q : Nat => [.i .i64 q]) (fun q => []) (fun q => q ≤ l.length ∧ ∀ i, i < q → inR (l.getD i Enc.d) 0 65 = true) (fun q => l.length - q) 0 ⟨by omega, fun i h => by omega⟩ ?_ fun q hq => ?_
  · refine Ent.lp [] [] rfl rfl rfl ?_ ?_ <;> repeat' first | exact trivial | rfl | exact fun _ _ => rfl | omega | refine And.intro ?_ ?_ | (show (_ : Int) = _; first | omega | (simp only [Int.toNat_natCast]; omega))
  conv => whnf
  obtain ⟨hq, hv⟩ := hq
  repeat' first | (refine And.intro (fun (hb : _ = true) => ?_) (fun (hb : _ = false) => ?_) <;> (try simp only [pickB_or, pickB_and] at hb) <;> (have hc := hb; try simp only [Int.toNat_natCast, Int.reduceToNat, Bool.or_eq_false_iff, Bool.and_eq_false_iff, Bool.not_eq_false', decide_eq_true_eq, decide_eq_false_iff_not, Bool.not_eq_true', Bool.and_eq_true, Bool.or_eq_true] at hc) <;> first | (exfalso; omega) | conv => whnf) | (refine ⟨_, wr64 (by first | omega | (simp only [Int.toNat_natCast, Int.reduceToNat]; omega)) (by first | omega | (simp only [Int.toNat_natCast, Int.reduceToNat]; omega)), ?_⟩; conv => whnf) | (refine And.intro (by first | omega | (simp only [Int.toNat_natCast, Int.reduceToNat, addZ]; omega) | (simp only [ByteArray.size_append, size_mk, List.length_cons, List.length_nil, Int.toNat_natCast, Int.reduceToNat]; omega) | exact ⟨rfl, by omega⟩ | ((repeat' apply And.intro) <;> first | exact trivial | omega) | decide +kernel) ?_; conv => whnf) | (refine And.intro (fun (ht : tg _ _ = true) => by (simp only [tg_ite, tg_nil, cn, Nat.reduceMul, Nat.reduceAdd, Nat.reduceEqDiff, ↓reduceIte, pickB_or, pickB_and, Bool.and_eq_true, Bool.or_eq_true, Bool.or_eq_false_iff, Bool.and_eq_false_iff, Bool.not_eq_true', Bool.not_eq_false', decide_eq_true_eq, decide_eq_false_iff_not, Int.toNat_natCast, Int.reduceToNat, ne_eq] at ht ⊢; first | omega | (simp only [Int.toNat_natCast, Int.reduceToNat]; omega))) ?_; conv => whnf) | (refine ⟨_, shl1 (by omega), ?_⟩; conv => whnf) | (refine ⟨_, wru64 (by first | omega | (simp only [Int.toNat_natCast, Int.reduceToNat]; omega)) (by first | omega | (simp only [Int.toNat_natCast, Int.reduceToNat]; omega)), ?_⟩; conv => whnf) | (refine ⟨_, fun _ => (IntKind.wrap_u64 _).symm, ?_⟩; conv => whnf) | ((first | refine CallK.mk _ _ (fun _ => within_S _ _ _) ?_ | refine CallL.mk _ _ (fun _ => within_S _ _ _) rfl (fun _ _ h => nomatch h) ?_ | (refine CallW.lent ?_; (conv => whnf); refine CallL.mk _ _ (fun _ => within_S _ _ _) rfl (fun _ _ h => nomatch h) ?_) | (refine CallW.lent ?_; (conv => whnf); refine And.intro (by omega) ?_; (conv => whnf); refine CallL.mk _ _ (fun _ => within_S _ _ _) rfl (fun _ _ h => nomatch h) ?_)); conv => whnf) | exact ⟨_, .keep rfl rfl⟩ | fail
  · exact ⟨_, .keep (by rw [typesB, all_no (p := fun t => inR t 0 65) Enc.d (l := l) (q := q) (by omega) (nt hb)]) rfl⟩
  · refine .mk (q + 1) ⟨by omega, all_step hv (nf hb)⟩ (by omega) ?_
    refine Ent.lp [] [] rfl rfl rfl ?_ ?_ <;> repeat' first | exact trivial | rfl | exact fun _ _ => rfl | omega | refine And.intro ?_ ?_ | (show (_ : Int) = _; first | omega | (simp only [Int.toNat_natCast]; omega))
  · exact ⟨_, .keep (congrArg AV.b (all_yes Enc.d fun i hi => hv i (by omega)).symm) rfl⟩
def letB (c : Int) : Bool := (decide (97 ≤ c) && decide (c ≤ 122)) || decide (c = 95)
def digB (c : Int) : Bool := decide (48 ≤ c) && decide (c ≤ 57)
theorem letter_S (c : Int) : ASpec Tryd.prog 36 [.i .u8 c] (.b (letB c)) [] := by
  refine ASpec.enter TYok mixed Tryd.func36 rfl Tryd.call36 Tryd.ntmps36 rfl (rs := [.tmp 2]) rfl (nodupB_ok rfl) (Clo.one rfl) (keep := [0, 2]) ?_; conv => whnf
  repeat' first | (refine And.intro (fun (hb : _ = true) => ?_) (fun (hb : _ = false) => ?_) <;> (try simp only [pickB_or, pickB_and] at hb) <;> (have hc := hb; try simp only [Int.toNat_natCast, Int.reduceToNat, Bool.or_eq_false_iff, Bool.and_eq_false_iff, Bool.not_eq_false', decide_eq_true_eq, decide_eq_false_iff_not, Bool.not_eq_true', Bool.and_eq_true, Bool.or_eq_true] at hc) <;> first | (exfalso; omega) | conv => whnf) | (refine ⟨_, wr64 (by first | omega | (simp only [Int.toNat_natCast, Int.reduceToNat]; omega)) (by first | omega | (simp only [Int.toNat_natCast, Int.reduceToNat]; omega)), ?_⟩; conv => whnf) | (refine And.intro (by first | omega | (simp only [Int.toNat_natCast, Int.reduceToNat, addZ]; omega) | (simp only [ByteArray.size_append, size_mk, List.length_cons, List.length_nil, Int.toNat_natCast, Int.reduceToNat]; omega) | exact ⟨rfl, by omega⟩ | ((repeat' apply And.intro) <;> first | exact trivial | omega) | decide +kernel) ?_; conv => whnf) | (refine And.intro (fun (ht : tg _ _ = true) => by (simp only [tg_ite, tg_nil, cn, Nat.reduceMul, Nat.reduceAdd, Nat.reduceEqDiff, ↓reduceIte, pickB_or, pickB_and, Bool.and_eq_true, Bool.or_eq_true, Bool.or_eq_false_iff, Bool.and_eq_false_iff, Bool.not_eq_true', Bool.not_eq_false', decide_eq_true_eq, decide_eq_false_iff_not, Int.toNat_natCast, Int.reduceToNat, ne_eq] at ht ⊢; first | omega | (simp only [Int.toNat_natCast, Int.reduceToNat]; omega))) ?_; conv => whnf) | (refine ⟨_, shl1 (by omega), ?_⟩; conv => whnf) | (refine ⟨_, wru64 (by first | omega | (simp only [Int.toNat_natCast, Int.reduceToNat]; omega)) (by first | omega | (simp only [Int.toNat_natCast, Int.reduceToNat]; omega)), ?_⟩; conv => whnf) | (refine ⟨_, fun _ => (IntKind.wrap_u64 _).symm, ?_⟩; conv => whnf) | exact ⟨_, .keep rfl rfl⟩ | fail
  all_goals exact ⟨_, .keep (by (try simp only [pickB_or, pickB_and]); unfold letB; repeat' (first | rfl | omega | split | (simp_all; done))) rfl⟩
theorem digit_S (c : Int) : ASpec Tryd.prog 58 [.i .u8 c] (.b (digB c)) [] := by
  refine ASpec.enter TYok mixed Tryd.func58 rfl Tryd.call58 Tryd.ntmps58 rfl (rs := [.tmp 2]) rfl (nodupB_ok rfl) (Clo.one rfl) (keep := [0, 2]) ?_; conv => whnf
  repeat' first | (refine And.intro (fun (hb : _ = true) => ?_) (fun (hb : _ = false) => ?_) <;> (try simp only [pickB_or, pickB_and] at hb) <;> (have hc := hb; try simp only [Int.toNat_natCast, Int.reduceToNat, Bool.or_eq_false_iff, Bool.and_eq_false_iff, Bool.not_eq_false', decide_eq_true_eq, decide_eq_false_iff_not, Bool.not_eq_true', Bool.and_eq_true, Bool.or_eq_true] at hc) <;> first | (exfalso; omega) | conv => whnf) | (refine ⟨_, wr64 (by first | omega | (simp only [Int.toNat_natCast, Int.reduceToNat]; omega)) (by first | omega | (simp only [Int.toNat_natCast, Int.reduceToNat]; omega)), ?_⟩; conv => whnf) | (refine And.intro (by first | omega | (simp only [Int.toNat_natCast, Int.reduceToNat, addZ]; omega) | (simp only [ByteArray.size_append, size_mk, List.length_cons, List.length_nil, Int.toNat_natCast, Int.reduceToNat]; omega) | exact ⟨rfl, by omega⟩ | ((repeat' apply And.intro) <;> first | exact trivial | omega) | decide +kernel) ?_; conv => whnf) | (refine And.intro (fun (ht : tg _ _ = true) => by (simp only [tg_ite, tg_nil, cn, Nat.reduceMul, Nat.reduceAdd, Nat.reduceEqDiff, ↓reduceIte, pickB_or, pickB_and, Bool.and_eq_true, Bool.or_eq_true, Bool.or_eq_false_iff, Bool.and_eq_false_iff, Bool.not_eq_true', Bool.not_eq_false', decide_eq_true_eq, decide_eq_false_iff_not, Int.toNat_natCast, Int.reduceToNat, ne_eq] at ht ⊢; first | omega | (simp only [Int.toNat_natCast, Int.reduceToNat]; omega))) ?_; conv => whnf) | (refine ⟨_, shl1 (by omega), ?_⟩; conv => whnf) | (refine ⟨_, wru64 (by first | omega | (simp only [Int.toNat_natCast, Int.reduceToNat]; omega)) (by first | omega | (simp only [Int.toNat_natCast, Int.reduceToNat]; omega)), ?_⟩; conv => whnf) | (refine ⟨_, fun _ => (IntKind.wrap_u64 _).symm, ?_⟩; conv => whnf) | exact ⟨_, .keep rfl rfl⟩ | fail
theorem kp_iff {s : ByteArray} {j : Nat} (h : j < s.size) : kp s j = (letB (byteAt s j) || digB (byteAt s j)) := by
  unfold kp kindB letB digB
  rw [if_neg (by omega)]
  rw [Bool.eq_iff_iff]
  simp only [Bool.not_eq_true', decide_eq_false_iff_not, Bool.or_eq_true, Bool.and_eq_true, decide_eq_true_eq]
  split
  · omega
  · split <;> omega
theorem kp_end {s : ByteArray} {j : Nat} (h : s.size ≤ j) : kp s j = false := by
  unfold kp kindB
  rw [if_pos (by omega)]; rfl
theorem behind_S (s : ByteArray) (hs : s.size < 4294967296) : ASpec Tryd.prog 37 [.s s, .i .i64 0] (.i .i64 (runN (kp s) s.size 0)) [] := by
  refine ASpec.enter TYok mixed Tryd.func37 rfl Tryd.call37 Tryd.ntmps37 rfl (rs := [.tmp 4]) rfl (nodupB_ok rfl) (Clo.one rfl) (keep := [0, 1, 4]) ?_; conv => whnf
  refine lp [1] (fun q : Nat => [.i .i64 q]) (fun q => []) (fun q => q ≤ s.size ∧ ∀ j, j < q → kp s j = true) (fun q => s.size - q) 0 ⟨by omega, fun i h => by omega⟩ ?_ fun q hq => ?_
  · refine Ent.lp [] [] rfl rfl rfl ?_ ?_ <;> repeat' first | exact trivial | rfl | exact fun _ _ => rfl | omega | refine And.intro ?_ ?_ | (show (_ : Int) = _; first | omega | (simp only [Int.toNat_natCast]; omega))
  conv => whnf
  obtain ⟨hq, hv⟩ := hq
  repeat' first | (refine And.intro (fun (hb : _ = true) => ?_) (fun (hb : _ = false) => ?_) <;> (try simp only [pickB_or, pickB_and] at hb) <;> (have hc := hb; try simp only [Int.toNat_natCast, Int.reduceToNat, Bool.or_eq_false_iff, Bool.and_eq_false_iff, Bool.not_eq_false', decide_eq_true_eq, decide_eq_false_iff_not, Bool.not_eq_true', Bool.and_eq_true, Bool.or_eq_true] at hc) <;> first | (exfalso; omega) | conv => whnf) | (refine ⟨_, wr64 (by first | omega | (simp only [Int.toNat_natCast, Int.reduceToNat]; omega)) (by first | omega | (simp only [Int.toNat_natCast, Int.reduceToNat]; omega)), ?_⟩; conv => whnf) | (refine And.intro (by first | omega | (simp only [Int.toNat_natCast, Int.reduceToNat, addZ]; omega) | (simp only [ByteArray.size_append, size_mk, List.length_cons, List.length_nil, Int.toNat_natCast, Int.reduceToNat]; omega) | exact ⟨rfl, by omega⟩ | ((repeat' apply And.intro) <;> first | exact trivial | omega) | decide +kernel) ?_; conv => whnf) | (refine And.intro (fun (ht : tg _ _ = true) => by (simp only [tg_ite, tg_nil, cn, Nat.reduceMul, Nat.reduceAdd, Nat.reduceEqDiff, ↓reduceIte, pickB_or, pickB_and, Bool.and_eq_true, Bool.or_eq_true, Bool.or_eq_false_iff, Bool.and_eq_false_iff, Bool.not_eq_true', Bool.not_eq_false', decide_eq_true_eq, decide_eq_false_iff_not, Int.toNat_natCast, Int.reduceToNat, ne_eq] at ht ⊢; first | omega | (simp only [Int.toNat_natCast, Int.reduceToNat]; omega))) ?_; conv => whnf) | (refine ⟨_, shl1 (by omega), ?_⟩; conv => whnf) | (refine ⟨_, wru64 (by first | omega | (simp only [Int.toNat_natCast, Int.reduceToNat]; omega)) (by first | omega | (simp only [Int.toNat_natCast, Int.reduceToNat]; omega)), ?_⟩; conv => whnf) | (refine ⟨_, fun _ => (IntKind.wrap_u64 _).symm, ?_⟩; conv => whnf) | ((first | refine CallK.mk _ _ (fun _ => letter_S _) ?_ | refine CallL.mk _ _ (fun _ => letter_S _) rfl (fun _ _ h => nomatch h) ?_ | (refine CallW.lent ?_; (conv => whnf); refine CallL.mk _ _ (fun _ => letter_S _) rfl (fun _ _ h => nomatch h) ?_) | (refine CallW.lent ?_; (conv => whnf); refine And.intro (by omega) ?_; (conv => whnf); refine CallL.mk _ _ (fun _ => letter_S _) rfl (fun _ _ h => nomatch h) ?_)); conv => whnf) | ((first | refine CallK.mk _ _ (fun _ => digit_S _) ?_ | refine CallL.mk _ _ (fun _ => digit_S _) rfl (fun _ _ h => nomatch h) ?_ | (refine CallW.lent ?_; (conv => whnf); refine CallL.mk _ _ (fun _ => digit_S _) rfl (fun _ _ h => nomatch h) ?_) | (refine CallW.lent ?_; (conv => whnf); refine And.intro (by omega) ?_; (conv => whnf); refine CallL.mk _ _ (fun _ => digit_S _) rfl (fun _ _ h => nomatch h) ?_)); conv => whnf) | exact ⟨_, .keep rfl rfl⟩ | fail
  · refine .mk (q + 1) ⟨by omega, all_step hv ?_⟩ (by omega) ?_
    · rw [kp_iff (by omega)]
      simp only [Bool.and_eq_true, decide_eq_true_eq] at hb
      exact hb.2
    · refine Ent.lp [] [] rfl rfl rfl ?_ ?_ <;> repeat' first | exact trivial | rfl | exact fun _ _ => rfl | omega | refine And.intro ?_ ?_ | (show (_ : Int) = _; first | omega | (simp only [Int.toNat_natCast]; omega))
  · have e : kp s (0 + q) = false := by
      rw [Nat.zero_add]
      rcases Nat.lt_or_ge q s.size with h | h
      · rw [kp_iff h]
        rw [decide_eq_true (show (q : Int) < s.size by omega)] at hb
        exact hb
      · exact kp_end h
    exact ⟨_, .keep (by rw [runN_eq (q := q) (f := s.size) (a := 0) (by omega) (fun j hj => by rw [Nat.zero_add]; exact hv j hj) e]) rfl⟩
theorem Clone_S (l : List Int) (hl : l.length < 4294967296) : ASpec Tryd.prog 72 [eL l] (eL l) [] := by
  refine ⟨Tryd.call72, Clo.one rfl, fun S w us hus hv => ?_⟩
  obtain ⟨q, us', rfl, e1, e3⟩ := hus
  unfold rels at e3; subst e3
  unfold eL rel at e1
  obtain ⟨a, cap, cs, rfl, h2, h3, h4⟩ := e1
  have fin : ∀ {n : Nat}, n = l.length → ∀ e w', (∃ v', e = Ending.returned v' ∧ w'.ownsRow w.heap.size 3 1 v' n (l.map (Value.int .i64)) ∧ v' ≠ .slice none 0 0 ∧ Below w.heap.size w w') → ∃ v β', e = .returned v ∧ Below w.heap.size w w' ∧
    (∀ id ob, lk ([] : Os) id = some ob → orel (fun k => (S k ∨ w.heap.size ≤ k) ∧ k ∉ feet [] β') β' w' (β' id) ob) ∧ (∀ k ∈ feet [] β', w.heap.size ≤ k ∧ k < w'.heap.size) ∧ (feet [] β').Nodup ∧ (([] : Os).map (·.1)).Nodup ∧ rel (fun k => (S k ∨ w.heap.size ≤ k) ∧ k ∉ feet [] β') β' w' (eL l) v := by
    rintro n hn e w' ⟨v', rfl, ho, hne, hb⟩
    refine ⟨v', W0, rfl, hb, fun id ob hl => by simp [lk] at hl, fun k hk => by simp [feet] at hk, by simp [feet], by simp, ?_⟩
    rcases ho.2 with ⟨rfl, _⟩ | ⟨g, cap', cur, rfl, hbg, hg, hnc, hcm, hcs, htake⟩
    · exact absurd rfl hne
    · subst hn
      refine ⟨_, _, fun i => [.int .i64 (l.getD i 0)], rfl, (fun z hz => by cases hz), by unfold maxLen; omega, fun i hi => ⟨⟨_, rfl, ?_⟩, ⟨rfl, rfl⟩, _, _, rfl, rfl, rfl⟩⟩
      intro w'' hz hbk j u hu
      have hgl : g < w'.heap.size := (Array.getElem?_eq_some_iff.1 hg).1
      have hk := (hbk g hgl ⟨.inr hbg, by simp [feet]⟩).trans hg
      cases j with
      | succ j => simp at hu
      | zero =>
        simp only [List.getElem?_cons_zero, Option.some.injEq] at hu
        subst hu
        rw [add_none, add_none, cell_blk (cs := cur.toList) (by rw [hk, Array.toArray_toList])]
        have : (cur.toList.take (l.length * 1))[i]? = some (.int .i64 (l.getD i 0)) := by
          rw [htake, List.getElem?_map, List.getElem?_eq_getElem hi, List.getD_eq_getElem?_getD, List.getElem?_eq_getElem hi]; rfl
        rw [List.getElem?_take] at this
        split at this
        · rw [show Enc.sz Int = 1 from rfl, Nat.zero_add, Nat.mul_one, Nat.add_zero]; exact this
        · cases this
  cases a with
  | none =>
    have h0 : l.length = 0 := by
      rcases Nat.eq_zero_or_pos l.length with q | q
      · exact q
      · obtain ⟨⟨ad, z, _⟩, _⟩ := h4 0 q; cases z
    refine (Tryd.slices_Clone_int_nil _ _ _).mono ?_
    rintro e w' ⟨rfl, rfl⟩
    refine ⟨_, W0, rfl, Below.refl _ _, fun id ob hl => by simp [lk] at hl, fun k hk => by simp [feet] at hk, by simp [feet], by simp, ?_⟩
    rw [List.eq_nil_of_length_eq_zero h0]
    exact ⟨none, 0, fun _ => [], rfl, (fun z hz => by cases hz), ⟨Nat.zero_le _, Nat.zero_le _⟩, fun i hi => by cases hi⟩
  | some a =>
    rcases Nat.eq_zero_or_pos l.length with h0 | h0
    · rw [h0]
      refine (Tryd.slices_Clone_int_zero a cap w).mono fun e w' h => fin (n := 0) h0.symm e w' ?_
      rw [List.eq_nil_of_length_eq_zero h0]; exact h
    · obtain ⟨b, off, sp⟩ := a
      cases sp with
      | some sp =>
        exfalso
        obtain ⟨⟨ad, z, hr⟩, ⟨hl1, _⟩, hr2⟩ := h4 0 h0
        cases z
        obtain ⟨v, vs, e1, _, _⟩ := hr2
        have := hr.now 0 v (by rw [e1]; rfl)
        rw [Nat.zero_mul] at this
        simp only [Addr.add, if_true, World.cell?] at this
        split at this <;> simp at this
      | none =>
        refine (Tryd.slices_Clone_int b off l.length cap l w (Nat.le_refl _) (by omega) (fun j hj => ?_)).mono fun e w' h => fin (n := l.length) rfl e w' ?_
        · obtain ⟨⟨ad, z, hr⟩, ⟨hl1, _⟩, hr2⟩ := h4 j hj
          cases z
          obtain ⟨v, vs, e1, e2, e3⟩ := hr2
          unfold rels at e3; subst e3
          unfold rel at e2; subst e2
          have := hr.now 0 _ (by rw [e1]; rfl)
          rw [add_none, add_none, show Enc.sz Int = 1 from rfl, Nat.mul_one, Nat.add_zero] at this
          exact this
        · rw [List.take_length] at h; exact h
theorem irCallee_S (m : ModE) (n : Int) (hm : siz m < 4294967296) (hn : -9223372036854775808 ≤ n) (hn2 : n ≤ 9223372036854775807) : ASpec Tryd.prog 59 [eS m, .i .i64 n] (.tup [eL (Callee m n).1, .i .i64 (Callee m n).2.1, .b (Callee m n).2.2]) [] := by
  have h0 : siz m = siz m.vars + siz m.exts + siz m.funcs := rfl
  have g2 := len_siz m.exts
  have g3 := len_siz m.funcs
  have k1 : ∀ i, (m.funcs.getD i Enc.d).params.length ≤ siz m.funcs := fun i => Nat.le_trans (params_le _) (siz_at m.funcs i)
  have k2 : ∀ i, (m.exts.getD i Enc.d).params.length ≤ siz m.exts := fun i => by
    have h4 : siz (m.exts.getD i Enc.d) ≤ siz m.exts := siz_at m.exts i
    have h5 : siz (m.exts.getD i Enc.d) = (m.exts.getD i Enc.d).name.size + siz (m.exts.getD i Enc.d).params := rfl
    have h6 := len_siz (m.exts.getD i Enc.d).params
    omega
  have k3 := k1 n.toNat
  refine ASpec.enter TYok mixed Tryd.func59 rfl Tryd.call59 Tryd.ntmps59 rfl (rs := [.tmp 4, .tmp 5, .tmp 6]) rfl (nodupB_ok rfl) (Clo.one rfl) (keep := [0, 1, 2, 4, 5, 6]) ?_; conv => whnf
  repeat' first | (refine And.intro (fun (hb : _ = true) => ?_) (fun (hb : _ = false) => ?_) <;> (try simp only [pickB_or, pickB_and] at hb) <;> (have hc := hb; try simp only [Int.toNat_natCast, Int.reduceToNat, Bool.or_eq_false_iff, Bool.and_eq_false_iff, Bool.not_eq_false', decide_eq_true_eq, decide_eq_false_iff_not, Bool.not_eq_true', Bool.and_eq_true, Bool.or_eq_true] at hc) <;> first | (exfalso; omega) | conv => whnf) | (refine ⟨_, wr64 (by first | omega | (simp only [Int.toNat_natCast, Int.reduceToNat]; omega)) (by first | omega | (simp only [Int.toNat_natCast, Int.reduceToNat]; omega)), ?_⟩; conv => whnf) | (refine And.intro (by first | omega | (simp only [Int.toNat_natCast, Int.reduceToNat, addZ]; omega) | (simp only [ByteArray.size_append, size_mk, List.length_cons, List.length_nil, Int.toNat_natCast, Int.reduceToNat]; omega) | exact ⟨rfl, by omega⟩ | ((repeat' apply And.intro) <;> first | exact trivial | omega) | decide +kernel) ?_; conv => whnf) | (refine And.intro (fun (ht : tg _ _ = true) => by (simp only [tg_ite, tg_nil, cn, Nat.reduceMul, Nat.reduceAdd, Nat.reduceEqDiff, ↓reduceIte, pickB_or, pickB_and, Bool.and_eq_true, Bool.or_eq_true, Bool.or_eq_false_iff, Bool.and_eq_false_iff, Bool.not_eq_true', Bool.not_eq_false', decide_eq_true_eq, decide_eq_false_iff_not, Int.toNat_natCast, Int.reduceToNat, ne_eq] at ht ⊢; first | omega | (simp only [Int.toNat_natCast, Int.reduceToNat]; omega))) ?_; conv => whnf) | (refine ⟨_, shl1 (by omega), ?_⟩; conv => whnf) | (refine ⟨_, wru64 (by first | omega | (simp only [Int.toNat_natCast, Int.reduceToNat]; omega)) (by first | omega | (simp only [Int.toNat_natCast, Int.reduceToNat]; omega)), ?_⟩; conv => whnf) | (refine ⟨_, fun _ => (IntKind.wrap_u64 _).symm, ?_⟩; conv => whnf) | ((first | refine CallK.mk _ _ (fun _ => Clone_S _ (by first | omega | (have := k1 n.toNat; omega) | (exact Nat.lt_of_le_of_lt (k2 _) (by omega)))) ?_ | refine CallL.mk _ _ (fun _ => Clone_S _ (by first | omega | (have := k1 n.toNat; omega) | (exact Nat.lt_of_le_of_lt (k2 _) (by omega)))) rfl (fun _ _ h => nomatch h) ?_ | (refine CallW.lent ?_; (conv => whnf); refine CallL.mk _ _ (fun _ => Clone_S _ (by first | omega | (have := k1 n.toNat; omega) | (exact Nat.lt_of_le_of_lt (k2 _) (by omega)))) rfl (fun _ _ h => nomatch h) ?_) | (refine CallW.lent ?_; (conv => whnf); refine And.intro (by omega) ?_; (conv => whnf); refine CallL.mk _ _ (fun _ => Clone_S _ (by first | omega | (have := k1 n.toNat; omega) | (exact Nat.lt_of_le_of_lt (k2 _) (by omega)))) rfl (fun _ _ h => nomatch h) ?_)); conv => whnf) | exact ⟨_, .keep rfl rfl⟩ | fail
  · exact ⟨_, .keep (by rw [Callee, if_pos hc]; rfl) rfl⟩
  · exact ⟨_, .keep (by rw [Callee, if_neg (by omega), if_pos (by omega)]; rfl) rfl⟩
  · rw [Callee, if_neg (by omega), if_neg (by omega)]
    exact ⟨_, .tup (.cons (.nilF rfl) (.cons (.keep rfl rfl) (.cons (.keep rfl rfl) .nil (nodupB_ok rfl)) (nodupB_ok rfl)) (nodupB_ok rfl))⟩
def shapeF (x : InsE) : Int × Int × Int × Bool :=
  if x.op < 1 ∨ 34 < x.op then (0, 0, 0, false) else
  if x.op ≤ 19 ∨ x.op = 28 then (2, 0, -1, true) else
  if x.op = 23 then (3, 0, -1, true) else
  if x.op = 25 then (x.args.length, x.args.length, -1, true) else
  if x.op = 26 then (0, 0, 65, true) else
  if x.op = 29 then (2, 0, 65, true) else
  if x.op = 30 then (x.args.length, 0, -1, true) else
  if x.op = 31 then (0, 1, 0, true) else
  if x.op = 32 then (1, 2, 0, true) else
  if x.op = 34 ∨ (x.op = 33 ∧ x.args.length = 0) then (0, 0, 0, true) else (1, 0, -1, true)
theorem shape_S (x : InsE) (h : siz x < 4294967296) : ASpec Tryd.prog 38 [eS x] (.tup [.i .i64 (shapeF x).1, .i .i64 (shapeF x).2.1, .i .i64 (shapeF x).2.2.1, .b (shapeF x).2.2.2]) [] := by
  have h1 := args_le x
  refine ASpec.enter TYok mixed Tryd.func38 rfl Tryd.call38 Tryd.ntmps38 rfl (rs := [.tmp 2, .tmp 3, .tmp 4, .tmp 5]) rfl (nodupB_ok rfl) (Clo.one rfl) (keep := [0, 1, 2, 3, 4, 5, 6]) ?_; conv => whnf
  repeat' first | (refine And.intro (fun (hb : _ = true) => ?_) (fun (hb : _ = false) => ?_) <;> (try simp only [pickB_or, pickB_and] at hb) <;> (have hc := hb; try simp only [Int.toNat_natCast, Int.reduceToNat, Bool.or_eq_false_iff, Bool.and_eq_false_iff, Bool.not_eq_false', decide_eq_true_eq, decide_eq_false_iff_not, Bool.not_eq_true', Bool.and_eq_true, Bool.or_eq_true] at hc) <;> first | (exfalso; omega) | conv => whnf) | (refine ⟨_, wr64 (by first | omega | (simp only [Int.toNat_natCast, Int.reduceToNat]; omega)) (by first | omega | (simp only [Int.toNat_natCast, Int.reduceToNat]; omega)), ?_⟩; conv => whnf) | (refine And.intro (by first | omega | (simp only [Int.toNat_natCast, Int.reduceToNat, addZ]; omega) | (simp only [ByteArray.size_append, size_mk, List.length_cons, List.length_nil, Int.toNat_natCast, Int.reduceToNat]; omega) | exact ⟨rfl, by omega⟩ | ((repeat' apply And.intro) <;> first | exact trivial | omega) | decide +kernel) ?_; conv => whnf) | (refine And.intro (fun (ht : tg _ _ = true) => by (simp only [tg_ite, tg_nil, cn, Nat.reduceMul, Nat.reduceAdd, Nat.reduceEqDiff, ↓reduceIte, pickB_or, pickB_and, Bool.and_eq_true, Bool.or_eq_true, Bool.or_eq_false_iff, Bool.and_eq_false_iff, Bool.not_eq_true', Bool.not_eq_false', decide_eq_true_eq, decide_eq_false_iff_not, Int.toNat_natCast, Int.reduceToNat, ne_eq] at ht ⊢; first | omega | (simp only [Int.toNat_natCast, Int.reduceToNat]; omega))) ?_; conv => whnf) | (refine ⟨_, shl1 (by omega), ?_⟩; conv => whnf) | (refine ⟨_, wru64 (by first | omega | (simp only [Int.toNat_natCast, Int.reduceToNat]; omega)) (by first | omega | (simp only [Int.toNat_natCast, Int.reduceToNat]; omega)), ?_⟩; conv => whnf) | (refine ⟨_, fun _ => (IntKind.wrap_u64 _).symm, ?_⟩; conv => whnf) | exact ⟨_, .keep rfl rfl⟩ | fail
  all_goals exact ⟨_, .keep (by (try simp only [pickB_or, pickB_and]); unfold shapeF; repeat' (first | rfl | omega | split | (simp_all; done))) rfl⟩
end Go.Proofs.YtilhkmlghhdpaaaDoor

/- Layer 5, the program: what may be said, further. -/
namespace Go.Proofs.YtilhkmlghhdpaaaDoor
open Go.RowKit
set_option linter.unusedVariables false
set_option linter.unusedSimpArgs false
set_option maxRecDepth 100000
set_option maxHeartbeats 4000000
theorem word_same (s : ByteArray) : ((!decide (s = ⟨#[]⟩) && letB (byteAt s 0)) && decide ((runN (kp s) s.size 0 : Int) = s.size)) = Word s := by
  have lp0 : ∀ (p : Nat → Bool) (f a : Nat), (∀ j, a + f ≤ j → p j = false) → runN p (f + 1) a = runN p f a := by
    intro p f
    induction f with
    | zero => intro a h; rw [runN, runN, h a (by omega)]; rfl
    | succ f ih => intro a h; rw [runN, ih (a + 1) (fun j hj => h j (by omega))]; rfl
  unfold Word
  rcases Nat.eq_zero_or_pos s.size with h | h
  · have e : s = ⟨#[]⟩ := by
      have : s.data = #[] := Array.eq_empty_of_size_eq_zero h
      cases s; simp_all
    subst e; rfl
  · have e1 : ¬ s = ⟨#[]⟩ := fun e => by rw [e] at h; exact absurd h (by decide)
    rw [decide_eq_false e1, decide_eq_true (show (0 : Int) < s.size by omega), Bool.not_false, Bool.true_and, Bool.true_and]
    have e2 : letB (byteAt s 0) = decide (kindB s 0 = 1) := by
      unfold letB kindB
      rw [if_neg (by omega), Bool.eq_iff_iff]
      simp only [Bool.or_eq_true, Bool.and_eq_true, decide_eq_true_eq]
      split
      · omega
      · split <;> omega
    rw [e2]
    unfold wordN
    cases hk : decide (kindB s 0 = 1) with
    | false =>
      rw [if_neg (by simpa using hk), Bool.false_and]
      exact (decide_eq_false (by omega)).symm
    | true =>
      have hk' : kindB s 0 = 1 := by simpa using hk
      rw [if_pos (show kindB s ((0 : Nat) : Int) = 1 from hk'), Bool.true_and]
      obtain ⟨f, hf⟩ : ∃ f, s.size = f + 1 := ⟨s.size - 1, by omega⟩
      have e3 : kp s 0 = true := by unfold kp; rw [show ((0 : Nat) : Int) = 0 from rfl, hk']; rfl
      have e4 : runN (kp s) s.size 0 = runN (kp s) s.size (0 + 1) + 1 := by
        rw [hf, runN, e3, cond_true, lp0 _ _ _ fun j hj => kp_end (by omega)]
      rw [e4]
theorem lexWord_S (s : ByteArray) (hs : s.size < 4294967296) : ASpec Tryd.prog 16 [.s s] (.b (Word s)) [] := by
  have h1 : 0 < s.size ∨ s = ⟨#[]⟩ := by
    rcases Nat.eq_zero_or_pos s.size with h | h
    · exact .inr (by have : s.data = #[] := Array.eq_empty_of_size_eq_zero h
                     cases s; simp_all)
    · exact .inl h
  have h2 : ¬ s = ⟨#[]⟩ → 0 < s.size := fun h => h1.resolve_right h
  rw [← word_same]
  refine ASpec.enter TYok mixed Tryd.func16 rfl Tryd.call16 Tryd.ntmps16 rfl (rs := [.tmp 2]) rfl (nodupB_ok rfl) (Clo.one rfl) (keep := [0, 2]) ?_; conv => whnf
  repeat' first | (refine And.intro (fun (hb : _ = true) => ?_) (fun (hb : _ = false) => ?_) <;> (try simp only [pickB_or, pickB_and] at hb) <;> (have hc := hb; try simp only [Int.toNat_natCast, Int.reduceToNat, Bool.or_eq_false_iff, Bool.and_eq_false_iff, Bool.not_eq_false', decide_eq_true_eq, decide_eq_false_iff_not, Bool.not_eq_true', Bool.and_eq_true, Bool.or_eq_true] at hc) <;> first | (exfalso; omega) | conv => whnf) | (refine ⟨_, wr64 (by first | omega | (simp only [Int.toNat_natCast, Int.reduceToNat]; omega)) (by first | omega | (simp only [Int.toNat_natCast, Int.reduceToNat]; omega)), ?_⟩; conv => whnf) | (refine And.intro (by first | omega | (simp only [Int.toNat_natCast, Int.reduceToNat, addZ]; omega) | (simp only [ByteArray.size_append, size_mk, List.length_cons, List.length_nil, Int.toNat_natCast, Int.reduceToNat]; omega) | exact ⟨rfl, by omega⟩ | ((repeat' apply And.intro) <;> first | exact trivial | omega) | decide +kernel) ?_; conv => whnf) | (refine And.intro (fun (ht : tg _ _ = true) => by (simp only [tg_ite, tg_nil, cn, Nat.reduceMul, Nat.reduceAdd, Nat.reduceEqDiff, ↓reduceIte, pickB_or, pickB_and, Bool.and_eq_true, Bool.or_eq_true, Bool.or_eq_false_iff, Bool.and_eq_false_iff, Bool.not_eq_true', Bool.not_eq_false', decide_eq_true_eq, decide_eq_false_iff_not, Int.toNat_natCast, Int.reduceToNat, ne_eq] at ht ⊢; first | omega | (simp only [Int.toNat_natCast, Int.reduceToNat]; omega))) ?_; conv => whnf) | (refine ⟨_, shl1 (by omega), ?_⟩; conv => whnf) | (refine ⟨_, wru64 (by first | omega | (simp only [Int.toNat_natCast, Int.reduceToNat]; omega)) (by first | omega | (simp only [Int.toNat_natCast, Int.reduceToNat]; omega)), ?_⟩; conv => whnf) | (refine ⟨_, fun _ => (IntKind.wrap_u64 _).symm, ?_⟩; conv => whnf) | exact ⟨_, .keep rfl rfl⟩ | fail
  refine And.intro (fun ht => by simp only [tg_ite, cn, Bool.not_eq_true', decide_eq_false_iff_not, ↓reduceIte] at ht; have := h2 ht; omega) ?_
  conv => whnf
  repeat' first | (refine And.intro (fun (hb : _ = true) => ?_) (fun (hb : _ = false) => ?_) <;> (try simp only [pickB_or, pickB_and] at hb) <;> (have hc := hb; try simp only [Int.toNat_natCast, Int.reduceToNat, Bool.or_eq_false_iff, Bool.and_eq_false_iff, Bool.not_eq_false', decide_eq_true_eq, decide_eq_false_iff_not, Bool.not_eq_true', Bool.and_eq_true, Bool.or_eq_true] at hc) <;> first | (exfalso; omega) | conv => whnf) | (refine ⟨_, wr64 (by first | omega | (simp only [Int.toNat_natCast, Int.reduceToNat]; omega)) (by first | omega | (simp only [Int.toNat_natCast, Int.reduceToNat]; omega)), ?_⟩; conv => whnf) | (refine And.intro (by first | omega | (simp only [Int.toNat_natCast, Int.reduceToNat, addZ]; omega) | (simp only [ByteArray.size_append, size_mk, List.length_cons, List.length_nil, Int.toNat_natCast, Int.reduceToNat]; omega) | exact ⟨rfl, by omega⟩ | ((repeat' apply And.intro) <;> first | exact trivial | omega) | decide +kernel) ?_; conv => whnf) | (refine And.intro (fun (ht : tg _ _ = true) => by (simp only [tg_ite, tg_nil, cn, Nat.reduceMul, Nat.reduceAdd, Nat.reduceEqDiff, ↓reduceIte, pickB_or, pickB_and, Bool.and_eq_true, Bool.or_eq_true, Bool.or_eq_false_iff, Bool.and_eq_false_iff, Bool.not_eq_true', Bool.not_eq_false', decide_eq_true_eq, decide_eq_false_iff_not, Int.toNat_natCast, Int.reduceToNat, ne_eq] at ht ⊢; first | omega | (simp only [Int.toNat_natCast, Int.reduceToNat]; omega))) ?_; conv => whnf) | (refine ⟨_, shl1 (by omega), ?_⟩; conv => whnf) | (refine ⟨_, wru64 (by first | omega | (simp only [Int.toNat_natCast, Int.reduceToNat]; omega)) (by first | omega | (simp only [Int.toNat_natCast, Int.reduceToNat]; omega)), ?_⟩; conv => whnf) | (refine ⟨_, fun _ => (IntKind.wrap_u64 _).symm, ?_⟩; conv => whnf) | ((first | refine CallK.mk _ _ (fun _ => letter_S _) ?_ | refine CallL.mk _ _ (fun _ => letter_S _) rfl (fun _ _ h => nomatch h) ?_ | (refine CallW.lent ?_; (conv => whnf); refine CallL.mk _ _ (fun _ => letter_S _) rfl (fun _ _ h => nomatch h) ?_) | (refine CallW.lent ?_; (conv => whnf); refine And.intro (by omega) ?_; (conv => whnf); refine CallL.mk _ _ (fun _ => letter_S _) rfl (fun _ _ h => nomatch h) ?_)); conv => whnf) | ((first | refine CallK.mk _ _ (fun _ => behind_S s hs) ?_ | refine CallL.mk _ _ (fun _ => behind_S s hs) rfl (fun _ _ h => nomatch h) ?_ | (refine CallW.lent ?_; (conv => whnf); refine CallL.mk _ _ (fun _ => behind_S s hs) rfl (fun _ _ h => nomatch h) ?_) | (refine CallW.lent ?_; (conv => whnf); refine And.intro (by omega) ?_; (conv => whnf); refine CallL.mk _ _ (fun _ => behind_S s hs) rfl (fun _ _ h => nomatch h) ?_)); conv => whnf) | exact ⟨_, .keep rfl rfl⟩ | fail
def number5 (m : ModE) (x : InsE) : Bool :=
  if x.op = 20 ∨ x.op = 21 ∨ x.op = 22 then inR x.n 0 65 else if x.op = 26 then decide (0 ≤ x.n) else if x.op = 30 then (Callee m x.n).2.2 && decide ((Callee m x.n).2.1 = x.t) else decide (x.n = 0)
theorem number_S (m : ModE) (x : InsE) (hm : siz m < 4294967296) (hn : -9223372036854775808 ≤ x.n ∧ x.n ≤ 9223372036854775807) : ASpec Tryd.prog 39 [eS m, eS x] (.b (number5 m x)) [] := by
  refine ASpec.enter TYok mixed Tryd.func39 rfl Tryd.call39 Tryd.ntmps39 rfl (rs := [.tmp 4]) rfl (nodupB_ok rfl) (Clo.one rfl) (keep := [0, 1, 2, 3, 4, 6, 7, 9]) ?_; conv => whnf
  repeat' first | (refine And.intro (fun (hb : _ = true) => ?_) (fun (hb : _ = false) => ?_) <;> (try simp only [pickB_or, pickB_and] at hb) <;> (have hc := hb; try simp only [Int.toNat_natCast, Int.reduceToNat, Bool.or_eq_false_iff, Bool.and_eq_false_iff, Bool.not_eq_false', decide_eq_true_eq, decide_eq_false_iff_not, Bool.not_eq_true', Bool.and_eq_true, Bool.or_eq_true] at hc) <;> first | (exfalso; omega) | conv => whnf) | (refine ⟨_, wr64 (by first | omega | (simp only [Int.toNat_natCast, Int.reduceToNat]; omega)) (by first | omega | (simp only [Int.toNat_natCast, Int.reduceToNat]; omega)), ?_⟩; conv => whnf) | (refine And.intro (by first | omega | (simp only [Int.toNat_natCast, Int.reduceToNat, addZ]; omega) | (simp only [ByteArray.size_append, size_mk, List.length_cons, List.length_nil, Int.toNat_natCast, Int.reduceToNat]; omega) | exact ⟨rfl, by omega⟩ | ((repeat' apply And.intro) <;> first | exact trivial | omega) | decide +kernel) ?_; conv => whnf) | (refine And.intro (fun (ht : tg _ _ = true) => by (simp only [tg_ite, tg_nil, cn, Nat.reduceMul, Nat.reduceAdd, Nat.reduceEqDiff, ↓reduceIte, pickB_or, pickB_and, Bool.and_eq_true, Bool.or_eq_true, Bool.or_eq_false_iff, Bool.and_eq_false_iff, Bool.not_eq_true', Bool.not_eq_false', decide_eq_true_eq, decide_eq_false_iff_not, Int.toNat_natCast, Int.reduceToNat, ne_eq] at ht ⊢; first | omega | (simp only [Int.toNat_natCast, Int.reduceToNat]; omega))) ?_; conv => whnf) | (refine ⟨_, shl1 (by omega), ?_⟩; conv => whnf) | (refine ⟨_, wru64 (by first | omega | (simp only [Int.toNat_natCast, Int.reduceToNat]; omega)) (by first | omega | (simp only [Int.toNat_natCast, Int.reduceToNat]; omega)), ?_⟩; conv => whnf) | (refine ⟨_, fun _ => (IntKind.wrap_u64 _).symm, ?_⟩; conv => whnf) | ((first | refine CallK.mk _ _ (fun _ => within_S _ _ _) ?_ | refine CallL.mk _ _ (fun _ => within_S _ _ _) rfl (fun _ _ h => nomatch h) ?_ | (refine CallW.lent ?_; (conv => whnf); refine CallL.mk _ _ (fun _ => within_S _ _ _) rfl (fun _ _ h => nomatch h) ?_) | (refine CallW.lent ?_; (conv => whnf); refine And.intro (by omega) ?_; (conv => whnf); refine CallL.mk _ _ (fun _ => within_S _ _ _) rfl (fun _ _ h => nomatch h) ?_)); conv => whnf) | ((first | refine CallK.mk _ _ (fun _ => irCallee_S m _ hm (by omega) (by omega)) ?_ | refine CallL.mk _ _ (fun _ => irCallee_S m _ hm (by omega) (by omega)) rfl (fun _ _ h => nomatch h) ?_ | (refine CallW.lent ?_; (conv => whnf); refine CallL.mk _ _ (fun _ => irCallee_S m _ hm (by omega) (by omega)) rfl (fun _ _ h => nomatch h) ?_) | (refine CallW.lent ?_; (conv => whnf); refine And.intro (by omega) ?_; (conv => whnf); refine CallL.mk _ _ (fun _ => irCallee_S m _ hm (by omega) (by omega)) rfl (fun _ _ h => nomatch h) ?_)); conv => whnf) | exact ⟨_, .keep rfl rfl⟩ | fail
  all_goals exact ⟨_, .keep (by (try simp only [pickB_or, pickB_and]); unfold number5; repeat' (first | rfl | omega | split | (simp_all; done))) rfl⟩
theorem operand_S (m : ModE) (v : Opd) (hm : m.vars.length < 4294967296) : ASpec Tryd.prog 41 [eS m, eS v] (.b (operand5 m v)) [] := by
  refine ASpec.enter TYok mixed Tryd.func41 rfl Tryd.call41 Tryd.ntmps41 rfl (rs := [.tmp 4]) rfl (nodupB_ok rfl) (Clo.one rfl) (keep := [0, 1, 2, 3, 4, 6]) ?_; conv => whnf
  repeat' first | (refine And.intro (fun (hb : _ = true) => ?_) (fun (hb : _ = false) => ?_) <;> (try simp only [pickB_or, pickB_and] at hb) <;> (have hc := hb; try simp only [Int.toNat_natCast, Int.reduceToNat, Bool.or_eq_false_iff, Bool.and_eq_false_iff, Bool.not_eq_false', decide_eq_true_eq, decide_eq_false_iff_not, Bool.not_eq_true', Bool.and_eq_true, Bool.or_eq_true] at hc) <;> first | (exfalso; omega) | conv => whnf) | (refine ⟨_, wr64 (by first | omega | (simp only [Int.toNat_natCast, Int.reduceToNat]; omega)) (by first | omega | (simp only [Int.toNat_natCast, Int.reduceToNat]; omega)), ?_⟩; conv => whnf) | (refine And.intro (by first | omega | (simp only [Int.toNat_natCast, Int.reduceToNat, addZ]; omega) | (simp only [ByteArray.size_append, size_mk, List.length_cons, List.length_nil, Int.toNat_natCast, Int.reduceToNat]; omega) | exact ⟨rfl, by omega⟩ | ((repeat' apply And.intro) <;> first | exact trivial | omega) | decide +kernel) ?_; conv => whnf) | (refine And.intro (fun (ht : tg _ _ = true) => by (simp only [tg_ite, tg_nil, cn, Nat.reduceMul, Nat.reduceAdd, Nat.reduceEqDiff, ↓reduceIte, pickB_or, pickB_and, Bool.and_eq_true, Bool.or_eq_true, Bool.or_eq_false_iff, Bool.and_eq_false_iff, Bool.not_eq_true', Bool.not_eq_false', decide_eq_true_eq, decide_eq_false_iff_not, Int.toNat_natCast, Int.reduceToNat, ne_eq] at ht ⊢; first | omega | (simp only [Int.toNat_natCast, Int.reduceToNat]; omega))) ?_; conv => whnf) | (refine ⟨_, shl1 (by omega), ?_⟩; conv => whnf) | (refine ⟨_, wru64 (by first | omega | (simp only [Int.toNat_natCast, Int.reduceToNat]; omega)) (by first | omega | (simp only [Int.toNat_natCast, Int.reduceToNat]; omega)), ?_⟩; conv => whnf) | (refine ⟨_, fun _ => (IntKind.wrap_u64 _).symm, ?_⟩; conv => whnf) | ((first | refine CallK.mk _ _ (fun _ => within_S _ _ _) ?_ | refine CallL.mk _ _ (fun _ => within_S _ _ _) rfl (fun _ _ h => nomatch h) ?_ | (refine CallW.lent ?_; (conv => whnf); refine CallL.mk _ _ (fun _ => within_S _ _ _) rfl (fun _ _ h => nomatch h) ?_) | (refine CallW.lent ?_; (conv => whnf); refine And.intro (by omega) ?_; (conv => whnf); refine CallL.mk _ _ (fun _ => within_S _ _ _) rfl (fun _ _ h => nomatch h) ?_)); conv => whnf) | exact ⟨_, .keep rfl rfl⟩ | fail
  · exact ⟨_, .keep (by (try simp only [pickB_or, pickB_and]); unfold operand5; repeat' (first | rfl | omega | split | (simp_all; done))) rfl⟩
  · exact ⟨_, .keep (by (try simp only [pickB_or, pickB_and]); unfold operand5; repeat' (first | rfl | omega | split | (simp_all; done))) rfl⟩
  · have e : inR v.n 0 (m.vars.length - 1) = (decide (0 ≤ v.n) && decide (v.n < m.vars.length)) := by
      unfold inR; congr 1; exact decide_eq_decide.2 (by omega)
    exact ⟨_, .keep (by simp only [pickB_and]; rw [e, operand5, if_neg (by omega), if_neg (by omega), if_neg (by omega), if_pos hc]) rfl⟩
  · refine ⟨_, .keep (congrArg AV.b ?_) rfl⟩
    simp only [pickB_and]
    by_cases h3 : v.k = 3 ∨ v.k = 4
    · rw [operand5, if_neg (by omega), if_neg (by omega), if_pos h3, inR_t (by omega), Bool.true_and]
    · rw [operand5, if_neg (by omega), if_neg (by omega), if_neg h3, if_neg hc, inR_f (by omega), Bool.false_and, Bool.false_and]
def badA (m : ModE) (x : InsE) : Bool := ((((!(shapeF x).2.2.2 || !decide ((x.args.length : Int) = (shapeF x).1)) || !decide ((x.to.length : Int) = (shapeF x).2.1)) || !inR x.t 0 65) || (decide (0 ≤ (shapeF x).2.2.1) && !decide (x.t = (shapeF x).2.2.1))) || !number5 m x
def badB (x : InsE) : Bool := !decide (x.f = 0) && (decide (13 < x.op) || !inR x.f 0 7)
def instrP (m : ModE) (x : InsE) : Bool := !badA m x && (!badB x && ((register5 x && x.to.all fun t => inR t 0 999) && x.args.all (operand5 m)))
theorem instr_S (m : ModE) (x : InsE) (hm : siz m < 4294967296) (h : siz x < 4294967296) (hn : -9223372036854775808 ≤ x.n ∧ x.n ≤ 9223372036854775807) : ASpec Tryd.prog 19 [eS m, eS x] (.b (instrP m x)) [] := by
  have h1 := args_le x
  have h2 := to_le x
  have h3 := len_siz m.vars
  have h0 : siz m = siz m.vars + siz m.exts + siz m.funcs := rfl
  refine ASpec.enter TYok mixed Tryd.func19 rfl Tryd.call19 Tryd.ntmps19 rfl (rs := [.tmp 4]) rfl (nodupB_ok rfl) (Clo.one rfl) (keep := [0, 1, 2, 3, 4, 5, 6, 7, 8, 9, 11, 13, 93, 94, 95, 106, 107, 108]) ?_; conv => whnf
  repeat' first | (refine And.intro (fun (hb : _ = true) => ?_) (fun (hb : _ = false) => ?_) <;> (try simp only [pickB_or, pickB_and] at hb) <;> (have hc := hb; try simp only [Int.toNat_natCast, Int.reduceToNat, Bool.or_eq_false_iff, Bool.and_eq_false_iff, Bool.not_eq_false', decide_eq_true_eq, decide_eq_false_iff_not, Bool.not_eq_true', Bool.and_eq_true, Bool.or_eq_true] at hc) <;> first | (exfalso; omega) | conv => whnf) | (refine ⟨_, wr64 (by first | omega | (simp only [Int.toNat_natCast, Int.reduceToNat]; omega)) (by first | omega | (simp only [Int.toNat_natCast, Int.reduceToNat]; omega)), ?_⟩; conv => whnf) | (refine And.intro (by first | omega | (simp only [Int.toNat_natCast, Int.reduceToNat, addZ]; omega) | (simp only [ByteArray.size_append, size_mk, List.length_cons, List.length_nil, Int.toNat_natCast, Int.reduceToNat]; omega) | exact ⟨rfl, by omega⟩ | ((repeat' apply And.intro) <;> first | exact trivial | omega) | decide +kernel) ?_; conv => whnf) | (refine And.intro (fun (ht : tg _ _ = true) => by (simp only [tg_ite, tg_nil, cn, Nat.reduceMul, Nat.reduceAdd, Nat.reduceEqDiff, ↓reduceIte, pickB_or, pickB_and, Bool.and_eq_true, Bool.or_eq_true, Bool.or_eq_false_iff, Bool.and_eq_false_iff, Bool.not_eq_true', Bool.not_eq_false', decide_eq_true_eq, decide_eq_false_iff_not, Int.toNat_natCast, Int.reduceToNat, ne_eq] at ht ⊢; first | omega | (simp only [Int.toNat_natCast, Int.reduceToNat]; omega))) ?_; conv => whnf) | (refine ⟨_, shl1 (by omega), ?_⟩; conv => whnf) | (refine ⟨_, wru64 (by first | omega | (simp only [Int.toNat_natCast, Int.reduceToNat]; omega)) (by first | omega | (simp only [Int.toNat_natCast, Int.reduceToNat]; omega)), ?_⟩; conv => whnf) | (refine ⟨_, fun _ => (IntKind.wrap_u64 _).symm, ?_⟩; conv => whnf) | ((first | refine CallK.mk _ _ (fun _ => shape_S x h) ?_ | refine CallL.mk _ _ (fun _ => shape_S x h) rfl (fun _ _ h => nomatch h) ?_ | (refine CallW.lent ?_; (conv => whnf); refine CallL.mk _ _ (fun _ => shape_S x h) rfl (fun _ _ h => nomatch h) ?_) | (refine CallW.lent ?_; (conv => whnf); refine And.intro (by omega) ?_; (conv => whnf); refine CallL.mk _ _ (fun _ => shape_S x h) rfl (fun _ _ h => nomatch h) ?_)); conv => whnf) | ((first | refine CallK.mk _ _ (fun _ => within_S _ _ _) ?_ | refine CallL.mk _ _ (fun _ => within_S _ _ _) rfl (fun _ _ h => nomatch h) ?_ | (refine CallW.lent ?_; (conv => whnf); refine CallL.mk _ _ (fun _ => within_S _ _ _) rfl (fun _ _ h => nomatch h) ?_) | (refine CallW.lent ?_; (conv => whnf); refine And.intro (by omega) ?_; (conv => whnf); refine CallL.mk _ _ (fun _ => within_S _ _ _) rfl (fun _ _ h => nomatch h) ?_)); conv => whnf) | ((first | refine CallK.mk _ _ (fun _ => number_S m x hm hn) ?_ | refine CallL.mk _ _ (fun _ => number_S m x hm hn) rfl (fun _ _ h => nomatch h) ?_ | (refine CallW.lent ?_; (conv => whnf); refine CallL.mk _ _ (fun _ => number_S m x hm hn) rfl (fun _ _ h => nomatch h) ?_) | (refine CallW.lent ?_; (conv => whnf); refine And.intro (by omega) ?_; (conv => whnf); refine CallL.mk _ _ (fun _ => number_S m x hm hn) rfl (fun _ _ h => nomatch h) ?_)); conv => whnf) | ((first | refine CallK.mk _ _ (fun _ => irIdle_S _) ?_ | refine CallL.mk _ _ (fun _ => irIdle_S _) rfl (fun _ _ h => nomatch h) ?_ | (refine CallW.lent ?_; (conv => whnf); refine CallL.mk _ _ (fun _ => irIdle_S _) rfl (fun _ _ h => nomatch h) ?_) | (refine CallW.lent ?_; (conv => whnf); refine And.intro (by omega) ?_; (conv => whnf); refine CallL.mk _ _ (fun _ => irIdle_S _) rfl (fun _ _ h => nomatch h) ?_)); conv => whnf) | exact ⟨_, .keep rfl rfl⟩ | fail
  · have e : badA m x = true := hb
    exact ⟨_, .keep (by rw [instrP, e]; rfl) rfl⟩
  · have e : badB x = true := hb
    exact ⟨_, .keep (by rw [instrP, e, Bool.not_true, Bool.false_and, Bool.and_false]) rfl⟩
  all_goals
    have eA : badA m x = false := by assumption
    have eB : badB x = false := by assumption
    refine lp [95, 9] (fun q : Nat => [.i .i64 q, .b (register5 x && (x.to.take q).all fun t => inR t 0 999)]) (fun q => [(2, bx m), (3, bx x)]) (fun q => q ≤ x.to.length) (fun q => x.to.length - q) 0 (by omega) ?_ fun q hq => ?_
    · refine Ent.lp [] [] rfl rfl rfl ?_ ?_ <;> repeat' first | exact trivial | rfl | exact fun _ _ => rfl | omega | refine And.intro ?_ ?_ | (show (_ : Int) = _; first | omega | (simp only [Int.toNat_natCast]; omega))
      all_goals (show _ = (register5 x && true); rw [Bool.and_true, register5])
      all_goals first | (rw [if_pos hc]; simp only [pickB_or]) | (rw [if_neg (by omega), if_pos (by first | exact nf hb | exact hc)]) | (rw [if_neg (by omega), if_neg (by first | (rw [nt hb]; exact Bool.false_ne_true) | (rw [hc]; exact Bool.false_ne_true))])
    conv => whnf
    repeat' first | (refine And.intro (fun (hb : _ = true) => ?_) (fun (hb : _ = false) => ?_) <;> (try simp only [pickB_or, pickB_and] at hb) <;> (have hc := hb; try simp only [Int.toNat_natCast, Int.reduceToNat, Bool.or_eq_false_iff, Bool.and_eq_false_iff, Bool.not_eq_false', decide_eq_true_eq, decide_eq_false_iff_not, Bool.not_eq_true', Bool.and_eq_true, Bool.or_eq_true] at hc) <;> first | (exfalso; omega) | conv => whnf) | (refine ⟨_, wr64 (by first | omega | (simp only [Int.toNat_natCast, Int.reduceToNat]; omega)) (by first | omega | (simp only [Int.toNat_natCast, Int.reduceToNat]; omega)), ?_⟩; conv => whnf) | (refine And.intro (by first | omega | (simp only [Int.toNat_natCast, Int.reduceToNat, addZ]; omega) | (simp only [ByteArray.size_append, size_mk, List.length_cons, List.length_nil, Int.toNat_natCast, Int.reduceToNat]; omega) | exact ⟨rfl, by omega⟩ | ((repeat' apply And.intro) <;> first | exact trivial | omega) | decide +kernel) ?_; conv => whnf) | (refine And.intro (fun (ht : tg _ _ = true) => by (simp only [tg_ite, tg_nil, cn, Nat.reduceMul, Nat.reduceAdd, Nat.reduceEqDiff, ↓reduceIte, pickB_or, pickB_and, Bool.and_eq_true, Bool.or_eq_true, Bool.or_eq_false_iff, Bool.and_eq_false_iff, Bool.not_eq_true', Bool.not_eq_false', decide_eq_true_eq, decide_eq_false_iff_not, Int.toNat_natCast, Int.reduceToNat, ne_eq] at ht ⊢; first | omega | (simp only [Int.toNat_natCast, Int.reduceToNat]; omega))) ?_; conv => whnf) | (refine ⟨_, shl1 (by omega), ?_⟩; conv => whnf) | (refine ⟨_, wru64 (by first | omega | (simp only [Int.toNat_natCast, Int.reduceToNat]; omega)) (by first | omega | (simp only [Int.toNat_natCast, Int.reduceToNat]; omega)), ?_⟩; conv => whnf) | (refine ⟨_, fun _ => (IntKind.wrap_u64 _).symm, ?_⟩; conv => whnf) | ((first | refine CallK.mk _ _ (fun _ => within_S _ _ _) ?_ | refine CallL.mk _ _ (fun _ => within_S _ _ _) rfl (fun _ _ h => nomatch h) ?_ | (refine CallW.lent ?_; (conv => whnf); refine CallL.mk _ _ (fun _ => within_S _ _ _) rfl (fun _ _ h => nomatch h) ?_) | (refine CallW.lent ?_; (conv => whnf); refine And.intro (by omega) ?_; (conv => whnf); refine CallL.mk _ _ (fun _ => within_S _ _ _) rfl (fun _ _ h => nomatch h) ?_)); conv => whnf) | exact ⟨_, .keep rfl rfl⟩ | fail
    · have e : (register5 x && (x.to.take (q + 1)).all fun t => inR t 0 999) = ((register5 x && (x.to.take q).all fun t => inR t 0 999) && inR (x.to.getD q Enc.d) 0 999) := by rw [all_take Enc.d (by omega), Bool.and_assoc]
      refine .mk (q + 1) (by omega) (by omega) ?_
      rw [e]
      refine Ent.lp [] [] rfl rfl rfl ?_ ?_ <;> repeat' first | exact trivial | rfl | exact fun _ _ => rfl | omega | refine And.intro ?_ ?_ | (show (_ : Int) = _; first | omega | (simp only [Int.toNat_natCast]; omega))
    have e1 : x.to.take q = x.to := List.take_of_length_le (by omega)
    rw [e1]
    refine lp [108, 9] (fun q : Nat => [.i .i64 q, .b ((register5 x && x.to.all fun t => inR t 0 999) && (x.args.take q).all (operand5 m))]) (fun q => [(2, bx m), (3, bx x)]) (fun q => q ≤ x.args.length) (fun q => x.args.length - q) 0 (by omega) ?_ fun k hk => ?_
    · refine Ent.lp [] [] rfl rfl rfl ?_ ?_ <;> repeat' first | exact trivial | rfl | exact fun _ _ => rfl | omega | refine And.intro ?_ ?_ | (show (_ : Int) = _; first | omega | (simp only [Int.toNat_natCast]; omega))
      all_goals exact (Bool.and_true _).symm
    conv => whnf
    repeat' first | (refine And.intro (fun (hb : _ = true) => ?_) (fun (hb : _ = false) => ?_) <;> (try simp only [pickB_or, pickB_and] at hb) <;> (have hc := hb; try simp only [Int.toNat_natCast, Int.reduceToNat, Bool.or_eq_false_iff, Bool.and_eq_false_iff, Bool.not_eq_false', decide_eq_true_eq, decide_eq_false_iff_not, Bool.not_eq_true', Bool.and_eq_true, Bool.or_eq_true] at hc) <;> first | (exfalso; omega) | conv => whnf) | (refine ⟨_, wr64 (by first | omega | (simp only [Int.toNat_natCast, Int.reduceToNat]; omega)) (by first | omega | (simp only [Int.toNat_natCast, Int.reduceToNat]; omega)), ?_⟩; conv => whnf) | (refine And.intro (by first | omega | (simp only [Int.toNat_natCast, Int.reduceToNat, addZ]; omega) | (simp only [ByteArray.size_append, size_mk, List.length_cons, List.length_nil, Int.toNat_natCast, Int.reduceToNat]; omega) | exact ⟨rfl, by omega⟩ | ((repeat' apply And.intro) <;> first | exact trivial | omega) | decide +kernel) ?_; conv => whnf) | (refine And.intro (fun (ht : tg _ _ = true) => by (simp only [tg_ite, tg_nil, cn, Nat.reduceMul, Nat.reduceAdd, Nat.reduceEqDiff, ↓reduceIte, pickB_or, pickB_and, Bool.and_eq_true, Bool.or_eq_true, Bool.or_eq_false_iff, Bool.and_eq_false_iff, Bool.not_eq_true', Bool.not_eq_false', decide_eq_true_eq, decide_eq_false_iff_not, Int.toNat_natCast, Int.reduceToNat, ne_eq] at ht ⊢; first | omega | (simp only [Int.toNat_natCast, Int.reduceToNat]; omega))) ?_; conv => whnf) | (refine ⟨_, shl1 (by omega), ?_⟩; conv => whnf) | (refine ⟨_, wru64 (by first | omega | (simp only [Int.toNat_natCast, Int.reduceToNat]; omega)) (by first | omega | (simp only [Int.toNat_natCast, Int.reduceToNat]; omega)), ?_⟩; conv => whnf) | (refine ⟨_, fun _ => (IntKind.wrap_u64 _).symm, ?_⟩; conv => whnf) | ((first | refine CallK.mk _ _ (fun _ => operand_S m _ (by first | omega | (simp only [Int.toNat_natCast, Int.reduceToNat]; omega))) ?_ | refine CallL.mk _ _ (fun _ => operand_S m _ (by first | omega | (simp only [Int.toNat_natCast, Int.reduceToNat]; omega))) rfl (fun _ _ h => nomatch h) ?_ | (refine CallW.lent ?_; (conv => whnf); refine CallL.mk _ _ (fun _ => operand_S m _ (by first | omega | (simp only [Int.toNat_natCast, Int.reduceToNat]; omega))) rfl (fun _ _ h => nomatch h) ?_) | (refine CallW.lent ?_; (conv => whnf); refine And.intro (by omega) ?_; (conv => whnf); refine CallL.mk _ _ (fun _ => operand_S m _ (by first | omega | (simp only [Int.toNat_natCast, Int.reduceToNat]; omega))) rfl (fun _ _ h => nomatch h) ?_)); conv => whnf) | exact ⟨_, .keep rfl rfl⟩ | fail
    · have e : ((register5 x && x.to.all fun t => inR t 0 999) && (x.args.take (k + 1)).all (operand5 m)) = (((register5 x && x.to.all fun t => inR t 0 999) && (x.args.take k).all (operand5 m)) && operand5 m (x.args.getD k Enc.d)) := by rw [all_take Enc.d (by omega), ← Bool.and_assoc]
      refine .mk (k + 1) (by omega) (by omega) ?_
      rw [e]
      refine Ent.lp [] [] rfl rfl rfl ?_ ?_ <;> repeat' first | exact trivial | rfl | exact fun _ _ => rfl | omega | refine And.intro ?_ ?_ | (show (_ : Int) = _; first | omega | (simp only [Int.toNat_natCast]; omega))
    · have e2 : x.args.take k = x.args := List.take_of_length_le (by omega)
      exact ⟨_, .keep (by rw [e2, instrP, eA, eB]; rfl) rfl⟩
def sayP (m : ModE) : Bool := m.vars.all varB && (m.exts.all extB && m.funcs.all fun f => headB f.name f.params f.ret && f.blocks.all fun b => b.code.all (instrP m))
theorem head_bad (n : ByteArray) (p : List Int) (r : Int) : ((!Word n || !typesB p) || !inR r 0 65) = !headB n p r := by
  unfold headB inR
  cases Word n <;> cases typesB p <;> cases decide (0 ≤ r) <;> cases decide (r ≤ 65) <;> rfl
def fnP (m : ModE) (f : FnE) : Bool := headB f.name f.params f.ret && f.blocks.all fun b => b.code.all (instrP m)
theorem Sayable_S (m : ModE) (hm : siz m < 4294967296) (hn : insN m) : ASpec Tryd.prog 8 [eS m] (.b (sayP m)) [] := by
  have h0 : siz m = siz m.vars + siz m.exts + siz m.funcs := rfl
  have g1 := len_siz m.vars
  have g2 := len_siz m.exts
  have g3 := len_siz m.funcs
  have e3 : sayP m = (m.vars.all varB && (m.exts.all extB && m.funcs.all (fnP m))) := rfl
  rw [e3]
  refine ASpec.enter TYok mixed Tryd.func8 rfl Tryd.call8 Tryd.ntmps8 rfl (rs := [.tmp 2]) rfl (nodupB_ok rfl) (Clo.one rfl) (keep := [0, 1, 2, 4, 6, 8, 10, 12, 14, 15, 16, 31, 32, 33, 55, 56, 57, 78, 79, 80, 85, 86, 87]) ?_; conv => whnf
  repeat' first | (refine And.intro (fun (hb : _ = true) => ?_) (fun (hb : _ = false) => ?_) <;> (try simp only [pickB_or, pickB_and] at hb) <;> (have hc := hb; try simp only [Int.toNat_natCast, Int.reduceToNat, Bool.or_eq_false_iff, Bool.and_eq_false_iff, Bool.not_eq_false', decide_eq_true_eq, decide_eq_false_iff_not, Bool.not_eq_true', Bool.and_eq_true, Bool.or_eq_true] at hc) <;> first | (exfalso; omega) | conv => whnf) | (refine ⟨_, wr64 (by first | omega | (simp only [Int.toNat_natCast, Int.reduceToNat]; omega)) (by first | omega | (simp only [Int.toNat_natCast, Int.reduceToNat]; omega)), ?_⟩; conv => whnf) | (refine And.intro (by first | omega | (simp only [Int.toNat_natCast, Int.reduceToNat, addZ]; omega) | (simp only [ByteArray.size_append, size_mk, List.length_cons, List.length_nil, Int.toNat_natCast, Int.reduceToNat]; omega) | exact ⟨rfl, by omega⟩ | ((repeat' apply And.intro) <;> first | exact trivial | omega) | decide +kernel) ?_; conv => whnf) | (refine And.intro (fun (ht : tg _ _ = true) => by (simp only [tg_ite, tg_nil, cn, Nat.reduceMul, Nat.reduceAdd, Nat.reduceEqDiff, ↓reduceIte, pickB_or, pickB_and, Bool.and_eq_true, Bool.or_eq_true, Bool.or_eq_false_iff, Bool.and_eq_false_iff, Bool.not_eq_true', Bool.not_eq_false', decide_eq_true_eq, decide_eq_false_iff_not, Int.toNat_natCast, Int.reduceToNat, ne_eq] at ht ⊢; first | omega | (simp only [Int.toNat_natCast, Int.reduceToNat]; omega))) ?_; conv => whnf) | (refine ⟨_, shl1 (by omega), ?_⟩; conv => whnf) | (refine ⟨_, wru64 (by first | omega | (simp only [Int.toNat_natCast, Int.reduceToNat]; omega)) (by first | omega | (simp only [Int.toNat_natCast, Int.reduceToNat]; omega)), ?_⟩; conv => whnf) | (refine ⟨_, fun _ => (IntKind.wrap_u64 _).symm, ?_⟩; conv => whnf) | exact ⟨_, .keep rfl rfl⟩ | fail
  refine lp [16] (fun q : Nat => [.i .i64 q]) (fun q => [(1, bx m)]) (fun q => q ≤ m.vars.length ∧ ∀ i, i < q → varB (m.vars.getD i Enc.d) = true) (fun q => m.vars.length - q) 0 ⟨by omega, fun i h => by omega⟩ ?_ fun q hq => ?_
  · refine Ent.lp [] [] rfl rfl rfl ?_ ?_ <;> repeat' first | exact trivial | rfl | exact fun _ _ => rfl | omega | refine And.intro ?_ ?_ | (show (_ : Int) = _; first | omega | (simp only [Int.toNat_natCast]; omega))
  conv => whnf
  obtain ⟨hq, hv⟩ := hq
  have h1 : (m.vars.getD q Enc.d).name.size ≤ siz m.vars := siz_at m.vars q
  repeat' first | (refine And.intro (fun (hb : _ = true) => ?_) (fun (hb : _ = false) => ?_) <;> (try simp only [pickB_or, pickB_and] at hb) <;> (have hc := hb; try simp only [Int.toNat_natCast, Int.reduceToNat, Bool.or_eq_false_iff, Bool.and_eq_false_iff, Bool.not_eq_false', decide_eq_true_eq, decide_eq_false_iff_not, Bool.not_eq_true', Bool.and_eq_true, Bool.or_eq_true] at hc) <;> first | (exfalso; omega) | conv => whnf) | (refine ⟨_, wr64 (by first | omega | (simp only [Int.toNat_natCast, Int.reduceToNat]; omega)) (by first | omega | (simp only [Int.toNat_natCast, Int.reduceToNat]; omega)), ?_⟩; conv => whnf) | (refine And.intro (by first | omega | (simp only [Int.toNat_natCast, Int.reduceToNat, addZ]; omega) | (simp only [ByteArray.size_append, size_mk, List.length_cons, List.length_nil, Int.toNat_natCast, Int.reduceToNat]; omega) | exact ⟨rfl, by omega⟩ | ((repeat' apply And.intro) <;> first | exact trivial | omega) | decide +kernel) ?_; conv => whnf) | (refine And.intro (fun (ht : tg _ _ = true) => by (simp only [tg_ite, tg_nil, cn, Nat.reduceMul, Nat.reduceAdd, Nat.reduceEqDiff, ↓reduceIte, pickB_or, pickB_and, Bool.and_eq_true, Bool.or_eq_true, Bool.or_eq_false_iff, Bool.and_eq_false_iff, Bool.not_eq_true', Bool.not_eq_false', decide_eq_true_eq, decide_eq_false_iff_not, Int.toNat_natCast, Int.reduceToNat, ne_eq] at ht ⊢; first | omega | (simp only [Int.toNat_natCast, Int.reduceToNat]; omega))) ?_; conv => whnf) | (refine ⟨_, shl1 (by omega), ?_⟩; conv => whnf) | (refine ⟨_, wru64 (by first | omega | (simp only [Int.toNat_natCast, Int.reduceToNat]; omega)) (by first | omega | (simp only [Int.toNat_natCast, Int.reduceToNat]; omega)), ?_⟩; conv => whnf) | (refine ⟨_, fun _ => (IntKind.wrap_u64 _).symm, ?_⟩; conv => whnf) | ((first | refine CallK.mk _ _ (fun _ => lexWord_S _ (by first | omega | (simp only [Int.toNat_natCast, Int.reduceToNat]; omega))) ?_ | refine CallL.mk _ _ (fun _ => lexWord_S _ (by first | omega | (simp only [Int.toNat_natCast, Int.reduceToNat]; omega))) rfl (fun _ _ h => nomatch h) ?_ | (refine CallW.lent ?_; (conv => whnf); refine CallL.mk _ _ (fun _ => lexWord_S _ (by first | omega | (simp only [Int.toNat_natCast, Int.reduceToNat]; omega))) rfl (fun _ _ h => nomatch h) ?_) | (refine CallW.lent ?_; (conv => whnf); refine And.intro (by omega) ?_; (conv => whnf); refine CallL.mk _ _ (fun _ => lexWord_S _ (by first | omega | (simp only [Int.toNat_natCast, Int.reduceToNat]; omega))) rfl (fun _ _ h => nomatch h) ?_)); conv => whnf) | exact ⟨_, .keep rfl rfl⟩ | fail
  · have e : varB (m.vars.getD q Enc.d) = false := congrArg (!·) hb
    exact ⟨_, .keep (by rw [all_no (p := varB) Enc.d (by omega) e]; rfl) rfl⟩
  · refine .mk (q + 1) ⟨by omega, all_step hv (congrArg (!·) hb)⟩ (by omega) ?_
    refine Ent.lp [] [] rfl rfl rfl ?_ ?_ <;> repeat' first | exact trivial | rfl | exact fun _ _ => rfl | omega | refine And.intro ?_ ?_ | (show (_ : Int) = _; first | omega | (simp only [Int.toNat_natCast]; omega))
  have e0 : m.vars.all varB = true := all_yes Enc.d fun i hi => hv i (by omega)
  refine lp [33] (fun q : Nat => [.i .i64 q]) (fun q => [(1, bx m)]) (fun q => q ≤ m.exts.length ∧ ∀ i, i < q → extB (m.exts.getD i Enc.d) = true) (fun q => m.exts.length - q) 0 ⟨by omega, fun i h => by omega⟩ ?_ fun k hk => ?_
  · refine Ent.lp [] [] rfl rfl rfl ?_ ?_ <;> repeat' first | exact trivial | rfl | exact fun _ _ => rfl | omega | refine And.intro ?_ ?_ | (show (_ : Int) = _; first | omega | (simp only [Int.toNat_natCast]; omega))
  conv => whnf
  obtain ⟨hk, hw⟩ := hk
  have h4 : siz (m.exts.getD k Enc.d) ≤ siz m.exts := siz_at m.exts k
  have h5 : siz (m.exts.getD k Enc.d) = (m.exts.getD k Enc.d).name.size + siz (m.exts.getD k Enc.d).params := rfl
  have h6 := len_siz (m.exts.getD k Enc.d).params
  repeat' first | (refine And.intro (fun (hb : _ = true) => ?_) (fun (hb : _ = false) => ?_) <;> (try simp only [pickB_or, pickB_and] at hb) <;> (have hc := hb; try simp only [Int.toNat_natCast, Int.reduceToNat, Bool.or_eq_false_iff, Bool.and_eq_false_iff, Bool.not_eq_false', decide_eq_true_eq, decide_eq_false_iff_not, Bool.not_eq_true', Bool.and_eq_true, Bool.or_eq_true] at hc) <;> first | (exfalso; omega) | conv => whnf) | (refine ⟨_, wr64 (by first | omega | (simp only [Int.toNat_natCast, Int.reduceToNat]; omega)) (by first | omega | (simp only [Int.toNat_natCast, Int.reduceToNat]; omega)), ?_⟩; conv => whnf) | (refine And.intro (by first | omega | (simp only [Int.toNat_natCast, Int.reduceToNat, addZ]; omega) | (simp only [ByteArray.size_append, size_mk, List.length_cons, List.length_nil, Int.toNat_natCast, Int.reduceToNat]; omega) | exact ⟨rfl, by omega⟩ | ((repeat' apply And.intro) <;> first | exact trivial | omega) | decide +kernel) ?_; conv => whnf) | (refine And.intro (fun (ht : tg _ _ = true) => by (simp only [tg_ite, tg_nil, cn, Nat.reduceMul, Nat.reduceAdd, Nat.reduceEqDiff, ↓reduceIte, pickB_or, pickB_and, Bool.and_eq_true, Bool.or_eq_true, Bool.or_eq_false_iff, Bool.and_eq_false_iff, Bool.not_eq_true', Bool.not_eq_false', decide_eq_true_eq, decide_eq_false_iff_not, Int.toNat_natCast, Int.reduceToNat, ne_eq] at ht ⊢; first | omega | (simp only [Int.toNat_natCast, Int.reduceToNat]; omega))) ?_; conv => whnf) | (refine ⟨_, shl1 (by omega), ?_⟩; conv => whnf) | (refine ⟨_, wru64 (by first | omega | (simp only [Int.toNat_natCast, Int.reduceToNat]; omega)) (by first | omega | (simp only [Int.toNat_natCast, Int.reduceToNat]; omega)), ?_⟩; conv => whnf) | (refine ⟨_, fun _ => (IntKind.wrap_u64 _).symm, ?_⟩; conv => whnf) | ((first | refine CallK.mk _ _ (fun _ => lexWord_S _ (by first | omega | (simp only [Int.toNat_natCast, Int.reduceToNat]; omega))) ?_ | refine CallL.mk _ _ (fun _ => lexWord_S _ (by first | omega | (simp only [Int.toNat_natCast, Int.reduceToNat]; omega))) rfl (fun _ _ h => nomatch h) ?_ | (refine CallW.lent ?_; (conv => whnf); refine CallL.mk _ _ (fun _ => lexWord_S _ (by first | omega | (simp only [Int.toNat_natCast, Int.reduceToNat]; omega))) rfl (fun _ _ h => nomatch h) ?_) | (refine CallW.lent ?_; (conv => whnf); refine And.intro (by omega) ?_; (conv => whnf); refine CallL.mk _ _ (fun _ => lexWord_S _ (by first | omega | (simp only [Int.toNat_natCast, Int.reduceToNat]; omega))) rfl (fun _ _ h => nomatch h) ?_)); conv => whnf) | ((first | refine CallK.mk _ _ (fun _ => kinds_S _ (by first | omega | (simp only [Int.toNat_natCast, Int.reduceToNat]; omega))) ?_ | refine CallL.mk _ _ (fun _ => kinds_S _ (by first | omega | (simp only [Int.toNat_natCast, Int.reduceToNat]; omega))) rfl (fun _ _ h => nomatch h) ?_ | (refine CallW.lent ?_; (conv => whnf); refine CallL.mk _ _ (fun _ => kinds_S _ (by first | omega | (simp only [Int.toNat_natCast, Int.reduceToNat]; omega))) rfl (fun _ _ h => nomatch h) ?_) | (refine CallW.lent ?_; (conv => whnf); refine And.intro (by omega) ?_; (conv => whnf); refine CallL.mk _ _ (fun _ => kinds_S _ (by first | omega | (simp only [Int.toNat_natCast, Int.reduceToNat]; omega))) rfl (fun _ _ h => nomatch h) ?_)); conv => whnf) | ((first | refine CallK.mk _ _ (fun _ => within_S _ _ _) ?_ | refine CallL.mk _ _ (fun _ => within_S _ _ _) rfl (fun _ _ h => nomatch h) ?_ | (refine CallW.lent ?_; (conv => whnf); refine CallL.mk _ _ (fun _ => within_S _ _ _) rfl (fun _ _ h => nomatch h) ?_) | (refine CallW.lent ?_; (conv => whnf); refine And.intro (by omega) ?_; (conv => whnf); refine CallL.mk _ _ (fun _ => within_S _ _ _) rfl (fun _ _ h => nomatch h) ?_)); conv => whnf) | exact ⟨_, .keep rfl rfl⟩ | fail
  · have e : extB (m.exts.getD k Enc.d) = false := nt ((head_bad _ _ _).symm.trans hb)
    exact ⟨_, .keep (by rw [all_no (p := extB) Enc.d (by omega) e, Bool.false_and, Bool.and_false]) rfl⟩
  · refine .mk (k + 1) ⟨by omega, all_step hw (nf ((head_bad _ _ _).symm.trans hb))⟩ (by omega) ?_
    refine Ent.lp [] [] rfl rfl rfl ?_ ?_ <;> repeat' first | exact trivial | rfl | exact fun _ _ => rfl | omega | refine And.intro ?_ ?_ | (show (_ : Int) = _; first | omega | (simp only [Int.toNat_natCast]; omega))
  have e1 : m.exts.all extB = true := all_yes Enc.d fun i hi => hw i (by omega)
  refine lp [57] (fun q : Nat => [.i .i64 q]) (fun q => [(1, bx m)]) (fun q => q ≤ m.funcs.length ∧ ∀ i, i < q → fnP m (m.funcs.getD i Enc.d) = true) (fun q => m.funcs.length - q) 0 ⟨by omega, fun i h => by omega⟩ ?_ fun j hj => ?_
  · refine Ent.lp [] [] rfl rfl rfl ?_ ?_ <;> repeat' first | exact trivial | rfl | exact fun _ _ => rfl | omega | refine And.intro ?_ ?_ | (show (_ : Int) = _; first | omega | (simp only [Int.toNat_natCast]; omega))
  conv => whnf
  obtain ⟨hj, hy⟩ := hj
  have i4 : siz (m.funcs.getD j Enc.d) ≤ siz m.funcs := siz_at m.funcs j
  have i5 : siz (m.funcs.getD j Enc.d) = (m.funcs.getD j Enc.d).name.size + siz (m.funcs.getD j Enc.d).params + siz (m.funcs.getD j Enc.d).blocks := rfl
  have i6 := len_siz (m.funcs.getD j Enc.d).params
  have i7 := blocks_le (m.funcs.getD j Enc.d)
  repeat' first | (refine And.intro (fun (hb : _ = true) => ?_) (fun (hb : _ = false) => ?_) <;> (try simp only [pickB_or, pickB_and] at hb) <;> (have hc := hb; try simp only [Int.toNat_natCast, Int.reduceToNat, Bool.or_eq_false_iff, Bool.and_eq_false_iff, Bool.not_eq_false', decide_eq_true_eq, decide_eq_false_iff_not, Bool.not_eq_true', Bool.and_eq_true, Bool.or_eq_true] at hc) <;> first | (exfalso; omega) | conv => whnf) | (refine ⟨_, wr64 (by first | omega | (simp only [Int.toNat_natCast, Int.reduceToNat]; omega)) (by first | omega | (simp only [Int.toNat_natCast, Int.reduceToNat]; omega)), ?_⟩; conv => whnf) | (refine And.intro (by first | omega | (simp only [Int.toNat_natCast, Int.reduceToNat, addZ]; omega) | (simp only [ByteArray.size_append, size_mk, List.length_cons, List.length_nil, Int.toNat_natCast, Int.reduceToNat]; omega) | exact ⟨rfl, by omega⟩ | ((repeat' apply And.intro) <;> first | exact trivial | omega) | decide +kernel) ?_; conv => whnf) | (refine And.intro (fun (ht : tg _ _ = true) => by (simp only [tg_ite, tg_nil, cn, Nat.reduceMul, Nat.reduceAdd, Nat.reduceEqDiff, ↓reduceIte, pickB_or, pickB_and, Bool.and_eq_true, Bool.or_eq_true, Bool.or_eq_false_iff, Bool.and_eq_false_iff, Bool.not_eq_true', Bool.not_eq_false', decide_eq_true_eq, decide_eq_false_iff_not, Int.toNat_natCast, Int.reduceToNat, ne_eq] at ht ⊢; first | omega | (simp only [Int.toNat_natCast, Int.reduceToNat]; omega))) ?_; conv => whnf) | (refine ⟨_, shl1 (by omega), ?_⟩; conv => whnf) | (refine ⟨_, wru64 (by first | omega | (simp only [Int.toNat_natCast, Int.reduceToNat]; omega)) (by first | omega | (simp only [Int.toNat_natCast, Int.reduceToNat]; omega)), ?_⟩; conv => whnf) | (refine ⟨_, fun _ => (IntKind.wrap_u64 _).symm, ?_⟩; conv => whnf) | ((first | refine CallK.mk _ _ (fun _ => lexWord_S _ (by first | omega | (simp only [Int.toNat_natCast, Int.reduceToNat]; omega))) ?_ | refine CallL.mk _ _ (fun _ => lexWord_S _ (by first | omega | (simp only [Int.toNat_natCast, Int.reduceToNat]; omega))) rfl (fun _ _ h => nomatch h) ?_ | (refine CallW.lent ?_; (conv => whnf); refine CallL.mk _ _ (fun _ => lexWord_S _ (by first | omega | (simp only [Int.toNat_natCast, Int.reduceToNat]; omega))) rfl (fun _ _ h => nomatch h) ?_) | (refine CallW.lent ?_; (conv => whnf); refine And.intro (by omega) ?_; (conv => whnf); refine CallL.mk _ _ (fun _ => lexWord_S _ (by first | omega | (simp only [Int.toNat_natCast, Int.reduceToNat]; omega))) rfl (fun _ _ h => nomatch h) ?_)); conv => whnf) | ((first | refine CallK.mk _ _ (fun _ => kinds_S _ (by first | omega | (simp only [Int.toNat_natCast, Int.reduceToNat]; omega))) ?_ | refine CallL.mk _ _ (fun _ => kinds_S _ (by first | omega | (simp only [Int.toNat_natCast, Int.reduceToNat]; omega))) rfl (fun _ _ h => nomatch h) ?_ | (refine CallW.lent ?_; (conv => whnf); refine CallL.mk _ _ (fun _ => kinds_S _ (by first | omega | (simp only [Int.toNat_natCast, Int.reduceToNat]; omega))) rfl (fun _ _ h => nomatch h) ?_) | (refine CallW.lent ?_; (conv => whnf); refine And.intro (by omega) ?_; (conv => whnf); refine CallL.mk _ _ (fun _ => kinds_S _ (by first | omega | (simp only [Int.toNat_natCast, Int.reduceToNat]; omega))) rfl (fun _ _ h => nomatch h) ?_)); conv => whnf) | ((first | refine CallK.mk _ _ (fun _ => within_S _ _ _) ?_ | refine CallL.mk _ _ (fun _ => within_S _ _ _) rfl (fun _ _ h => nomatch h) ?_ | (refine CallW.lent ?_; (conv => whnf); refine CallL.mk _ _ (fun _ => within_S _ _ _) rfl (fun _ _ h => nomatch h) ?_) | (refine CallW.lent ?_; (conv => whnf); refine And.intro (by omega) ?_; (conv => whnf); refine CallL.mk _ _ (fun _ => within_S _ _ _) rfl (fun _ _ h => nomatch h) ?_)); conv => whnf) | exact ⟨_, .keep rfl rfl⟩ | fail
  · have e : headB (m.funcs.getD j Enc.d).name (m.funcs.getD j Enc.d).params (m.funcs.getD j Enc.d).ret = false := nt ((head_bad _ _ _).symm.trans hb)
    exact ⟨_, .keep (by rw [all_no (p := fnP m) Enc.d (l := m.funcs) (q := j) (by omega) (by unfold fnP; rw [e, Bool.false_and]), Bool.and_false, Bool.and_false]) rfl⟩
  have e2 : headB (m.funcs.getD j Enc.d).name (m.funcs.getD j Enc.d).params (m.funcs.getD j Enc.d).ret = true := nf ((head_bad _ _ _).symm.trans hb)
  have fail : ∀ b k : Nat, b < (m.funcs.getD j Enc.d).blocks.length → k < ((m.funcs.getD j Enc.d).blocks.getD b Enc.d).code.length → instrP m (((m.funcs.getD j Enc.d).blocks.getD b Enc.d).code.getD k Enc.d) = false → (m.vars.all varB && (m.exts.all extB && m.funcs.all (fnP m))) = false := fun b k hb hk e => by
    rw [all_no (p := fnP m) Enc.d (l := m.funcs) (q := j) (by omega) (by unfold fnP; rw [all_no (p := fun b : BlkE => b.code.all (instrP m)) Enc.d (q := b) hb (all_no (p := instrP m) Enc.d hk e), Bool.and_false]), Bool.and_false, Bool.and_false]
  refine lp [80] (fun q : Nat => [.i .i64 q]) (fun q => [(1, bx m)]) (fun q => q ≤ (m.funcs.getD j Enc.d).blocks.length ∧ ∀ i, i < q → ((m.funcs.getD j Enc.d).blocks.getD i Enc.d).code.all (instrP m) = true) (fun q => (m.funcs.getD j Enc.d).blocks.length - q) 0 ⟨by omega, fun i h => by omega⟩ ?_ fun b hb0 => ?_
  · refine Ent.lp [] [] rfl rfl rfl ?_ ?_ <;> repeat' first | exact trivial | rfl | exact fun _ _ => rfl | omega | refine And.intro ?_ ?_ | (show (_ : Int) = _; first | omega | (simp only [Int.toNat_natCast]; omega))
  conv => whnf
  obtain ⟨hb0, hz⟩ := hb0
  have i8 := code_le (m.funcs.getD j Enc.d) b
  repeat' first | (refine And.intro (fun (hb : _ = true) => ?_) (fun (hb : _ = false) => ?_) <;> (try simp only [pickB_or, pickB_and] at hb) <;> (have hc := hb; try simp only [Int.toNat_natCast, Int.reduceToNat, Bool.or_eq_false_iff, Bool.and_eq_false_iff, Bool.not_eq_false', decide_eq_true_eq, decide_eq_false_iff_not, Bool.not_eq_true', Bool.and_eq_true, Bool.or_eq_true] at hc) <;> first | (exfalso; omega) | conv => whnf) | (refine ⟨_, wr64 (by first | omega | (simp only [Int.toNat_natCast, Int.reduceToNat]; omega)) (by first | omega | (simp only [Int.toNat_natCast, Int.reduceToNat]; omega)), ?_⟩; conv => whnf) | (refine And.intro (by first | omega | (simp only [Int.toNat_natCast, Int.reduceToNat, addZ]; omega) | (simp only [ByteArray.size_append, size_mk, List.length_cons, List.length_nil, Int.toNat_natCast, Int.reduceToNat]; omega) | exact ⟨rfl, by omega⟩ | ((repeat' apply And.intro) <;> first | exact trivial | omega) | decide +kernel) ?_; conv => whnf) | (refine And.intro (fun (ht : tg _ _ = true) => by (simp only [tg_ite, tg_nil, cn, Nat.reduceMul, Nat.reduceAdd, Nat.reduceEqDiff, ↓reduceIte, pickB_or, pickB_and, Bool.and_eq_true, Bool.or_eq_true, Bool.or_eq_false_iff, Bool.and_eq_false_iff, Bool.not_eq_true', Bool.not_eq_false', decide_eq_true_eq, decide_eq_false_iff_not, Int.toNat_natCast, Int.reduceToNat, ne_eq] at ht ⊢; first | omega | (simp only [Int.toNat_natCast, Int.reduceToNat]; omega))) ?_; conv => whnf) | (refine ⟨_, shl1 (by omega), ?_⟩; conv => whnf) | (refine ⟨_, wru64 (by first | omega | (simp only [Int.toNat_natCast, Int.reduceToNat]; omega)) (by first | omega | (simp only [Int.toNat_natCast, Int.reduceToNat]; omega)), ?_⟩; conv => whnf) | (refine ⟨_, fun _ => (IntKind.wrap_u64 _).symm, ?_⟩; conv => whnf) | exact ⟨_, .keep rfl rfl⟩ | fail
  · refine lp [87] (fun q : Nat => [.i .i64 q]) (fun q => [(1, bx m)]) (fun q => q ≤ ((m.funcs.getD j Enc.d).blocks.getD b Enc.d).code.length ∧ ∀ i, i < q → instrP m (((m.funcs.getD j Enc.d).blocks.getD b Enc.d).code.getD i Enc.d) = true) (fun q => ((m.funcs.getD j Enc.d).blocks.getD b Enc.d).code.length - q) 0 ⟨by omega, fun i h => by omega⟩ ?_ fun n hn2 => ?_
    · refine Ent.lp [] [] rfl rfl rfl ?_ ?_ <;> repeat' first | exact trivial | rfl | exact fun _ _ => rfl | omega | refine And.intro ?_ ?_ | (show (_ : Int) = _; first | omega | (simp only [Int.toNat_natCast]; omega))
    conv => whnf
    obtain ⟨hn2, hu⟩ := hn2
    have i9 := ins_le (m.funcs.getD j Enc.d) b n
    repeat' first | (refine And.intro (fun (hb : _ = true) => ?_) (fun (hb : _ = false) => ?_) <;> (try simp only [pickB_or, pickB_and] at hb) <;> (have hc := hb; try simp only [Int.toNat_natCast, Int.reduceToNat, Bool.or_eq_false_iff, Bool.and_eq_false_iff, Bool.not_eq_false', decide_eq_true_eq, decide_eq_false_iff_not, Bool.not_eq_true', Bool.and_eq_true, Bool.or_eq_true] at hc) <;> first | (exfalso; omega) | conv => whnf) | (refine ⟨_, wr64 (by first | omega | (simp only [Int.toNat_natCast, Int.reduceToNat]; omega)) (by first | omega | (simp only [Int.toNat_natCast, Int.reduceToNat]; omega)), ?_⟩; conv => whnf) | (refine And.intro (by first | omega | (simp only [Int.toNat_natCast, Int.reduceToNat, addZ]; omega) | (simp only [ByteArray.size_append, size_mk, List.length_cons, List.length_nil, Int.toNat_natCast, Int.reduceToNat]; omega) | exact ⟨rfl, by omega⟩ | ((repeat' apply And.intro) <;> first | exact trivial | omega) | decide +kernel) ?_; conv => whnf) | (refine And.intro (fun (ht : tg _ _ = true) => by (simp only [tg_ite, tg_nil, cn, Nat.reduceMul, Nat.reduceAdd, Nat.reduceEqDiff, ↓reduceIte, pickB_or, pickB_and, Bool.and_eq_true, Bool.or_eq_true, Bool.or_eq_false_iff, Bool.and_eq_false_iff, Bool.not_eq_true', Bool.not_eq_false', decide_eq_true_eq, decide_eq_false_iff_not, Int.toNat_natCast, Int.reduceToNat, ne_eq] at ht ⊢; first | omega | (simp only [Int.toNat_natCast, Int.reduceToNat]; omega))) ?_; conv => whnf) | (refine ⟨_, shl1 (by omega), ?_⟩; conv => whnf) | (refine ⟨_, wru64 (by first | omega | (simp only [Int.toNat_natCast, Int.reduceToNat]; omega)) (by first | omega | (simp only [Int.toNat_natCast, Int.reduceToNat]; omega)), ?_⟩; conv => whnf) | (refine ⟨_, fun _ => (IntKind.wrap_u64 _).symm, ?_⟩; conv => whnf) | ((first | refine CallK.mk _ _ (fun _ => instr_S m (((m.funcs.getD j Enc.d).blocks.getD b Enc.d).code.getD n Enc.d) hm (by first | omega | (simp only [Int.toNat_natCast, Int.reduceToNat]; omega)) (hn j b n)) ?_ | refine CallL.mk _ _ (fun _ => instr_S m (((m.funcs.getD j Enc.d).blocks.getD b Enc.d).code.getD n Enc.d) hm (by first | omega | (simp only [Int.toNat_natCast, Int.reduceToNat]; omega)) (hn j b n)) rfl (fun _ _ h => nomatch h) ?_ | (refine CallW.lent ?_; (conv => whnf); refine CallL.mk _ _ (fun _ => instr_S m (((m.funcs.getD j Enc.d).blocks.getD b Enc.d).code.getD n Enc.d) hm (by first | omega | (simp only [Int.toNat_natCast, Int.reduceToNat]; omega)) (hn j b n)) rfl (fun _ _ h => nomatch h) ?_) | (refine CallW.lent ?_; (conv => whnf); refine And.intro (by omega) ?_; (conv => whnf); refine CallL.mk _ _ (fun _ => instr_S m (((m.funcs.getD j Enc.d).blocks.getD b Enc.d).code.getD n Enc.d) hm (by first | omega | (simp only [Int.toNat_natCast, Int.reduceToNat]; omega)) (hn j b n)) rfl (fun _ _ h => nomatch h) ?_)); conv => whnf) | exact ⟨_, .keep rfl rfl⟩ | fail
    · exact ⟨_, .keep (by rw [fail b n (by omega) (by omega) (nt hb)]) rfl⟩
    · refine .mk (n + 1) ⟨by omega, all_step hu (nf hb)⟩ (by omega) ?_
      refine Ent.lp [] [] rfl rfl rfl ?_ ?_ <;> repeat' first | exact trivial | rfl | exact fun _ _ => rfl | omega | refine And.intro ?_ ?_ | (show (_ : Int) = _; first | omega | (simp only [Int.toNat_natCast]; omega))
    · refine .mk (b + 1) ⟨by omega, all_step hz (all_yes (p := instrP m) Enc.d fun i hi => hu i (by omega))⟩ (by omega) ?_
      refine Ent.lp [] [] rfl rfl rfl ?_ ?_ <;> repeat' first | exact trivial | rfl | exact fun _ _ => rfl | omega | refine And.intro ?_ ?_ | (show (_ : Int) = _; first | omega | (simp only [Int.toNat_natCast]; omega))
  · refine .mk (j + 1) ⟨by omega, all_step hy (by unfold fnP; rw [e2, all_yes (p := fun b : BlkE => b.code.all (instrP m)) Enc.d fun i hi => hz i (by omega)]; rfl)⟩ (by omega) ?_
    refine Ent.lp [] [] rfl rfl rfl ?_ ?_ <;> repeat' first | exact trivial | rfl | exact fun _ _ => rfl | omega | refine And.intro ?_ ?_ | (show (_ : Int) = _; first | omega | (simp only [Int.toNat_natCast]; omega))
  · exact ⟨_, .keep (by rw [e0, e1, all_yes (p := fnP m) Enc.d fun i hi => hy i (by omega)]; rfl) rfl⟩
end Go.Proofs.YtilhkmlghhdpaaaDoor

/- Layer 5, the reference: texts. -/
namespace Go.Proofs.YtilhkmlghhdpaaaDoor
open Go.RowKit
set_option linter.unusedVariables false
set_option linter.unusedSimpArgs false
set_option maxRecDepth 100000
set_option maxHeartbeats 4000000
/-- A number in base ten. -/
def dec (n : Nat) : ByteArray := ⟨(Lib.decDigits n).toArray⟩
theorem dec_small {n : Nat} (h : n < 10) : dec n = ⟨#[(48 + n).toUInt8]⟩ := by
  unfold dec; rw [Lib.decDigits, dif_pos h]
theorem dec_step {n : Nat} (h : ¬ n < 10) : dec n = dec (n / 10) ++ ⟨#[(48 + n % 10).toUInt8]⟩ := by
  unfold dec; rw [Lib.decDigits, dif_neg h]
  apply ByteArray.ext
  simp
theorem dec_len (n : Nat) (h : n < 18446744073709551616) : (dec n).size ≤ 20 := by
  have e : (dec n).size = Lib.nDigits n := Lib.decDigits_length n
  rw [e]
  rcases Nat.eq_zero_or_pos n with h0 | h0
  · subst h0; rw [Lib.nDigits_small (by decide)]; decide
  · have := Lib.numDigits_eq n h0 h; split at this <;> omega
theorem Digits_S (n : Nat) (h : n < 18446744073709551616) : ASpec Tryd.prog 30 [.i .u64 n] (.s (dec n)) [] := by
  refine ASpec.enter TYok mixed Tryd.func30 rfl Tryd.call30 Tryd.ntmps30 rfl (rs := [.tmp 2]) rfl (nodupB_ok rfl) (Clo.one rfl) (keep := [0, 2, 3]) ?_; conv => whnf
  refine lp [0, 3] (fun q : Nat × ByteArray => [.i .u64 q.1, .s q.2]) (fun q => []) (fun q => q.1 < 18446744073709551616 ∧ dec n = dec q.1 ++ q.2) (fun q => q.1) (n, ⟨#[]⟩) ⟨h, (ByteArray.append_empty).symm⟩ ?_ fun q hq => ?_
  · refine Ent.lp [] [] rfl rfl rfl ?_ ?_ <;> repeat' first | exact trivial | rfl | exact fun _ _ => rfl | omega | refine And.intro ?_ ?_ | (show (_ : Int) = _; first | omega | (simp only [Int.toNat_natCast]; omega))
  conv => whnf
  obtain ⟨hq, hv⟩ := hq
  have h1 := dec_len n h
  have h2 : q.2.size ≤ 20 := by rw [hv, ByteArray.size_append] at h1; omega
  have h3 : (q.1 : Int).tmod 10 = ((q.1 % 10 : Nat) : Int) := rfl
  have h4 : (q.1 : Int).tdiv 10 = ((q.1 / 10 : Nat) : Int) := rfl
  repeat' first | (refine And.intro (fun (hb : _ = true) => ?_) (fun (hb : _ = false) => ?_) <;> (try simp only [pickB_or, pickB_and] at hb) <;> (have hc := hb; try simp only [Int.toNat_natCast, Int.reduceToNat, Bool.or_eq_false_iff, Bool.and_eq_false_iff, Bool.not_eq_false', decide_eq_true_eq, decide_eq_false_iff_not, Bool.not_eq_true', Bool.and_eq_true, Bool.or_eq_true] at hc) <;> first | (exfalso; omega) | conv => whnf) | (refine ⟨_, wr64 (by first | omega | (simp only [Int.toNat_natCast, Int.reduceToNat]; omega)) (by first | omega | (simp only [Int.toNat_natCast, Int.reduceToNat]; omega)), ?_⟩; conv => whnf) | (refine And.intro (by first | omega | (simp only [Int.toNat_natCast, Int.reduceToNat, addZ]; omega) | (simp only [ByteArray.size_append, size_mk, List.length_cons, List.length_nil, Int.toNat_natCast, Int.reduceToNat]; omega) | exact ⟨rfl, by omega⟩ | ((repeat' apply And.intro) <;> first | exact trivial | omega) | decide +kernel) ?_; conv => whnf) | (refine And.intro (fun (ht : tg _ _ = true) => by (simp only [tg_ite, tg_nil, cn, Nat.reduceMul, Nat.reduceAdd, Nat.reduceEqDiff, ↓reduceIte, pickB_or, pickB_and, Bool.and_eq_true, Bool.or_eq_true, Bool.or_eq_false_iff, Bool.and_eq_false_iff, Bool.not_eq_true', Bool.not_eq_false', decide_eq_true_eq, decide_eq_false_iff_not, Int.toNat_natCast, Int.reduceToNat, ne_eq] at ht ⊢; first | omega | (simp only [Int.toNat_natCast, Int.reduceToNat]; omega))) ?_; conv => whnf) | (refine ⟨_, shl1 (by omega), ?_⟩; conv => whnf) | (refine ⟨_, wru64 (by first | omega | (simp only [Int.toNat_natCast, Int.reduceToNat]; omega)) (by first | omega | (simp only [Int.toNat_natCast, Int.reduceToNat]; omega)), ?_⟩; conv => whnf) | (refine ⟨_, fun _ => (IntKind.wrap_u64 _).symm, ?_⟩; conv => whnf) | exact ⟨_, .keep rfl rfl⟩ | fail
  refine ⟨((48 + q.1 % 10 : Nat) : Int), fun _ => by rw [h3, IntKind.wrap_u8]; omega, ?_⟩
  conv => whnf
  repeat' first | (refine And.intro (fun (hb : _ = true) => ?_) (fun (hb : _ = false) => ?_) <;> (try simp only [pickB_or, pickB_and] at hb) <;> (have hc := hb; try simp only [Int.toNat_natCast, Int.reduceToNat, Bool.or_eq_false_iff, Bool.and_eq_false_iff, Bool.not_eq_false', decide_eq_true_eq, decide_eq_false_iff_not, Bool.not_eq_true', Bool.and_eq_true, Bool.or_eq_true] at hc) <;> first | (exfalso; omega) | conv => whnf) | (refine ⟨_, wr64 (by first | omega | (simp only [Int.toNat_natCast, Int.reduceToNat]; omega)) (by first | omega | (simp only [Int.toNat_natCast, Int.reduceToNat]; omega)), ?_⟩; conv => whnf) | (refine And.intro (by first | omega | (simp only [Int.toNat_natCast, Int.reduceToNat, addZ]; omega) | (simp only [ByteArray.size_append, size_mk, List.length_cons, List.length_nil, Int.toNat_natCast, Int.reduceToNat]; omega) | exact ⟨rfl, by omega⟩ | ((repeat' apply And.intro) <;> first | exact trivial | omega) | decide +kernel) ?_; conv => whnf) | (refine And.intro (fun (ht : tg _ _ = true) => by (simp only [tg_ite, tg_nil, cn, Nat.reduceMul, Nat.reduceAdd, Nat.reduceEqDiff, ↓reduceIte, pickB_or, pickB_and, Bool.and_eq_true, Bool.or_eq_true, Bool.or_eq_false_iff, Bool.and_eq_false_iff, Bool.not_eq_true', Bool.not_eq_false', decide_eq_true_eq, decide_eq_false_iff_not, Int.toNat_natCast, Int.reduceToNat, ne_eq] at ht ⊢; first | omega | (simp only [Int.toNat_natCast, Int.reduceToNat]; omega))) ?_; conv => whnf) | (refine ⟨_, shl1 (by omega), ?_⟩; conv => whnf) | (refine ⟨_, wru64 (by first | omega | (simp only [Int.toNat_natCast, Int.reduceToNat]; omega)) (by first | omega | (simp only [Int.toNat_natCast, Int.reduceToNat]; omega)), ?_⟩; conv => whnf) | (refine ⟨_, fun _ => (IntKind.wrap_u64 _).symm, ?_⟩; conv => whnf) | exact ⟨_, .keep rfl rfl⟩ | fail
  · have e : q.1 < 10 := by rw [h4] at hc; omega
    exact ⟨_, .keep (by rw [hv, dec_small e, Int.toNat_natCast, Nat.mod_eq_of_lt e]) rfl⟩
  · have e : ¬ q.1 < 10 := by rw [h4] at hc; omega
    refine .mk (q.1 / 10, ⟨#[(48 + q.1 % 10).toUInt8]⟩ ++ q.2) ⟨by simp only; omega, by simp only; rw [hv, dec_step e, ByteArray.append_assoc]⟩ (by simp only; omega) ?_
    rw [h4]
    refine Ent.lp [] [] rfl rfl rfl ?_ ?_ <;> repeat' first | exact trivial | rfl | exact fun _ _ => rfl | omega | refine And.intro ?_ ?_ | (show (_ : Int) = _; first | omega | (simp only [Int.toNat_natCast]; omega))
def tyT (t : Int) : ByteArray := if t = 0 then (⟨#[118, 111, 105, 100]⟩ : ByteArray) else if t = 65 then (⟨#[112, 116, 114]⟩ : ByteArray) else if 0 < t ∧ t < 65 then (⟨#[105]⟩ : ByteArray) ++ dec t.toNat else ⟨#[]⟩
theorem tyT_len (t : Int) : (tyT t).size ≤ 21 := by
  unfold tyT
  repeat' split
  all_goals first | exact of_decide_eq_true rfl | (rw [ByteArray.size_append]; have := dec_len t.toNat (by omega); rw [size_mk]; simp only [List.length_cons, List.length_nil]; omega)
theorem toU {n : Int} (h : 0 ≤ n) (h2 : n < 18446744073709551616) : AV.i .u64 n = AV.i .u64 (n.toNat : Int) := by rw [Int.toNat_of_nonneg h]
theorem DigitsI_S (n : Int) (h : 0 ≤ n ∧ n < 18446744073709551616) : ASpec Tryd.prog 30 [.i .u64 n] (.s (dec n.toNat)) [] := by
  rw [toU h.1 h.2]; exact Digits_S n.toNat (by omega)
theorem Type5_S (t : Int) : ASpec Tryd.prog 13 [.i .i64 t] (.s (tyT t)) [] := by
  refine ASpec.enter TYok mixed Tryd.func13 rfl Tryd.call13 Tryd.ntmps13 rfl (rs := [.tmp 2]) rfl (nodupB_ok rfl) (Clo.one rfl) (keep := [0, 2]) ?_; conv => whnf
  repeat' first | (refine And.intro (fun (hb : _ = true) => ?_) (fun (hb : _ = false) => ?_) <;> (try simp only [pickB_or, pickB_and] at hb) <;> (have hc := hb; try simp only [Int.toNat_natCast, Int.reduceToNat, Bool.or_eq_false_iff, Bool.and_eq_false_iff, Bool.not_eq_false', decide_eq_true_eq, decide_eq_false_iff_not, Bool.not_eq_true', Bool.and_eq_true, Bool.or_eq_true] at hc) <;> first | (exfalso; omega) | conv => whnf) | (refine ⟨_, wr64 (by first | omega | (simp only [Int.toNat_natCast, Int.reduceToNat]; omega)) (by first | omega | (simp only [Int.toNat_natCast, Int.reduceToNat]; omega)), ?_⟩; conv => whnf) | (refine And.intro (by first | omega | (simp only [Int.toNat_natCast, Int.reduceToNat, addZ]; omega) | (simp only [ByteArray.size_append, size_mk, List.length_cons, List.length_nil, Int.toNat_natCast, Int.reduceToNat]; omega) | exact ⟨rfl, by omega⟩ | ((repeat' apply And.intro) <;> first | exact trivial | omega) | decide +kernel) ?_; conv => whnf) | (refine And.intro (fun (ht : tg _ _ = true) => by (simp only [tg_ite, tg_nil, cn, Nat.reduceMul, Nat.reduceAdd, Nat.reduceEqDiff, ↓reduceIte, pickB_or, pickB_and, Bool.and_eq_true, Bool.or_eq_true, Bool.or_eq_false_iff, Bool.and_eq_false_iff, Bool.not_eq_true', Bool.not_eq_false', decide_eq_true_eq, decide_eq_false_iff_not, Int.toNat_natCast, Int.reduceToNat, ne_eq] at ht ⊢; first | omega | (simp only [Int.toNat_natCast, Int.reduceToNat]; omega))) ?_; conv => whnf) | (refine ⟨_, shl1 (by omega), ?_⟩; conv => whnf) | (refine ⟨_, wru64 (by first | omega | (simp only [Int.toNat_natCast, Int.reduceToNat]; omega)) (by first | omega | (simp only [Int.toNat_natCast, Int.reduceToNat]; omega)), ?_⟩; conv => whnf) | (refine ⟨_, fun _ => (IntKind.wrap_u64 _).symm, ?_⟩; conv => whnf) | exact ⟨_, .keep rfl rfl⟩ | fail
  · exact ⟨_, .keep (by (try simp only [pickB_or, pickB_and]); unfold tyT; repeat' (first | rfl | omega | split | (simp_all; done))) rfl⟩
  · exact ⟨_, .keep (by (try simp only [pickB_or, pickB_and]); unfold tyT; repeat' (first | rfl | omega | split | (simp_all; done))) rfl⟩
  · have h1 := dec_len t.toNat (by omega)
    repeat' first | (refine And.intro (fun (hb : _ = true) => ?_) (fun (hb : _ = false) => ?_) <;> (try simp only [pickB_or, pickB_and] at hb) <;> (have hc := hb; try simp only [Int.toNat_natCast, Int.reduceToNat, Bool.or_eq_false_iff, Bool.and_eq_false_iff, Bool.not_eq_false', decide_eq_true_eq, decide_eq_false_iff_not, Bool.not_eq_true', Bool.and_eq_true, Bool.or_eq_true] at hc) <;> first | (exfalso; omega) | conv => whnf) | (refine ⟨_, wr64 (by first | omega | (simp only [Int.toNat_natCast, Int.reduceToNat]; omega)) (by first | omega | (simp only [Int.toNat_natCast, Int.reduceToNat]; omega)), ?_⟩; conv => whnf) | (refine And.intro (by first | omega | (simp only [Int.toNat_natCast, Int.reduceToNat, addZ]; omega) | (simp only [ByteArray.size_append, size_mk, List.length_cons, List.length_nil, Int.toNat_natCast, Int.reduceToNat]; omega) | exact ⟨rfl, by omega⟩ | ((repeat' apply And.intro) <;> first | exact trivial | omega) | decide +kernel) ?_; conv => whnf) | (refine And.intro (fun (ht : tg _ _ = true) => by (simp only [tg_ite, tg_nil, cn, Nat.reduceMul, Nat.reduceAdd, Nat.reduceEqDiff, ↓reduceIte, pickB_or, pickB_and, Bool.and_eq_true, Bool.or_eq_true, Bool.or_eq_false_iff, Bool.and_eq_false_iff, Bool.not_eq_true', Bool.not_eq_false', decide_eq_true_eq, decide_eq_false_iff_not, Int.toNat_natCast, Int.reduceToNat, ne_eq] at ht ⊢; first | omega | (simp only [Int.toNat_natCast, Int.reduceToNat]; omega))) ?_; conv => whnf) | (refine ⟨_, shl1 (by omega), ?_⟩; conv => whnf) | (refine ⟨_, wru64 (by first | omega | (simp only [Int.toNat_natCast, Int.reduceToNat]; omega)) (by first | omega | (simp only [Int.toNat_natCast, Int.reduceToNat]; omega)), ?_⟩; conv => whnf) | (refine ⟨_, fun _ => (IntKind.wrap_u64 _).symm, ?_⟩; conv => whnf) | ((first | refine CallK.mk _ _ (fun _ => DigitsI_S _ (by omega)) ?_ | refine CallL.mk _ _ (fun _ => DigitsI_S _ (by omega)) rfl (fun _ _ h => nomatch h) ?_ | (refine CallW.lent ?_; (conv => whnf); refine CallL.mk _ _ (fun _ => DigitsI_S _ (by omega)) rfl (fun _ _ h => nomatch h) ?_) | (refine CallW.lent ?_; (conv => whnf); refine And.intro (by omega) ?_; (conv => whnf); refine CallL.mk _ _ (fun _ => DigitsI_S _ (by omega)) rfl (fun _ _ h => nomatch h) ?_)); conv => whnf) | exact ⟨_, .keep rfl rfl⟩ | fail
    exact ⟨_, .keep (by (try simp only [pickB_or, pickB_and]); unfold tyT; repeat' (first | rfl | omega | split | (simp_all; done))) rfl⟩
  · exact ⟨_, .keep (by (try simp only [pickB_or, pickB_and]); unfold tyT; repeat' (first | rfl | omega | split | (simp_all; done))) rfl⟩
/-- .. joined by ', ', behind a text. -/
def joinT {α : Type} (z : ByteArray) (f : α → ByteArray) (l : List α) (d : α) : Nat → ByteArray
  | 0 => z
  | q + 1 => (if 0 < q then joinT z f l d q ++ (⟨#[44, 32]⟩ : ByteArray) else joinT z f l d q) ++ f (l.getD q d)
theorem joinT_step {α : Type} {z : ByteArray} {f : α → ByteArray} {l : List α} {d : α} {q : Nat} : (joinT z f l d (q + 1)).size = (joinT z f l d q).size + (if 0 < q then 2 else 0) + (f (l.getD q d)).size := by
  rw [joinT]
  split <;> simp only [ByteArray.size_append, size_mk, List.length_cons, List.length_nil] <;> omega
theorem joinT_mono {α : Type} {z : ByteArray} {f : α → ByteArray} {l : List α} {d : α} {q : Nat} : ∀ {k : Nat}, q ≤ k → (joinT z f l d q).size ≤ (joinT z f l d k).size
  | 0, h => by rw [show q = 0 by omega]; exact Nat.le_refl _
  | k + 1, h => by
    rcases Nat.lt_or_ge q (k + 1) with h2 | h2
    · have := joinT_mono (z := z) (f := f) (l := l) (d := d) (q := q) (k := k) (by omega); rw [joinT_step]; omega
    · rw [show q = k + 1 by omega]; exact Nat.le_refl _
def saidT (name : ByteArray) (params : List Int) (ret : Int) : ByteArray := ((joinT (name ++ (⟨#[40]⟩ : ByteArray)) tyT params Enc.d params.length ++ (⟨#[41, 32]⟩ : ByteArray)) ++ tyT ret) ++ (⟨#[10]⟩ : ByteArray)
theorem said5_S (name : ByteArray) (params : List Int) (ret : Int) (hs : (saidT name params ret).size ≤ 70368744177664) (hp : params.length < 4294967296) : ASpec Tryd.prog 31 [.s name, eL params, .i .i64 ret] (.s (saidT name params ret)) [] := by
  have hm := fun q (h : q ≤ params.length) => joinT_mono (z := name ++ (⟨#[40]⟩ : ByteArray)) (f := tyT) (l := params) (d := Enc.d) h
  have h0 : (name ++ (⟨#[40]⟩ : ByteArray)).size ≤ _ := hm 0 (Nat.zero_le _)
  unfold saidT at hs
  simp only [ByteArray.size_append, size_mk, List.length_cons, List.length_nil] at hs h0
  refine ASpec.enter TYok mixed Tryd.func31 rfl Tryd.call31 Tryd.ntmps31 rfl (rs := [.tmp 6]) rfl (nodupB_ok rfl) (Clo.one rfl) (keep := [0, 1, 2, 6, 7, 8]) ?_; conv => whnf
  repeat' first | (refine And.intro (fun (hb : _ = true) => ?_) (fun (hb : _ = false) => ?_) <;> (try simp only [pickB_or, pickB_and] at hb) <;> (have hc := hb; try simp only [Int.toNat_natCast, Int.reduceToNat, Bool.or_eq_false_iff, Bool.and_eq_false_iff, Bool.not_eq_false', decide_eq_true_eq, decide_eq_false_iff_not, Bool.not_eq_true', Bool.and_eq_true, Bool.or_eq_true] at hc) <;> first | (exfalso; omega) | conv => whnf) | (refine ⟨_, wr64 (by first | omega | (simp only [Int.toNat_natCast, Int.reduceToNat]; omega)) (by first | omega | (simp only [Int.toNat_natCast, Int.reduceToNat]; omega)), ?_⟩; conv => whnf) | (refine And.intro (by first | omega | (simp only [Int.toNat_natCast, Int.reduceToNat, addZ]; omega) | (simp only [ByteArray.size_append, size_mk, List.length_cons, List.length_nil, Int.toNat_natCast, Int.reduceToNat]; omega) | exact ⟨rfl, by omega⟩ | ((repeat' apply And.intro) <;> first | exact trivial | omega) | decide +kernel) ?_; conv => whnf) | (refine And.intro (fun (ht : tg _ _ = true) => by (simp only [tg_ite, tg_nil, cn, Nat.reduceMul, Nat.reduceAdd, Nat.reduceEqDiff, ↓reduceIte, pickB_or, pickB_and, Bool.and_eq_true, Bool.or_eq_true, Bool.or_eq_false_iff, Bool.and_eq_false_iff, Bool.not_eq_true', Bool.not_eq_false', decide_eq_true_eq, decide_eq_false_iff_not, Int.toNat_natCast, Int.reduceToNat, ne_eq] at ht ⊢; first | omega | (simp only [Int.toNat_natCast, Int.reduceToNat]; omega))) ?_; conv => whnf) | (refine ⟨_, shl1 (by omega), ?_⟩; conv => whnf) | (refine ⟨_, wru64 (by first | omega | (simp only [Int.toNat_natCast, Int.reduceToNat]; omega)) (by first | omega | (simp only [Int.toNat_natCast, Int.reduceToNat]; omega)), ?_⟩; conv => whnf) | (refine ⟨_, fun _ => (IntKind.wrap_u64 _).symm, ?_⟩; conv => whnf) | exact ⟨_, .keep rfl rfl⟩ | fail
  refine lp [8, 7] (fun q : Nat => [.i .i64 q, .s (joinT (name ++ (⟨#[40]⟩ : ByteArray)) tyT params Enc.d q)]) (fun q => []) (fun q => q ≤ params.length) (fun q => params.length - q) 0 (by omega) ?_ fun q hq => ?_
  · refine Ent.lp [] [] rfl rfl rfl ?_ ?_ <;> repeat' first | exact trivial | rfl | exact fun _ _ => rfl | omega | refine And.intro ?_ ?_ | (show (_ : Int) = _; first | omega | (simp only [Int.toNat_natCast]; omega))
  conv => whnf
  have h1 := hm q hq
  have h2 := tyT_len (params.getD q Enc.d)
  have h3 := tyT_len ret
  repeat' first | (refine And.intro (fun (hb : _ = true) => ?_) (fun (hb : _ = false) => ?_) <;> (try simp only [pickB_or, pickB_and] at hb) <;> (have hc := hb; try simp only [Int.toNat_natCast, Int.reduceToNat, Bool.or_eq_false_iff, Bool.and_eq_false_iff, Bool.not_eq_false', decide_eq_true_eq, decide_eq_false_iff_not, Bool.not_eq_true', Bool.and_eq_true, Bool.or_eq_true] at hc) <;> first | (exfalso; omega) | conv => whnf) | (refine ⟨_, wr64 (by first | omega | (simp only [Int.toNat_natCast, Int.reduceToNat]; omega)) (by first | omega | (simp only [Int.toNat_natCast, Int.reduceToNat]; omega)), ?_⟩; conv => whnf) | (refine And.intro (by first | omega | (simp only [Int.toNat_natCast, Int.reduceToNat, addZ]; omega) | (simp only [ByteArray.size_append, size_mk, List.length_cons, List.length_nil, Int.toNat_natCast, Int.reduceToNat]; omega) | exact ⟨rfl, by omega⟩ | ((repeat' apply And.intro) <;> first | exact trivial | omega) | decide +kernel) ?_; conv => whnf) | (refine And.intro (fun (ht : tg _ _ = true) => by (simp only [tg_ite, tg_nil, cn, Nat.reduceMul, Nat.reduceAdd, Nat.reduceEqDiff, ↓reduceIte, pickB_or, pickB_and, Bool.and_eq_true, Bool.or_eq_true, Bool.or_eq_false_iff, Bool.and_eq_false_iff, Bool.not_eq_true', Bool.not_eq_false', decide_eq_true_eq, decide_eq_false_iff_not, Int.toNat_natCast, Int.reduceToNat, ne_eq] at ht ⊢; first | omega | (simp only [Int.toNat_natCast, Int.reduceToNat]; omega))) ?_; conv => whnf) | (refine ⟨_, shl1 (by omega), ?_⟩; conv => whnf) | (refine ⟨_, wru64 (by first | omega | (simp only [Int.toNat_natCast, Int.reduceToNat]; omega)) (by first | omega | (simp only [Int.toNat_natCast, Int.reduceToNat]; omega)), ?_⟩; conv => whnf) | (refine ⟨_, fun _ => (IntKind.wrap_u64 _).symm, ?_⟩; conv => whnf) | ((first | refine CallK.mk _ _ (fun _ => Type5_S _) ?_ | refine CallL.mk _ _ (fun _ => Type5_S _) rfl (fun _ _ h => nomatch h) ?_ | (refine CallW.lent ?_; (conv => whnf); refine CallL.mk _ _ (fun _ => Type5_S _) rfl (fun _ _ h => nomatch h) ?_) | (refine CallW.lent ?_; (conv => whnf); refine And.intro (by omega) ?_; (conv => whnf); refine CallL.mk _ _ (fun _ => Type5_S _) rfl (fun _ _ h => nomatch h) ?_)); conv => whnf) | exact ⟨_, .keep rfl rfl⟩ | fail
  · have e : joinT (name ++ (⟨#[40]⟩ : ByteArray)) tyT params Enc.d (q + 1) = (joinT (name ++ (⟨#[40]⟩ : ByteArray)) tyT params Enc.d q ++ (⟨#[44, 32]⟩ : ByteArray)) ++ tyT (params.getD q Enc.d) := by rw [joinT, if_pos (by omega)]
    refine .mk (q + 1) (by omega) (by omega) ?_
    rw [e]
    refine Ent.lp [] [] rfl rfl rfl ?_ ?_ <;> repeat' first | exact trivial | rfl | exact fun _ _ => rfl | omega | refine And.intro ?_ ?_ | (show (_ : Int) = _; first | omega | (simp only [Int.toNat_natCast]; omega))
  · have e : joinT (name ++ (⟨#[40]⟩ : ByteArray)) tyT params Enc.d (q + 1) = joinT (name ++ (⟨#[40]⟩ : ByteArray)) tyT params Enc.d q ++ tyT (params.getD q Enc.d) := by rw [joinT, if_neg (by omega)]
    refine .mk (q + 1) (by omega) (by omega) ?_
    rw [e]
    refine Ent.lp [] [] rfl rfl rfl ?_ ?_ <;> repeat' first | exact trivial | rfl | exact fun _ _ => rfl | omega | refine And.intro ?_ ?_ | (show (_ : Int) = _; first | omega | (simp only [Int.toNat_natCast]; omega))
  · have e : q = params.length := by omega
    subst e
    exact ⟨_, .keep rfl rfl⟩
def valT (m : ModE) (v : Opd) : ByteArray := if v.k = 1 then (⟨#[37]⟩ : ByteArray) ++ dec v.n.toNat else if v.k = 2 then dec v.b.toNat else if v.k = 3 then (⟨#[112, 111, 105, 115, 111, 110]⟩ : ByteArray) else if v.k = 4 then (⟨#[110, 117, 108, 108]⟩ : ByteArray) else (⟨#[64]⟩ : ByteArray) ++ (m.vars.getD v.n.toNat Enc.d).name
def opR (m : ModE) (v : Opd) : Prop := operand5 m v = true ∧ 0 ≤ v.b ∧ v.b < 18446744073709551616
theorem name_le (m : ModE) (i : Nat) : (m.vars.getD i Enc.d).name.size ≤ siz m := by
  have h0 : siz m = siz m.vars + siz m.exts + siz m.funcs := rfl
  have h1 : (m.vars.getD i Enc.d).name.size ≤ siz m.vars := siz_at m.vars i
  omega
theorem inR_iff {n lo hi : Int} : inR n lo hi = true ↔ lo ≤ n ∧ n ≤ hi := by unfold inR; rw [Bool.and_eq_true, decide_eq_true_eq, decide_eq_true_eq]
theorem op1 {m : ModE} {v : Opd} (h : operand5 m v = true) (hk : v.k = 1) : 0 ≤ v.n ∧ v.n ≤ 4095 := by
  rw [operand5, if_pos hk, Bool.and_eq_true] at h; exact inR_iff.1 h.1
theorem op5 {m : ModE} {v : Opd} (h : operand5 m v = true) (h1 : ¬v.k = 1) (h2 : ¬v.k = 2) (h3 : ¬v.k = 3) (h4 : ¬v.k = 4) : v.k = 5 ∧ 0 ≤ v.n ∧ v.n < m.vars.length := by
  rw [operand5, if_neg h1, if_neg h2, if_neg (by omega)] at h
  split at h
  · simp only [Bool.and_eq_true, decide_eq_true_eq] at h; exact ⟨by assumption, h.1⟩
  · cases h
theorem valT_len {m : ModE} {v : Opd} (h : opR m v) : (valT m v).size ≤ siz m + 30 := by
  unfold valT
  split
  · have := op1 h.1 ‹_›
    have := dec_len v.n.toNat (by omega)
    rw [ByteArray.size_append, size_mk]; simp only [List.length_cons, List.length_nil]; omega
  · split
    · have := dec_len v.b.toNat (by have := h.2; omega); omega
    · split
      · rw [size_mk]; simp only [List.length_cons, List.length_nil]; omega
      · split
        · rw [size_mk]; simp only [List.length_cons, List.length_nil]; omega
        · have := name_le m v.n.toNat
          rw [ByteArray.size_append, size_mk]; simp only [List.length_cons, List.length_nil]; omega
theorem value5_S (m : ModE) (v : Opd) (h : opR m v) (hm : siz m < 4294967296) : ASpec Tryd.prog 70 [eS m, eS v] (.s (valT m v)) [] := by
  have h1 := name_le m v.n.toNat
  have h2 := h.2
  have h3 := op1 h.1
  have h4 := op5 h.1
  have d1 := dec_len v.b.toNat (by omega)
  by_cases hk : v.k = 1
  · have h3 := h3 hk
    have d2 := dec_len v.n.toNat (by omega)
    refine ASpec.enter TYok mixed Tryd.func70 rfl Tryd.call70 Tryd.ntmps70 rfl (rs := [.tmp 4]) rfl (nodupB_ok rfl) (Clo.one rfl) (keep := [0, 1, 2, 3, 4, 6]) ?_; conv => whnf
    repeat' first | (refine And.intro (fun (hb : _ = true) => ?_) (fun (hb : _ = false) => ?_) <;> (try simp only [pickB_or, pickB_and] at hb) <;> (have hc := hb; try simp only [Int.toNat_natCast, Int.reduceToNat, Bool.or_eq_false_iff, Bool.and_eq_false_iff, Bool.not_eq_false', decide_eq_true_eq, decide_eq_false_iff_not, Bool.not_eq_true', Bool.and_eq_true, Bool.or_eq_true] at hc) <;> first | (exfalso; omega) | conv => whnf) | (refine ⟨_, wr64 (by first | omega | (simp only [Int.toNat_natCast, Int.reduceToNat]; omega)) (by first | omega | (simp only [Int.toNat_natCast, Int.reduceToNat]; omega)), ?_⟩; conv => whnf) | (refine And.intro (by first | omega | (simp only [Int.toNat_natCast, Int.reduceToNat, addZ]; omega) | (simp only [ByteArray.size_append, size_mk, List.length_cons, List.length_nil, Int.toNat_natCast, Int.reduceToNat]; omega) | exact ⟨rfl, by omega⟩ | ((repeat' apply And.intro) <;> first | exact trivial | omega) | decide +kernel) ?_; conv => whnf) | (refine And.intro (fun (ht : tg _ _ = true) => by (simp only [tg_ite, tg_nil, cn, Nat.reduceMul, Nat.reduceAdd, Nat.reduceEqDiff, ↓reduceIte, pickB_or, pickB_and, Bool.and_eq_true, Bool.or_eq_true, Bool.or_eq_false_iff, Bool.and_eq_false_iff, Bool.not_eq_true', Bool.not_eq_false', decide_eq_true_eq, decide_eq_false_iff_not, Int.toNat_natCast, Int.reduceToNat, ne_eq] at ht ⊢; first | omega | (simp only [Int.toNat_natCast, Int.reduceToNat]; omega))) ?_; conv => whnf) | (refine ⟨_, shl1 (by omega), ?_⟩; conv => whnf) | (refine ⟨_, wru64 (by first | omega | (simp only [Int.toNat_natCast, Int.reduceToNat]; omega)) (by first | omega | (simp only [Int.toNat_natCast, Int.reduceToNat]; omega)), ?_⟩; conv => whnf) | (refine ⟨_, fun _ => (IntKind.wrap_u64 _).symm, ?_⟩; conv => whnf) | ((first | refine CallK.mk _ _ (fun _ => DigitsI_S _ (by omega)) ?_ | refine CallL.mk _ _ (fun _ => DigitsI_S _ (by omega)) rfl (fun _ _ h => nomatch h) ?_ | (refine CallW.lent ?_; (conv => whnf); refine CallL.mk _ _ (fun _ => DigitsI_S _ (by omega)) rfl (fun _ _ h => nomatch h) ?_) | (refine CallW.lent ?_; (conv => whnf); refine And.intro (by omega) ?_; (conv => whnf); refine CallL.mk _ _ (fun _ => DigitsI_S _ (by omega)) rfl (fun _ _ h => nomatch h) ?_)); conv => whnf) | exact ⟨_, .keep rfl rfl⟩ | fail
    exact ⟨_, .keep (by (try simp only [pickB_or, pickB_and]); unfold valT; repeat' (first | rfl | omega | split | (simp_all; done))) rfl⟩
  · by_cases hk2 : v.k = 2 ∨ v.k = 3 ∨ v.k = 4
    · refine ASpec.enter TYok mixed Tryd.func70 rfl Tryd.call70 Tryd.ntmps70 rfl (rs := [.tmp 4]) rfl (nodupB_ok rfl) (Clo.one rfl) (keep := [0, 1, 2, 3, 4, 6]) ?_; conv => whnf
      repeat' first | (refine And.intro (fun (hb : _ = true) => ?_) (fun (hb : _ = false) => ?_) <;> (try simp only [pickB_or, pickB_and] at hb) <;> (have hc := hb; try simp only [Int.toNat_natCast, Int.reduceToNat, Bool.or_eq_false_iff, Bool.and_eq_false_iff, Bool.not_eq_false', decide_eq_true_eq, decide_eq_false_iff_not, Bool.not_eq_true', Bool.and_eq_true, Bool.or_eq_true] at hc) <;> first | (exfalso; omega) | conv => whnf) | (refine ⟨_, wr64 (by first | omega | (simp only [Int.toNat_natCast, Int.reduceToNat]; omega)) (by first | omega | (simp only [Int.toNat_natCast, Int.reduceToNat]; omega)), ?_⟩; conv => whnf) | (refine And.intro (by first | omega | (simp only [Int.toNat_natCast, Int.reduceToNat, addZ]; omega) | (simp only [ByteArray.size_append, size_mk, List.length_cons, List.length_nil, Int.toNat_natCast, Int.reduceToNat]; omega) | exact ⟨rfl, by omega⟩ | ((repeat' apply And.intro) <;> first | exact trivial | omega) | decide +kernel) ?_; conv => whnf) | (refine And.intro (fun (ht : tg _ _ = true) => by (simp only [tg_ite, tg_nil, cn, Nat.reduceMul, Nat.reduceAdd, Nat.reduceEqDiff, ↓reduceIte, pickB_or, pickB_and, Bool.and_eq_true, Bool.or_eq_true, Bool.or_eq_false_iff, Bool.and_eq_false_iff, Bool.not_eq_true', Bool.not_eq_false', decide_eq_true_eq, decide_eq_false_iff_not, Int.toNat_natCast, Int.reduceToNat, ne_eq] at ht ⊢; first | omega | (simp only [Int.toNat_natCast, Int.reduceToNat]; omega))) ?_; conv => whnf) | (refine ⟨_, shl1 (by omega), ?_⟩; conv => whnf) | (refine ⟨_, wru64 (by first | omega | (simp only [Int.toNat_natCast, Int.reduceToNat]; omega)) (by first | omega | (simp only [Int.toNat_natCast, Int.reduceToNat]; omega)), ?_⟩; conv => whnf) | (refine ⟨_, fun _ => (IntKind.wrap_u64 _).symm, ?_⟩; conv => whnf) | ((first | refine CallK.mk _ _ (fun _ => DigitsI_S _ (by omega)) ?_ | refine CallL.mk _ _ (fun _ => DigitsI_S _ (by omega)) rfl (fun _ _ h => nomatch h) ?_ | (refine CallW.lent ?_; (conv => whnf); refine CallL.mk _ _ (fun _ => DigitsI_S _ (by omega)) rfl (fun _ _ h => nomatch h) ?_) | (refine CallW.lent ?_; (conv => whnf); refine And.intro (by omega) ?_; (conv => whnf); refine CallL.mk _ _ (fun _ => DigitsI_S _ (by omega)) rfl (fun _ _ h => nomatch h) ?_)); conv => whnf) | exact ⟨_, .keep rfl rfl⟩ | fail
      all_goals exact ⟨_, .keep (by (try simp only [pickB_or, pickB_and]); unfold valT; repeat' (first | rfl | omega | split | (simp_all; done))) rfl⟩
    · have h4 := h4 hk (by omega) (by omega) (by omega)
      refine ASpec.enter TYok mixed Tryd.func70 rfl Tryd.call70 Tryd.ntmps70 rfl (rs := [.tmp 4]) rfl (nodupB_ok rfl) (Clo.one rfl) (keep := [0, 1, 2, 3, 4, 6]) ?_; conv => whnf
      repeat' first | (refine And.intro (fun (hb : _ = true) => ?_) (fun (hb : _ = false) => ?_) <;> (try simp only [pickB_or, pickB_and] at hb) <;> (have hc := hb; try simp only [Int.toNat_natCast, Int.reduceToNat, Bool.or_eq_false_iff, Bool.and_eq_false_iff, Bool.not_eq_false', decide_eq_true_eq, decide_eq_false_iff_not, Bool.not_eq_true', Bool.and_eq_true, Bool.or_eq_true] at hc) <;> first | (exfalso; omega) | conv => whnf) | (refine ⟨_, wr64 (by first | omega | (simp only [Int.toNat_natCast, Int.reduceToNat]; omega)) (by first | omega | (simp only [Int.toNat_natCast, Int.reduceToNat]; omega)), ?_⟩; conv => whnf) | (refine And.intro (by first | omega | (simp only [Int.toNat_natCast, Int.reduceToNat, addZ]; omega) | (simp only [ByteArray.size_append, size_mk, List.length_cons, List.length_nil, Int.toNat_natCast, Int.reduceToNat]; omega) | exact ⟨rfl, by omega⟩ | ((repeat' apply And.intro) <;> first | exact trivial | omega) | decide +kernel) ?_; conv => whnf) | (refine And.intro (fun (ht : tg _ _ = true) => by (simp only [tg_ite, tg_nil, cn, Nat.reduceMul, Nat.reduceAdd, Nat.reduceEqDiff, ↓reduceIte, pickB_or, pickB_and, Bool.and_eq_true, Bool.or_eq_true, Bool.or_eq_false_iff, Bool.and_eq_false_iff, Bool.not_eq_true', Bool.not_eq_false', decide_eq_true_eq, decide_eq_false_iff_not, Int.toNat_natCast, Int.reduceToNat, ne_eq] at ht ⊢; first | omega | (simp only [Int.toNat_natCast, Int.reduceToNat]; omega))) ?_; conv => whnf) | (refine ⟨_, shl1 (by omega), ?_⟩; conv => whnf) | (refine ⟨_, wru64 (by first | omega | (simp only [Int.toNat_natCast, Int.reduceToNat]; omega)) (by first | omega | (simp only [Int.toNat_natCast, Int.reduceToNat]; omega)), ?_⟩; conv => whnf) | (refine ⟨_, fun _ => (IntKind.wrap_u64 _).symm, ?_⟩; conv => whnf) | ((first | refine CallK.mk _ _ (fun _ => DigitsI_S _ (by omega)) ?_ | refine CallL.mk _ _ (fun _ => DigitsI_S _ (by omega)) rfl (fun _ _ h => nomatch h) ?_ | (refine CallW.lent ?_; (conv => whnf); refine CallL.mk _ _ (fun _ => DigitsI_S _ (by omega)) rfl (fun _ _ h => nomatch h) ?_) | (refine CallW.lent ?_; (conv => whnf); refine And.intro (by omega) ?_; (conv => whnf); refine CallL.mk _ _ (fun _ => DigitsI_S _ (by omega)) rfl (fun _ _ h => nomatch h) ?_)); conv => whnf) | exact ⟨_, .keep rfl rfl⟩ | fail
      all_goals exact ⟨_, .keep (by (try simp only [pickB_or, pickB_and]); unfold valT; repeat' (first | rfl | omega | split | (simp_all; done))) rfl⟩
def valuesT (m : ModE) (l : List Opd) : ByteArray := joinT ⟨#[]⟩ (valT m) l Enc.d l.length
theorem values5_S (m : ModE) (l : List Opd) (h : ∀ i, i < l.length → opR m (l.getD i Enc.d)) (hm : siz m < 4294967296) (hs : (valuesT m l).size ≤ 70368744177664) (hl : l.length < 4294967296) : ASpec Tryd.prog 71 [eS m, eL l] (.s (valuesT m l)) [] := by
  have hmo := fun q (h : q ≤ l.length) => joinT_mono (z := ⟨#[]⟩) (f := valT m) (l := l) (d := Enc.d) h
  unfold valuesT at hs
  refine ASpec.enter TYok mixed Tryd.func71 rfl Tryd.call71 Tryd.ntmps71 rfl (rs := [.tmp 4]) rfl (nodupB_ok rfl) (Clo.one rfl) (keep := [0, 1, 2, 4, 5, 6]) ?_; conv => whnf
  refine lp [6, 5] (fun q : Nat => [.i .i64 q, .s (joinT ⟨#[]⟩ (valT m) l Enc.d q)]) (fun q => [(2, bx m)]) (fun q => q ≤ l.length) (fun q => l.length - q) 0 (by omega) ?_ fun q hq => ?_
  · refine Ent.lp [] [] rfl rfl rfl ?_ ?_ <;> repeat' first | exact trivial | rfl | exact fun _ _ => rfl | omega | refine And.intro ?_ ?_ | (show (_ : Int) = _; first | omega | (simp only [Int.toNat_natCast]; omega))
  conv => whnf
  have h1 := hmo q hq
  rcases Nat.lt_or_ge q l.length with hlt | hge
  · have h2 := valT_len (h q hlt)
    have h3 := h q hlt
    repeat' first | (refine And.intro (fun (hb : _ = true) => ?_) (fun (hb : _ = false) => ?_) <;> (try simp only [pickB_or, pickB_and] at hb) <;> (have hc := hb; try simp only [Int.toNat_natCast, Int.reduceToNat, Bool.or_eq_false_iff, Bool.and_eq_false_iff, Bool.not_eq_false', decide_eq_true_eq, decide_eq_false_iff_not, Bool.not_eq_true', Bool.and_eq_true, Bool.or_eq_true] at hc) <;> first | (exfalso; omega) | conv => whnf) | (refine ⟨_, wr64 (by first | omega | (simp only [Int.toNat_natCast, Int.reduceToNat]; omega)) (by first | omega | (simp only [Int.toNat_natCast, Int.reduceToNat]; omega)), ?_⟩; conv => whnf) | (refine And.intro (by first | omega | (simp only [Int.toNat_natCast, Int.reduceToNat, addZ]; omega) | (simp only [ByteArray.size_append, size_mk, List.length_cons, List.length_nil, Int.toNat_natCast, Int.reduceToNat]; omega) | exact ⟨rfl, by omega⟩ | ((repeat' apply And.intro) <;> first | exact trivial | omega) | decide +kernel) ?_; conv => whnf) | (refine And.intro (fun (ht : tg _ _ = true) => by (simp only [tg_ite, tg_nil, cn, Nat.reduceMul, Nat.reduceAdd, Nat.reduceEqDiff, ↓reduceIte, pickB_or, pickB_and, Bool.and_eq_true, Bool.or_eq_true, Bool.or_eq_false_iff, Bool.and_eq_false_iff, Bool.not_eq_true', Bool.not_eq_false', decide_eq_true_eq, decide_eq_false_iff_not, Int.toNat_natCast, Int.reduceToNat, ne_eq] at ht ⊢; first | omega | (simp only [Int.toNat_natCast, Int.reduceToNat]; omega))) ?_; conv => whnf) | (refine ⟨_, shl1 (by omega), ?_⟩; conv => whnf) | (refine ⟨_, wru64 (by first | omega | (simp only [Int.toNat_natCast, Int.reduceToNat]; omega)) (by first | omega | (simp only [Int.toNat_natCast, Int.reduceToNat]; omega)), ?_⟩; conv => whnf) | (refine ⟨_, fun _ => (IntKind.wrap_u64 _).symm, ?_⟩; conv => whnf) | ((first | refine CallK.mk _ _ (fun _ => value5_S m _ h3 hm) ?_ | refine CallL.mk _ _ (fun _ => value5_S m _ h3 hm) rfl (fun _ _ h => nomatch h) ?_ | (refine CallW.lent ?_; (conv => whnf); refine CallL.mk _ _ (fun _ => value5_S m _ h3 hm) rfl (fun _ _ h => nomatch h) ?_) | (refine CallW.lent ?_; (conv => whnf); refine And.intro (by omega) ?_; (conv => whnf); refine CallL.mk _ _ (fun _ => value5_S m _ h3 hm) rfl (fun _ _ h => nomatch h) ?_)); conv => whnf) | exact ⟨_, .keep rfl rfl⟩ | fail
    · have e : joinT ⟨#[]⟩ (valT m) l Enc.d (q + 1) = (joinT ⟨#[]⟩ (valT m) l Enc.d q ++ (⟨#[44, 32]⟩ : ByteArray)) ++ valT m (l.getD q Enc.d) := by rw [joinT, if_pos (by omega)]
      refine .mk (q + 1) (by omega) (by omega) ?_
      rw [e]
      refine Ent.lp [] [] rfl rfl rfl ?_ ?_ <;> repeat' first | exact trivial | rfl | exact fun _ _ => rfl | omega | refine And.intro ?_ ?_ | (show (_ : Int) = _; first | omega | (simp only [Int.toNat_natCast]; omega))
    · have e : joinT ⟨#[]⟩ (valT m) l Enc.d (q + 1) = joinT ⟨#[]⟩ (valT m) l Enc.d q ++ valT m (l.getD q Enc.d) := by rw [joinT, if_neg (by omega)]
      refine .mk (q + 1) (by omega) (by omega) ?_
      rw [e]
      refine Ent.lp [] [] rfl rfl rfl ?_ ?_ <;> repeat' first | exact trivial | rfl | exact fun _ _ => rfl | omega | refine And.intro ?_ ?_ | (show (_ : Int) = _; first | omega | (simp only [Int.toNat_natCast]; omega))
  · have e : q = l.length := by omega
    subst e
    repeat' first | (refine And.intro (fun (hb : _ = true) => ?_) (fun (hb : _ = false) => ?_) <;> (try simp only [pickB_or, pickB_and] at hb) <;> (have hc := hb; try simp only [Int.toNat_natCast, Int.reduceToNat, Bool.or_eq_false_iff, Bool.and_eq_false_iff, Bool.not_eq_false', decide_eq_true_eq, decide_eq_false_iff_not, Bool.not_eq_true', Bool.and_eq_true, Bool.or_eq_true] at hc) <;> first | (exfalso; omega) | conv => whnf) | (refine ⟨_, wr64 (by first | omega | (simp only [Int.toNat_natCast, Int.reduceToNat]; omega)) (by first | omega | (simp only [Int.toNat_natCast, Int.reduceToNat]; omega)), ?_⟩; conv => whnf) | (refine And.intro (by first | omega | (simp only [Int.toNat_natCast, Int.reduceToNat, addZ]; omega) | (simp only [ByteArray.size_append, size_mk, List.length_cons, List.length_nil, Int.toNat_natCast, Int.reduceToNat]; omega) | exact ⟨rfl, by omega⟩ | ((repeat' apply And.intro) <;> first | exact trivial | omega) | decide +kernel) ?_; conv => whnf) | (refine And.intro (fun (ht : tg _ _ = true) => by (simp only [tg_ite, tg_nil, cn, Nat.reduceMul, Nat.reduceAdd, Nat.reduceEqDiff, ↓reduceIte, pickB_or, pickB_and, Bool.and_eq_true, Bool.or_eq_true, Bool.or_eq_false_iff, Bool.and_eq_false_iff, Bool.not_eq_true', Bool.not_eq_false', decide_eq_true_eq, decide_eq_false_iff_not, Int.toNat_natCast, Int.reduceToNat, ne_eq] at ht ⊢; first | omega | (simp only [Int.toNat_natCast, Int.reduceToNat]; omega))) ?_; conv => whnf) | (refine ⟨_, shl1 (by omega), ?_⟩; conv => whnf) | (refine ⟨_, wru64 (by first | omega | (simp only [Int.toNat_natCast, Int.reduceToNat]; omega)) (by first | omega | (simp only [Int.toNat_natCast, Int.reduceToNat]; omega)), ?_⟩; conv => whnf) | (refine ⟨_, fun _ => (IntKind.wrap_u64 _).symm, ?_⟩; conv => whnf) | exact ⟨_, .keep rfl rfl⟩ | fail
def blkT (n : Int) : ByteArray := (⟨#[98]⟩ : ByteArray) ++ dec n.toNat
theorem block5_S (n : Int) (h : 0 ≤ n ∧ n < 18446744073709551616) : ASpec Tryd.prog 32 [.i .i64 n] (.s (blkT n)) [] := by
  have d := dec_len n.toNat (by omega)
  refine ASpec.enter TYok mixed Tryd.func32 rfl Tryd.call32 Tryd.ntmps32 rfl (rs := [.tmp 2]) rfl (nodupB_ok rfl) (Clo.one rfl) (keep := [0, 2]) ?_; conv => whnf
  repeat' first | (refine And.intro (fun (hb : _ = true) => ?_) (fun (hb : _ = false) => ?_) <;> (try simp only [pickB_or, pickB_and] at hb) <;> (have hc := hb; try simp only [Int.toNat_natCast, Int.reduceToNat, Bool.or_eq_false_iff, Bool.and_eq_false_iff, Bool.not_eq_false', decide_eq_true_eq, decide_eq_false_iff_not, Bool.not_eq_true', Bool.and_eq_true, Bool.or_eq_true] at hc) <;> first | (exfalso; omega) | conv => whnf) | (refine ⟨_, wr64 (by first | omega | (simp only [Int.toNat_natCast, Int.reduceToNat]; omega)) (by first | omega | (simp only [Int.toNat_natCast, Int.reduceToNat]; omega)), ?_⟩; conv => whnf) | (refine And.intro (by first | omega | (simp only [Int.toNat_natCast, Int.reduceToNat, addZ]; omega) | (simp only [ByteArray.size_append, size_mk, List.length_cons, List.length_nil, Int.toNat_natCast, Int.reduceToNat]; omega) | exact ⟨rfl, by omega⟩ | ((repeat' apply And.intro) <;> first | exact trivial | omega) | decide +kernel) ?_; conv => whnf) | (refine And.intro (fun (ht : tg _ _ = true) => by (simp only [tg_ite, tg_nil, cn, Nat.reduceMul, Nat.reduceAdd, Nat.reduceEqDiff, ↓reduceIte, pickB_or, pickB_and, Bool.and_eq_true, Bool.or_eq_true, Bool.or_eq_false_iff, Bool.and_eq_false_iff, Bool.not_eq_true', Bool.not_eq_false', decide_eq_true_eq, decide_eq_false_iff_not, Int.toNat_natCast, Int.reduceToNat, ne_eq] at ht ⊢; first | omega | (simp only [Int.toNat_natCast, Int.reduceToNat]; omega))) ?_; conv => whnf) | (refine ⟨_, shl1 (by omega), ?_⟩; conv => whnf) | (refine ⟨_, wru64 (by first | omega | (simp only [Int.toNat_natCast, Int.reduceToNat]; omega)) (by first | omega | (simp only [Int.toNat_natCast, Int.reduceToNat]; omega)), ?_⟩; conv => whnf) | (refine ⟨_, fun _ => (IntKind.wrap_u64 _).symm, ?_⟩; conv => whnf) | ((first | refine CallK.mk _ _ (fun _ => DigitsI_S _ (by omega)) ?_ | refine CallL.mk _ _ (fun _ => DigitsI_S _ (by omega)) rfl (fun _ _ h => nomatch h) ?_ | (refine CallW.lent ?_; (conv => whnf); refine CallL.mk _ _ (fun _ => DigitsI_S _ (by omega)) rfl (fun _ _ h => nomatch h) ?_) | (refine CallW.lent ?_; (conv => whnf); refine And.intro (by omega) ?_; (conv => whnf); refine CallL.mk _ _ (fun _ => DigitsI_S _ (by omega)) rfl (fun _ _ h => nomatch h) ?_)); conv => whnf) | exact ⟨_, .keep rfl rfl⟩ | fail
end Go.Proofs.YtilhkmlghhdpaaaDoor

/- Layer 5, the reference: texts, further. -/
namespace Go.Proofs.YtilhkmlghhdpaaaDoor
open Go.RowKit
set_option linter.unusedVariables false
set_option linter.unusedSimpArgs false
set_option maxRecDepth 100000
set_option maxHeartbeats 4000000
theorem Gives.row {o : Os} {nz : Option Bool} {e n n' : Nat} {g g' : Nat → List AV} (h1 : n = n') (h : ∀ i, i < n' → g i = g' i) : Gives o (.row nz e n g) o (.row none e n' g') [] := by
  subst h1
  refine ⟨List.Sublist.refl _, fun S β w u ho hr => ⟨W0, List.nodup_nil, (fun k hk => by cases hk), fun S' β' hβ hS hS2 => ⟨?_, fun id ob hl => by simp [lk] at hl⟩⟩⟩
  have hr := rel_mono (S := S) (S' := S') (β := β) (w := w) (w' := w) ⟨Nat.le_refl _, fun k hk hs => ⟨hS k hk hs, rfl⟩⟩ _ _ hr
  unfold rel at hr ⊢
  obtain ⟨a, cap, us, rfl, z1, z2, z3⟩ := hr
  exact ⟨a, cap, us, rfl, (fun z hz => by cases hz), z2, fun i hi => ⟨(z3 i hi).1, (z3 i hi).2.1, by rw [← h i hi]; exact (z3 i hi).2.2⟩⟩
def opNames : List ByteArray := [(⟨#[]⟩ : ByteArray), (⟨#[97, 100, 100]⟩ : ByteArray), (⟨#[115, 117, 98]⟩ : ByteArray), (⟨#[109, 117, 108]⟩ : ByteArray), (⟨#[117, 100, 105, 118]⟩ : ByteArray), (⟨#[115, 100, 105, 118]⟩ : ByteArray), (⟨#[117, 114, 101, 109]⟩ : ByteArray), (⟨#[115, 114, 101, 109]⟩ : ByteArray), (⟨#[97, 110, 100]⟩ : ByteArray), (⟨#[111, 114]⟩ : ByteArray), (⟨#[120, 111, 114]⟩ : ByteArray), (⟨#[115, 104, 108]⟩ : ByteArray), (⟨#[108, 115, 104, 114]⟩ : ByteArray), (⟨#[97, 115, 104, 114]⟩ : ByteArray), (⟨#[101, 113]⟩ : ByteArray), (⟨#[110, 101]⟩ : ByteArray), (⟨#[117, 108, 116]⟩ : ByteArray), (⟨#[117, 108, 101]⟩ : ByteArray), (⟨#[115, 108, 116]⟩ : ByteArray), (⟨#[115, 108, 101]⟩ : ByteArray), (⟨#[122, 101, 120, 116]⟩ : ByteArray), (⟨#[115, 101, 120, 116]⟩ : ByteArray), (⟨#[116, 114, 117, 110, 99]⟩ : ByteArray), (⟨#[115, 101, 108, 101, 99, 116]⟩ : ByteArray), (⟨#[102, 114, 101, 101, 122, 101]⟩ : ByteArray), (⟨#[112, 104, 105]⟩ : ByteArray), (⟨#[97, 108, 108, 111, 99, 97]⟩ : ByteArray), (⟨#[108, 111, 97, 100]⟩ : ByteArray), (⟨#[115, 116, 111, 114, 101]⟩ : ByteArray), (⟨#[103, 101, 112]⟩ : ByteArray), (⟨#[99, 97, 108, 108]⟩ : ByteArray), (⟨#[98, 114]⟩ : ByteArray), (⟨#[98, 114, 105, 102]⟩ : ByteArray), (⟨#[114, 101, 116]⟩ : ByteArray), (⟨#[104, 97, 108, 116]⟩ : ByteArray)]
theorem names4_S : ASpec Tryd.prog 69 [] (eL opNames) [] := by
  refine ASpec.enter TYok mixed Tryd.func69 rfl Tryd.call69 Tryd.ntmps69 rfl (rs := [.tmp 0]) rfl (nodupB_ok rfl) (Clo.one rfl) (keep := [0]) ?_; conv => whnf
  refine ⟨_, .row rfl fun i hi => ?_⟩
  rw [litF_eq _ _ hi]
  have hi : i < 35 := hi
  rcases i with _|_|_|_|_|_|_|_|_|_|_|_|_|_|_|_|_|_|_|_|_|_|_|_|_|_|_|_|_|_|_|_|_|_|_|i <;> first | rfl | omega
theorem Name4_S (n : Int) (h : 0 ≤ n ∧ n < 35) : ASpec Tryd.prog 55 [.i .i64 n] (.s (opNames.getD n.toNat Enc.d)) [] := by
  have hl : opNames.length = 35 := rfl
  refine ASpec.enter TYok mixed Tryd.func55 rfl Tryd.call55 Tryd.ntmps55 rfl (rs := [.tmp 2]) rfl (nodupB_ok rfl) (Clo.one rfl) (keep := [0, 2, 3]) ?_; conv => whnf
  repeat' first | (refine And.intro (fun (hb : _ = true) => ?_) (fun (hb : _ = false) => ?_) <;> (try simp only [pickB_or, pickB_and] at hb) <;> (have hc := hb; try simp only [Int.toNat_natCast, Int.reduceToNat, Bool.or_eq_false_iff, Bool.and_eq_false_iff, Bool.not_eq_false', decide_eq_true_eq, decide_eq_false_iff_not, Bool.not_eq_true', Bool.and_eq_true, Bool.or_eq_true] at hc) <;> first | (exfalso; omega) | conv => whnf) | (refine ⟨_, wr64 (by first | omega | (simp only [Int.toNat_natCast, Int.reduceToNat]; omega)) (by first | omega | (simp only [Int.toNat_natCast, Int.reduceToNat]; omega)), ?_⟩; conv => whnf) | (refine And.intro (by first | omega | (simp only [Int.toNat_natCast, Int.reduceToNat, addZ]; omega) | (simp only [ByteArray.size_append, size_mk, List.length_cons, List.length_nil, Int.toNat_natCast, Int.reduceToNat]; omega) | exact ⟨rfl, by omega⟩ | ((repeat' apply And.intro) <;> first | exact trivial | omega) | decide +kernel) ?_; conv => whnf) | (refine And.intro (fun (ht : tg _ _ = true) => by (simp only [tg_ite, tg_nil, cn, Nat.reduceMul, Nat.reduceAdd, Nat.reduceEqDiff, ↓reduceIte, pickB_or, pickB_and, Bool.and_eq_true, Bool.or_eq_true, Bool.or_eq_false_iff, Bool.and_eq_false_iff, Bool.not_eq_true', Bool.not_eq_false', decide_eq_true_eq, decide_eq_false_iff_not, Int.toNat_natCast, Int.reduceToNat, ne_eq] at ht ⊢; first | omega | (simp only [Int.toNat_natCast, Int.reduceToNat]; omega))) ?_; conv => whnf) | (refine ⟨_, shl1 (by omega), ?_⟩; conv => whnf) | (refine ⟨_, wru64 (by first | omega | (simp only [Int.toNat_natCast, Int.reduceToNat]; omega)) (by first | omega | (simp only [Int.toNat_natCast, Int.reduceToNat]; omega)), ?_⟩; conv => whnf) | (refine ⟨_, fun _ => (IntKind.wrap_u64 _).symm, ?_⟩; conv => whnf) | ((first | refine CallK.mk _ _ (fun _ => names4_S) ?_ | refine CallL.mk _ _ (fun _ => names4_S) rfl (fun _ _ h => nomatch h) ?_ | (refine CallW.lent ?_; (conv => whnf); refine CallL.mk _ _ (fun _ => names4_S) rfl (fun _ _ h => nomatch h) ?_) | (refine CallW.lent ?_; (conv => whnf); refine And.intro (by omega) ?_; (conv => whnf); refine CallL.mk _ _ (fun _ => names4_S) rfl (fun _ _ h => nomatch h) ?_)); conv => whnf) | exact ⟨_, .keep rfl rfl⟩ | fail
/-- What is known of an instruction that may be said. -/
structure InsOk (m : ModE) (x : InsE) : Prop where
  op : 1 ≤ x.op ∧ x.op ≤ 34
  args : ∀ i, i < x.args.length → opR m (x.args.getD i Enc.d)
  tos : ∀ i, i < x.to.length → 0 ≤ x.to.getD i Enc.d ∧ x.to.getD i Enc.d ≤ 999
  cv : (x.op = 20 ∨ x.op = 21 ∨ x.op = 22) → x.args.length = 1
  br : x.op = 31 → x.to.length = 1
  bi : x.op = 32 → x.args.length = 1 ∧ x.to.length = 2
  ph : x.op = 25 → x.to.length = x.args.length
  al : x.op = 26 → 0 ≤ x.n
  ca : x.op = 30 → (0 ≤ x.n ∧ x.n < m.funcs.length) ∨ (x.n < 0 ∧ -(m.exts.length : Int) ≤ x.n)
  reg : x.reg ≤ 4095
  fl : 0 ≤ x.f ∧ x.f ≤ 7
  n64 : x.n ≤ 9223372036854775807
  tt : 0 ≤ x.t ∧ x.t ≤ 65
  cn : (x.op = 20 ∨ x.op = 21 ∨ x.op = 22) → 0 ≤ x.n ∧ x.n ≤ 65
def phT (m : ModE) (x : InsE) : Nat → ByteArray
  | 0 => (⟨#[32]⟩ : ByteArray) ++ tyT x.t
  | q + 1 => (((if 0 < q then phT m x q ++ (⟨#[44]⟩ : ByteArray) else phT m x q) ++ (⟨#[32]⟩ : ByteArray) ++ blkT (x.to.getD q Enc.d)) ++ (⟨#[32]⟩ : ByteArray)) ++ valT m (x.args.getD q Enc.d)
def calT (m : ModE) (n : Int) : ByteArray := if 0 ≤ n then (m.funcs.getD n.toNat Enc.d).name else (m.exts.getD (-1 - n).toNat Enc.d).name
def behT (m : ModE) (x : InsE) : ByteArray :=
  if x.op = 20 ∨ x.op = 21 ∨ x.op = 22 then (((((⟨#[32]⟩ : ByteArray) ++ tyT x.n) ++ (⟨#[32]⟩ : ByteArray)) ++ valT m (x.args.getD 0 Enc.d)) ++ (⟨#[32, 116, 111, 32]⟩ : ByteArray)) ++ tyT x.t else
  if x.op = 25 then phT m x x.args.length else
  if x.op = 26 then (⟨#[32]⟩ : ByteArray) ++ dec x.n.toNat else
  if x.op = 29 then (⟨#[32]⟩ : ByteArray) ++ valuesT m x.args else
  if x.op = 31 then (⟨#[32]⟩ : ByteArray) ++ blkT (x.to.getD 0 Enc.d) else
  if x.op = 32 then (((((⟨#[32]⟩ : ByteArray) ++ valT m (x.args.getD 0 Enc.d)) ++ (⟨#[44, 32]⟩ : ByteArray)) ++ blkT (x.to.getD 0 Enc.d)) ++ (⟨#[44, 32]⟩ : ByteArray)) ++ blkT (x.to.getD 1 Enc.d) else
  if x.op = 34 then ⟨#[]⟩ else
  if x.op = 30 then ((((⟨#[32]⟩ : ByteArray) ++ calT m x.n) ++ (⟨#[40]⟩ : ByteArray)) ++ valuesT m x.args) ++ (⟨#[41]⟩ : ByteArray) else
  if x.op = 33 ∧ x.args.length = 0 then ⟨#[]⟩ else (((⟨#[32]⟩ : ByteArray) ++ tyT x.t) ++ (⟨#[32]⟩ : ByteArray)) ++ valuesT m x.args
theorem blkT_len {n : Int} (h : 0 ≤ n ∧ n < 18446744073709551616) : (blkT n).size ≤ 21 := by
  have d := dec_len n.toNat (by omega)
  unfold blkT; rw [ByteArray.size_append, size_mk]; simp only [List.length_cons, List.length_nil]; omega
theorem calT_len (m : ModE) (n : Int) : (calT m n).size ≤ siz m := by
  have h0 : siz m = siz m.vars + siz m.exts + siz m.funcs := rfl
  unfold calT; split
  · have h1 : siz (m.funcs.getD n.toNat Enc.d) ≤ siz m.funcs := siz_at m.funcs _
    have h2 : siz (m.funcs.getD n.toNat Enc.d) = (m.funcs.getD n.toNat Enc.d).name.size + siz (m.funcs.getD n.toNat Enc.d).params + siz (m.funcs.getD n.toNat Enc.d).blocks := rfl
    omega
  · have h1 : siz (m.exts.getD (-1 - n).toNat Enc.d) ≤ siz m.exts := siz_at m.exts _
    have h2 : siz (m.exts.getD (-1 - n).toNat Enc.d) = (m.exts.getD (-1 - n).toNat Enc.d).name.size + siz (m.exts.getD (-1 - n).toNat Enc.d).params := rfl
    omega
theorem phT_step {m : ModE} {x : InsE} {q : Nat} : (phT m x (q + 1)).size = (phT m x q).size + (if 0 < q then 1 else 0) + (blkT (x.to.getD q Enc.d)).size + (valT m (x.args.getD q Enc.d)).size + 2 := by
  rw [phT]
  split <;> simp only [ByteArray.size_append, size_mk, List.length_cons, List.length_nil] <;> omega
theorem phT_mono {m : ModE} {x : InsE} {q : Nat} : ∀ {k : Nat}, q ≤ k → (phT m x q).size ≤ (phT m x k).size
  | 0, h => by rw [show q = 0 by omega]; exact Nat.le_refl _
  | k + 1, h => by
    rcases Nat.lt_or_ge q (k + 1) with h2 | h2
    · have := phT_mono (m := m) (x := x) (q := q) (k := k) (by omega); rw [phT_step]; omega
    · rw [show q = k + 1 by omega]; exact Nat.le_refl _
theorem vals_le {m : ModE} {x : InsE} (h : ¬(x.op = 20 ∨ x.op = 21 ∨ x.op = 22 ∨ x.op = 25 ∨ x.op = 26 ∨ x.op = 31 ∨ x.op = 32 ∨ x.op = 34)) : (valuesT m x.args).size ≤ (behT m x).size := by
  unfold behT
  rw [if_neg (by omega), if_neg (by omega), if_neg (by omega)]
  split
  · rw [ByteArray.size_append]; omega
  · rw [if_neg (by omega), if_neg (by omega), if_neg (by omega)]
    split
    · simp only [ByteArray.size_append]; omega
    · split
      · rename_i h2
        have : x.args = [] := List.eq_nil_of_length_eq_zero h2.2
        rw [this]; exact Nat.zero_le _
      · simp only [ByteArray.size_append]; omega
theorem behind5_S (m : ModE) (x : InsE) (h : InsOk m x) (hm : siz m < 4294967296) (hx : siz x < 4294967296) (hs : (behT m x).size ≤ 70368744177664) : ASpec Tryd.prog 56 [eS m, eS x] (.s (behT m x)) [] := by
  have h1 := args_le x
  have h2 := to_le x
  have k1 := tyT_len x.n
  have k2 := tyT_len x.t
  obtain ⟨g1, g2, g3, g4, g5, g6, g7, g8, g9, g10, g11, g12, g13, g14⟩ := h
  have o0 := fun h0 => g2 0 h0
  have o1 := fun h0 => valT_len (g2 0 h0)
  have t0 := g3 0
  have t1 := g3 1
  have c1 := calT_len m x.n
  by_cases hA : x.op = 25
  · have ht := g7 hA
    have e0 : behT m x = phT m x x.args.length := by unfold behT; rw [if_neg (by omega), if_pos hA]
    rw [e0] at hs ⊢
    have hmo := fun q (h : q ≤ x.args.length) => phT_mono (m := m) (x := x) h
    refine ASpec.enter TYok mixed Tryd.func56 rfl Tryd.call56 Tryd.ntmps56 rfl (rs := [.tmp 4]) rfl (nodupB_ok rfl) (Clo.one rfl) (keep := [0, 1, 2, 3, 4, 5, 6, 7, 9]) ?_; conv => whnf
    repeat' first | (refine And.intro (fun (hb : _ = true) => ?_) (fun (hb : _ = false) => ?_) <;> (try simp only [pickB_or, pickB_and] at hb) <;> (have hc := hb; try simp only [Int.toNat_natCast, Int.reduceToNat, Bool.or_eq_false_iff, Bool.and_eq_false_iff, Bool.not_eq_false', decide_eq_true_eq, decide_eq_false_iff_not, Bool.not_eq_true', Bool.and_eq_true, Bool.or_eq_true] at hc) <;> first | (exfalso; omega) | conv => whnf) | (refine ⟨_, wr64 (by first | omega | (simp only [Int.toNat_natCast, Int.reduceToNat]; omega)) (by first | omega | (simp only [Int.toNat_natCast, Int.reduceToNat]; omega)), ?_⟩; conv => whnf) | (refine And.intro (by first | omega | (simp only [Int.toNat_natCast, Int.reduceToNat, addZ]; omega) | (simp only [ByteArray.size_append, size_mk, List.length_cons, List.length_nil, Int.toNat_natCast, Int.reduceToNat]; omega) | exact ⟨rfl, by omega⟩ | ((repeat' apply And.intro) <;> first | exact trivial | omega) | decide +kernel) ?_; conv => whnf) | (refine And.intro (fun (ht : tg _ _ = true) => by (simp only [tg_ite, tg_nil, cn, Nat.reduceMul, Nat.reduceAdd, Nat.reduceEqDiff, ↓reduceIte, pickB_or, pickB_and, Bool.and_eq_true, Bool.or_eq_true, Bool.or_eq_false_iff, Bool.and_eq_false_iff, Bool.not_eq_true', Bool.not_eq_false', decide_eq_true_eq, decide_eq_false_iff_not, Int.toNat_natCast, Int.reduceToNat, ne_eq] at ht ⊢; first | omega | (simp only [Int.toNat_natCast, Int.reduceToNat]; omega))) ?_; conv => whnf) | (refine ⟨_, shl1 (by omega), ?_⟩; conv => whnf) | (refine ⟨_, wru64 (by first | omega | (simp only [Int.toNat_natCast, Int.reduceToNat]; omega)) (by first | omega | (simp only [Int.toNat_natCast, Int.reduceToNat]; omega)), ?_⟩; conv => whnf) | (refine ⟨_, fun _ => (IntKind.wrap_u64 _).symm, ?_⟩; conv => whnf) | ((first | refine CallK.mk _ _ (fun _ => Type5_S _) ?_ | refine CallL.mk _ _ (fun _ => Type5_S _) rfl (fun _ _ h => nomatch h) ?_ | (refine CallW.lent ?_; (conv => whnf); refine CallL.mk _ _ (fun _ => Type5_S _) rfl (fun _ _ h => nomatch h) ?_) | (refine CallW.lent ?_; (conv => whnf); refine And.intro (by omega) ?_; (conv => whnf); refine CallL.mk _ _ (fun _ => Type5_S _) rfl (fun _ _ h => nomatch h) ?_)); conv => whnf) | exact ⟨_, .keep rfl rfl⟩ | fail
    refine lp [6, 5] (fun q : Nat => [.i .i64 q, .s (phT m x q)]) (fun q => [(2, bx m), (3, bx x)]) (fun q => q ≤ x.args.length) (fun q => x.args.length - q) 0 (by omega) ?_ fun q hq => ?_
    · refine Ent.lp [] [] rfl rfl rfl ?_ ?_ <;> repeat' first | exact trivial | rfl | exact fun _ _ => rfl | omega | refine And.intro ?_ ?_ | (show (_ : Int) = _; first | omega | (simp only [Int.toNat_natCast]; omega))
    conv => whnf
    have p1 := hmo q hq
    rcases Nat.lt_or_ge q x.args.length with hlt | hge
    · have p2 := valT_len (g2 q hlt)
      have p3 := g2 q hlt
      have p4 := g3 q (by omega)
      have p5 := blkT_len (n := x.to.getD q Enc.d) (by omega)
      repeat' first | (refine And.intro (fun (hb : _ = true) => ?_) (fun (hb : _ = false) => ?_) <;> (try simp only [pickB_or, pickB_and] at hb) <;> (have hc := hb; try simp only [Int.toNat_natCast, Int.reduceToNat, Bool.or_eq_false_iff, Bool.and_eq_false_iff, Bool.not_eq_false', decide_eq_true_eq, decide_eq_false_iff_not, Bool.not_eq_true', Bool.and_eq_true, Bool.or_eq_true] at hc) <;> first | (exfalso; omega) | conv => whnf) | (refine ⟨_, wr64 (by first | omega | (simp only [Int.toNat_natCast, Int.reduceToNat]; omega)) (by first | omega | (simp only [Int.toNat_natCast, Int.reduceToNat]; omega)), ?_⟩; conv => whnf) | (refine And.intro (by first | omega | (simp only [Int.toNat_natCast, Int.reduceToNat, addZ]; omega) | (simp only [ByteArray.size_append, size_mk, List.length_cons, List.length_nil, Int.toNat_natCast, Int.reduceToNat]; omega) | exact ⟨rfl, by omega⟩ | ((repeat' apply And.intro) <;> first | exact trivial | omega) | decide +kernel) ?_; conv => whnf) | (refine And.intro (fun (ht : tg _ _ = true) => by (simp only [tg_ite, tg_nil, cn, Nat.reduceMul, Nat.reduceAdd, Nat.reduceEqDiff, ↓reduceIte, pickB_or, pickB_and, Bool.and_eq_true, Bool.or_eq_true, Bool.or_eq_false_iff, Bool.and_eq_false_iff, Bool.not_eq_true', Bool.not_eq_false', decide_eq_true_eq, decide_eq_false_iff_not, Int.toNat_natCast, Int.reduceToNat, ne_eq] at ht ⊢; first | omega | (simp only [Int.toNat_natCast, Int.reduceToNat]; omega))) ?_; conv => whnf) | (refine ⟨_, shl1 (by omega), ?_⟩; conv => whnf) | (refine ⟨_, wru64 (by first | omega | (simp only [Int.toNat_natCast, Int.reduceToNat]; omega)) (by first | omega | (simp only [Int.toNat_natCast, Int.reduceToNat]; omega)), ?_⟩; conv => whnf) | (refine ⟨_, fun _ => (IntKind.wrap_u64 _).symm, ?_⟩; conv => whnf) | ((first | refine CallK.mk _ _ (fun _ => block5_S _ (by first | omega | (simp only [Int.toNat_natCast, Int.reduceToNat]; omega))) ?_ | refine CallL.mk _ _ (fun _ => block5_S _ (by first | omega | (simp only [Int.toNat_natCast, Int.reduceToNat]; omega))) rfl (fun _ _ h => nomatch h) ?_ | (refine CallW.lent ?_; (conv => whnf); refine CallL.mk _ _ (fun _ => block5_S _ (by first | omega | (simp only [Int.toNat_natCast, Int.reduceToNat]; omega))) rfl (fun _ _ h => nomatch h) ?_) | (refine CallW.lent ?_; (conv => whnf); refine And.intro (by omega) ?_; (conv => whnf); refine CallL.mk _ _ (fun _ => block5_S _ (by first | omega | (simp only [Int.toNat_natCast, Int.reduceToNat]; omega))) rfl (fun _ _ h => nomatch h) ?_)); conv => whnf) | ((first | refine CallK.mk _ _ (fun _ => value5_S m _ p3 hm) ?_ | refine CallL.mk _ _ (fun _ => value5_S m _ p3 hm) rfl (fun _ _ h => nomatch h) ?_ | (refine CallW.lent ?_; (conv => whnf); refine CallL.mk _ _ (fun _ => value5_S m _ p3 hm) rfl (fun _ _ h => nomatch h) ?_) | (refine CallW.lent ?_; (conv => whnf); refine And.intro (by omega) ?_; (conv => whnf); refine CallL.mk _ _ (fun _ => value5_S m _ p3 hm) rfl (fun _ _ h => nomatch h) ?_)); conv => whnf) | exact ⟨_, .keep rfl rfl⟩ | fail
      · have e : phT m x (q + 1) = (((phT m x q ++ (⟨#[44]⟩ : ByteArray)) ++ (⟨#[32]⟩ : ByteArray) ++ blkT (x.to.getD q Enc.d)) ++ (⟨#[32]⟩ : ByteArray)) ++ valT m (x.args.getD q Enc.d) := by rw [phT, if_pos (by omega)]
        refine .mk (q + 1) (by omega) (by omega) ?_
        rw [e]
        refine Ent.lp [] [] rfl rfl rfl ?_ ?_ <;> repeat' first | exact trivial | rfl | exact fun _ _ => rfl | omega | refine And.intro ?_ ?_ | (show (_ : Int) = _; first | omega | (simp only [Int.toNat_natCast]; omega))
      · have e : phT m x (q + 1) = ((phT m x q ++ (⟨#[32]⟩ : ByteArray) ++ blkT (x.to.getD q Enc.d)) ++ (⟨#[32]⟩ : ByteArray)) ++ valT m (x.args.getD q Enc.d) := by rw [phT, if_neg (by omega)]
        refine .mk (q + 1) (by omega) (by omega) ?_
        rw [e]
        refine Ent.lp [] [] rfl rfl rfl ?_ ?_ <;> repeat' first | exact trivial | rfl | exact fun _ _ => rfl | omega | refine And.intro ?_ ?_ | (show (_ : Int) = _; first | omega | (simp only [Int.toNat_natCast]; omega))
    · have e : q = x.args.length := by omega
      subst e
      repeat' first | (refine And.intro (fun (hb : _ = true) => ?_) (fun (hb : _ = false) => ?_) <;> (try simp only [pickB_or, pickB_and] at hb) <;> (have hc := hb; try simp only [Int.toNat_natCast, Int.reduceToNat, Bool.or_eq_false_iff, Bool.and_eq_false_iff, Bool.not_eq_false', decide_eq_true_eq, decide_eq_false_iff_not, Bool.not_eq_true', Bool.and_eq_true, Bool.or_eq_true] at hc) <;> first | (exfalso; omega) | conv => whnf) | (refine ⟨_, wr64 (by first | omega | (simp only [Int.toNat_natCast, Int.reduceToNat]; omega)) (by first | omega | (simp only [Int.toNat_natCast, Int.reduceToNat]; omega)), ?_⟩; conv => whnf) | (refine And.intro (by first | omega | (simp only [Int.toNat_natCast, Int.reduceToNat, addZ]; omega) | (simp only [ByteArray.size_append, size_mk, List.length_cons, List.length_nil, Int.toNat_natCast, Int.reduceToNat]; omega) | exact ⟨rfl, by omega⟩ | ((repeat' apply And.intro) <;> first | exact trivial | omega) | decide +kernel) ?_; conv => whnf) | (refine And.intro (fun (ht : tg _ _ = true) => by (simp only [tg_ite, tg_nil, cn, Nat.reduceMul, Nat.reduceAdd, Nat.reduceEqDiff, ↓reduceIte, pickB_or, pickB_and, Bool.and_eq_true, Bool.or_eq_true, Bool.or_eq_false_iff, Bool.and_eq_false_iff, Bool.not_eq_true', Bool.not_eq_false', decide_eq_true_eq, decide_eq_false_iff_not, Int.toNat_natCast, Int.reduceToNat, ne_eq] at ht ⊢; first | omega | (simp only [Int.toNat_natCast, Int.reduceToNat]; omega))) ?_; conv => whnf) | (refine ⟨_, shl1 (by omega), ?_⟩; conv => whnf) | (refine ⟨_, wru64 (by first | omega | (simp only [Int.toNat_natCast, Int.reduceToNat]; omega)) (by first | omega | (simp only [Int.toNat_natCast, Int.reduceToNat]; omega)), ?_⟩; conv => whnf) | (refine ⟨_, fun _ => (IntKind.wrap_u64 _).symm, ?_⟩; conv => whnf) | exact ⟨_, .keep rfl rfl⟩ | fail
  · by_cases hB : x.op = 20 ∨ x.op = 21 ∨ x.op = 22 ∨ x.op = 25 ∨ x.op = 26 ∨ x.op = 31 ∨ x.op = 32 ∨ x.op = 34
    · by_cases hC : x.op = 20 ∨ x.op = 21 ∨ x.op = 22
      · have q1 := g4 hC
        have q2 := o1 (by omega)
        refine ASpec.enter TYok mixed Tryd.func56 rfl Tryd.call56 Tryd.ntmps56 rfl (rs := [.tmp 4]) rfl (nodupB_ok rfl) (Clo.one rfl) (keep := [0, 1, 2, 3, 4, 5, 6, 7, 9]) ?_; conv => whnf
        repeat' first | (refine And.intro (fun (hb : _ = true) => ?_) (fun (hb : _ = false) => ?_) <;> (try simp only [pickB_or, pickB_and] at hb) <;> (have hc := hb; try simp only [Int.toNat_natCast, Int.reduceToNat, Bool.or_eq_false_iff, Bool.and_eq_false_iff, Bool.not_eq_false', decide_eq_true_eq, decide_eq_false_iff_not, Bool.not_eq_true', Bool.and_eq_true, Bool.or_eq_true] at hc) <;> first | (exfalso; omega) | conv => whnf) | (refine ⟨_, wr64 (by first | omega | (simp only [Int.toNat_natCast, Int.reduceToNat]; omega)) (by first | omega | (simp only [Int.toNat_natCast, Int.reduceToNat]; omega)), ?_⟩; conv => whnf) | (refine And.intro (by first | omega | (simp only [Int.toNat_natCast, Int.reduceToNat, addZ]; omega) | (simp only [ByteArray.size_append, size_mk, List.length_cons, List.length_nil, Int.toNat_natCast, Int.reduceToNat]; omega) | exact ⟨rfl, by omega⟩ | ((repeat' apply And.intro) <;> first | exact trivial | omega) | decide +kernel) ?_; conv => whnf) | (refine And.intro (fun (ht : tg _ _ = true) => by (simp only [tg_ite, tg_nil, cn, Nat.reduceMul, Nat.reduceAdd, Nat.reduceEqDiff, ↓reduceIte, pickB_or, pickB_and, Bool.and_eq_true, Bool.or_eq_true, Bool.or_eq_false_iff, Bool.and_eq_false_iff, Bool.not_eq_true', Bool.not_eq_false', decide_eq_true_eq, decide_eq_false_iff_not, Int.toNat_natCast, Int.reduceToNat, ne_eq] at ht ⊢; first | omega | (simp only [Int.toNat_natCast, Int.reduceToNat]; omega))) ?_; conv => whnf) | (refine ⟨_, shl1 (by omega), ?_⟩; conv => whnf) | (refine ⟨_, wru64 (by first | omega | (simp only [Int.toNat_natCast, Int.reduceToNat]; omega)) (by first | omega | (simp only [Int.toNat_natCast, Int.reduceToNat]; omega)), ?_⟩; conv => whnf) | (refine ⟨_, fun _ => (IntKind.wrap_u64 _).symm, ?_⟩; conv => whnf) | ((first | refine CallK.mk _ _ (fun _ => Type5_S _) ?_ | refine CallL.mk _ _ (fun _ => Type5_S _) rfl (fun _ _ h => nomatch h) ?_ | (refine CallW.lent ?_; (conv => whnf); refine CallL.mk _ _ (fun _ => Type5_S _) rfl (fun _ _ h => nomatch h) ?_) | (refine CallW.lent ?_; (conv => whnf); refine And.intro (by omega) ?_; (conv => whnf); refine CallL.mk _ _ (fun _ => Type5_S _) rfl (fun _ _ h => nomatch h) ?_)); conv => whnf) | ((first | refine CallK.mk _ _ (fun _ => value5_S m (x.args.getD 0 Enc.d) (o0 (by omega)) hm) ?_ | refine CallL.mk _ _ (fun _ => value5_S m (x.args.getD 0 Enc.d) (o0 (by omega)) hm) rfl (fun _ _ h => nomatch h) ?_ | (refine CallW.lent ?_; (conv => whnf); refine CallL.mk _ _ (fun _ => value5_S m (x.args.getD 0 Enc.d) (o0 (by omega)) hm) rfl (fun _ _ h => nomatch h) ?_) | (refine CallW.lent ?_; (conv => whnf); refine And.intro (by omega) ?_; (conv => whnf); refine CallL.mk _ _ (fun _ => value5_S m (x.args.getD 0 Enc.d) (o0 (by omega)) hm) rfl (fun _ _ h => nomatch h) ?_)); conv => whnf) | exact ⟨_, .keep rfl rfl⟩ | fail
        all_goals exact ⟨_, .keep (by rw [behT, if_pos hC]) rfl⟩
      · by_cases hD : x.op = 26
        · have q1 := g8 hD
          have q2 := dec_len x.n.toNat (by omega)
          refine ASpec.enter TYok mixed Tryd.func56 rfl Tryd.call56 Tryd.ntmps56 rfl (rs := [.tmp 4]) rfl (nodupB_ok rfl) (Clo.one rfl) (keep := [0, 1, 2, 3, 4, 5, 6, 7, 9]) ?_; conv => whnf
          repeat' first | (refine And.intro (fun (hb : _ = true) => ?_) (fun (hb : _ = false) => ?_) <;> (try simp only [pickB_or, pickB_and] at hb) <;> (have hc := hb; try simp only [Int.toNat_natCast, Int.reduceToNat, Bool.or_eq_false_iff, Bool.and_eq_false_iff, Bool.not_eq_false', decide_eq_true_eq, decide_eq_false_iff_not, Bool.not_eq_true', Bool.and_eq_true, Bool.or_eq_true] at hc) <;> first | (exfalso; omega) | conv => whnf) | (refine ⟨_, wr64 (by first | omega | (simp only [Int.toNat_natCast, Int.reduceToNat]; omega)) (by first | omega | (simp only [Int.toNat_natCast, Int.reduceToNat]; omega)), ?_⟩; conv => whnf) | (refine And.intro (by first | omega | (simp only [Int.toNat_natCast, Int.reduceToNat, addZ]; omega) | (simp only [ByteArray.size_append, size_mk, List.length_cons, List.length_nil, Int.toNat_natCast, Int.reduceToNat]; omega) | exact ⟨rfl, by omega⟩ | ((repeat' apply And.intro) <;> first | exact trivial | omega) | decide +kernel) ?_; conv => whnf) | (refine And.intro (fun (ht : tg _ _ = true) => by (simp only [tg_ite, tg_nil, cn, Nat.reduceMul, Nat.reduceAdd, Nat.reduceEqDiff, ↓reduceIte, pickB_or, pickB_and, Bool.and_eq_true, Bool.or_eq_true, Bool.or_eq_false_iff, Bool.and_eq_false_iff, Bool.not_eq_true', Bool.not_eq_false', decide_eq_true_eq, decide_eq_false_iff_not, Int.toNat_natCast, Int.reduceToNat, ne_eq] at ht ⊢; first | omega | (simp only [Int.toNat_natCast, Int.reduceToNat]; omega))) ?_; conv => whnf) | (refine ⟨_, shl1 (by omega), ?_⟩; conv => whnf) | (refine ⟨_, wru64 (by first | omega | (simp only [Int.toNat_natCast, Int.reduceToNat]; omega)) (by first | omega | (simp only [Int.toNat_natCast, Int.reduceToNat]; omega)), ?_⟩; conv => whnf) | (refine ⟨_, fun _ => (IntKind.wrap_u64 _).symm, ?_⟩; conv => whnf) | ((first | refine CallK.mk _ _ (fun _ => DigitsI_S _ (by omega)) ?_ | refine CallL.mk _ _ (fun _ => DigitsI_S _ (by omega)) rfl (fun _ _ h => nomatch h) ?_ | (refine CallW.lent ?_; (conv => whnf); refine CallL.mk _ _ (fun _ => DigitsI_S _ (by omega)) rfl (fun _ _ h => nomatch h) ?_) | (refine CallW.lent ?_; (conv => whnf); refine And.intro (by omega) ?_; (conv => whnf); refine CallL.mk _ _ (fun _ => DigitsI_S _ (by omega)) rfl (fun _ _ h => nomatch h) ?_)); conv => whnf) | exact ⟨_, .keep rfl rfl⟩ | fail
          exact ⟨_, .keep (by rw [behT, if_neg hC, if_neg hA, if_pos hD]) rfl⟩
        · by_cases hE : x.op = 31
          · have q1 := g5 hE
            have q2 := t0 (by omega)
            have q3 := blkT_len (n := x.to.getD 0 Enc.d) (by omega)
            refine ASpec.enter TYok mixed Tryd.func56 rfl Tryd.call56 Tryd.ntmps56 rfl (rs := [.tmp 4]) rfl (nodupB_ok rfl) (Clo.one rfl) (keep := [0, 1, 2, 3, 4, 5, 6, 7, 9]) ?_; conv => whnf
            repeat' first | (refine And.intro (fun (hb : _ = true) => ?_) (fun (hb : _ = false) => ?_) <;> (try simp only [pickB_or, pickB_and] at hb) <;> (have hc := hb; try simp only [Int.toNat_natCast, Int.reduceToNat, Bool.or_eq_false_iff, Bool.and_eq_false_iff, Bool.not_eq_false', decide_eq_true_eq, decide_eq_false_iff_not, Bool.not_eq_true', Bool.and_eq_true, Bool.or_eq_true] at hc) <;> first | (exfalso; omega) | conv => whnf) | (refine ⟨_, wr64 (by first | omega | (simp only [Int.toNat_natCast, Int.reduceToNat]; omega)) (by first | omega | (simp only [Int.toNat_natCast, Int.reduceToNat]; omega)), ?_⟩; conv => whnf) | (refine And.intro (by first | omega | (simp only [Int.toNat_natCast, Int.reduceToNat, addZ]; omega) | (simp only [ByteArray.size_append, size_mk, List.length_cons, List.length_nil, Int.toNat_natCast, Int.reduceToNat]; omega) | exact ⟨rfl, by omega⟩ | ((repeat' apply And.intro) <;> first | exact trivial | omega) | decide +kernel) ?_; conv => whnf) | (refine And.intro (fun (ht : tg _ _ = true) => by (simp only [tg_ite, tg_nil, cn, Nat.reduceMul, Nat.reduceAdd, Nat.reduceEqDiff, ↓reduceIte, pickB_or, pickB_and, Bool.and_eq_true, Bool.or_eq_true, Bool.or_eq_false_iff, Bool.and_eq_false_iff, Bool.not_eq_true', Bool.not_eq_false', decide_eq_true_eq, decide_eq_false_iff_not, Int.toNat_natCast, Int.reduceToNat, ne_eq] at ht ⊢; first | omega | (simp only [Int.toNat_natCast, Int.reduceToNat]; omega))) ?_; conv => whnf) | (refine ⟨_, shl1 (by omega), ?_⟩; conv => whnf) | (refine ⟨_, wru64 (by first | omega | (simp only [Int.toNat_natCast, Int.reduceToNat]; omega)) (by first | omega | (simp only [Int.toNat_natCast, Int.reduceToNat]; omega)), ?_⟩; conv => whnf) | (refine ⟨_, fun _ => (IntKind.wrap_u64 _).symm, ?_⟩; conv => whnf) | ((first | refine CallK.mk _ _ (fun _ => block5_S _ (by first | omega | (simp only [Int.toNat_natCast, Int.reduceToNat]; omega))) ?_ | refine CallL.mk _ _ (fun _ => block5_S _ (by first | omega | (simp only [Int.toNat_natCast, Int.reduceToNat]; omega))) rfl (fun _ _ h => nomatch h) ?_ | (refine CallW.lent ?_; (conv => whnf); refine CallL.mk _ _ (fun _ => block5_S _ (by first | omega | (simp only [Int.toNat_natCast, Int.reduceToNat]; omega))) rfl (fun _ _ h => nomatch h) ?_) | (refine CallW.lent ?_; (conv => whnf); refine And.intro (by omega) ?_; (conv => whnf); refine CallL.mk _ _ (fun _ => block5_S _ (by first | omega | (simp only [Int.toNat_natCast, Int.reduceToNat]; omega))) rfl (fun _ _ h => nomatch h) ?_)); conv => whnf) | exact ⟨_, .keep rfl rfl⟩ | fail
            exact ⟨_, .keep (by rw [behT, if_neg hC, if_neg hA, if_neg hD, if_neg (by omega), if_pos hE]; rfl) rfl⟩
          · by_cases hF : x.op = 32
            · have q1 := g6 hF
              have q2 := t0 (by omega)
              have q3 := t1 (by omega)
              have q4 := blkT_len (n := x.to.getD 0 Enc.d) (by omega)
              have q5 := blkT_len (n := x.to.getD 1 Enc.d) (by omega)
              have q6 := o1 (by omega)
              refine ASpec.enter TYok mixed Tryd.func56 rfl Tryd.call56 Tryd.ntmps56 rfl (rs := [.tmp 4]) rfl (nodupB_ok rfl) (Clo.one rfl) (keep := [0, 1, 2, 3, 4, 5, 6, 7, 9]) ?_; conv => whnf
              repeat' first | (refine And.intro (fun (hb : _ = true) => ?_) (fun (hb : _ = false) => ?_) <;> (try simp only [pickB_or, pickB_and] at hb) <;> (have hc := hb; try simp only [Int.toNat_natCast, Int.reduceToNat, Bool.or_eq_false_iff, Bool.and_eq_false_iff, Bool.not_eq_false', decide_eq_true_eq, decide_eq_false_iff_not, Bool.not_eq_true', Bool.and_eq_true, Bool.or_eq_true] at hc) <;> first | (exfalso; omega) | conv => whnf) | (refine ⟨_, wr64 (by first | omega | (simp only [Int.toNat_natCast, Int.reduceToNat]; omega)) (by first | omega | (simp only [Int.toNat_natCast, Int.reduceToNat]; omega)), ?_⟩; conv => whnf) | (refine And.intro (by first | omega | (simp only [Int.toNat_natCast, Int.reduceToNat, addZ]; omega) | (simp only [ByteArray.size_append, size_mk, List.length_cons, List.length_nil, Int.toNat_natCast, Int.reduceToNat]; omega) | exact ⟨rfl, by omega⟩ | ((repeat' apply And.intro) <;> first | exact trivial | omega) | decide +kernel) ?_; conv => whnf) | (refine And.intro (fun (ht : tg _ _ = true) => by (simp only [tg_ite, tg_nil, cn, Nat.reduceMul, Nat.reduceAdd, Nat.reduceEqDiff, ↓reduceIte, pickB_or, pickB_and, Bool.and_eq_true, Bool.or_eq_true, Bool.or_eq_false_iff, Bool.and_eq_false_iff, Bool.not_eq_true', Bool.not_eq_false', decide_eq_true_eq, decide_eq_false_iff_not, Int.toNat_natCast, Int.reduceToNat, ne_eq] at ht ⊢; first | omega | (simp only [Int.toNat_natCast, Int.reduceToNat]; omega))) ?_; conv => whnf) | (refine ⟨_, shl1 (by omega), ?_⟩; conv => whnf) | (refine ⟨_, wru64 (by first | omega | (simp only [Int.toNat_natCast, Int.reduceToNat]; omega)) (by first | omega | (simp only [Int.toNat_natCast, Int.reduceToNat]; omega)), ?_⟩; conv => whnf) | (refine ⟨_, fun _ => (IntKind.wrap_u64 _).symm, ?_⟩; conv => whnf) | ((first | refine CallK.mk _ _ (fun _ => block5_S _ (by first | omega | (simp only [Int.toNat_natCast, Int.reduceToNat]; omega))) ?_ | refine CallL.mk _ _ (fun _ => block5_S _ (by first | omega | (simp only [Int.toNat_natCast, Int.reduceToNat]; omega))) rfl (fun _ _ h => nomatch h) ?_ | (refine CallW.lent ?_; (conv => whnf); refine CallL.mk _ _ (fun _ => block5_S _ (by first | omega | (simp only [Int.toNat_natCast, Int.reduceToNat]; omega))) rfl (fun _ _ h => nomatch h) ?_) | (refine CallW.lent ?_; (conv => whnf); refine And.intro (by omega) ?_; (conv => whnf); refine CallL.mk _ _ (fun _ => block5_S _ (by first | omega | (simp only [Int.toNat_natCast, Int.reduceToNat]; omega))) rfl (fun _ _ h => nomatch h) ?_)); conv => whnf) | ((first | refine CallK.mk _ _ (fun _ => value5_S m (x.args.getD 0 Enc.d) (o0 (by omega)) hm) ?_ | refine CallL.mk _ _ (fun _ => value5_S m (x.args.getD 0 Enc.d) (o0 (by omega)) hm) rfl (fun _ _ h => nomatch h) ?_ | (refine CallW.lent ?_; (conv => whnf); refine CallL.mk _ _ (fun _ => value5_S m (x.args.getD 0 Enc.d) (o0 (by omega)) hm) rfl (fun _ _ h => nomatch h) ?_) | (refine CallW.lent ?_; (conv => whnf); refine And.intro (by omega) ?_; (conv => whnf); refine CallL.mk _ _ (fun _ => value5_S m (x.args.getD 0 Enc.d) (o0 (by omega)) hm) rfl (fun _ _ h => nomatch h) ?_)); conv => whnf) | exact ⟨_, .keep rfl rfl⟩ | fail
              all_goals exact ⟨_, .keep (by rw [behT, if_neg hC, if_neg hA, if_neg hD, if_neg (by omega), if_neg hE, if_pos hF]; rfl) rfl⟩
            · have hG : x.op = 34 := by omega
              refine ASpec.enter TYok mixed Tryd.func56 rfl Tryd.call56 Tryd.ntmps56 rfl (rs := [.tmp 4]) rfl (nodupB_ok rfl) (Clo.one rfl) (keep := [0, 1, 2, 3, 4, 5, 6, 7, 9]) ?_; conv => whnf
              repeat' first | (refine And.intro (fun (hb : _ = true) => ?_) (fun (hb : _ = false) => ?_) <;> (try simp only [pickB_or, pickB_and] at hb) <;> (have hc := hb; try simp only [Int.toNat_natCast, Int.reduceToNat, Bool.or_eq_false_iff, Bool.and_eq_false_iff, Bool.not_eq_false', decide_eq_true_eq, decide_eq_false_iff_not, Bool.not_eq_true', Bool.and_eq_true, Bool.or_eq_true] at hc) <;> first | (exfalso; omega) | conv => whnf) | (refine ⟨_, wr64 (by first | omega | (simp only [Int.toNat_natCast, Int.reduceToNat]; omega)) (by first | omega | (simp only [Int.toNat_natCast, Int.reduceToNat]; omega)), ?_⟩; conv => whnf) | (refine And.intro (by first | omega | (simp only [Int.toNat_natCast, Int.reduceToNat, addZ]; omega) | (simp only [ByteArray.size_append, size_mk, List.length_cons, List.length_nil, Int.toNat_natCast, Int.reduceToNat]; omega) | exact ⟨rfl, by omega⟩ | ((repeat' apply And.intro) <;> first | exact trivial | omega) | decide +kernel) ?_; conv => whnf) | (refine And.intro (fun (ht : tg _ _ = true) => by (simp only [tg_ite, tg_nil, cn, Nat.reduceMul, Nat.reduceAdd, Nat.reduceEqDiff, ↓reduceIte, pickB_or, pickB_and, Bool.and_eq_true, Bool.or_eq_true, Bool.or_eq_false_iff, Bool.and_eq_false_iff, Bool.not_eq_true', Bool.not_eq_false', decide_eq_true_eq, decide_eq_false_iff_not, Int.toNat_natCast, Int.reduceToNat, ne_eq] at ht ⊢; first | omega | (simp only [Int.toNat_natCast, Int.reduceToNat]; omega))) ?_; conv => whnf) | (refine ⟨_, shl1 (by omega), ?_⟩; conv => whnf) | (refine ⟨_, wru64 (by first | omega | (simp only [Int.toNat_natCast, Int.reduceToNat]; omega)) (by first | omega | (simp only [Int.toNat_natCast, Int.reduceToNat]; omega)), ?_⟩; conv => whnf) | (refine ⟨_, fun _ => (IntKind.wrap_u64 _).symm, ?_⟩; conv => whnf) | exact ⟨_, .keep rfl rfl⟩ | fail
              exact ⟨_, .keep (by rw [behT, if_neg hC, if_neg hA, if_neg hD, if_neg (by omega), if_neg hE, if_neg hF, if_pos hG]) rfl⟩
    · have v1 := vals_le (m := m) hB
      have n1 : (m.funcs.getD x.n.toNat Enc.d).name.size ≤ siz m ∨ x.n < 0 := by
        rcases Int.lt_or_le x.n 0 with q | q
        · exact .inr q
        · have := calT_len m x.n; unfold calT at this; rw [if_pos q] at this; exact .inl this
      have n2 : (m.exts.getD (-1 - x.n).toNat Enc.d).name.size ≤ siz m ∨ 0 ≤ x.n := by
        rcases Int.lt_or_le x.n 0 with q | q
        · have := calT_len m x.n; unfold calT at this; rw [if_neg (by omega)] at this; exact .inl this
        · exact .inr q
      by_cases hC : x.op = 30
      · have q1 := g9 hC
        have q2 := len_siz m.exts
        have q3 : siz m = siz m.vars + siz m.exts + siz m.funcs := rfl
        refine ASpec.enter TYok mixed Tryd.func56 rfl Tryd.call56 Tryd.ntmps56 rfl (rs := [.tmp 4]) rfl (nodupB_ok rfl) (Clo.one rfl) (keep := [0, 1, 2, 3, 4, 5, 6, 7, 9]) ?_; conv => whnf
        repeat' first | (refine And.intro (fun (hb : _ = true) => ?_) (fun (hb : _ = false) => ?_) <;> (try simp only [pickB_or, pickB_and] at hb) <;> (have hc := hb; try simp only [Int.toNat_natCast, Int.reduceToNat, Bool.or_eq_false_iff, Bool.and_eq_false_iff, Bool.not_eq_false', decide_eq_true_eq, decide_eq_false_iff_not, Bool.not_eq_true', Bool.and_eq_true, Bool.or_eq_true] at hc) <;> first | (exfalso; omega) | conv => whnf) | (refine ⟨_, wr64 (by first | omega | (simp only [Int.toNat_natCast, Int.reduceToNat]; omega)) (by first | omega | (simp only [Int.toNat_natCast, Int.reduceToNat]; omega)), ?_⟩; conv => whnf) | (refine And.intro (by first | omega | (simp only [Int.toNat_natCast, Int.reduceToNat, addZ]; omega) | (simp only [ByteArray.size_append, size_mk, List.length_cons, List.length_nil, Int.toNat_natCast, Int.reduceToNat]; omega) | exact ⟨rfl, by omega⟩ | ((repeat' apply And.intro) <;> first | exact trivial | omega) | decide +kernel) ?_; conv => whnf) | (refine And.intro (fun (ht : tg _ _ = true) => by (simp only [tg_ite, tg_nil, cn, Nat.reduceMul, Nat.reduceAdd, Nat.reduceEqDiff, ↓reduceIte, pickB_or, pickB_and, Bool.and_eq_true, Bool.or_eq_true, Bool.or_eq_false_iff, Bool.and_eq_false_iff, Bool.not_eq_true', Bool.not_eq_false', decide_eq_true_eq, decide_eq_false_iff_not, Int.toNat_natCast, Int.reduceToNat, ne_eq] at ht ⊢; first | omega | (simp only [Int.toNat_natCast, Int.reduceToNat]; omega))) ?_; conv => whnf) | (refine ⟨_, shl1 (by omega), ?_⟩; conv => whnf) | (refine ⟨_, wru64 (by first | omega | (simp only [Int.toNat_natCast, Int.reduceToNat]; omega)) (by first | omega | (simp only [Int.toNat_natCast, Int.reduceToNat]; omega)), ?_⟩; conv => whnf) | (refine ⟨_, fun _ => (IntKind.wrap_u64 _).symm, ?_⟩; conv => whnf) | ((first | refine CallK.mk _ _ (fun _ => Type5_S _) ?_ | refine CallL.mk _ _ (fun _ => Type5_S _) rfl (fun _ _ h => nomatch h) ?_ | (refine CallW.lent ?_; (conv => whnf); refine CallL.mk _ _ (fun _ => Type5_S _) rfl (fun _ _ h => nomatch h) ?_) | (refine CallW.lent ?_; (conv => whnf); refine And.intro (by omega) ?_; (conv => whnf); refine CallL.mk _ _ (fun _ => Type5_S _) rfl (fun _ _ h => nomatch h) ?_)); conv => whnf) | ((first | refine CallK.mk _ _ (fun _ => values5_S m x.args g2 hm (by omega) (by omega)) ?_ | refine CallL.mk _ _ (fun _ => values5_S m x.args g2 hm (by omega) (by omega)) rfl (fun _ _ h => nomatch h) ?_ | (refine CallW.lent ?_; (conv => whnf); refine CallL.mk _ _ (fun _ => values5_S m x.args g2 hm (by omega) (by omega)) rfl (fun _ _ h => nomatch h) ?_) | (refine CallW.lent ?_; (conv => whnf); refine And.intro (by omega) ?_; (conv => whnf); refine CallL.mk _ _ (fun _ => values5_S m x.args g2 hm (by omega) (by omega)) rfl (fun _ _ h => nomatch h) ?_)); conv => whnf) | exact ⟨_, .keep rfl rfl⟩ | fail
        · exact ⟨_, .keep (by rw [behT, if_neg (by omega), if_neg hA, if_neg (by omega), if_neg (by omega), if_neg (by omega), if_neg (by omega), if_neg (by omega), if_pos hC, calT, if_pos (by omega)]) rfl⟩
        · exact ⟨_, .keep (by rw [behT, if_neg (by omega), if_neg hA, if_neg (by omega), if_neg (by omega), if_neg (by omega), if_neg (by omega), if_neg (by omega), if_pos hC, calT, if_neg (by omega)]) rfl⟩
      · have q1 := g10
        refine ASpec.enter TYok mixed Tryd.func56 rfl Tryd.call56 Tryd.ntmps56 rfl (rs := [.tmp 4]) rfl (nodupB_ok rfl) (Clo.one rfl) (keep := [0, 1, 2, 3, 4, 5, 6, 7, 9]) ?_; conv => whnf
        repeat' first | (refine And.intro (fun (hb : _ = true) => ?_) (fun (hb : _ = false) => ?_) <;> (try simp only [pickB_or, pickB_and] at hb) <;> (have hc := hb; try simp only [Int.toNat_natCast, Int.reduceToNat, Bool.or_eq_false_iff, Bool.and_eq_false_iff, Bool.not_eq_false', decide_eq_true_eq, decide_eq_false_iff_not, Bool.not_eq_true', Bool.and_eq_true, Bool.or_eq_true] at hc) <;> first | (exfalso; omega) | conv => whnf) | (refine ⟨_, wr64 (by first | omega | (simp only [Int.toNat_natCast, Int.reduceToNat]; omega)) (by first | omega | (simp only [Int.toNat_natCast, Int.reduceToNat]; omega)), ?_⟩; conv => whnf) | (refine And.intro (by first | omega | (simp only [Int.toNat_natCast, Int.reduceToNat, addZ]; omega) | (simp only [ByteArray.size_append, size_mk, List.length_cons, List.length_nil, Int.toNat_natCast, Int.reduceToNat]; omega) | exact ⟨rfl, by omega⟩ | ((repeat' apply And.intro) <;> first | exact trivial | omega) | decide +kernel) ?_; conv => whnf) | (refine And.intro (fun (ht : tg _ _ = true) => by (simp only [tg_ite, tg_nil, cn, Nat.reduceMul, Nat.reduceAdd, Nat.reduceEqDiff, ↓reduceIte, pickB_or, pickB_and, Bool.and_eq_true, Bool.or_eq_true, Bool.or_eq_false_iff, Bool.and_eq_false_iff, Bool.not_eq_true', Bool.not_eq_false', decide_eq_true_eq, decide_eq_false_iff_not, Int.toNat_natCast, Int.reduceToNat, ne_eq] at ht ⊢; first | omega | (simp only [Int.toNat_natCast, Int.reduceToNat]; omega))) ?_; conv => whnf) | (refine ⟨_, shl1 (by omega), ?_⟩; conv => whnf) | (refine ⟨_, wru64 (by first | omega | (simp only [Int.toNat_natCast, Int.reduceToNat]; omega)) (by first | omega | (simp only [Int.toNat_natCast, Int.reduceToNat]; omega)), ?_⟩; conv => whnf) | (refine ⟨_, fun _ => (IntKind.wrap_u64 _).symm, ?_⟩; conv => whnf) | ((first | refine CallK.mk _ _ (fun _ => Type5_S _) ?_ | refine CallL.mk _ _ (fun _ => Type5_S _) rfl (fun _ _ h => nomatch h) ?_ | (refine CallW.lent ?_; (conv => whnf); refine CallL.mk _ _ (fun _ => Type5_S _) rfl (fun _ _ h => nomatch h) ?_) | (refine CallW.lent ?_; (conv => whnf); refine And.intro (by omega) ?_; (conv => whnf); refine CallL.mk _ _ (fun _ => Type5_S _) rfl (fun _ _ h => nomatch h) ?_)); conv => whnf) | ((first | refine CallK.mk _ _ (fun _ => values5_S m x.args g2 hm (by omega) (by omega)) ?_ | refine CallL.mk _ _ (fun _ => values5_S m x.args g2 hm (by omega) (by omega)) rfl (fun _ _ h => nomatch h) ?_ | (refine CallW.lent ?_; (conv => whnf); refine CallL.mk _ _ (fun _ => values5_S m x.args g2 hm (by omega) (by omega)) rfl (fun _ _ h => nomatch h) ?_) | (refine CallW.lent ?_; (conv => whnf); refine And.intro (by omega) ?_; (conv => whnf); refine CallL.mk _ _ (fun _ => values5_S m x.args g2 hm (by omega) (by omega)) rfl (fun _ _ h => nomatch h) ?_)); conv => whnf) | exact ⟨_, .keep rfl rfl⟩ | fail
        all_goals exact ⟨_, .keep (by (try simp only [pickB_or, pickB_and]); unfold behT; repeat' (first | rfl | omega | split | (simp_all; done))) rfl⟩
def flT (x : InsE) (s : ByteArray) : ByteArray :=
  let s1 := if x.f.tmod 2 = 1 then s ++ (⟨#[32, 110, 115, 119]⟩ : ByteArray) else s
  let s2 := if (x.f.tdiv 2).tmod 2 = 1 then s1 ++ (⟨#[32, 110, 117, 119]⟩ : ByteArray) else s1
  if x.f.tdiv 4 = 1 then s2 ++ (⟨#[32, 101, 120, 97, 99, 116]⟩ : ByteArray) else s2
def insT (m : ModE) (x : InsE) : ByteArray :=
  flT x ((if 0 ≤ x.reg then ((⟨#[37]⟩ : ByteArray) ++ dec x.reg.toNat) ++ (⟨#[32, 61, 32]⟩ : ByteArray) else ⟨#[]⟩) ++ opNames.getD x.op.toNat Enc.d) ++ behT m x
theorem opn_len (n : Nat) : (opNames.getD n Enc.d).size ≤ 6 := by
  have h : ∀ i, i < 35 → (opNames.getD i Enc.d).size ≤ 6 := by decide +kernel
  rcases Nat.lt_or_ge n 35 with q | q
  · exact h n q
  · rw [List.getD_eq_getElem?_getD, List.getElem?_eq_none q]; exact Nat.zero_le _
theorem flT_len (x : InsE) (s : ByteArray) : s.size ≤ (flT x s).size ∧ (flT x s).size ≤ s.size + 14 := by
  unfold flT
  simp only
  repeat' split
  all_goals (try simp only [ByteArray.size_append, size_mk, List.length_cons, List.length_nil])
  all_goals omega
theorem Instr5_S (m : ModE) (x : InsE) (h : InsOk m x) (hm : siz m < 4294967296) (hx : siz x < 4294967296) (hs : (behT m x).size ≤ 70368744177664) : ASpec Tryd.prog 33 [eS m, eS x] (.s (insT m x)) [] := by
  have g1 := h.op
  have g2 := h.reg
  have g6 := h.fl
  have f1 : x.f.tdiv 2 = x.f / 2 := Int.tdiv_eq_ediv_of_nonneg g6.1
  have f2 : x.f.tdiv 4 = x.f / 4 := Int.tdiv_eq_ediv_of_nonneg g6.1
  have g3 := opn_len x.op.toNat
  have g4 : 0 ≤ x.reg → (dec x.reg.toNat).size ≤ 20 := fun h => dec_len _ (by omega)
  rcases Int.lt_or_le x.reg 0 with q | q
  · refine ASpec.enter TYok mixed Tryd.func33 rfl Tryd.call33 Tryd.ntmps33 rfl (rs := [.tmp 4]) rfl (nodupB_ok rfl) (Clo.one rfl) (keep := [0, 1, 2, 3, 4, 5]) ?_; conv => whnf
    repeat' first | (refine And.intro (fun (hb : _ = true) => ?_) (fun (hb : _ = false) => ?_) <;> (try simp only [pickB_or, pickB_and] at hb) <;> (have hc := hb; try simp only [Int.toNat_natCast, Int.reduceToNat, Bool.or_eq_false_iff, Bool.and_eq_false_iff, Bool.not_eq_false', decide_eq_true_eq, decide_eq_false_iff_not, Bool.not_eq_true', Bool.and_eq_true, Bool.or_eq_true] at hc) <;> first | (exfalso; omega) | conv => whnf) | (refine ⟨_, wr64 (by first | omega | (simp only [Int.toNat_natCast, Int.reduceToNat]; omega)) (by first | omega | (simp only [Int.toNat_natCast, Int.reduceToNat]; omega)), ?_⟩; conv => whnf) | (refine And.intro (by first | omega | (simp only [Int.toNat_natCast, Int.reduceToNat, addZ]; omega) | (simp only [ByteArray.size_append, size_mk, List.length_cons, List.length_nil, Int.toNat_natCast, Int.reduceToNat]; omega) | exact ⟨rfl, by omega⟩ | ((repeat' apply And.intro) <;> first | exact trivial | omega) | decide +kernel) ?_; conv => whnf) | (refine And.intro (fun (ht : tg _ _ = true) => by (simp only [tg_ite, tg_nil, cn, Nat.reduceMul, Nat.reduceAdd, Nat.reduceEqDiff, ↓reduceIte, pickB_or, pickB_and, Bool.and_eq_true, Bool.or_eq_true, Bool.or_eq_false_iff, Bool.and_eq_false_iff, Bool.not_eq_true', Bool.not_eq_false', decide_eq_true_eq, decide_eq_false_iff_not, Int.toNat_natCast, Int.reduceToNat, ne_eq] at ht ⊢; first | omega | (simp only [Int.toNat_natCast, Int.reduceToNat]; omega))) ?_; conv => whnf) | (refine ⟨_, shl1 (by omega), ?_⟩; conv => whnf) | (refine ⟨_, wru64 (by first | omega | (simp only [Int.toNat_natCast, Int.reduceToNat]; omega)) (by first | omega | (simp only [Int.toNat_natCast, Int.reduceToNat]; omega)), ?_⟩; conv => whnf) | (refine ⟨_, fun _ => (IntKind.wrap_u64 _).symm, ?_⟩; conv => whnf) | ((first | refine CallK.mk _ _ (fun _ => Name4_S _ (by omega)) ?_ | refine CallL.mk _ _ (fun _ => Name4_S _ (by omega)) rfl (fun _ _ h => nomatch h) ?_ | (refine CallW.lent ?_; (conv => whnf); refine CallL.mk _ _ (fun _ => Name4_S _ (by omega)) rfl (fun _ _ h => nomatch h) ?_) | (refine CallW.lent ?_; (conv => whnf); refine And.intro (by omega) ?_; (conv => whnf); refine CallL.mk _ _ (fun _ => Name4_S _ (by omega)) rfl (fun _ _ h => nomatch h) ?_)); conv => whnf) | ((first | refine CallK.mk _ _ (fun _ => behind5_S m x h hm hx hs) ?_ | refine CallL.mk _ _ (fun _ => behind5_S m x h hm hx hs) rfl (fun _ _ h => nomatch h) ?_ | (refine CallW.lent ?_; (conv => whnf); refine CallL.mk _ _ (fun _ => behind5_S m x h hm hx hs) rfl (fun _ _ h => nomatch h) ?_) | (refine CallW.lent ?_; (conv => whnf); refine And.intro (by omega) ?_; (conv => whnf); refine CallL.mk _ _ (fun _ => behind5_S m x h hm hx hs) rfl (fun _ _ h => nomatch h) ?_)); conv => whnf) | exact ⟨_, .keep rfl rfl⟩ | fail
    all_goals clear f1 f2
    all_goals exact ⟨_, .keep (by unfold insT flT; simp only [if_neg (show ¬ 0 ≤ x.reg by omega), *, if_true, if_false]) rfl⟩
  · have g5 := g4 q
    refine ASpec.enter TYok mixed Tryd.func33 rfl Tryd.call33 Tryd.ntmps33 rfl (rs := [.tmp 4]) rfl (nodupB_ok rfl) (Clo.one rfl) (keep := [0, 1, 2, 3, 4, 5]) ?_; conv => whnf
    repeat' first | (refine And.intro (fun (hb : _ = true) => ?_) (fun (hb : _ = false) => ?_) <;> (try simp only [pickB_or, pickB_and] at hb) <;> (have hc := hb; try simp only [Int.toNat_natCast, Int.reduceToNat, Bool.or_eq_false_iff, Bool.and_eq_false_iff, Bool.not_eq_false', decide_eq_true_eq, decide_eq_false_iff_not, Bool.not_eq_true', Bool.and_eq_true, Bool.or_eq_true] at hc) <;> first | (exfalso; omega) | conv => whnf) | (refine ⟨_, wr64 (by first | omega | (simp only [Int.toNat_natCast, Int.reduceToNat]; omega)) (by first | omega | (simp only [Int.toNat_natCast, Int.reduceToNat]; omega)), ?_⟩; conv => whnf) | (refine And.intro (by first | omega | (simp only [Int.toNat_natCast, Int.reduceToNat, addZ]; omega) | (simp only [ByteArray.size_append, size_mk, List.length_cons, List.length_nil, Int.toNat_natCast, Int.reduceToNat]; omega) | exact ⟨rfl, by omega⟩ | ((repeat' apply And.intro) <;> first | exact trivial | omega) | decide +kernel) ?_; conv => whnf) | (refine And.intro (fun (ht : tg _ _ = true) => by (simp only [tg_ite, tg_nil, cn, Nat.reduceMul, Nat.reduceAdd, Nat.reduceEqDiff, ↓reduceIte, pickB_or, pickB_and, Bool.and_eq_true, Bool.or_eq_true, Bool.or_eq_false_iff, Bool.and_eq_false_iff, Bool.not_eq_true', Bool.not_eq_false', decide_eq_true_eq, decide_eq_false_iff_not, Int.toNat_natCast, Int.reduceToNat, ne_eq] at ht ⊢; first | omega | (simp only [Int.toNat_natCast, Int.reduceToNat]; omega))) ?_; conv => whnf) | (refine ⟨_, shl1 (by omega), ?_⟩; conv => whnf) | (refine ⟨_, wru64 (by first | omega | (simp only [Int.toNat_natCast, Int.reduceToNat]; omega)) (by first | omega | (simp only [Int.toNat_natCast, Int.reduceToNat]; omega)), ?_⟩; conv => whnf) | (refine ⟨_, fun _ => (IntKind.wrap_u64 _).symm, ?_⟩; conv => whnf) | ((first | refine CallK.mk _ _ (fun _ => Name4_S _ (by omega)) ?_ | refine CallL.mk _ _ (fun _ => Name4_S _ (by omega)) rfl (fun _ _ h => nomatch h) ?_ | (refine CallW.lent ?_; (conv => whnf); refine CallL.mk _ _ (fun _ => Name4_S _ (by omega)) rfl (fun _ _ h => nomatch h) ?_) | (refine CallW.lent ?_; (conv => whnf); refine And.intro (by omega) ?_; (conv => whnf); refine CallL.mk _ _ (fun _ => Name4_S _ (by omega)) rfl (fun _ _ h => nomatch h) ?_)); conv => whnf) | ((first | refine CallK.mk _ _ (fun _ => behind5_S m x h hm hx hs) ?_ | refine CallL.mk _ _ (fun _ => behind5_S m x h hm hx hs) rfl (fun _ _ h => nomatch h) ?_ | (refine CallW.lent ?_; (conv => whnf); refine CallL.mk _ _ (fun _ => behind5_S m x h hm hx hs) rfl (fun _ _ h => nomatch h) ?_) | (refine CallW.lent ?_; (conv => whnf); refine And.intro (by omega) ?_; (conv => whnf); refine CallL.mk _ _ (fun _ => behind5_S m x h hm hx hs) rfl (fun _ _ h => nomatch h) ?_)); conv => whnf) | ((first | refine CallK.mk _ _ (fun _ => DigitsI_S _ (by omega)) ?_ | refine CallL.mk _ _ (fun _ => DigitsI_S _ (by omega)) rfl (fun _ _ h => nomatch h) ?_ | (refine CallW.lent ?_; (conv => whnf); refine CallL.mk _ _ (fun _ => DigitsI_S _ (by omega)) rfl (fun _ _ h => nomatch h) ?_) | (refine CallW.lent ?_; (conv => whnf); refine And.intro (by omega) ?_; (conv => whnf); refine CallL.mk _ _ (fun _ => DigitsI_S _ (by omega)) rfl (fun _ _ h => nomatch h) ?_)); conv => whnf) | exact ⟨_, .keep rfl rfl⟩ | fail
    all_goals clear f1 f2
    all_goals exact ⟨_, .keep (by unfold insT flT; simp only [if_pos q, *, if_true, if_false]) rfl⟩
/-- A module whose numbers lie within their kinds. -/
structure ModR (m : ModE) : Prop where
  n : insN m
  b : ∀ i b k j : Nat, 0 ≤ ((((m.funcs.getD i Enc.d).blocks.getD b Enc.d).code.getD k Enc.d).args.getD j Enc.d).b ∧ ((((m.funcs.getD i Enc.d).blocks.getD b Enc.d).code.getD k Enc.d).args.getD j Enc.d).b < 18446744073709551616
  s : ∀ i : Nat, (m.vars.getD i Enc.d).size < 9223372036854775808
theorem InsOk.of {m : ModE} {x : InsE} (h : instr5 m x = true) (hb : ∀ j, 0 ≤ (x.args.getD j Enc.d).b ∧ (x.args.getD j Enc.d).b < 18446744073709551616) (hn : x.n ≤ 9223372036854775807) : InsOk m x := by
  unfold instr5 bad5 shape5 at h
  simp only [Bool.and_eq_true, Bool.not_eq_true', Bool.or_eq_false_iff, decide_eq_true_eq, decide_eq_false_iff_not, Bool.not_eq_false', Bool.and_eq_false_iff] at h
  obtain ⟨⟨⟨⟨⟨⟨⟨⟨c1, c2⟩, c3⟩, c4⟩, c5⟩, c6⟩, c7⟩, c8⟩, c9, c10⟩ := h
  have a1 : ∀ i, i < x.args.length → operand5 m (x.args.getD i Enc.d) = true := fun i hi => by
    rw [List.all_eq_true] at c10
    exact c10 _ (by rw [List.getD_eq_getElem?_getD, List.getElem?_eq_getElem hi]; exact List.getElem_mem hi)
  have a2 : ∀ i, i < x.to.length → 0 ≤ x.to.getD i Enc.d ∧ x.to.getD i Enc.d ≤ 999 := fun i hi => by
    rw [List.all_eq_true] at c9
    exact inR_iff.1 (c9 _ (by rw [List.getD_eq_getElem?_getD, List.getElem?_eq_getElem hi]; exact List.getElem_mem hi))
  unfold countsF at c1 c2
  have op : 1 ≤ x.op ∧ x.op ≤ 34 := by
    refine Decidable.byContradiction fun hne => ?_
    rw [if_neg (by omega), if_neg (by omega), if_neg (by omega), if_neg (by omega), if_neg (by omega), if_neg (by omega), if_neg (by omega), if_neg (by omega), if_neg (by omega), if_neg (by omega)] at c1
    simp only at c1; omega
  refine ⟨op, fun i hi => ⟨a1 i hi, hb i⟩, a2, fun e => ?_, fun e => ?_, fun e => ?_, fun e => ?_, fun e => ?_, fun e => ?_, ?_, ⟨by omega, by omega⟩, hn, ?_, fun e => ?_⟩
  · rw [if_pos (by omega)] at c1; simp only at c1; omega
  · rw [if_neg (by omega), if_neg (by omega), if_neg (by omega), if_neg (by omega), if_neg (by omega), if_neg (by omega), if_pos e] at c2; simp only at c2; omega
  · rw [if_neg (by omega), if_neg (by omega), if_neg (by omega), if_neg (by omega), if_neg (by omega), if_neg (by omega), if_neg (by omega), if_pos e] at c1 c2; simp only at c1 c2; omega
  · rw [if_neg (by omega), if_neg (by omega), if_pos e] at c1 c2; simp only at c1 c2; omega
  · unfold numbered5 at c4; rw [if_neg (by omega), if_pos e] at c4; simpa using c4
  · unfold typed5 at c3
    rw [if_neg (by omega), if_neg (by omega), if_neg (by omega), if_pos e] at c3
    simp only [Bool.and_eq_true] at c3
    have := c3.1.1
    unfold Callee at this
    split at this
    · rename_i q; exact .inl q
    · split at this
      · rename_i q; exact .inr q
      · cases this
  · unfold register5 at c5
    split at c5
    · simp only [Bool.or_eq_true, decide_eq_true_eq, inR_iff] at c5; omega
    · split at c5
      · have := inR_iff.1 c5; omega
      · simp only [decide_eq_true_eq] at c5; omega
  · unfold typed5 at c3
    split at c3
    · simp only [decide_eq_true_eq] at c3; omega
    · split at c3
      · simp only [decide_eq_true_eq] at c3; omega
      · split at c3
        · simp only [Bool.and_eq_true] at c3; exact inR_iff.1 c3.1
        · split at c3
          · simp only [Bool.and_eq_true] at c3; exact inR_iff.1 c3.2
          · exact inR_iff.1 c3
  · unfold numbered5 at c4; rw [if_pos e] at c4; exact inR_iff.1 c4
end Go.Proofs.YtilhkmlghhdpaaaDoor
