/-
  DERIVED: THE SHELF's CONTRACTS AT THIS DUMP, IN PLAIN WORDS (tools/lay-plain.mjs out of 'TrydSh.lean', which tools/lay-shelf.mjs wrote): THE SAME DECLARATIONS UNDER THE SAME NAMES: 'import', 'namespace', 'open', 'def', 'theorem' AND NOTHING ELSE: no command of the shelf's: FOR A HAND-IN. Each laying: the table of numbers ('.._ren') and one theorem, a field a fact of the dump's own or the kernel's comparison; each contract: ONE APPLICATION.
-/
import Derived.Shelf.Strings.SlTrimAscii
import Derived.Shelf.Small.Utf8
import Derived.Shelf.Small.Strs
import Derived.Shelf.Small.Wraps
import Derived.Shelf.Strconv.Itoa0
import Derived.Shelf.Strconv.Itoa1
import Derived.Shelf.LaysM
import Derived.Shelf.Strconv.Itoa2
import Derived.Shelf.Strconv.Itoa3
import Derived.Shelf.Strconv.Itoa4
import Derived.Ground.MpProg
import Derived.Shelf.Pu.ParseUintPublic10
import Derived.Shelf.Pu.ErrVarParseUint
import Derived.Shelf.Strings.Search1
import Derived.Shelf.Strings.Prefix
import Derived.Shelf.Unicode.Decode
import Derived.Shelf.Strings.Runes
import Derived.Shelf.Strings.AsciiSet
import Derived.Shelf.Unicode.DecodeSlow
import Derived.Shelf.Unicode.DecodeAny
import Derived.Shelf.Unicode.DecodeLast
import Derived.Test.YtklclcenfjecpaaDoorProg
namespace Go.Proofs
open Go.Shelf
def Tryd.lays103_ren : Go.Shelf.Ren := ⟨fun | 103 => 21 | 210 => 27 | 206 => 42 | n => n, fun | 9 => 9 | 4 => 4 | 24 => 40 | 3 => 3 | n => n, fun | n => n⟩
theorem Tryd.lays103 : Go.Proofs.Lays.n103 Tryd.prog Tryd.lays103_ren := {
  mixed := by kernel_rfl
  f103 := Tryd.func21.trans (congrArg some (by kernel_rfl))
  f206 := Tryd.func42.trans (congrArg some (by kernel_rfl))
  f210 := Tryd.func27.trans (congrArg some (by kernel_rfl))
  t3 := Tryd.underlying3
  a3 := Tryd.isAgg3
  z3 := Tryd.sizeOf3
  v3 := Tryd.zeroValue3
  t4 := Tryd.underlying4
  a4 := Tryd.isAgg4
  z4 := Tryd.sizeOf4
  v4 := Tryd.zeroValue4
  t9 := Tryd.underlying9
  a9 := Tryd.isAgg9
  z9 := Tryd.sizeOf9
  v9 := Tryd.zeroValue9
  t24 := Tryd.underlying40
  a24 := Tryd.isAgg40
  z24 := Tryd.sizeOf40
  v24 := Tryd.zeroValue40 }
def Tryd.laysM173_ren : Go.Shelf.Ren := ⟨fun | 173 => 18 | 246 => 26 | 283 => 38 | 284 => 39 | 285 => 40 | 286 => 41 | 129 => 54 | 317 => 53 | 318 => 55 | 319 => 56 | 320 => 57 | 337 => 64 | 338 => 65 | n => n, fun | 2 => 2 | 3 => 3 | 9 => 9 | 4 => 4 | 171 => 60 | 0 => 0 | 53 => 22 | 37 => 49 | 5 => 5 | 173 => 63 | 212 => 77 | 51 => 30 | 20 => 20 | 213 => 78 | 46 => 33 | 232 => 98 | 233 => 99 | n => n, fun | 17 => 0 | 18 => 5 | 19 => 6 | n => n⟩
theorem Tryd.laysM173 : Go.Proofs.LaysM.n173 Tryd.prog Tryd.laysM173_ren := {
  mixed := by kernel_rfl
  f129 := Tryd.func54.trans (congrArg some (by kernel_rfl))
  f173 := Tryd.func18.trans (congrArg some (by kernel_rfl))
  f246 := Tryd.func26.trans (congrArg some (by kernel_rfl))
  f283 := Tryd.func38.trans (congrArg some (by kernel_rfl))
  f284 := Tryd.func39.trans (congrArg some (by kernel_rfl))
  f285 := Tryd.func40.trans (congrArg some (by kernel_rfl))
  f286 := Tryd.func41.trans (congrArg some (by kernel_rfl))
  f317 := Tryd.func53.trans (congrArg some (by kernel_rfl))
  f318 := Tryd.func55.trans (congrArg some (by kernel_rfl))
  f319 := Tryd.func56.trans (congrArg some (by kernel_rfl))
  f320 := Tryd.func57.trans (congrArg some (by kernel_rfl))
  f337 := Tryd.func64.trans (congrArg some (by kernel_rfl))
  f338 := Tryd.func65.trans (congrArg some (by kernel_rfl))
  t0 := Tryd.underlying0
  a0 := Tryd.isAgg0
  z0 := Tryd.sizeOf0
  v0 := Tryd.zeroValue0
  t2 := Tryd.underlying2
  a2 := Tryd.isAgg2
  z2 := Tryd.sizeOf2
  v2 := Tryd.zeroValue2
  t3 := Tryd.underlying3
  a3 := Tryd.isAgg3
  z3 := Tryd.sizeOf3
  v3 := Tryd.zeroValue3
  t4 := Tryd.underlying4
  a4 := Tryd.isAgg4
  z4 := Tryd.sizeOf4
  v4 := Tryd.zeroValue4
  t5 := Tryd.underlying5
  a5 := Tryd.isAgg5
  z5 := Tryd.sizeOf5
  v5 := Tryd.zeroValue5
  t9 := Tryd.underlying9
  a9 := Tryd.isAgg9
  z9 := Tryd.sizeOf9
  v9 := Tryd.zeroValue9
  t20 := Tryd.underlying20
  a20 := Tryd.isAgg20
  z20 := Tryd.sizeOf20
  v20 := Tryd.zeroValue20
  t37 := Tryd.underlying49
  a37 := Tryd.isAgg49
  z37 := Tryd.sizeOf49
  v37 := Tryd.zeroValue49
  t46 := Tryd.underlying33
  a46 := Tryd.isAgg33
  z46 := Tryd.sizeOf33
  v46 := Tryd.zeroValue33
  t51 := Tryd.underlying30
  a51 := Tryd.isAgg30
  z51 := Tryd.sizeOf30
  v51 := Tryd.zeroValue30
  t53 := Tryd.underlying22
  a53 := Tryd.isAgg22
  z53 := Tryd.sizeOf22
  v53 := Tryd.zeroValue22
  t171 := Tryd.underlying60
  a171 := Tryd.isAgg60
  z171 := Tryd.sizeOf60
  v171 := Tryd.zeroValue60
  t173 := Tryd.underlying63
  a173 := Tryd.isAgg63
  z173 := Tryd.sizeOf63
  v173 := Tryd.zeroValue63
  t212 := Tryd.underlying77
  a212 := Tryd.isAgg77
  z212 := Tryd.sizeOf77
  v212 := Tryd.zeroValue77
  t213 := Tryd.underlying78
  a213 := Tryd.isAgg78
  z213 := Tryd.sizeOf78
  t232 := Tryd.underlying98
  a232 := Tryd.isAgg98
  z232 := Tryd.sizeOf98
  v232 := Tryd.zeroValue98
  t233 := Tryd.underlying99
  a233 := Tryd.isAgg99
  z233 := Tryd.sizeOf99
  v233 := Tryd.zeroValue99
  g17 := by kernel_rfl
  g18 := by kernel_rfl
  g19 := by kernel_rfl
  i0 := by kernel_rfl
  i2 := by kernel_rfl
  i3 := by kernel_rfl
  i4 := by kernel_rfl
  i5 := by kernel_rfl
  i9 := by kernel_rfl
  i20 := by kernel_rfl
  i37 := by kernel_rfl
  i46 := by kernel_rfl
  i51 := by kernel_rfl
  i53 := by kernel_rfl
  i171 := by kernel_rfl
  i173 := by kernel_rfl
  i212 := by kernel_rfl
  i232 := by kernel_rfl
  i233 := by kernel_rfl
  m17 := by kernel_rfl
  m18 := by kernel_rfl
  m19 := by kernel_rfl }
def Tryd.laysPu14_ren : Go.Shelf.Ren := ⟨fun | 14 => 23 | 16 => 35 | 17 => 36 | 19 => 47 | 20 => 48 | 21 => 49 | 22 => 50 | 23 => 51 | 24 => 52 | 25 => 61 | 27 => 63 | 26 => 62 | 28 => 70 | 29 => 26 | 30 => 38 | 31 => 39 | 32 => 40 | 33 => 41 | 35 => 54 | 34 => 53 | 36 => 55 | 37 => 56 | 38 => 57 | 39 => 64 | 40 => 65 | n => n, fun | 9 => 9 | 3 => 3 | 22 => 22 | 24 => 44 | 25 => 45 | 4 => 4 | 34 => 70 | 5 => 5 | 36 => 33 | 37 => 49 | 0 => 0 | 39 => 72 | 21 => 21 | 44 => 84 | 47 => 94 | 50 => 97 | 48 => 95 | 2 => 2 | 52 => 60 | 55 => 63 | 59 => 77 | 60 => 30 | 20 => 20 | 61 => 78 | 65 => 98 | 66 => 99 | 67 => 100 | n => n, fun | 0 => 1 | 1 => 2 | 2 => 0 | 3 => 5 | 4 => 6 | n => n⟩
theorem Tryd.laysPu14 : Go.Proofs.LaysPu.n14 Tryd.prog Tryd.laysPu14_ren := {
  mixed := by kernel_rfl
  f14 := Tryd.func23.trans (congrArg some (by kernel_rfl))
  f16 := Tryd.func35.trans (congrArg some (by kernel_rfl))
  f17 := Tryd.func36.trans (congrArg some (by kernel_rfl))
  f19 := Tryd.func47.trans (congrArg some (by kernel_rfl))
  f20 := Tryd.func48.trans (congrArg some (by kernel_rfl))
  f21 := Tryd.func49.trans (congrArg some (by kernel_rfl))
  f22 := Tryd.func50.trans (congrArg some (by kernel_rfl))
  f23 := Tryd.func51.trans (congrArg some (by kernel_rfl))
  f24 := Tryd.func52.trans (congrArg some (by kernel_rfl))
  f25 := Tryd.func61.trans (congrArg some (by kernel_rfl))
  f26 := Tryd.func62.trans (congrArg some (by kernel_rfl))
  f27 := Tryd.func63.trans (congrArg some (by kernel_rfl))
  f28 := Tryd.func70.trans (congrArg some (by kernel_rfl))
  f29 := Tryd.func26.trans (congrArg some (by kernel_rfl))
  f30 := Tryd.func38.trans (congrArg some (by kernel_rfl))
  f31 := Tryd.func39.trans (congrArg some (by kernel_rfl))
  f32 := Tryd.func40.trans (congrArg some (by kernel_rfl))
  f33 := Tryd.func41.trans (congrArg some (by kernel_rfl))
  f34 := Tryd.func53.trans (congrArg some (by kernel_rfl))
  f35 := Tryd.func54.trans (congrArg some (by kernel_rfl))
  f36 := Tryd.func55.trans (congrArg some (by kernel_rfl))
  f37 := Tryd.func56.trans (congrArg some (by kernel_rfl))
  f38 := Tryd.func57.trans (congrArg some (by kernel_rfl))
  f39 := Tryd.func64.trans (congrArg some (by kernel_rfl))
  f40 := Tryd.func65.trans (congrArg some (by kernel_rfl))
  t0 := Tryd.underlying0
  a0 := Tryd.isAgg0
  z0 := Tryd.sizeOf0
  v0 := Tryd.zeroValue0
  i0 := by kernel_rfl
  t2 := Tryd.underlying2
  a2 := Tryd.isAgg2
  z2 := Tryd.sizeOf2
  v2 := Tryd.zeroValue2
  i2 := by kernel_rfl
  t3 := Tryd.underlying3
  a3 := Tryd.isAgg3
  z3 := Tryd.sizeOf3
  v3 := Tryd.zeroValue3
  i3 := by kernel_rfl
  t4 := Tryd.underlying4
  a4 := Tryd.isAgg4
  z4 := Tryd.sizeOf4
  v4 := Tryd.zeroValue4
  i4 := by kernel_rfl
  t5 := Tryd.underlying5
  a5 := Tryd.isAgg5
  z5 := Tryd.sizeOf5
  v5 := Tryd.zeroValue5
  i5 := by kernel_rfl
  t9 := Tryd.underlying9
  a9 := Tryd.isAgg9
  z9 := Tryd.sizeOf9
  v9 := Tryd.zeroValue9
  i9 := by kernel_rfl
  t20 := Tryd.underlying20
  a20 := Tryd.isAgg20
  z20 := Tryd.sizeOf20
  v20 := Tryd.zeroValue20
  i20 := by kernel_rfl
  t21 := Tryd.underlying21
  a21 := Tryd.isAgg21
  z21 := Tryd.sizeOf21
  v21 := Tryd.zeroValue21
  i21 := by kernel_rfl
  t22 := Tryd.underlying22
  a22 := Tryd.isAgg22
  z22 := Tryd.sizeOf22
  v22 := Tryd.zeroValue22
  i22 := by kernel_rfl
  t24 := Tryd.underlying44
  a24 := Tryd.isAgg44
  z24 := Tryd.sizeOf44
  v24 := Tryd.zeroValue44
  i24 := by kernel_rfl
  t25 := Tryd.underlying45
  a25 := Tryd.isAgg45
  z25 := Tryd.sizeOf45
  v25 := Tryd.zeroValue45
  i25 := by kernel_rfl
  t34 := Tryd.underlying70
  a34 := Tryd.isAgg70
  z34 := Tryd.sizeOf70
  v34 := Tryd.zeroValue70
  i34 := by kernel_rfl
  c34 := by kernel_rfl
  t36 := Tryd.underlying33
  a36 := Tryd.isAgg33
  z36 := Tryd.sizeOf33
  v36 := Tryd.zeroValue33
  i36 := by kernel_rfl
  t37 := Tryd.underlying49
  a37 := Tryd.isAgg49
  z37 := Tryd.sizeOf49
  v37 := Tryd.zeroValue49
  i37 := by kernel_rfl
  t39 := Tryd.underlying72
  a39 := Tryd.isAgg72
  z39 := Tryd.sizeOf72
  v39 := Tryd.zeroValue72
  i39 := by kernel_rfl
  t44 := Tryd.underlying84
  a44 := Tryd.isAgg84
  z44 := Tryd.sizeOf84
  v44 := Tryd.zeroValue84
  i44 := by kernel_rfl
  t47 := Tryd.underlying94
  a47 := Tryd.isAgg94
  z47 := Tryd.sizeOf94
  v47 := Tryd.zeroValue94
  i47 := by kernel_rfl
  t48 := Tryd.underlying95
  a48 := Tryd.isAgg95
  z48 := Tryd.sizeOf95
  v48 := Tryd.zeroValue95
  i48 := by kernel_rfl
  t50 := Tryd.underlying97
  a50 := Tryd.isAgg97
  z50 := Tryd.sizeOf97
  v50 := Tryd.zeroValue97
  i50 := by kernel_rfl
  t52 := Tryd.underlying60
  a52 := Tryd.isAgg60
  z52 := Tryd.sizeOf60
  v52 := Tryd.zeroValue60
  i52 := by kernel_rfl
  t55 := Tryd.underlying63
  a55 := Tryd.isAgg63
  z55 := Tryd.sizeOf63
  v55 := Tryd.zeroValue63
  i55 := by kernel_rfl
  t59 := Tryd.underlying77
  a59 := Tryd.isAgg77
  z59 := Tryd.sizeOf77
  v59 := Tryd.zeroValue77
  i59 := by kernel_rfl
  t60 := Tryd.underlying30
  a60 := Tryd.isAgg30
  z60 := Tryd.sizeOf30
  v60 := Tryd.zeroValue30
  i60 := by kernel_rfl
  t61 := Tryd.underlying78
  a61 := Tryd.isAgg78
  z61 := Tryd.sizeOf78
  t65 := Tryd.underlying98
  a65 := Tryd.isAgg98
  z65 := Tryd.sizeOf98
  v65 := Tryd.zeroValue98
  i65 := by kernel_rfl
  t66 := Tryd.underlying99
  a66 := Tryd.isAgg99
  z66 := Tryd.sizeOf99
  v66 := Tryd.zeroValue99
  i66 := by kernel_rfl
  t67 := Tryd.underlying100
  a67 := Tryd.isAgg100
  z67 := Tryd.sizeOf100
  v67 := Tryd.zeroValue100
  i67 := by kernel_rfl
  g0 := by kernel_rfl
  m0 := by kernel_rfl
  g1 := by kernel_rfl
  m1 := by kernel_rfl
  g2 := by kernel_rfl
  m2 := by kernel_rfl
  g3 := by kernel_rfl
  m3 := by kernel_rfl
  g4 := by kernel_rfl
  m4 := by kernel_rfl }
open Go.RowKit in
/-- strings.CutPrefix: "CutPrefix returns s without the provided leading prefix string and reports whether it found the prefix. If s doesn't start with prefix, CutPrefix returns s, false. If prefix is the empty string, CutPrefix returns s, true.": IT RETURNS '(Lib.trimPrefix s p, Lib.hasPrefix s p)'; the world is as it was. (LAID: no walk: one application.) -/
theorem Tryd.strings_CutPrefix (s p : ByteArray) (w : World) :
    Calls Tryd.prog 21 #[.string s, .string p] w fun e w' => e = .returned (.tuple #[.string ⟨(Lib.trimPrefix s.data.toList p.data.toList).toArray⟩, .bool (Lib.hasPrefix s.data.toList p.data.toList)]) ∧ w' = w := Any.strings_CutPrefix Tryd.lays103 s p w
open Go.RowKit Go.Sort Go.Lib in
/-- strconv.FormatInt: "FormatInt returns the string representation of i in the given base": AT BASE 10: i's decimal numeral, for every int64. (LAID: no walk: one application.) -/
theorem Tryd.strconv_FormatInt_10 (n : Int) (h0 : -9223372036854775808 ≤ n) (h1 : n ≤ 9223372036854775807) (w : World) (htab : Lib.TabIs Tryd.prog w "internal/strconv.uint64pow10" .u64 Lib.pow10Tab) :
    Calls Tryd.prog 18 #[.int .i64 n, .int .i64 10] w fun e w' => e = .returned (.string ⟨(Lib.itoa n).toArray⟩) ∧ ∃ k os, w' = grow (w.drewN k) os := Any.strconv_FormatInt_10 Tryd.laysM173 n h0 h1 w htab
open Go.RowKit in
/-- strconv.ParseUint(s, 10, 64), AT EVERY STRING THAT SPELLS A uint64 ('Lib.parseUintB 64 s.data.toList = .ok u'): u, AND NO ERROR. (LAID: no walk: one application.) -/
theorem Tryd.strconv_ParseUint_10_at64_ok (s : ByteArray) (hmax : s.size ≤ 9223372036854775806) (u : Nat) (h : Lib.parseUintB 64 s.data.toList = .ok u) (w : World) :
    Calls Tryd.prog 23 #[.string s, .int .i64 10, .int .i64 64] w fun e w' => e = .returned (.tuple #[.int .u64 u, .nilIface]) ∧ (w' = w ∨ w' = Lib.bytesWorld w 5 s) := Any.strconv_ParseUint_10_at64_ok Tryd.laysPu14 s hmax u h w
open Go.RowKit in
theorem Tryd.strconv_ParseUint_10_at64_syntax_var (s : ByteArray) (hlim : s.size ≤ 281474976710656) (h : Lib.parseUintB 64 s.data.toList = .«syntax») (tp : TypeId) (p : Value) (w : World) (hvar : w.var? Tryd.prog "strconv.ErrSyntax" = some #[.iface tp p]) :
    Calls Tryd.prog 23 #[.string s, .int .i64 10, .int .i64 64] w fun e w' => ∃ N, e = .returned (.tuple #[.int .u64 0, .iface 72 (.pointer (some ⟨N, 0, none⟩))]) ∧ w.heap.size ≤ N ∧ w'.heap[N]? = some (.cells #[.string ⟨#[80, 97, 114, 115, 101, 85, 105, 110, 116]⟩, .string s, .iface tp p] 84 (0, 0)) ∧ Below w.heap.size w w' := Any.strconv_ParseUint_10_at64_syntax_var Tryd.laysPu14 s hlim h tp p w hvar
open Go.RowKit in
theorem Tryd.strconv_ParseUint_10_at64_range_var (s : ByteArray) (hlim : s.size ≤ 281474976710656) (h : Lib.parseUintB 64 s.data.toList = .range) (tp : TypeId) (p : Value) (w : World) (hvar : w.var? Tryd.prog "strconv.ErrRange" = some #[.iface tp p]) :
    Calls Tryd.prog 23 #[.string s, .int .i64 10, .int .i64 64] w fun e w' => ∃ N, e = .returned (.tuple #[.int .u64 18446744073709551615, .iface 72 (.pointer (some ⟨N, 0, none⟩))]) ∧ w.heap.size ≤ N ∧ w'.heap[N]? = some (.cells #[.string ⟨#[80, 97, 114, 115, 101, 85, 105, 110, 116]⟩, .string s, .iface tp p] 84 (0, 0)) ∧ Below w.heap.size w w' := Any.strconv_ParseUint_10_at64_range_var Tryd.laysPu14 s hlim h tp p w hvar
def Tryd.lays160_ren : Go.Shelf.Ren := ⟨fun | 160 => 22 | 232 => 29 | 231 => 28 | 227 => 30 | 234 => 32 | 233 => 31 | 236 => 34 | 235 => 33 | 228 => 43 | 271 => 46 | 151 => 45 | 197 => 44 | 120 => 60 | 152 => 59 | 260 => 58 | 137 => 66 | 119 => 67 | 224 => 68 | 225 => 69 | 217 => 71 | 266 => 72 | n => n, fun | 9 => 9 | 4 => 4 | 3 => 3 | 5 => 5 | 117 => 53 | 116 => 52 | 0 => 0 | 124 => 56 | 21 => 21 | 105 => 67 | 46 => 33 | 119 => 87 | 139 => 90 | 138 => 89 | n => n, fun | 3 => 3 | 4 => 4 | n => n⟩
theorem Tryd.lays160 : Go.Proofs.Lays.n160 Tryd.prog Tryd.lays160_ren := {
  mixed := by kernel_rfl
  f119 := Tryd.func67.trans (congrArg some (by kernel_rfl))
  f120 := Tryd.func60.trans (congrArg some (by kernel_rfl))
  f137 := Tryd.func66.trans (congrArg some (by kernel_rfl))
  f151 := Tryd.func45.trans (congrArg some (by kernel_rfl))
  f152 := Tryd.func59.trans (congrArg some (by kernel_rfl))
  f160 := Tryd.func22.trans (congrArg some (by kernel_rfl))
  f197 := Tryd.func44.trans (congrArg some (by kernel_rfl))
  f217 := Tryd.func71.trans (congrArg some (by kernel_rfl))
  f224 := Tryd.func68.trans (congrArg some (by kernel_rfl))
  f225 := Tryd.func69.trans (congrArg some (by kernel_rfl))
  f227 := Tryd.func30.trans (congrArg some (by kernel_rfl))
  f228 := Tryd.func43.trans (congrArg some (by kernel_rfl))
  f231 := Tryd.func28.trans (congrArg some (by kernel_rfl))
  f232 := Tryd.func29.trans (congrArg some (by kernel_rfl))
  f233 := Tryd.func31.trans (congrArg some (by kernel_rfl))
  f234 := Tryd.func32.trans (congrArg some (by kernel_rfl))
  f235 := Tryd.func33.trans (congrArg some (by kernel_rfl))
  f236 := Tryd.func34.trans (congrArg some (by kernel_rfl))
  f260 := Tryd.func58.trans (congrArg some (by kernel_rfl))
  f266 := Tryd.func72.trans (congrArg some (by kernel_rfl))
  f271 := Tryd.func46.trans (congrArg some (by kernel_rfl))
  t0 := Tryd.underlying0
  a0 := Tryd.isAgg0
  z0 := Tryd.sizeOf0
  v0 := Tryd.zeroValue0
  t3 := Tryd.underlying3
  a3 := Tryd.isAgg3
  z3 := Tryd.sizeOf3
  v3 := Tryd.zeroValue3
  t4 := Tryd.underlying4
  a4 := Tryd.isAgg4
  z4 := Tryd.sizeOf4
  v4 := Tryd.zeroValue4
  t5 := Tryd.underlying5
  a5 := Tryd.isAgg5
  z5 := Tryd.sizeOf5
  v5 := Tryd.zeroValue5
  t9 := Tryd.underlying9
  a9 := Tryd.isAgg9
  z9 := Tryd.sizeOf9
  v9 := Tryd.zeroValue9
  t21 := Tryd.underlying21
  a21 := Tryd.isAgg21
  z21 := Tryd.sizeOf21
  v21 := Tryd.zeroValue21
  t46 := Tryd.underlying33
  a46 := Tryd.isAgg33
  z46 := Tryd.sizeOf33
  v46 := Tryd.zeroValue33
  t105 := Tryd.underlying67
  a105 := Tryd.isAgg67
  z105 := Tryd.sizeOf67
  v105 := Tryd.zeroValue67
  t116 := Tryd.underlying52
  a116 := Tryd.isAgg52
  z116 := Tryd.sizeOf52
  t117 := Tryd.underlying53
  a117 := Tryd.isAgg53
  z117 := Tryd.sizeOf53
  v117 := Tryd.zeroValue53
  t119 := Tryd.underlying87
  a119 := Tryd.isAgg87
  z119 := Tryd.sizeOf87
  t124 := Tryd.underlying56
  a124 := Tryd.isAgg56
  z124 := Tryd.sizeOf56
  v124 := Tryd.zeroValue56
  t138 := Tryd.underlying89
  a138 := Tryd.isAgg89
  z138 := Tryd.sizeOf89
  v138 := Tryd.zeroValue89
  t139 := Tryd.underlying90
  a139 := Tryd.isAgg90
  z139 := Tryd.sizeOf90
  v139 := Tryd.zeroValue90
  g3 := by kernel_rfl
  g4 := by kernel_rfl }
open Go.RowKit in
theorem Tryd.strings_Trim (s cs : ByteArray) (w : World) (hs : s.size ≤ 9223372036854775807) (hcs : cs.size < 4294967281) (hascii : ∀ (j : Nat) (b : UInt8), cs.data.toList[j]? = some b → b.toNat < 128) :
    Calls Tryd.prog 22 #[.string s, .string cs] w fun e w' => e = .returned (.string ⟨(Lib.trimS s.data.toList cs.data.toList).toArray⟩) ∧ Below w.heap.size w w' := Any.strings_Trim_laid Tryd.lays160 (by kernel_rfl) s cs w hs hcs hascii
end Go.Proofs
