/- A part of the proofs of this seat: functions and their contracts. -/
import Derived.Test.YtmaiaomgcpbccaaGreatMC
import Derived.Test.YtmaiaomgcpbccaaGreatProg
import Derived.Lib.TrailingZeros
import Derived.Sort.AssemblyPlain
import Derived.Shelf.Strconv.Itoa0
import Derived.Sort.WalkA14
import Derived.Sort.LotD4
set_option linter.unusedVariables false
set_option linter.unusedSimpArgs false
set_option linter.unusedSectionVars false
namespace Go.Ab.K
open Go
abbrev t:=Arg.t
abbrev c:=Arg.c
abbrev n (x:Int):V := .d (.int .i64 x)
abbrev u (x:BitVec 64):V := .d (.u64 x)
abbrev m (x:Nat):CO := .mv (.t x)
abbrev pf (x y:Nat):CO := .pick (.t x) (.t y) (.c .bf)
abbrev pt (x y:Nat):CO := .pick (.t x) (.c .bt) (.t y)
abbrev b (o:BinOp) (x y:Nat):CO := .bin o (.t x) (.t y)
abbrev bc (o:BinOp) (x:Nat) (y:V):CO := .bin o (.t x) (.c y)
abbrev l (x:Nat):CO := .load none (.t x)
abbrev la (k x:Nat):CO := .load (some k) (.t x)
abbrev f (o x:Nat):CO := .faddr o (.t x)
abbrev ia (s x i:Nat):CO := .iaddr s (.t x) (.t i)
abbrev e (x k:Nat):CO := .ext (.t x) k
abbrev ln (x:Nat):CO := .len (.t x)
abbrev o (d:Nat) (x:CO):COp:=⟨some d,none,x⟩
abbrev w (x:CO):COp:=⟨none,none,x⟩
abbrev g (d k:Nat) (v:Bool) (x:CO):COp:=⟨some d,some (k,v),x⟩
abbrev gw (k:Nat) (v:Bool) (x:CO):COp:=⟨none,some (k,v),x⟩
abbrev i (x:Nat) (p r:CC):CC := .cond (.t x) p r
def q:List CC→CC
 | [] => .skip
 | [x]=>x
 | x::y::r => .seq x (q (y::r))
end Go.Ab.K
namespace Go.Ab
open Go K
def f_wittingref33_Few:Nat:=11
def f_wittinglaw36_awake:Nat:=12
def f_upgrade_Hard:Nat:=13
def f_wittingref33_Same:Nat:=15
def f_wittinglaw36_sameInts:Nat:=16
def f_upgrade_Radical:Nat:=17
def f_upgrade_Conservative:Nat:=19
def f_upgrade_Sequence:Nat:=21
def f_plaus_Check:Nat:=23
def f_formula_Frags:Nat:=24
def f_doxastic_Holds:Nat:=25
def f_wittinglaw36_plain:Nat:=26
def f_wittinglaw36_holds:Nat:=27
def f_formula_Belief:Nat:=28
def f_formula_And:Nat:=29
def f_formula_Not:Nat:=30
def f_formula_Or:Nat:=31
def f_formula_Poss:Nat:=33
def f_formula_True:Nat:=34
def f_doxastic_Strong:Nat:=35
def f_formula_Fits:Nat:=36
def f_wittinglaw36_example:Nat:=42
def f_formula_Fact:Nat:=43
def f_formula_False:Nat:=44
def f_plaus_Same:Nat:=45
def f_plaus_Restrict:Nat:=46
def f_wittingref02_Same:Nat:=49
def f_wittingref33_sameInts:Nat:=50
def f_upgrade_reorder:Nat:=51
def f_upgrade_Radical_1:Nat:=52
def f_upgrade_Conservative_1:Nat:=54
def f_plaus_Best:Nat:=55
def f_slices_IndexFunc_Lupgrade_kind_upgrade_kind_:Nat:=57
def f_upgrade_kinds:Nat:=58
def f_upgrade_Sequence_1:Nat:=59
def f_plaus_shape:Nat:=63
def f_plaus_ranks:Nat:=64
def f_formula_union:Nat:=65
def f_formula_Frags_1:Nat:=66
def f_formula_Check:Nat:=67
def f_formula_Compact:Nat:=68
def f_doxastic_value:Nat:=69
def f_formula_build:Nat:=70
def f_doxastic_request:Nat:=71
def f_doxastic_where:Nat:=72
def f_doxastic_Strong_1:Nat:=73
def f_plaus_Cell:Nat:=74
def f_formula_Fits_1:Nat:=75
def f_formula_Agents:Nat:=76
def f_formula_Facts:Nat:=77
def f_plaus_bestOf:Nat:=80
def f_plaus_cellOf:Nat:=81
def f_plaus_Same_1:Nat:=83
def f_slices_EqualFunc_LLint_LLint_Lint_Lint_:Nat:=84
def f_slices_Equal_Lint_int_:Nat:=85
def f_slices_Equal_Luint64_uint64_:Nat:=86
def f_plaus_all:Nat:=87
def f_slices_IndexFunc_Lint_int_:Nat:=88
def f_plaus_Restrict_1:Nat:=89
def f_slices_Index_Lint_int_:Nat:=90
def f_slices_Clone_Luint64_uint64_:Nat:=105
def f_upgrade_reorder_1:Nat:=106
def f_upgrade_reorder_2:Nat:=107
def f_cmp_Or_int_:Nat:=108
def f_cmp_Compare_int_:Nat:=109
def f_slices_SortFunc_Lint_int_:Nat:=110
def f_slices_Clone_Lint_int_:Nat:=111
def f_plaus_known:Nat:=114
def f_upgrade_every:Nat:=116
def f_slices_Compact_Lint_int_:Nat:=121
def f_formula_uses:Nat:=122
def f_formula_nodeError:Nat:=123
def f_formula_Sub:Nat:=124
def f_doxastic_all:Nat:=125
def f_doxastic_knows:Nat:=126
def f_doxastic_every:Nat:=127
def f_doxastic_common:Nat:=128
def f_doxastic_believes:Nat:=129
def f_doxastic_safely:Nat:=130
def f_formula_compact:Nat:=131
def f_formula_Agents_1:Nat:=132
def f_formula_Facts_1:Nat:=133
def f_cmp_isNaN_int_:Nat:=156
def f_slices_pdqsortCmpFunc_int_:Nat:=157
def f_math_bits_Len:Nat:=158
def f_upgrade_every_1:Nat:=160
def f_formula_operand:Nat:=162
def f_formula_nodeError_1:Nat:=163
def f_doxastic_knows_1:Nat:=164
def f_doxastic_believes_1:Nat:=165
def f_plaus_Weaker:Nat:=166
def f_doxastic_safely_1:Nat:=167
def f_formula_compact_1:Nat:=168
def f_slices_insertionSortCmpFunc_int_:Nat:=189
def f_slices_heapSortCmpFunc_int_:Nat:=190
def f_slices_breakPatternsCmpFunc_int_:Nat:=191
def f_slices_choosePivotCmpFunc_int_:Nat:=192
def f_slices_reverseRangeCmpFunc_int_:Nat:=193
def f_slices_partialInsertionSortCmpFunc_int_:Nat:=194
def f_slices_partitionEqualCmpFunc_int_:Nat:=195
def f_slices_partitionCmpFunc_int_:Nat:=196
def f_math_bits_Len64:Nat:=198
def f_slices_siftDownCmpFunc_int_:Nat:=220
def f_slices_nextPowerOfTwo:Nat:=221
def f___slices_xorshift__Next:Nat:=222
def f_slices_medianAdjacentCmpFunc_int_:Nat:=223
def f_slices_medianCmpFunc_int_:Nat:=224
def f_slices_order2CmpFunc_int_:Nat:=233
def c_wittingref33_Few:CFn:=⟨49,[.tmp 2],(q [(.reg [o 1 (.box 4 (t 0)),o 2 (.mv (c .bf))]),
 (q [(.reg [o 5 (f 1 1),o 6 (l 5),o 7 (ln 6),o 8 (bc .gtr 7 (n 20)),o 9 (m 8),g 10 9 false (f 2 1),g 11 9 false (l 10),g 12 9 false (ln 11),g 13 9 false (bc .gtr 12 (n 8)),o 14 (pt 9 13),o 15 (m 14),g 16 15 false (f 3 1),g 17 15 false (l 16),g 18 15 false (ln 17),g 19 15 false (bc .gtr 18 (n 8)),o 20 (pt 15 19)]),
 (i 20 (q [(.reg [o 2 (.mv (c .bf))]),
 .ret]) .skip)]),
 (q [(.reg [o 3 (.mv (c (n 0)))]),
 (.block 0 (.loop (q [(q [(.reg [o 21 (m 3),o 22 (f 2 1),o 23 (l 22),o 24 (ln 23),o 25 (b .lss 21 24)]),
 (i 25 .skip (.exit 0))]),
 (.block 1 (q [(.reg [o 28 (f 2 1),o 29 (l 28),o 30 (m 3),o 31 (ia 1 29 30),o 32 (l 31),o 33 (ln 32),o 34 (bc .gtr 33 (n 20))]),
 (i 34 (q [(.reg [o 2 (.mv (c .bf))]),
 .ret]) .skip)])),
 (.reg [o 26 (m 3),o 27 (bc .add 26 (n 1)),o 3 (m 27)])])))]),
 (q [(.reg [o 4 (.mv (c (n 0)))]),
 (.block 2 (.loop (q [(q [(.reg [o 35 (m 4),o 36 (f 3 1),o 37 (l 36),o 38 (ln 37),o 39 (b .lss 35 38)]),
 (i 39 .skip (.exit 2))]),
 (.block 3 (q [(.reg [o 42 (f 3 1),o 43 (l 42),o 44 (m 4),o 45 (ia 1 43 44),o 46 (l 45),o 47 (ln 46),o 48 (bc .gtr 47 (n 20))]),
 (i 48 (q [(.reg [o 2 (.mv (c .bf))]),
 .ret]) .skip)])),
 (.reg [o 40 (m 4),o 41 (bc .add 40 (n 1)),o 4 (m 41)])])))]),
 (.reg [o 2 (.mv (c .bt))]),
 .ret])⟩
def c_wittinglaw36_awake:CFn:=⟨133,[.tmp 0],(q [(.reg [o 0 (.mv (c .bf))]),
 (.reg [o 19 (.call 42 [(c (n 0)),(c (n 1)),(c (n 2)),(c (n 3))]),o 1 (.alloc [(n 0),(.nils 1),(.nils 1),(.nils 1)]),w (.store 4 (t 1) (t 19))]),
 (.reg [o 20 (.call 43 [(c (n 0))]),o 21 (.call 43 [(c (n 1))]),o 2 (m 20),o 3 (m 21)]),
 (.reg [o 23 (la 4 1),o 24 (m 2),o 25 (.call 17 [(t 23),(t 24)]),o 22 (m 25),o 26 (e 22 0),o 27 (e 22 1),o 4 (.alloc [(n 0),(.nils 1),(.nils 1),(.nils 1)]),w (.store 4 (t 4) (t 26)),o 5 (m 27)]),
 (.reg [o 29 (la 4 1),o 30 (m 2),o 31 (.call 19 [(t 29),(t 30)]),o 28 (m 31),o 32 (e 28 0),o 33 (e 28 1),o 6 (.alloc [(n 0),(.nils 1),(.nils 1),(.nils 1)]),w (.store 4 (t 6) (t 32)),o 7 (m 33)]),
 (.reg [o 35 (la 4 1),o 36 (m 2),o 37 (.call 13 [(t 35),(t 36)]),o 34 (m 37),o 38 (e 34 0),o 39 (e 34 1),o 40 (e 34 2),o 8 (.alloc [(n 0),(.nils 1),(.nils 1),(.nils 1)]),w (.store 4 (t 8) (t 38)),o 9 (m 39),o 10 (m 40)]),
 (.reg [o 42 (la 4 1),o 43 (.bslice 1 2 [(n 0)] [(0,(c (n 2))),(1,(c (n 2)))]),o 44 (m 2),o 45 (m 3),o 46 (.bslice 1 2 [(.nils 6)] [(0,(t 44)),(1,(t 45))]),o 47 (.call 21 [(t 42),(t 43),(t 46)]),o 41 (m 47),o 48 (e 41 0),o 49 (e 41 1),o 50 (e 41 2),o 11 (.alloc [(n 0),(.nils 1),(.nils 1),(.nils 1)]),w (.store 4 (t 11) (t 48)),o 12 (m 49),o 13 (m 50)]),
 (.regd [o 52 (la 4 1),o 53 (m 2),o 54 (m 2),o 55 (.call 30 [(t 54)]),o 56 (.call 29 [(t 53),(t 55)]),o 57 (.call 13 [(t 52),(t 56)]),o 51 (m 57),o 58 (e 51 0),o 59 (e 51 1),o 60 (e 51 2),o 14 (.alloc [(n 0),(.nils 1),(.nils 1),(.nils 1)]),w (.store 4 (t 14) (t 58)),o 15 (m 59),o 16 (m 60)] [0,0,0,4,14,31,63,127,127,127,0,1279,3583,8191]),
 (.regd [o 62 (la 4 1),o 63 (.call 44 []),o 64 (.call 17 [(t 62),(t 63)]),o 61 (m 64),o 65 (e 61 0),o 66 (e 61 1),o 17 (.alloc [(n 0),(.nils 1),(.nils 1),(.nils 1)]),w (.store 4 (t 17) (t 65)),o 18 (m 66)] [0,0,3,7,15,15,0,95,255]),
 (.regd [o 67 (m 5),o 68 (m 7),o 69 (b .add 67 68),o 70 (m 10),o 71 (b .add 69 70),o 72 (m 13),o 73 (b .add 71 72),o 74 (m 18),o 75 (b .add 73 74),o 76 (bc .eql 75 (n 0)),o 77 (m 76),g 78 77 true (la 4 4),g 79 77 true (.call 42 [(c (n 2)),(c (n 0)),(c (n 3)),(c (n 1))]),g 80 77 true (.call 45 [(t 78),(t 79)]),o 81 (pf 77 80),o 82 (m 81),g 83 82 true (la 4 6),g 84 82 true (.call 42 [(c (n 1)),(c (n 0)),(c (n 2)),(c (n 3))]),g 85 82 true (.call 45 [(t 83),(t 84)]),o 86 (pf 82 85),o 87 (m 86),g 88 87 true (m 9),g 89 87 true (ln 88),g 90 87 true (bc .eql 89 (n 2)),o 91 (pf 87 90),o 92 (m 91),g 93 92 true (m 9),g 94 92 true (.iaddr 1 (t 93) (c (n 0))),g 95 92 true (l 94),g 96 92 true (bc .eql 95 (n 1)),o 97 (pf 92 96),o 98 (m 97),g 99 98 true (m 9),g 100 98 true (.iaddr 1 (t 99) (c (n 1))),g 101 98 true (l 100),g 102 98 true (bc .eql 101 (n 3)),o 103 (pf 98 102),o 104 (m 103),g 105 104 true (la 4 8),g 106 104 true (.bslice 1 2 [(u 0)] [(0,(c (u 3))),(1,(c (u 2)))]),g 107 104 true (.bslice 1 2 [(n 0)] [(0,(c (n 0))),(1,(c (n 0)))]),g 108 104 true (.bslice 1 1 [(.nils 1)] [(0,(t 107))]),g 109 104 true (.bslice 1 2 [(n 0)] [(0,(c (n 0))),(1,(c (n 1)))]),g 110 104 true (.bslice 1 1 [(.nils 1)] [(0,(t 109))]),g 111 104 true (.build [(n 0),(.nils 1),(.nils 1),(.nils 1)] [(0,1,(c (n 2))),(1,1,(t 106)),(2,1,(t 108)),(3,1,(t 110))]),g 112 104 true (.call 45 [(t 105),(t 111)]),o 113 (pf 104 112),o 114 (m 113),g 115 114 true (la 4 11),g 116 114 true (.call 42 [(c (n 3)),(c (n 2)),(c (n 1)),(c (n 0))]),g 117 114 true (.call 45 [(t 115),(t 116)]),o 118 (pf 114 117),o 119 (m 118),g 120 119 true (m 12),g 121 119 true (ln 120),g 122 119 true (bc .eql 121 (n 4)),o 123 (pf 119 122),o 124 (m 123),g 125 124 true (m 16),g 126 124 true (bc .eql 125 (n 11)),o 127 (pf 124 126),o 128 (m 127),g 129 128 true (la 4 17),g 130 128 true (la 4 1),g 131 128 true (.call 45 [(t 129),(t 130)]),o 132 (pf 128 131),o 0 (m 132)] [0,0,3,0,15,0,63,0,255,511,1023,2047,2047,8191,16383,32767,65535,65535,262143,524287,1048575,2097151,4194303,8388607,16777215,33554431,67108863,134217727,268435455,536870911,1073741823,2147483647,4294967295,8589934591,17179869183,34359738367,68719476735,137438953471,274877906943,274877906943,274877906943,1374389534719,274877906943,4672924418047,17317308137471,35184372088831,70368744177663,140737488355327,281474976710655,281474976710655,1125899906842623,2251799813685247,4503599627370495,9007199254740991,18014398509481983,36028797018963967,72057594037927935,144115188075855871,288230376151711743,576460752303423487,1152921504606846975,2305843009213693951,4611686018427387903,4611686018427387903,18446744073709551615,36893488147419103231,73786976294838206463]),
 .ret])⟩
def c_upgrade_Hard:CFn:=⟨28,[.cell 4 (some 4),.tmp 5,.tmp 6],(q [(.reg [o 2 (.box 4 (t 0)),o 4 (.alloc [(n 0),(.nils 1),(.nils 1),(.nils 1)]),o 5 (.mv (c (.nils 1))),o 6 (.mv (c (n 0)))]),
 (.reg [o 10 (la 4 2),o 11 (m 1),o 12 (.call 25 [(t 10),(t 11)]),o 9 (m 12),o 13 (e 9 0),o 14 (e 9 1),o 7 (m 13),o 8 (m 14)]),
 (q [(.reg [o 15 (m 8),o 16 (bc .neq 15 (n 0))]),
 (i 16 (q [(.reg [o 17 (.build [(n 0),(.nils 1),(.nils 1),(.nils 1)] []),o 18 (m 8),w (.store 4 (t 4) (t 17)),o 5 (.mv (c (.nils 1))),o 6 (m 18)]),
 .ret]) .skip)]),
 (q [(.reg [o 19 (m 7),o 20 (bc .eql 19 (u 0))]),
 (i 20 (q [(.reg [o 21 (.build [(n 0),(.nils 1),(.nils 1),(.nils 1)] []),w (.store 4 (t 4) (t 21)),o 5 (.mv (c (.nils 1))),o 6 (.mv (c (n 11)))]),
 .ret]) .skip)]),
 (.reg [o 22 (la 4 2),o 23 (m 7),o 24 (.call 46 [(t 22),(t 23)]),o 25 (e 24 0),o 26 (e 24 1),o 27 (e 24 2),w (.store 4 (t 4) (t 25)),o 5 (m 26),o 6 (m 27)]),
 .ret])⟩
def c_wittingref33_Same:CFn:=⟨76,[.tmp 4],(q [(.reg [o 2 (.box 4 (t 0)),o 3 (.box 4 (t 1)),o 4 (.mv (c .bf))]),
 (q [(.reg [o 7 (f 0 2),o 8 (l 7),o 9 (f 0 3),o 10 (l 9),o 11 (b .neq 8 10),o 12 (m 11),g 13 12 false (f 1 2),g 14 12 false (l 13),g 15 12 false (f 1 3),g 16 12 false (l 15),g 17 12 false (.call 49 [(t 14),(t 16)]),g 18 12 false (.un .not (t 17)),o 19 (pt 12 18),o 20 (m 19),g 21 20 false (f 2 2),g 22 20 false (l 21),g 23 20 false (ln 22),g 24 20 false (f 2 3),g 25 20 false (l 24),g 26 20 false (ln 25),g 27 20 false (b .neq 23 26),o 28 (pt 20 27),o 29 (m 28),g 30 29 false (f 3 2),g 31 29 false (l 30),g 32 29 false (ln 31),g 33 29 false (f 3 3),g 34 29 false (l 33),g 35 29 false (ln 34),g 36 29 false (b .neq 32 35),o 37 (pt 29 36)]),
 (i 37 (q [(.reg [o 4 (.mv (c .bf))]),
 .ret]) .skip)]),
 (q [(.reg [o 5 (.mv (c (n 0)))]),
 (.block 0 (.loop (q [(q [(.reg [o 38 (m 5),o 39 (f 2 2),o 40 (l 39),o 41 (ln 40),o 42 (b .lss 38 41)]),
 (i 42 .skip (.exit 0))]),
 (.block 1 (q [(.regd [o 45 (f 2 2),o 46 (l 45),o 47 (m 5),o 48 (ia 1 46 47),o 49 (l 48),o 50 (f 2 3),o 51 (l 50),o 52 (m 5),o 53 (ia 1 51 52),o 54 (l 53),o 55 (.call 50 [(t 49),(t 54)]),o 56 (.un .not (t 55))] [0,1,0,7,15,0,32,0,224,480,1023,2047]),
 (i 56 (q [(.reg [o 4 (.mv (c .bf))]),
 .ret]) .skip)])),
 (.reg [o 43 (m 5),o 44 (bc .add 43 (n 1)),o 5 (m 44)])])))]),
 (q [(.reg [o 6 (.mv (c (n 0)))]),
 (.block 2 (.loop (q [(q [(.reg [o 57 (m 6),o 58 (f 3 2),o 59 (l 58),o 60 (ln 59),o 61 (b .lss 57 60)]),
 (i 61 .skip (.exit 2))]),
 (.block 3 (q [(.regd [o 64 (f 3 2),o 65 (l 64),o 66 (m 6),o 67 (ia 1 65 66),o 68 (l 67),o 69 (f 3 3),o 70 (l 69),o 71 (m 6),o 72 (ia 1 70 71),o 73 (l 72),o 74 (.call 50 [(t 68),(t 73)]),o 75 (.un .not (t 74))] [0,1,0,7,15,0,32,0,224,480,1023,2047]),
 (i 75 (q [(.reg [o 4 (.mv (c .bf))]),
 .ret]) .skip)])),
 (.reg [o 62 (m 6),o 63 (bc .add 62 (n 1)),o 6 (m 63)])])))]),
 (.reg [o 4 (.mv (c .bt))]),
 .ret])⟩
def c_wittinglaw36_sameInts:CFn:=⟨26,[.tmp 4],(q [(.reg [o 4 (.mv (c .bf))]),
 (q [(.reg [o 6 (m 0),o 7 (ln 6),o 8 (m 1),o 9 (ln 8),o 10 (b .neq 7 9)]),
 (i 10 (q [(.reg [o 4 (.mv (c .bf))]),
 .ret]) .skip)]),
 (q [(.reg [o 5 (.mv (c (n 0)))]),
 (.block 0 (.loop (q [(q [(.reg [o 11 (m 5),o 12 (m 0),o 13 (ln 12),o 14 (b .lss 11 13)]),
 (i 14 .skip (.exit 0))]),
 (.block 1 (q [(.regd [o 17 (m 0),o 18 (m 5),o 19 (ia 1 17 18),o 20 (l 19),o 21 (m 1),o 22 (m 5),o 23 (ia 1 21 22),o 24 (l 23),o 25 (b .neq 20 24)] [0,0,3,7,0,0,48,112,255]),
 (i 25 (q [(.reg [o 4 (.mv (c .bf))]),
 .ret]) .skip)])),
 (.reg [o 15 (m 5),o 16 (bc .add 15 (n 1)),o 5 (m 16)])])))]),
 (.reg [o 4 (.mv (c .bt))]),
 .ret])⟩
def c_upgrade_Radical:CFn:=⟨11,[.cell 4 (some 4),.tmp 5],(q [(.reg [o 2 (.box 4 (t 0)),o 4 (.alloc [(n 0),(.nils 1),(.nils 1),(.nils 1)]),o 5 (.mv (c (n 0)))]),
 (.reg [o 6 (la 4 2),o 7 (m 1),o 8 (.call 51 [(t 6),(t 7),(c (.fn f_upgrade_Radical_1 []))]),o 9 (e 8 0),o 10 (e 8 1),w (.store 4 (t 4) (t 9)),o 5 (m 10)]),
 .ret])⟩
def c_upgrade_Conservative:CFn:=⟨12,[.cell 4 (some 4),.tmp 5],(q [(.reg [o 2 (.box 4 (t 0)),o 4 (.alloc [(n 0),(.nils 1),(.nils 1),(.nils 1)]),o 5 (.mv (c (n 0)))]),
 (.reg [o 6 (la 4 2),o 7 (m 1),o 8 (.fnew f_upgrade_Conservative_1 [(t 2)]),o 9 (.call 51 [(t 6),(t 7),(t 8)]),o 10 (e 9 0),o 11 (e 9 1),w (.store 4 (t 4) (t 10)),o 5 (m 11)]),
 .ret])⟩
def c_upgrade_Sequence:CFn:=⟨99,[.cell 6 (some 4),.tmp 7,.tmp 8],(q [(.reg [o 3 (.box 4 (t 0)),o 6 (.alloc [(n 0),(.nils 1),(.nils 1),(.nils 1)]),o 7 (.mv (c (.nils 1))),o 8 (.mv (c (n 0)))]),
 (q [(.reg [o 21 (la 4 3),o 22 (.call 23 [(t 21)]),o 9 (m 22)]),
 (.reg [o 23 (m 9),o 24 (bc .neq 23 (n 0))]),
 (i 24 (q [(.reg [o 25 (.build [(n 0),(.nils 1),(.nils 1),(.nils 1)] []),o 26 (m 9),w (.store 4 (t 6) (t 25)),o 7 (.mv (c (.nils 1))),o 8 (m 26)]),
 .ret]) .skip)]),
 (q [(.reg [o 27 (m 1),o 28 (ln 27),o 29 (m 2),o 30 (ln 29),o 31 (b .neq 28 30)]),
 (i 31 (q [(.reg [o 32 (.build [(n 0),(.nils 1),(.nils 1),(.nils 1)] []),w (.store 4 (t 6) (t 32)),o 7 (.mv (c (.nils 1))),o 8 (.mv (c (n 3)))]),
 .ret]) .skip)]),
 (q [(.reg [o 33 (m 1),o 34 (ln 33),o 35 (bc .gtr 34 (n 100))]),
 (i 35 (q [(.reg [o 36 (.build [(n 0),(.nils 1),(.nils 1),(.nils 1)] []),w (.store 4 (t 6) (t 36)),o 7 (.mv (c (.nils 1))),o 8 (.mv (c (n 8)))]),
 .ret]) .skip)]),
 (.regd [o 38 (la 4 3),o 39 (f 0 3),o 40 (l 39),o 41 (.bin .sub (c (n 64)) (t 40)),o 42 (.bin .shr (c (u 18446744073709551615)) (t 41)),o 43 (.call 46 [(t 38),(t 42)]),o 37 (m 43),o 44 (e 37 0),o 45 (e 37 1),o 46 (e 37 2),o 10 (.alloc [(n 0),(.nils 1),(.nils 1),(.nils 1)]),w (.store 4 (t 10) (t 44)),o 11 (m 45),o 12 (m 46)] [0,0,2,6,14,31,63,127,127,127,0,1279,3583,8191]),
 (q [(.reg [o 47 (m 1),o 48 (ln 47),o 49 (.mv (c (n 0)))]),
 (.block 0 (.loop (q [(.reg [o 50 (b .lss 49 48)]),
 (i 50 .skip (.exit 0)),
 (.block 1 (q [(.reg [o 51 (m 49),o 52 (ia 1 47 49),o 53 (l 52),o 14 (.alloc [(n 0)]),o 13 (m 51),w (.store 1 (t 14) (t 53))]),
 (.reg [o 54 (.call 58 []),o 55 (.fnew f_upgrade_Sequence_1 [(t 14)]),o 56 (.call 57 [(t 54),(t 55)]),o 15 (m 56)]),
 (q [(.reg [o 57 (m 15),o 58 (bc .lss 57 (n 0))]),
 (i 58 (q [(.reg [o 59 (.build [(n 0),(.nils 1),(.nils 1),(.nils 1)] []),w (.store 4 (t 6) (t 59)),o 7 (.mv (c (.nils 1))),o 8 (.mv (c (n 1)))]),
 .ret]) .skip)]),
 (.regd [o 61 (.call 58 []),o 62 (m 15),o 63 (ia 2 61 62),o 64 (f 1 63),o 65 (l 64),o 66 (la 4 10),o 67 (m 2),o 68 (m 13),o 69 (ia 1 67 68),o 70 (l 69),o 71 (.callv (t 65) [(t 66),(t 70)]),o 60 (m 71),o 72 (e 60 0),o 73 (e 60 1),o 74 (e 60 2),o 16 (.alloc [(n 0),(.nils 1),(.nils 1),(.nils 1)]),w (.store 4 (t 16) (t 72)),o 17 (m 73),o 18 (m 74)] [0,0,3,7,15,0,0,0,192,448,1023,2047,4095,4095,4095,0,40959,114687,262143]),
 (q [(.reg [o 75 (m 18),o 76 (bc .neq 75 (n 0))]),
 (i 76 (q [(.reg [o 77 (.build [(n 0),(.nils 1),(.nils 1),(.nils 1)] []),o 78 (m 18),w (.store 4 (t 6) (t 77)),o 7 (.mv (c (.nils 1))),o 8 (m 78)]),
 .ret]) .skip)]),
 (q [(.reg [o 79 (m 17),o 80 (ln 79),o 81 (.mv (c (n 0)))]),
 (.block 2 (.loop (q [(.reg [o 82 (b .lss 81 80)]),
 (i 82 .skip (.exit 2)),
 (.block 3 (q [(.reg [o 83 (m 81),o 84 (ia 1 79 81),o 85 (l 84),o 19 (m 83),o 20 (m 85)]),
 (.reg [o 86 (m 17),o 87 (m 19),o 88 (m 11),o 89 (m 20),o 90 (ia 1 88 89),o 91 (l 90),o 92 (ia 1 86 87),w (.store 1 (t 92) (t 91))])])),
 (.reg [o 93 (bc .add 81 (n 1)),o 81 (m 93)])])))]),
 (.reg [o 94 (la 4 16),o 95 (m 17),w (.store 4 (t 10) (t 94)),o 11 (m 95)])])),
 (.reg [o 96 (bc .add 49 (n 1)),o 49 (m 96)])])))]),
 (.reg [o 97 (la 4 10),o 98 (m 11),w (.store 4 (t 6) (t 97)),o 7 (m 98),o 8 (.mv (c (n 0)))]),
 .ret])⟩
def c_plaus_Check:CFn:=⟨123,[.tmp 2],(q [(.reg [o 1 (.box 4 (t 0)),o 2 (.mv (c (n 0)))]),
 (q [(.reg [o 14 (f 0 1),o 15 (l 14),o 16 (f 2 1),o 17 (l 16),o 18 (ln 17),o 19 (f 1 1),o 20 (l 19),o 21 (.call 63 [(t 15),(t 18),(t 20)]),o 3 (m 21)]),
 (.reg [o 22 (m 3),o 23 (bc .neq 22 (n 0))]),
 (i 23 (q [(.reg [o 24 (m 3),o 2 (m 24)]),
 .ret]) .skip)]),
 (q [(.reg [o 25 (f 3 1),o 26 (l 25),o 27 (ln 26),o 28 (f 2 1),o 29 (l 28),o 30 (ln 29),o 31 (b .neq 27 30)]),
 (i 31 (q [(.reg [o 2 (.mv (c (n 3)))]),
 .ret]) .skip)]),
 (q [(.reg [o 32 (f 2 1),o 33 (l 32),o 34 (ln 33),o 35 (.mv (c (n 0)))]),
 (.block 0 (.loop (q [(.reg [o 36 (b .lss 35 34)]),
 (i 36 .skip (.exit 0)),
 (.block 1 (q [(.reg [o 37 (m 35),o 4 (m 37)]),
 (.regd [o 38 (f 2 1),o 39 (l 38),o 40 (m 4),o 41 (ia 1 39 40),o 42 (l 41),o 43 (ln 42),o 44 (f 0 1),o 45 (l 44),o 46 (b .neq 43 45),o 47 (m 46),g 48 47 false (f 3 1),g 49 47 false (l 48),g 50 47 false (m 4),g 51 47 false (ia 1 49 50),g 52 47 false (l 51),g 53 47 false (ln 52),g 54 47 false (f 0 1),g 55 47 false (l 54),g 56 47 false (b .neq 53 55),o 57 (pt 47 56)] [0,1,0,7,15,31,0,64,255,511,1023,2047,1023,8191,16383,32767,1023,66559,262143,524287]),
 (i 57 (q [(.reg [o 2 (.mv (c (n 3)))]),
 .ret]) .skip)])),
 (.reg [o 58 (bc .add 35 (n 1)),o 35 (m 58)])])))]),
 (q [(.reg [o 59 (f 2 1),o 60 (l 59),o 61 (ln 60),o 62 (.mv (c (n 0)))]),
 (.block 2 (.loop (q [(.reg [o 63 (b .lss 62 61)]),
 (i 63 .skip (.exit 2)),
 (.block 3 (q [(.reg [o 64 (ia 1 60 62),o 65 (l 64),o 6 (m 65)]),
 (.reg [o 66 (m 6),o 67 (ln 66),o 68 (.mv (c (n 0)))]),
 (.block 4 (.loop (q [(.reg [o 69 (b .lss 68 67)]),
 (i 69 .skip (.exit 4)),
 (.block 5 (q [(.reg [o 70 (m 68),o 71 (ia 1 66 68),o 72 (l 71),o 7 (m 70),o 8 (m 72)]),
 (.reg [o 73 (m 8),o 74 (bc .lss 73 (n 0)),o 75 (m 74),g 76 75 false (m 8),g 77 75 false (m 7),g 78 75 false (b .gtr 76 77),o 79 (pt 75 78),o 80 (m 79),g 81 80 false (m 6),g 82 80 false (m 8),g 83 80 false (ia 1 81 82),g 84 80 false (l 83),g 85 80 false (m 8),g 86 80 false (b .neq 84 85),o 87 (pt 80 86)]),
 (i 87 (q [(.reg [o 2 (.mv (c (n 1)))]),
 .ret]) .skip)])),
 (.reg [o 88 (bc .add 68 (n 1)),o 68 (m 88)])])))])),
 (.reg [o 89 (bc .add 62 (n 1)),o 62 (m 89)])])))]),
 (q [(.reg [o 90 (f 2 1),o 91 (l 90),o 92 (ln 91),o 93 (.mv (c (n 0)))]),
 (.block 6 (.loop (q [(.reg [o 94 (b .lss 93 92)]),
 (i 94 .skip (.exit 6)),
 (.block 7 (q [(.reg [o 95 (m 93),o 96 (ia 1 91 93),o 97 (l 96),o 9 (m 95),o 10 (m 97)]),
 (.reg [o 98 (m 10),o 99 (f 3 1),o 100 (l 99),o 101 (m 9),o 102 (ia 1 100 101),o 103 (l 102),o 104 (.call 64 [(t 98),(t 103)]),o 105 (.range (t 104))]),
 (.block 8 (.loop (q [(.reg [o 106 (.next (t 105)),o 107 (e 106 0)]),
 (i 107 .skip (.exit 8)),
 (.block 9 (q [(.reg [o 108 (.entry (t 105)),o 109 (e 108 1),o 12 (m 109)]),
 (.reg [o 110 (m 12),o 111 (ln 110),o 112 (.mv (c (n 0)))]),
 (.block 10 (.loop (q [(.reg [o 113 (b .lss 112 111)]),
 (i 113 .skip (.exit 10)),
 (.block 11 (q [(.reg [o 114 (m 112),o 13 (m 114)]),
 (.reg [o 115 (m 12),o 116 (m 13),o 117 (ia 1 115 116),o 118 (l 117),o 119 (m 13),o 120 (b .neq 118 119)]),
 (i 120 (q [(.reg [o 2 (.mv (c (n 9)))]),
 .ret]) .skip)])),
 (.reg [o 121 (bc .add 112 (n 1)),o 112 (m 121)])])))]))])))])),
 (.reg [o 122 (bc .add 93 (n 1)),o 93 (m 122)])])))]),
 (.reg [o 2 (.mv (c (n 0)))]),
 .ret])⟩
def c_formula_Frags:CFn:=⟨5,[.tmp 2],(q [(.reg [o 2 (.mv (c (n 0)))]),
 (.reg [o 3 (m 0),o 4 (.call 65 [(t 3),(c (.fn f_formula_Frags_1 []))]),o 2 (m 4)]),
 .ret])⟩
def c_doxastic_Holds:CFn:=⟨71,[.tmp 4,.tmp 5],(q [(.reg [o 2 (.box 4 (t 0)),o 4 (.mv (c (u 0))),o 5 (.mv (c (n 0)))]),
 (q [(.reg [o 13 (la 4 2),o 14 (.call 23 [(t 13)]),o 6 (m 14)]),
 (.reg [o 15 (m 6),o 16 (bc .neq 15 (n 0))]),
 (i 16 (q [(.reg [o 17 (m 6),o 4 (.mv (c (u 0))),o 5 (m 17)]),
 .ret]) .skip)]),
 (q [(.reg [o 18 (m 1),o 19 (.call 67 [(t 18)]),o 7 (m 19)]),
 (.reg [o 20 (m 7),o 21 (bc .neq 20 (n 0))]),
 (i 21 (q [(.reg [o 22 (m 7),o 4 (.mv (c (u 0))),o 5 (m 22)]),
 .ret]) .skip)]),
 (q [(.reg [o 23 (m 1),o 24 (.call 24 [(t 23)]),o 25 (bc .andNot 24 (n 59)),o 26 (bc .neq 25 (n 0))]),
 (i 26 (q [(.reg [o 4 (.mv (c (u 0))),o 5 (.mv (c (n 10)))]),
 .ret]) .skip)]),
 (q [(.reg [o 27 (m 1),o 28 (f 2 2),o 29 (l 28),o 30 (ln 29),o 31 (f 1 2),o 32 (l 31),o 33 (ln 32),o 34 (.call 36 [(t 27),(t 30),(t 33)]),o 35 (.un .not (t 34))]),
 (i 35 (q [(.reg [o 4 (.mv (c (u 0))),o 5 (.mv (c (n 2)))]),
 .ret]) .skip)]),
 (.reg [o 8 (.mv (c (.nils 1)))]),
 (q [(.reg [o 36 (m 1),o 37 (.call 68 [(t 36)]),o 38 (ln 37),o 39 (.mv (c (n 0)))]),
 (.block 0 (.loop (q [(.reg [o 40 (b .lss 39 38)]),
 (i 40 .skip (.exit 0)),
 (.block 1 (q [(.reg [o 41 (ia 6 37 39),o 42 (la 6 41),o 10 (.alloc [(n 0),(n 0),(n 0),(n 0),(n 0),(n 0)]),w (.store 6 (t 10) (t 42))]),
 (.reg [o 11 (.mv (c (u 0))),o 12 (.mv (c (u 0)))]),
 (q [(.reg [o 43 (m 8),o 44 (ln 43),o 45 (bc .gtr 44 (n 0))]),
 (i 45 (.regd [o 46 (m 8),o 47 (f 4 10),o 48 (l 47),o 49 (ia 1 46 48),o 50 (l 49),o 51 (m 8),o 52 (f 5 10),o 53 (l 52),o 54 (ia 1 51 53),o 55 (l 54),o 11 (m 50),o 12 (m 55)] [0,0,2,7,15,0,0,64,224,480,31,2047]) .skip)]),
 (.reg [o 56 (m 8),o 57 (la 4 2),o 58 (la 6 10),o 59 (m 11),o 60 (m 12),o 61 (.call 69 [(t 57),(t 58),(t 59),(t 60)]),o 62 (.bslice 1 1 [(u 0)] [(0,(t 61))]),o 63 (.app 1 8 (t 56) (t 62)),o 8 (m 63)])])),
 (.reg [o 64 (bc .add 39 (n 1)),o 39 (m 64)])])))]),
 (.reg [o 65 (m 8),o 66 (m 8),o 67 (ln 66),o 68 (bc .sub 67 (n 1)),o 69 (ia 1 65 68),o 70 (l 69),o 4 (m 70),o 5 (.mv (c (n 0)))]),
 .ret])⟩
def c_wittinglaw36_plain:CFn:=⟨46,[.tmp 4],(q [(.reg [o 2 (.box 4 (t 0)),o 3 (.box 3 (t 1)),o 4 (.mv (c .bf))]),
 (q [(.reg [o 6 (la 4 2),o 7 (.call 11 [(t 6)]),o 8 (.un .not (t 7)),o 9 (m 8),g 10 9 false (la 4 2),g 11 9 false (.call 23 [(t 10)]),g 12 9 false (bc .neq 11 (n 0)),o 13 (pt 9 12),o 14 (m 13),g 15 14 false (f 2 2),g 16 14 false (l 15),g 17 14 false (ln 16),g 18 14 false (bc .eql 17 (n 0)),o 19 (pt 14 18)]),
 (i 19 (q [(.reg [o 4 (.mv (c .bf))]),
 .ret]) .skip)]),
 (q [(.reg [o 5 (.mv (c (n 0)))]),
 (.block 0 (.loop (q [(q [(.reg [o 20 (m 5),o 21 (bc .lss 20 (n 3))]),
 (i 21 .skip (.exit 0))]),
 (.block 1 (q [(.regd [o 24 (m 5),o 25 (.iaddrA 3 1 (t 3) (t 24)),o 26 (l 25),o 27 (ln 26),o 28 (bc .gtr 27 (n 30)),o 29 (m 28),g 30 29 false (m 5),g 31 29 false (.iaddrA 3 1 (t 3) (t 30)),g 32 29 false (l 31),g 33 29 false (.call 24 [(t 32)]),g 34 29 false (bc .neq 33 (n 0)),o 35 (pt 29 34),o 36 (m 35),g 37 36 false (m 5),g 38 36 false (.iaddrA 3 1 (t 3) (t 37)),g 39 36 false (l 38),g 40 36 false (f 1 2),g 41 36 false (l 40),g 42 36 false (ln 41),g 43 36 false (.call 36 [(t 39),(c (n 0)),(t 42)]),g 44 36 false (.un .not (t 43)),o 45 (pt 36 44)] [0,1,3,7,15,31,63,127,255,511,1023,2047,4095,8191,16383,32767,8191,73727,204799,524287,1048575,2097151]),
 (i 45 (q [(.reg [o 4 (.mv (c .bf))]),
 .ret]) .skip)])),
 (.reg [o 22 (m 5),o 23 (bc .add 22 (n 1)),o 5 (m 23)])])))]),
 (.reg [o 4 (.mv (c .bt))]),
 .ret])⟩
def c_wittinglaw36_holds:CFn:=⟨17,[.tmp 4,.tmp 5],(q [(.reg [o 2 (.box 4 (t 0)),o 4 (.mv (c (u 0))),o 5 (.mv (c .bf))]),
 (.reg [o 9 (la 4 2),o 10 (m 1),o 11 (.call 25 [(t 9),(t 10)]),o 8 (m 11),o 12 (e 8 0),o 13 (e 8 1),o 6 (m 12),o 7 (m 13)]),
 (.reg [o 14 (m 6),o 15 (m 7),o 16 (bc .eql 15 (n 0)),o 4 (m 14),o 5 (m 16)]),
 .ret])⟩
def c_formula_Belief:CFn:=⟨13,[.tmp 6],(q [(.reg [o 6 (.mv (c (.nils 6)))]),
 (.reg [o 7 (m 0),o 8 (.build [(n 0),(n 0),(n 0),(n 0),(n 0),(n 0)] [(0,1,(c (n 14))),(1,1,(t 7))]),o 9 (m 1),o 10 (m 2),o 11 (.bslice 1 2 [(.nils 6)] [(0,(t 9)),(1,(t 10))]),o 12 (.call 70 [(t 8),(t 11)]),o 6 (m 12)]),
 .ret])⟩
def c_formula_And:CFn:=⟨10,[.tmp 4],(q [(.reg [o 4 (.mv (c (.nils 6)))]),
 (.reg [o 5 (.build [(n 0),(n 0),(n 0),(n 0),(n 0),(n 0)] [(0,1,(c (n 5)))]),o 6 (m 0),o 7 (m 1),o 8 (.bslice 1 2 [(.nils 6)] [(0,(t 6)),(1,(t 7))]),o 9 (.call 70 [(t 5),(t 8)]),o 4 (m 9)]),
 .ret])⟩
def c_formula_Not:CFn:=⟨7,[.tmp 2],(q [(.reg [o 2 (.mv (c (.nils 6)))]),
 (.reg [o 3 (.build [(n 0),(n 0),(n 0),(n 0),(n 0),(n 0)] [(0,1,(c (n 4)))]),o 4 (m 0),o 5 (.bslice 1 1 [(.nils 6)] [(0,(t 4))]),o 6 (.call 70 [(t 3),(t 5)]),o 2 (m 6)]),
 .ret])⟩
def c_formula_Or:CFn:=⟨10,[.tmp 4],(q [(.reg [o 4 (.mv (c (.nils 6)))]),
 (.reg [o 5 (.build [(n 0),(n 0),(n 0),(n 0),(n 0),(n 0)] [(0,1,(c (n 6)))]),o 6 (m 0),o 7 (m 1),o 8 (.bslice 1 2 [(.nils 6)] [(0,(t 6)),(1,(t 7))]),o 9 (.call 70 [(t 5),(t 8)]),o 4 (m 9)]),
 .ret])⟩
def c_formula_Poss:CFn:=⟨10,[.tmp 4],(q [(.reg [o 4 (.mv (c (.nils 6)))]),
 (.reg [o 5 (m 0),o 6 (.build [(n 0),(n 0),(n 0),(n 0),(n 0),(n 0)] [(0,1,(c (n 10))),(1,1,(t 5))]),o 7 (m 1),o 8 (.bslice 1 1 [(.nils 6)] [(0,(t 7))]),o 9 (.call 70 [(t 6),(t 8)]),o 4 (m 9)]),
 .ret])⟩
def c_formula_True:CFn:=⟨3,[.tmp 0],(q [(.reg [o 0 (.mv (c (.nils 6)))]),
 (.reg [o 1 (.build [(n 0),(n 0),(n 0),(n 0),(n 0),(n 0)] [(0,1,(c (n 1)))]),o 2 (.call 70 [(t 1),(c (.nils 1))]),o 0 (m 2)]),
 .ret])⟩
def c_doxastic_Strong:CFn:=⟨19,[.tmp 6,.tmp 7],(q [(.reg [o 3 (.box 4 (t 0)),o 4 (.box 1 (t 1)),o 5 (.box 1 (t 2)),o 6 (.mv (c (u 0))),o 7 (.mv (c (n 0)))]),
 (q [(.reg [o 9 (la 4 3),o 10 (l 4),o 11 (l 5),o 12 (.call 71 [(t 9),(t 10),(t 11)]),o 8 (m 12)]),
 (.reg [o 13 (m 8),o 14 (bc .neq 13 (n 0))]),
 (i 14 (q [(.reg [o 15 (m 8),o 6 (.mv (c (u 0))),o 7 (m 15)]),
 .ret]) .skip)]),
 (.reg [o 16 (la 4 3),o 17 (.fnew f_doxastic_Strong_1 [(t 3),(t 4),(t 5)]),o 18 (.call 72 [(t 16),(t 17)]),o 6 (m 18),o 7 (.mv (c (n 0)))]),
 .ret])⟩
def c_formula_Fits:CFn:=⟨25,[.tmp 6],(q [(.reg [o 6 (.mv (c .bf))]),
 (.reg [o 7 (.mv (c (.fn f_formula_Fits_1 [])))]),
 (.reg [o 8 (m 0),o 9 (.call 67 [(t 8)]),o 10 (bc .eql 9 (n 0)),o 11 (m 10),g 12 11 true (m 7),g 13 11 true (m 0),g 14 11 true (.call 76 [(t 13)]),g 15 11 true (m 1),g 16 11 true (.callv (t 12) [(t 14),(t 15)]),o 17 (pf 11 16),o 18 (m 17),g 19 18 true (m 7),g 20 18 true (m 0),g 21 18 true (.call 77 [(t 20)]),g 22 18 true (m 2),g 23 18 true (.callv (t 19) [(t 21),(t 22)]),o 24 (pf 18 23),o 6 (m 24)]),
 .ret])⟩
def c_wittinglaw36_example:CFn:=⟨19,[.cell 8 (some 4)],(q [(.reg [o 8 (.alloc [(n 0),(.nils 1),(.nils 1),(.nils 1)])]),
 (.reg [o 9 (.bslice 1 2 [(u 0)] [(0,(c (u 10))),(1,(c (u 12)))]),o 10 (.bslice 1 4 [(n 0)] [(0,(c (n 0))),(1,(c (n 0))),(2,(c (n 0))),(3,(c (n 0)))]),o 11 (.bslice 1 1 [(.nils 1)] [(0,(t 10))]),o 12 (m 0),o 13 (m 1),o 14 (m 2),o 15 (m 3),o 16 (.bslice 1 4 [(n 0)] [(0,(t 12)),(1,(t 13)),(2,(t 14)),(3,(t 15))]),o 17 (.bslice 1 1 [(.nils 1)] [(0,(t 16))]),o 18 (.build [(n 0),(.nils 1),(.nils 1),(.nils 1)] [(0,1,(c (n 4))),(1,1,(t 9)),(2,1,(t 11)),(3,1,(t 17))]),w (.store 4 (t 8) (t 18))]),
 .ret])⟩
def c_formula_Fact:CFn:=⟨6,[.tmp 2],(q [(.reg [o 2 (.mv (c (.nils 6)))]),
 (.reg [o 3 (m 0),o 4 (.build [(n 0),(n 0),(n 0),(n 0),(n 0),(n 0)] [(0,1,(c (n 3))),(1,1,(t 3))]),o 5 (.call 70 [(t 4),(c (.nils 1))]),o 2 (m 5)]),
 .ret])⟩
def c_formula_False:CFn:=⟨3,[.tmp 0],(q [(.reg [o 0 (.mv (c (.nils 6)))]),
 (.reg [o 1 (.build [(n 0),(n 0),(n 0),(n 0),(n 0),(n 0)] [(0,1,(c (n 2)))]),o 2 (.call 70 [(t 1),(c (.nils 1))]),o 0 (m 2)]),
 .ret])⟩
def c_plaus_Same:CFn:=⟨34,[.tmp 4],(q [(.reg [o 2 (.box 4 (t 0)),o 3 (.box 4 (t 1)),o 4 (.mv (c .bf))]),
 (.reg [o 5 (.mv (c (.fn f_plaus_Same_1 [])))]),
 (.reg [o 6 (f 0 2),o 7 (l 6),o 8 (f 0 3),o 9 (l 8),o 10 (b .eql 7 9),o 11 (m 10),g 12 11 true (f 1 2),g 13 11 true (l 12),g 14 11 true (f 1 3),g 15 11 true (l 14),g 16 11 true (.call 86 [(t 13),(t 15)]),o 17 (pf 11 16),o 18 (m 17),g 19 18 true (m 5),g 20 18 true (f 2 2),g 21 18 true (l 20),g 22 18 true (f 2 3),g 23 18 true (l 22),g 24 18 true (.callv (t 19) [(t 21),(t 23)]),o 25 (pf 18 24),o 26 (m 25),g 27 26 true (m 5),g 28 26 true (f 3 2),g 29 26 true (l 28),g 30 26 true (f 3 3),g 31 26 true (l 30),g 32 26 true (.callv (t 27) [(t 29),(t 31)]),o 33 (pf 26 32),o 4 (m 33)]),
 .ret])⟩
def c_plaus_Restrict:CFn:=⟨162,[.cell 4 (some 4),.tmp 5,.tmp 6],(q [(.reg [o 2 (.box 4 (t 0)),o 4 (.alloc [(n 0),(.nils 1),(.nils 1),(.nils 1)]),o 5 (.mv (c (.nils 1))),o 6 (.mv (c (n 0)))]),
 (q [(.reg [o 23 (la 4 2),o 24 (.call 23 [(t 23)]),o 7 (m 24)]),
 (.reg [o 25 (m 7),o 26 (bc .neq 25 (n 0))]),
 (i 26 (q [(.reg [o 27 (.build [(n 0),(.nils 1),(.nils 1),(.nils 1)] []),o 28 (m 7),w (.store 4 (t 4) (t 27)),o 5 (.mv (c (.nils 1))),o 6 (m 28)]),
 .ret]) .skip)]),
 (q [(.reg [o 29 (m 1),o 30 (f 0 2),o 31 (l 30),o 32 (.call 87 [(t 31)]),o 33 (b .andNot 29 32),o 34 (bc .neq 33 (u 0))]),
 (i 34 (q [(.reg [o 35 (.build [(n 0),(.nils 1),(.nils 1),(.nils 1)] []),w (.store 4 (t 4) (t 35)),o 5 (.mv (c (.nils 1))),o 6 (.mv (c (n 2)))]),
 .ret]) .skip)]),
 (q [(.reg [o 36 (m 1),o 37 (bc .eql 36 (u 0))]),
 (i 37 (q [(.reg [o 38 (.build [(n 0),(.nils 1),(.nils 1),(.nils 1)] []),w (.store 4 (t 4) (t 38)),o 5 (.mv (c (.nils 1))),o 6 (.mv (c (n 6)))]),
 .ret]) .skip)]),
 (.reg [o 8 (.mv (c (.nils 1)))]),
 (q [(.reg [o 39 (f 0 2),o 40 (l 39),o 41 (.mv (c (n 0)))]),
 (.block 0 (.loop (q [(.reg [o 42 (b .lss 41 40)]),
 (i 42 .skip (.exit 0)),
 (.block 1 (q [(.reg [o 43 (m 41),o 9 (m 43)]),
 (.reg [o 44 (m 1),o 45 (m 9),o 46 (b .shr 44 45),o 47 (bc .and 46 (u 1)),o 48 (bc .eql 47 (u 1))]),
 (i 48 (.reg [o 49 (m 8),o 50 (m 9),o 51 (.bslice 1 1 [(n 0)] [(0,(t 50))]),o 52 (.app 1 8 (t 49) (t 51)),o 8 (m 52)]) .skip)])),
 (.reg [o 53 (bc .add 41 (n 1)),o 41 (m 53)])])))]),
 (.reg [o 54 (m 8),o 55 (ln 54),o 56 (.build [(n 0),(.nils 1),(.nils 1),(.nils 1)] [(0,1,(t 55))]),o 10 (.alloc [(n 0),(.nils 1),(.nils 1),(.nils 1)]),w (.store 4 (t 10) (t 56))]),
 (q [(.reg [o 57 (f 1 2),o 58 (l 57),o 59 (ln 58),o 60 (.mv (c (n 0)))]),
 (.block 2 (.loop (q [(.reg [o 61 (b .lss 60 59)]),
 (i 61 .skip (.exit 2)),
 (.block 3 (q [(.reg [o 62 (ia 1 58 60),o 63 (l 62),o 12 (m 63)]),
 (.reg [o 13 (.mv (c (u 0)))]),
 (q [(.reg [o 64 (m 8),o 65 (ln 64),o 66 (.mv (c (n 0)))]),
 (.block 4 (.loop (q [(.reg [o 67 (b .lss 66 65)]),
 (i 67 .skip (.exit 4)),
 (.block 5 (q [(.reg [o 68 (m 66),o 69 (ia 1 64 66),o 70 (l 69),o 14 (m 68),o 15 (m 70)]),
 (.reg [o 71 (m 13),o 72 (m 12),o 73 (m 15),o 74 (b .shr 72 73),o 75 (bc .and 74 (u 1)),o 76 (m 14),o 77 (b .shl 75 76),o 78 (b .or 71 77),o 13 (m 78)])])),
 (.reg [o 79 (bc .add 66 (n 1)),o 66 (m 79)])])))]),
 (.reg [o 80 (f 1 10),o 81 (l 80),o 82 (m 13),o 83 (.bslice 1 1 [(u 0)] [(0,(t 82))]),o 84 (.app 1 8 (t 81) (t 83)),o 85 (f 1 10),w (.store 1 (t 85) (t 84))])])),
 (.reg [o 86 (bc .add 60 (n 1)),o 60 (m 86)])])))]),
 (q [(.reg [o 87 (f 2 2),o 88 (l 87),o 89 (ln 88),o 90 (.mv (c (n 0)))]),
 (.block 6 (.loop (q [(.reg [o 91 (b .lss 90 89)]),
 (i 91 .skip (.exit 6)),
 (.block 7 (q [(.reg [o 92 (m 90),o 16 (.alloc [(n 0)]),w (.store 1 (t 16) (t 92))]),
 (.regd [o 93 (m 8),o 94 (ln 93),o 95 (.mkslice 1 8 [(n 0)] (t 94) (t 94)),o 96 (m 8),o 97 (ln 96),o 98 (.mkslice 1 8 [(n 0)] (t 97) (t 97)),o 17 (m 95),o 18 (m 98)] [0,1,3,0,8,24,7,127]),
 (q [(.reg [o 99 (m 8),o 100 (ln 99),o 101 (.mv (c (n 0)))]),
 (.block 8 (.loop (q [(.reg [o 102 (b .lss 101 100)]),
 (i 102 .skip (.exit 8)),
 (.block 9 (q [(.reg [o 103 (m 101),o 104 (ia 1 99 101),o 105 (l 104),o 20 (.alloc [(n 0)]),o 19 (m 103),w (.store 1 (t 20) (t 105))]),
 (.reg [o 106 (m 17),o 107 (m 19),o 108 (m 8),o 109 (.fnew f_plaus_Restrict_1 [(t 2),(t 16),(t 20)]),o 110 (.call 88 [(t 108),(t 109)]),o 111 (ia 1 106 107),w (.store 1 (t 111) (t 110))]),
 (.regd [o 112 (m 18),o 113 (m 19),o 114 (f 3 2),o 115 (l 114),o 116 (l 16),o 117 (ia 1 115 116),o 118 (l 117),o 119 (l 20),o 120 (ia 1 118 119),o 121 (l 120),o 122 (ia 1 112 113),w (.store 1 (t 122) (t 121))] [0,0,0,4,0,28,60,0,252,508,1023,2047])])),
 (.reg [o 123 (bc .add 101 (n 1)),o 101 (m 123)])])))]),
 (.reg [o 124 (m 17),o 125 (m 18),o 126 (.call 64 [(t 124),(t 125)]),o 21 (m 126)]),
 (q [(.reg [o 127 (m 8),o 128 (ln 127),o 129 (.mv (c (n 0)))]),
 (.block 10 (.loop (q [(.reg [o 130 (b .lss 129 128)]),
 (i 130 .skip (.exit 10)),
 (.block 11 (q [(.reg [o 131 (m 129),o 22 (m 131)]),
 (.regd [o 132 (m 18),o 133 (m 22),o 134 (m 21),o 135 (m 17),o 136 (m 22),o 137 (ia 1 135 136),o 138 (l 137),o 139 (.look (.int .i64) [(.nils 1)] (t 134) (t 138) false),o 140 (m 18),o 141 (m 22),o 142 (ia 1 140 141),o 143 (l 142),o 144 (.call 90 [(t 139),(t 143)]),o 145 (ia 1 132 133),w (.store 1 (t 145) (t 144))] [0,0,0,0,0,24,56,124,0,0,768,1792,4092,8191,16383])])),
 (.reg [o 146 (bc .add 129 (n 1)),o 129 (m 146)])])))]),
 (.regd [o 147 (f 2 10),o 148 (l 147),o 149 (m 17),o 150 (.bslice 1 1 [(.nils 1)] [(0,(t 149))]),o 151 (.app 1 24 (t 148) (t 150)),o 152 (f 3 10),o 153 (l 152),o 154 (m 18),o 155 (.bslice 1 1 [(.nils 1)] [(0,(t 154))]),o 156 (.app 1 24 (t 153) (t 155)),o 157 (f 2 10),w (.store 1 (t 157) (t 151)),o 158 (f 3 10),w (.store 1 (t 158) (t 156))] [0,1,0,4,15,0,32,0,128,511,127,2047,4095,8191])])),
 (.reg [o 159 (bc .add 90 (n 1)),o 90 (m 159)])])))]),
 (.reg [o 160 (la 4 10),o 161 (m 8),w (.store 4 (t 4) (t 160)),o 5 (m 161),o 6 (.mv (c (n 0)))]),
 .ret])⟩
def c_wittingref02_Same:CFn:=⟨26,[.tmp 4],(q [(.reg [o 4 (.mv (c .bf))]),
 (q [(.reg [o 6 (m 0),o 7 (ln 6),o 8 (m 1),o 9 (ln 8),o 10 (b .neq 7 9)]),
 (i 10 (q [(.reg [o 4 (.mv (c .bf))]),
 .ret]) .skip)]),
 (q [(.reg [o 5 (.mv (c (n 0)))]),
 (.block 0 (.loop (q [(q [(.reg [o 11 (m 5),o 12 (m 0),o 13 (ln 12),o 14 (b .lss 11 13)]),
 (i 14 .skip (.exit 0))]),
 (.block 1 (q [(.regd [o 17 (m 0),o 18 (m 5),o 19 (ia 1 17 18),o 20 (l 19),o 21 (m 1),o 22 (m 5),o 23 (ia 1 21 22),o 24 (l 23),o 25 (b .neq 20 24)] [0,0,3,7,0,0,48,112,255]),
 (i 25 (q [(.reg [o 4 (.mv (c .bf))]),
 .ret]) .skip)])),
 (.reg [o 15 (m 5),o 16 (bc .add 15 (n 1)),o 5 (m 16)])])))]),
 (.reg [o 4 (.mv (c .bt))]),
 .ret])⟩
def c_wittingref33_sameInts:CFn:=⟨26,[.tmp 4],(q [(.reg [o 4 (.mv (c .bf))]),
 (q [(.reg [o 6 (m 0),o 7 (ln 6),o 8 (m 1),o 9 (ln 8),o 10 (b .neq 7 9)]),
 (i 10 (q [(.reg [o 4 (.mv (c .bf))]),
 .ret]) .skip)]),
 (q [(.reg [o 5 (.mv (c (n 0)))]),
 (.block 0 (.loop (q [(q [(.reg [o 11 (m 5),o 12 (m 0),o 13 (ln 12),o 14 (b .lss 11 13)]),
 (i 14 .skip (.exit 0))]),
 (.block 1 (q [(.regd [o 17 (m 0),o 18 (m 5),o 19 (ia 1 17 18),o 20 (l 19),o 21 (m 1),o 22 (m 5),o 23 (ia 1 21 22),o 24 (l 23),o 25 (b .neq 20 24)] [0,0,3,7,0,0,48,112,255]),
 (i 25 (q [(.reg [o 4 (.mv (c .bf))]),
 .ret]) .skip)])),
 (.reg [o 15 (m 5),o 16 (bc .add 15 (n 1)),o 5 (m 16)])])))]),
 (.reg [o 4 (.mv (c .bt))]),
 .ret])⟩
def c_upgrade_reorder:CFn:=⟨140,[.cell 6 (some 4),.tmp 7],(q [(.reg [o 3 (.box 4 (t 0)),o 5 (.box 1 (t 2)),o 6 (.alloc [(n 0),(.nils 1),(.nils 1),(.nils 1)]),o 7 (.mv (c (n 0)))]),
 (.reg [o 20 (la 4 3),o 21 (m 1),o 22 (.call 25 [(t 20),(t 21)]),o 19 (m 22),o 23 (e 19 0),o 24 (e 19 1),o 8 (.alloc [(u 0)]),w (.store 1 (t 8) (t 23)),o 9 (m 24)]),
 (q [(.reg [o 25 (m 9),o 26 (bc .neq 25 (n 0))]),
 (i 26 (q [(.reg [o 27 (.build [(n 0),(.nils 1),(.nils 1),(.nils 1)] []),o 28 (m 9),w (.store 4 (t 6) (t 27)),o 7 (m 28)]),
 .ret]) .skip)]),
 (.regd [o 29 (f 0 3),o 30 (l 29),o 31 (f 1 3),o 32 (l 31),o 33 (.call 105 [(t 32)]),o 34 (.build [(n 0),(.nils 1),(.nils 1),(.nils 1)] [(0,1,(t 30)),(1,1,(t 33))]),o 10 (.alloc [(n 0),(.nils 1),(.nils 1),(.nils 1)]),w (.store 4 (t 10) (t 34))] [0,1,0,4,12,31,0,127]),
 (q [(.reg [o 35 (f 2 3),o 36 (l 35),o 37 (ln 36),o 38 (.mv (c (n 0)))]),
 (.block 0 (.loop (q [(.reg [o 39 (b .lss 38 37)]),
 (i 39 .skip (.exit 0)),
 (.block 1 (q [(.reg [o 40 (m 38),o 11 (.alloc [(n 0)]),w (.store 1 (t 11) (t 40))]),
 (.reg [o 41 (.fnew f_upgrade_reorder_1 [(t 3),(t 11),(t 5),(t 8)]),o 12 (.alloc [(.d .nil)]),w (.store 1 (t 12) (t 41))]),
 (.reg [o 42 (.fnew f_upgrade_reorder_2 [(t 12),(t 3),(t 11)]),o 13 (m 42)]),
 (.reg [o 43 (f 0 3),o 44 (l 43),o 45 (.mkslice 1 8 [(n 0)] (t 44) (t 44)),o 14 (m 45)]),
 (q [(.reg [o 46 (m 14),o 47 (ln 46),o 48 (.mv (c (n 0)))]),
 (.block 2 (.loop (q [(.reg [o 49 (b .lss 48 47)]),
 (i 49 .skip (.exit 2)),
 (.block 3 (q [(.reg [o 50 (m 48),o 15 (m 50)]),
 (.reg [o 51 (m 14),o 52 (m 15),o 53 (m 15),o 54 (ia 1 51 52),w (.store 1 (t 54) (t 53))])])),
 (.reg [o 55 (bc .add 48 (n 1)),o 48 (m 55)])])))]),
 (.reg [o 56 (m 14),o 57 (m 13),o 58 (.call 110 [(t 56),(t 57)])]),
 (.reg [o 59 (f 0 3),o 60 (l 59),o 61 (.mkslice 1 8 [(n 0)] (t 60) (t 60)),o 16 (m 61)]),
 (q [(.reg [o 62 (m 14),o 63 (ln 62),o 64 (.mv (c (n 0)))]),
 (.block 4 (.loop (q [(.reg [o 65 (b .lss 64 63)]),
 (i 65 .skip (.exit 4)),
 (.block 5 (q [(.reg [o 66 (m 64),o 67 (ia 1 62 64),o 68 (l 67),o 17 (m 66),o 18 (m 68)]),
 (q [(.regd [o 69 (m 17),o 70 (bc .eql 69 (n 0)),o 71 (m 70),g 72 71 false (f 2 3),g 73 71 false (l 72),g 74 71 false (l 11),g 75 71 false (ia 1 73 74),g 76 71 false (l 75),g 77 71 false (m 14),g 78 71 false (m 17),g 79 71 false (bc .sub 78 (n 1)),g 80 71 false (ia 1 77 79),g 81 71 false (l 80),g 82 71 false (ia 1 76 81),g 83 71 false (l 82),g 84 71 false (f 2 3),g 85 71 false (l 84),g 86 71 false (l 11),g 87 71 false (ia 1 85 86),g 88 71 false (l 87),g 89 71 false (m 18),g 90 71 false (ia 1 88 89),g 91 71 false (l 90),g 92 71 false (b .neq 83 91),o 93 (pt 71 92)] [0,1,3,7,15,7,63,127,7,7,519,1799,3847,8191,16383,7,32775,7,229383,491527,7,2064391,4161543,8388607,16777215]),
 (i 93 (.exit 5) .skip)]),
 (.reg [o 94 (m 16),o 95 (m 18),o 96 (m 16),o 97 (m 14),o 98 (m 17),o 99 (bc .sub 98 (n 1)),o 100 (ia 1 97 99),o 101 (l 100),o 102 (ia 1 96 101),o 103 (l 102),o 104 (ia 1 94 95),w (.store 1 (t 104) (t 103))]),
 (.reg [o 105 (m 13),o 106 (m 14),o 107 (m 17),o 108 (bc .sub 107 (n 1)),o 109 (ia 1 106 108),o 110 (l 109),o 111 (m 18),o 112 (.callv (t 105) [(t 110),(t 111)]),o 113 (bc .neq 112 (n 0))]),
 (i 113 (.reg [o 114 (m 16),o 115 (m 18),o 116 (ia 1 114 115),o 117 (l 116),o 118 (bc .add 117 (n 1)),o 119 (ia 1 114 115),w (.store 1 (t 119) (t 118))]) .skip)])),
 (.reg [o 120 (bc .add 64 (n 1)),o 64 (m 120)])])))]),
 (.regd [o 121 (f 2 10),o 122 (l 121),o 123 (f 2 3),o 124 (l 123),o 125 (l 11),o 126 (ia 1 124 125),o 127 (l 126),o 128 (.call 111 [(t 127)]),o 129 (.bslice 1 1 [(.nils 1)] [(0,(t 128))]),o 130 (.app 1 24 (t 122) (t 129)),o 131 (f 3 10),o 132 (l 131),o 133 (m 16),o 134 (.bslice 1 1 [(.nils 1)] [(0,(t 133))]),o 135 (.app 1 24 (t 132) (t 134)),o 136 (f 2 10),w (.store 1 (t 136) (t 130)),o 137 (f 3 10),w (.store 1 (t 137) (t 135))] [0,1,0,4,0,28,60,124,252,511,0,1024,0,4096,16383,4095,65535,131071,262143])])),
 (.reg [o 138 (bc .add 38 (n 1)),o 38 (m 138)])])))]),
 (.reg [o 139 (la 4 10),w (.store 4 (t 6) (t 139)),o 7 (.mv (c (n 0)))]),
 .ret])⟩
def c_upgrade_Radical_1:CFn:=⟨8,[.tmp 6],(q [(.reg [o 6 (.mv (c (u 0)))]),
 (.reg [o 7 (m 2),o 6 (m 7)]),
 .ret])⟩
def c_upgrade_Conservative_1:CFn:=⟨13,[.tmp 7],(q [(.reg [o 7 (.mv (c (u 0)))]),
 (.reg [o 8 (la 4 3),o 9 (m 0),o 10 (m 1),o 11 (m 2),o 12 (.call 55 [(t 8),(t 9),(t 10),(t 11)]),o 7 (m 12)]),
 .ret])⟩
def c_plaus_Best:CFn:=⟨26,[.tmp 8],(q [(.reg [o 4 (.box 4 (t 0)),o 8 (.mv (c (u 0)))]),
 (q [(.reg [o 9 (la 4 4),o 10 (m 1),o 11 (m 2),o 12 (.call 114 [(t 9),(t 10),(t 11)]),o 13 (.un .not (t 12))]),
 (i 13 (q [(.reg [o 8 (.mv (c (u 0)))]),
 .ret]) .skip)]),
 (.regd [o 14 (f 3 4),o 15 (l 14),o 16 (m 1),o 17 (ia 1 15 16),o 18 (l 17),o 19 (m 3),o 20 (la 4 4),o 21 (m 1),o 22 (m 2),o 23 (.call 81 [(t 20),(t 21),(t 22)]),o 24 (b .and 19 23),o 25 (.call 80 [(t 18),(t 24)]),o 8 (m 25)] [0,1,0,7,15,0,0,0,0,448,992,2047,4095]),
 .ret])⟩
def c_slices_IndexFunc_Lupgrade_kind_upgrade_kind_:CFn:=⟨19,[.tmp 4],(q [(.reg [o 4 (.mv (c (n 0)))]),
 (q [(.reg [o 6 (m 0),o 7 (ln 6),o 8 (.mv (c (n 0)))]),
 (.block 0 (.loop (q [(.reg [o 9 (b .lss 8 7)]),
 (i 9 .skip (.exit 0)),
 (.block 1 (q [(.reg [o 10 (m 8),o 5 (m 10)]),
 (.reg [o 11 (m 1),o 12 (m 0),o 13 (m 5),o 14 (ia 2 12 13),o 15 (la 2 14),o 16 (.callv (t 11) [(t 15)])]),
 (i 16 (q [(.reg [o 17 (m 5),o 4 (m 17)]),
 .ret]) .skip)])),
 (.reg [o 18 (bc .add 8 (n 1)),o 8 (m 18)])])))]),
 (.reg [o 4 (.mv (c (n (-1))))]),
 .ret])⟩
def c_upgrade_kinds:CFn:=⟨7,[.tmp 0],(q [(.reg [o 0 (.mv (c (.nils 2)))]),
 (.reg [o 1 (.build [(n 0),(.d .nil)] [(0,1,(c (n 1))),(1,1,(c (.fn f_upgrade_Hard [])))]),o 2 (.call 116 [(c (.fn f_upgrade_Radical []))]),o 3 (.build [(n 0),(.d .nil)] [(0,1,(c (n 2))),(1,1,(t 2))]),o 4 (.call 116 [(c (.fn f_upgrade_Conservative []))]),o 5 (.build [(n 0),(.d .nil)] [(0,1,(c (n 3))),(1,1,(t 4))]),o 6 (.bslice 2 3 [(n 0),(.d .nil)] [(0,(t 1)),(1,(t 3)),(2,(t 5))]),o 0 (m 6)]),
 .ret])⟩
def c_upgrade_Sequence_1:CFn:=⟨8,[.tmp 3],(q [(.reg [o 2 (.box 2 (t 0)),o 3 (.mv (c .bf))]),
 (.reg [o 4 (f 0 2),o 5 (l 4),o 6 (l 1),o 7 (b .eql 5 6),o 3 (m 7)]),
 .ret])⟩
def c_plaus_shape:CFn:=⟨34,[.tmp 6],(q [(.reg [o 6 (.mv (c (n 0)))]),
 (q [(.reg [o 9 (m 0),o 10 (bc .lss 9 (n 1)),o 11 (m 10),g 12 11 false (m 0),g 13 11 false (bc .gtr 12 (n 64)),o 14 (pt 11 13)]),
 (i 14 (q [(.reg [o 6 (.mv (c (n 2)))]),
 .ret]) .skip)]),
 (q [(.reg [o 15 (m 2),o 16 (ln 15),o 17 (bc .gtr 16 (n 8)),o 18 (m 17),g 19 18 false (m 1),g 20 18 false (bc .gtr 19 (n 4)),o 21 (pt 18 20)]),
 (i 21 (q [(.reg [o 6 (.mv (c (n 8)))]),
 .ret]) .skip)]),
 (q [(.reg [o 22 (m 2),o 23 (ln 22),o 24 (.mv (c (n 0)))]),
 (.block 0 (.loop (q [(.reg [o 25 (b .lss 24 23)]),
 (i 25 .skip (.exit 0)),
 (.block 1 (q [(.reg [o 26 (ia 1 22 24),o 27 (l 26),o 8 (m 27)]),
 (.reg [o 28 (m 8),o 29 (m 0),o 30 (.call 87 [(t 29)]),o 31 (b .andNot 28 30),o 32 (bc .neq 31 (u 0))]),
 (i 32 (q [(.reg [o 6 (.mv (c (n 3)))]),
 .ret]) .skip)])),
 (.reg [o 33 (bc .add 24 (n 1)),o 24 (m 33)])])))]),
 (.reg [o 6 (.mv (c (n 0)))]),
 .ret])⟩
def c_formula_union:CFn:=⟨31,[.tmp 4],(q [(.reg [o 4 (.mv (c (n 0)))]),
 (.reg [o 5 (.mv (c (n 0)))]),
 (q [(.reg [o 10 (m 0),o 11 (.call 68 [(t 10)]),o 12 (ln 11),o 13 (.mv (c (n 0)))]),
 (.block 0 (.loop (q [(.reg [o 14 (b .lss 13 12)]),
 (i 14 .skip (.exit 0)),
 (.block 1 (q [(.reg [o 15 (ia 6 11 13),o 16 (la 6 15),o 7 (.alloc [(n 0),(n 0),(n 0),(n 0),(n 0),(n 0)]),w (.store 6 (t 7) (t 16))]),
 (.reg [o 18 (f 0 7),o 19 (l 18),o 20 (.call 122 [(t 19)]),o 17 (m 20),o 21 (e 17 0),o 22 (e 17 1),o 8 (.alloc [.bf,.bf,.bf,.bf,.bf,.bf,(n 0)]),w (.store 7 (t 8) (t 21)),o 9 (m 22)]),
 (.reg [o 23 (m 5),o 24 (m 1),o 25 (la 6 7),o 26 (la 7 8),o 27 (.callv (t 24) [(t 25),(t 26)]),o 28 (b .or 23 27),o 5 (m 28)])])),
 (.reg [o 29 (bc .add 13 (n 1)),o 13 (m 29)])])))]),
 (.reg [o 30 (m 5),o 4 (m 30)]),
 .ret])⟩
def c_formula_Frags_1:CFn:=⟨7,[.tmp 4],(q [(.reg [o 2 (.box 6 (t 0)),o 3 (.box 7 (t 1)),o 4 (.mv (c (n 0)))]),
 (.reg [o 5 (f 6 3),o 6 (l 5),o 4 (m 6)]),
 .ret])⟩
def c_formula_Check:CFn:=⟨26,[.tmp 2],(q [(.reg [o 2 (.mv (c (n 0)))]),
 (q [(.reg [o 6 (m 0),o 7 (ln 6),o 8 (bc .eql 7 (n 0))]),
 (i 8 (q [(.reg [o 2 (.mv (c (n 3)))]),
 .ret]) .skip)]),
 (q [(.reg [o 9 (m 0),o 10 (ln 9),o 11 (bc .gtr 10 (n 200))]),
 (i 11 (q [(.reg [o 2 (.mv (c (n 8)))]),
 .ret]) .skip)]),
 (q [(.reg [o 12 (m 0),o 13 (ln 12),o 14 (.mv (c (n 0)))]),
 (.block 0 (.loop (q [(.reg [o 15 (b .lss 14 13)]),
 (i 15 .skip (.exit 0)),
 (.block 1 (q [(.reg [o 16 (m 14),o 17 (ia 6 12 14),o 18 (la 6 17),o 4 (.alloc [(n 0),(n 0),(n 0),(n 0),(n 0),(n 0)]),o 3 (m 16),w (.store 6 (t 4) (t 18))]),
 (.reg [o 19 (la 6 4),o 20 (m 3),o 21 (.call 123 [(t 19),(t 20)]),o 5 (m 21)]),
 (.reg [o 22 (m 5),o 23 (bc .neq 22 (n 0))]),
 (i 23 (q [(.reg [o 24 (m 5),o 2 (m 24)]),
 .ret]) .skip)])),
 (.reg [o 25 (bc .add 14 (n 1)),o 14 (m 25)])])))]),
 (.reg [o 2 (.mv (c (n 0)))]),
 .ret])⟩
def c_formula_Compact:CFn:=⟨8,[.tmp 2],(q [(.reg [o 2 (.mv (c (.nils 6)))]),
 (.reg [o 3 (m 0),o 4 (m 0),o 5 (ln 4),o 6 (bc .sub 5 (n 1)),o 7 (.call 124 [(t 3),(t 6)]),o 2 (m 7)]),
 .ret])⟩
def c_doxastic_value:CFn:=⟨105,[.tmp 8],(q [(.reg [o 4 (.box 4 (t 0)),o 5 (.box 6 (t 1)),o 8 (.mv (c (u 0)))]),
 (q [(.reg [o 9 (f 0 5),o 10 (l 9)]),
 (.block 0 (q [(.reg [o 12 (bc .eql 10 (n 1)),o 11 (m 12)]),
 (i 11 (q [(.reg [o 13 (la 4 4),o 14 (.call 125 [(t 13)]),o 8 (m 14)]),
 .ret]) (q [(.reg [o 16 (bc .eql 10 (n 3)),o 15 (m 16)]),
 (i 15 (q [(.reg [o 17 (f 1 4),o 18 (l 17),o 19 (f 1 5),o 20 (l 19),o 21 (ia 1 18 20),o 22 (l 21),o 8 (m 22)]),
 .ret]) (q [(.reg [o 24 (bc .eql 10 (n 4)),o 23 (m 24)]),
 (i 23 (q [(.reg [o 25 (la 4 4),o 26 (.call 125 [(t 25)]),o 27 (m 2),o 28 (b .andNot 26 27),o 8 (m 28)]),
 .ret]) (q [(.reg [o 30 (bc .eql 10 (n 5)),o 29 (m 30)]),
 (i 29 (q [(.reg [o 31 (m 2),o 32 (m 3),o 33 (b .and 31 32),o 8 (m 33)]),
 .ret]) (q [(.reg [o 35 (bc .eql 10 (n 6)),o 34 (m 35)]),
 (i 34 (q [(.reg [o 36 (m 2),o 37 (m 3),o 38 (b .or 36 37),o 8 (m 38)]),
 .ret]) (q [(.reg [o 40 (bc .eql 10 (n 7)),o 39 (m 40)]),
 (i 39 (q [(.reg [o 41 (la 4 4),o 42 (.call 125 [(t 41)]),o 43 (m 2),o 44 (b .andNot 42 43),o 45 (m 3),o 46 (b .or 44 45),o 8 (m 46)]),
 .ret]) (q [(.reg [o 48 (bc .eql 10 (n 8)),o 47 (m 48)]),
 (i 47 (q [(.reg [o 49 (la 4 4),o 50 (.call 125 [(t 49)]),o 51 (m 2),o 52 (m 3),o 53 (b .xor 51 52),o 54 (b .andNot 50 53),o 8 (m 54)]),
 .ret]) (q [(.reg [o 56 (bc .eql 10 (n 9)),o 55 (m 56)]),
 (i 55 (q [(.reg [o 57 (la 4 4),o 58 (f 1 5),o 59 (l 58),o 60 (m 2),o 61 (.call 126 [(t 57),(t 59),(t 60)]),o 8 (m 61)]),
 .ret]) (q [(.reg [o 63 (bc .eql 10 (n 10)),o 62 (m 63)]),
 (i 62 (q [(.regd [o 64 (la 4 4),o 65 (.call 125 [(t 64)]),o 66 (la 4 4),o 67 (f 1 5),o 68 (l 67),o 69 (la 4 4),o 70 (.call 125 [(t 69)]),o 71 (m 2),o 72 (b .andNot 70 71),o 73 (.call 126 [(t 66),(t 68),(t 72)]),o 74 (b .andNot 65 73),o 8 (m 74)] [0,1,0,0,8,0,35,0,227,511,1023,2047]),
 .ret]) (q [(.reg [o 76 (bc .eql 10 (n 11)),o 75 (m 76)]),
 (i 75 (q [(.reg [o 77 (la 4 4),o 78 (f 3 5),o 79 (l 78),o 80 (m 2),o 81 (.call 127 [(t 77),(t 79),(t 80)]),o 8 (m 81)]),
 .ret]) (q [(.reg [o 83 (bc .eql 10 (n 13)),o 82 (m 83)]),
 (i 82 (q [(.reg [o 84 (la 4 4),o 85 (f 3 5),o 86 (l 85),o 87 (m 2),o 88 (m 3),o 89 (.call 128 [(t 84),(t 86),(t 87),(t 88)]),o 8 (m 89)]),
 .ret]) (q [(.reg [o 91 (bc .eql 10 (n 14)),o 90 (m 91)]),
 (i 90 (q [(.reg [o 92 (la 4 4),o 93 (f 1 5),o 94 (l 93),o 95 (m 2),o 96 (m 3),o 97 (.call 129 [(t 92),(t 94),(t 95),(t 96)]),o 8 (m 97)]),
 .ret]) (q [(.reg [o 99 (bc .eql 10 (n 15)),o 98 (m 99)]),
 (i 98 (q [(.reg [o 100 (la 4 4),o 101 (f 1 5),o 102 (l 101),o 103 (m 2),o 104 (.call 130 [(t 100),(t 102),(t 103)]),o 8 (m 104)]),
 .ret]) .skip)]))]))]))]))]))]))]))]))]))]))]))]))]))]),
 (.reg [o 8 (.mv (c (u 0)))]),
 .ret])⟩
def c_formula_build:CFn:=⟨85,[.tmp 4],(q [(.reg [o 2 (.box 6 (t 0)),o 4 (.mv (c (.nils 6)))]),
 (.reg [o 5 (.mv (c (.nils 6)))]),
 (q [(.reg [o 14 (m 1),o 15 (ln 14),o 16 (.mv (c (n 0)))]),
 (.block 0 (.loop (q [(.reg [o 17 (b .lss 16 15)]),
 (i 17 .skip (.exit 0)),
 (.block 1 (q [(.reg [o 18 (m 16),o 19 (ia 1 14 16),o 20 (l 19),o 6 (m 18),o 7 (m 20)]),
 (q [(.reg [o 21 (m 7),o 22 (.call 67 [(t 21)]),o 23 (bc .neq 22 (n 0))]),
 (i 23 (q [(.reg [o 4 (.mv (c (.nils 6)))]),
 .ret]) .skip)]),
 (.reg [o 24 (m 5),o 25 (ln 24),o 8 (m 25)]),
 (q [(.reg [o 26 (m 7),o 27 (.call 68 [(t 26)]),o 28 (ln 27),o 29 (.mv (c (n 0)))]),
 (.block 2 (.loop (q [(.reg [o 30 (b .lss 29 28)]),
 (i 30 .skip (.exit 2)),
 (.block 3 (q [(.reg [o 31 (ia 6 27 29),o 32 (la 6 31),o 10 (.alloc [(n 0),(n 0),(n 0),(n 0),(n 0),(n 0)]),w (.store 6 (t 10) (t 32))]),
 (.reg [o 34 (f 0 10),o 35 (l 34),o 36 (.call 122 [(t 35)]),o 33 (m 36),o 37 (e 33 0),o 38 (e 33 1),o 11 (.alloc [.bf,.bf,.bf,.bf,.bf,.bf,(n 0)]),w (.store 7 (t 11) (t 37)),o 12 (m 38)]),
 (q [(.reg [o 39 (f 0 11),o 40 (l 39)]),
 (i 40 (.reg [o 41 (f 4 10),o 42 (l 41),o 43 (m 8),o 44 (b .add 42 43),o 45 (f 4 10),w (.store 1 (t 45) (t 44))]) .skip)]),
 (q [(.reg [o 46 (f 1 11),o 47 (l 46)]),
 (i 47 (.reg [o 48 (f 5 10),o 49 (l 48),o 50 (m 8),o 51 (b .add 49 50),o 52 (f 5 10),w (.store 1 (t 52) (t 51))]) .skip)]),
 (.reg [o 53 (m 5),o 54 (la 6 10),o 55 (.bslice 6 1 [(n 0),(n 0),(n 0),(n 0),(n 0),(n 0)] [(0,(t 54))]),o 56 (.app 6 48 (t 53) (t 55)),o 5 (m 56)])])),
 (.reg [o 57 (bc .add 29 (n 1)),o 29 (m 57)])])))]),
 (.reg [o 58 (m 6),o 59 (bc .eql 58 (n 0))]),
 (i 59 (.reg [o 60 (m 5),o 61 (ln 60),o 62 (bc .sub 61 (n 1)),o 63 (f 4 2),w (.store 1 (t 63) (t 62))]) (.reg [o 64 (m 5),o 65 (ln 64),o 66 (bc .sub 65 (n 1)),o 67 (f 5 2),w (.store 1 (t 67) (t 66))]))])),
 (.reg [o 68 (bc .add 16 (n 1)),o 16 (m 68)])])))]),
 (q [(.reg [o 69 (la 6 2),o 70 (m 5),o 71 (ln 70),o 72 (.call 123 [(t 69),(t 71)]),o 73 (bc .neq 72 (n 0))]),
 (i 73 (q [(.reg [o 4 (.mv (c (.nils 6)))]),
 .ret]) .skip)]),
 (.reg [o 74 (m 5),o 75 (la 6 2),o 76 (.bslice 6 1 [(n 0),(n 0),(n 0),(n 0),(n 0),(n 0)] [(0,(t 75))]),o 77 (.app 6 48 (t 74) (t 76)),o 78 (m 5),o 79 (ln 78),o 80 (.call 131 [(t 77),(t 79)]),o 13 (m 80)]),
 (q [(.reg [o 81 (m 13),o 82 (ln 81),o 83 (bc .gtr 82 (n 200))]),
 (i 83 (q [(.reg [o 4 (.mv (c (.nils 6)))]),
 .ret]) .skip)]),
 (.reg [o 84 (m 13),o 4 (m 84)]),
 .ret])⟩
def c_doxastic_request:CFn:=⟨29,[.tmp 6],(q [(.reg [o 3 (.box 4 (t 0)),o 6 (.mv (c (n 0)))]),
 (q [(.reg [o 8 (la 4 3),o 9 (.call 23 [(t 8)]),o 7 (m 9)]),
 (.reg [o 10 (m 7),o 11 (bc .neq 10 (n 0))]),
 (i 11 (q [(.reg [o 12 (m 7),o 6 (m 12)]),
 .ret]) .skip)]),
 (q [(.reg [o 13 (m 1),o 14 (bc .lss 13 (n 0)),o 15 (m 14),g 16 15 false (m 1),g 17 15 false (f 2 3),g 18 15 false (l 17),g 19 15 false (ln 18),g 20 15 false (b .geq 16 19),o 21 (pt 15 20),o 22 (m 21),g 23 22 false (m 2),g 24 22 false (la 4 3),g 25 22 false (.call 125 [(t 24)]),g 26 22 false (b .andNot 23 25),g 27 22 false (bc .neq 26 (u 0)),o 28 (pt 22 27)]),
 (i 28 (q [(.reg [o 6 (.mv (c (n 2)))]),
 .ret]) .skip)]),
 (.reg [o 6 (.mv (c (n 0)))]),
 .ret])⟩
def c_doxastic_where:CFn:=⟨21,[.tmp 4],(q [(.reg [o 2 (.box 4 (t 0)),o 4 (.mv (c (u 0)))]),
 (.reg [o 5 (.mv (c (u 0)))]),
 (q [(.reg [o 7 (f 0 2),o 8 (l 7),o 9 (.mv (c (n 0)))]),
 (.block 0 (.loop (q [(.reg [o 10 (b .lss 9 8)]),
 (i 10 .skip (.exit 0)),
 (.block 1 (q [(.reg [o 11 (m 9),o 6 (m 11)]),
 (.reg [o 12 (m 1),o 13 (m 6),o 14 (.callv (t 12) [(t 13)])]),
 (i 14 (.reg [o 15 (m 5),o 16 (m 6),o 17 (.bin .shl (c (u 1)) (t 16)),o 18 (b .or 15 17),o 5 (m 18)]) .skip)])),
 (.reg [o 19 (bc .add 9 (n 1)),o 9 (m 19)])])))]),
 (.reg [o 20 (m 5),o 4 (m 20)]),
 .ret])⟩
def c_doxastic_Strong_1:CFn:=⟨62,[.tmp 5],(q [(.reg [o 5 (.mv (c .bf))]),
 (.reg [o 10 (la 4 1),o 11 (l 2),o 12 (m 0),o 13 (.call 74 [(t 10),(t 11),(t 12)]),o 6 (m 13)]),
 (.reg [o 14 (f 3 1),o 15 (l 14),o 16 (l 2),o 17 (ia 1 15 16),o 18 (l 17),o 7 (m 18)]),
 (q [(.reg [o 19 (f 0 1),o 20 (l 19),o 21 (.mv (c (n 0)))]),
 (.block 0 (.loop (q [(.reg [o 22 (b .lss 21 20)]),
 (i 22 .skip (.exit 0)),
 (.block 1 (q [(.reg [o 23 (m 21),o 8 (m 23)]),
 (.reg [o 24 (f 0 1),o 25 (l 24),o 26 (.mv (c (n 0)))]),
 (.block 2 (.loop (q [(.reg [o 27 (b .lss 26 25)]),
 (i 27 .skip (.exit 2)),
 (.block 3 (q [(.reg [o 28 (m 26),o 9 (m 28)]),
 (.regd [o 29 (m 6),o 30 (l 3),o 31 (b .and 29 30),o 32 (m 8),o 33 (b .shr 31 32),o 34 (bc .and 33 (u 1)),o 35 (bc .eql 34 (u 1)),o 36 (m 35),g 37 36 true (m 6),g 38 36 true (l 3),g 39 36 true (b .andNot 37 38),g 40 36 true (m 9),g 41 36 true (b .shr 39 40),g 42 36 true (bc .and 41 (u 1)),g 43 36 true (bc .eql 42 (u 1)),o 44 (pf 36 43),o 45 (m 44),g 46 45 true (m 7),g 47 45 true (m 8),g 48 45 true (ia 1 46 47),g 49 45 true (l 48),g 50 45 true (m 7),g 51 45 true (m 9),g 52 45 true (ia 1 50 51),g 53 45 true (l 52),g 54 45 true (b .geq 49 53),o 55 (pf 45 54)] [0,0,3,0,15,31,63,127,255,255,1023,255,4095,8191,16383,32767,65535,131071,131071,524287,1048575,131071,131071,6422527,14811135,33554431,67108863]),
 (i 55 (q [(.reg [o 5 (.mv (c .bf))]),
 .ret]) .skip)])),
 (.reg [o 56 (bc .add 26 (n 1)),o 26 (m 56)])])))])),
 (.reg [o 57 (bc .add 21 (n 1)),o 21 (m 57)])])))]),
 (.reg [o 58 (m 6),o 59 (l 3),o 60 (b .and 58 59),o 61 (bc .neq 60 (u 0)),o 5 (m 61)]),
 .ret])⟩
def c_plaus_Cell:CFn:=⟨16,[.tmp 6],(q [(.reg [o 3 (.box 4 (t 0)),o 6 (.mv (c (u 0)))]),
 (q [(.reg [o 7 (la 4 3),o 8 (m 1),o 9 (m 2),o 10 (.call 114 [(t 7),(t 8),(t 9)]),o 11 (.un .not (t 10))]),
 (i 11 (q [(.reg [o 6 (.mv (c (u 0)))]),
 .ret]) .skip)]),
 (.reg [o 12 (la 4 3),o 13 (m 1),o 14 (m 2),o 15 (.call 81 [(t 12),(t 13),(t 14)]),o 6 (m 15)]),
 .ret])⟩
def c_formula_Fits_1:CFn:=⟨14,[.tmp 4],(q [(.reg [o 4 (.mv (c .bf))]),
 (.reg [o 5 (m 1),o 6 (bc .geq 5 (n 31)),o 7 (m 6),g 8 7 false (m 0),g 9 7 false (m 1),g 10 7 false (.mm true (t 9) (c (n 0))),g 11 7 false (b .shr 8 10),g 12 7 false (bc .eql 11 (n 0)),o 13 (pt 7 12),o 4 (m 13)]),
 .ret])⟩
def c_formula_Agents:CFn:=⟨5,[.tmp 2],(q [(.reg [o 2 (.mv (c (n 0)))]),
 (.reg [o 3 (m 0),o 4 (.call 65 [(t 3),(c (.fn f_formula_Agents_1 []))]),o 2 (m 4)]),
 .ret])⟩
def c_formula_Facts:CFn:=⟨5,[.tmp 2],(q [(.reg [o 2 (.mv (c (n 0)))]),
 (.reg [o 3 (m 0),o 4 (.call 65 [(t 3),(c (.fn f_formula_Facts_1 []))]),o 2 (m 4)]),
 .ret])⟩
def c_plaus_bestOf:CFn:=⟨43,[.tmp 4],(q [(.reg [o 4 (.mv (c (u 0)))]),
 (.reg [o 5 (.mv (c (u 0))),o 6 (.mv (c (n 0)))]),
 (q [(.reg [o 9 (m 0),o 10 (ln 9),o 11 (.mv (c (n 0)))]),
 (.block 0 (.loop (q [(.reg [o 12 (b .lss 11 10)]),
 (i 12 .skip (.exit 0)),
 (.block 1 (q [(.reg [o 13 (m 11),o 14 (ia 1 9 11),o 15 (l 14),o 7 (m 13),o 8 (m 15)]),
 (.block 2 (q [(.reg [o 17 (m 1),o 18 (m 7),o 19 (b .shr 17 18),o 20 (bc .and 19 (u 1)),o 21 (bc .eql 20 (u 0)),o 16 (m 21)]),
 (i 16 .skip (q [(.reg [o 23 (m 5),o 24 (bc .eql 23 (u 0)),o 25 (m 24),g 26 25 false (m 8),g 27 25 false (m 6),g 28 25 false (b .lss 26 27),o 29 (pt 25 28),o 22 (m 29)]),
 (i 22 (.reg [o 30 (m 7),o 31 (.bin .shl (c (u 1)) (t 30)),o 32 (m 8),o 5 (m 31),o 6 (m 32)]) (q [(.reg [o 34 (m 8),o 35 (m 6),o 36 (b .eql 34 35),o 33 (m 36)]),
 (i 33 (.reg [o 37 (m 5),o 38 (m 7),o 39 (.bin .shl (c (u 1)) (t 38)),o 40 (b .or 37 39),o 5 (m 40)]) .skip)]))]))]))])),
 (.reg [o 41 (bc .add 11 (n 1)),o 11 (m 41)])])))]),
 (.reg [o 42 (m 5),o 4 (m 42)]),
 .ret])⟩
def c_plaus_cellOf:CFn:=⟨37,[.tmp 6],(q [(.reg [o 3 (.box 4 (t 0)),o 6 (.mv (c (u 0)))]),
 (.reg [o 7 (.mv (c (u 0)))]),
 (q [(.reg [o 10 (f 2 3),o 11 (l 10),o 12 (m 1),o 13 (ia 1 11 12),o 14 (l 13),o 15 (ln 14),o 16 (.mv (c (n 0)))]),
 (.block 0 (.loop (q [(.reg [o 17 (b .lss 16 15)]),
 (i 17 .skip (.exit 0)),
 (.block 1 (q [(.reg [o 18 (m 16),o 19 (ia 1 14 16),o 20 (l 19),o 8 (m 18),o 9 (m 20)]),
 (.reg [o 21 (m 9),o 22 (f 2 3),o 23 (l 22),o 24 (m 1),o 25 (ia 1 23 24),o 26 (l 25),o 27 (m 2),o 28 (ia 1 26 27),o 29 (l 28),o 30 (b .eql 21 29)]),
 (i 30 (.reg [o 31 (m 7),o 32 (m 8),o 33 (.bin .shl (c (u 1)) (t 32)),o 34 (b .or 31 33),o 7 (m 34)]) .skip)])),
 (.reg [o 35 (bc .add 16 (n 1)),o 16 (m 35)])])))]),
 (.reg [o 36 (m 7),o 6 (m 36)]),
 .ret])⟩
def c_plaus_Same_1:CFn:=⟨8,[.tmp 4],(q [(.reg [o 4 (.mv (c .bf))]),
 (.reg [o 5 (m 0),o 6 (m 1),o 7 (.call 84 [(t 5),(t 6),(c (.fn f_slices_Equal_Lint_int_ []))]),o 4 (m 7)]),
 .ret])⟩
def c_slices_EqualFunc_LLint_LLint_Lint_Lint_:CFn:=⟨32,[.tmp 6],(q [(.reg [o 6 (.mv (c .bf))]),
 (q [(.reg [o 10 (m 0),o 11 (ln 10),o 12 (m 1),o 13 (ln 12),o 14 (b .neq 11 13)]),
 (i 14 (q [(.reg [o 6 (.mv (c .bf))]),
 .ret]) .skip)]),
 (q [(.reg [o 15 (m 0),o 16 (ln 15),o 17 (.mv (c (n 0)))]),
 (.block 0 (.loop (q [(.reg [o 18 (b .lss 17 16)]),
 (i 18 .skip (.exit 0)),
 (.block 1 (q [(.reg [o 19 (m 17),o 20 (ia 1 15 17),o 21 (l 20),o 7 (m 19),o 8 (m 21)]),
 (.reg [o 22 (m 1),o 23 (m 7),o 24 (ia 1 22 23),o 25 (l 24),o 9 (m 25)]),
 (.reg [o 26 (m 2),o 27 (m 8),o 28 (m 9),o 29 (.callv (t 26) [(t 27),(t 28)]),o 30 (.un .not (t 29))]),
 (i 30 (q [(.reg [o 6 (.mv (c .bf))]),
 .ret]) .skip)])),
 (.reg [o 31 (bc .add 17 (n 1)),o 17 (m 31)])])))]),
 (.reg [o 6 (.mv (c .bt))]),
 .ret])⟩
def c_slices_Equal_Lint_int_:CFn:=⟨26,[.tmp 4],(q [(.reg [o 4 (.mv (c .bf))]),
 (q [(.reg [o 6 (m 0),o 7 (ln 6),o 8 (m 1),o 9 (ln 8),o 10 (b .neq 7 9)]),
 (i 10 (q [(.reg [o 4 (.mv (c .bf))]),
 .ret]) .skip)]),
 (q [(.reg [o 11 (m 0),o 12 (ln 11),o 13 (.mv (c (n 0)))]),
 (.block 0 (.loop (q [(.reg [o 14 (b .lss 13 12)]),
 (i 14 .skip (.exit 0)),
 (.block 1 (q [(.reg [o 15 (m 13),o 5 (m 15)]),
 (.regd [o 16 (m 0),o 17 (m 5),o 18 (ia 1 16 17),o 19 (l 18),o 20 (m 1),o 21 (m 5),o 22 (ia 1 20 21),o 23 (l 22),o 24 (b .neq 19 23)] [0,0,3,7,0,0,48,112,255]),
 (i 24 (q [(.reg [o 4 (.mv (c .bf))]),
 .ret]) .skip)])),
 (.reg [o 25 (bc .add 13 (n 1)),o 13 (m 25)])])))]),
 (.reg [o 4 (.mv (c .bt))]),
 .ret])⟩
def c_slices_Equal_Luint64_uint64_:CFn:=⟨26,[.tmp 4],(q [(.reg [o 4 (.mv (c .bf))]),
 (q [(.reg [o 6 (m 0),o 7 (ln 6),o 8 (m 1),o 9 (ln 8),o 10 (b .neq 7 9)]),
 (i 10 (q [(.reg [o 4 (.mv (c .bf))]),
 .ret]) .skip)]),
 (q [(.reg [o 11 (m 0),o 12 (ln 11),o 13 (.mv (c (n 0)))]),
 (.block 0 (.loop (q [(.reg [o 14 (b .lss 13 12)]),
 (i 14 .skip (.exit 0)),
 (.block 1 (q [(.reg [o 15 (m 13),o 5 (m 15)]),
 (.regd [o 16 (m 0),o 17 (m 5),o 18 (ia 1 16 17),o 19 (l 18),o 20 (m 1),o 21 (m 5),o 22 (ia 1 20 21),o 23 (l 22),o 24 (b .neq 19 23)] [0,0,3,7,0,0,48,112,255]),
 (i 24 (q [(.reg [o 4 (.mv (c .bf))]),
 .ret]) .skip)])),
 (.reg [o 25 (bc .add 13 (n 1)),o 13 (m 25)])])))]),
 (.reg [o 4 (.mv (c .bt))]),
 .ret])⟩
def c_plaus_all:CFn:=⟨8,[.tmp 2],(q [(.reg [o 2 (.mv (c (u 0)))]),
 (q [(.reg [o 3 (m 0),o 4 (bc .geq 3 (n 64))]),
 (i 4 (q [(.reg [o 2 (.mv (c (u 18446744073709551615)))]),
 .ret]) .skip)]),
 (.reg [o 5 (m 0),o 6 (.bin .shl (c (u 1)) (t 5)),o 7 (bc .sub 6 (u 1)),o 2 (m 7)]),
 .ret])⟩
def c_slices_IndexFunc_Lint_int_:CFn:=⟨19,[.tmp 4],(q [(.reg [o 4 (.mv (c (n 0)))]),
 (q [(.reg [o 6 (m 0),o 7 (ln 6),o 8 (.mv (c (n 0)))]),
 (.block 0 (.loop (q [(.reg [o 9 (b .lss 8 7)]),
 (i 9 .skip (.exit 0)),
 (.block 1 (q [(.reg [o 10 (m 8),o 5 (m 10)]),
 (.reg [o 11 (m 1),o 12 (m 0),o 13 (m 5),o 14 (ia 1 12 13),o 15 (l 14),o 16 (.callv (t 11) [(t 15)])]),
 (i 16 (q [(.reg [o 17 (m 5),o 4 (m 17)]),
 .ret]) .skip)])),
 (.reg [o 18 (bc .add 8 (n 1)),o 8 (m 18)])])))]),
 (.reg [o 4 (.mv (c (n (-1))))]),
 .ret])⟩
def c_plaus_Restrict_1:CFn:=⟨23,[.tmp 5],(q [(.reg [o 5 (.mv (c .bf))]),
 (.regd [o 6 (f 2 1),o 7 (l 6),o 8 (l 2),o 9 (ia 1 7 8),o 10 (l 9),o 11 (m 0),o 12 (ia 1 10 11),o 13 (l 12),o 14 (f 2 1),o 15 (l 14),o 16 (l 2),o 17 (ia 1 15 16),o 18 (l 17),o 19 (l 3),o 20 (ia 1 18 19),o 21 (l 20),o 22 (b .eql 13 21),o 5 (m 22)] [0,1,0,7,15,0,63,127,0,256,0,1792,3840,0,16128,32512,65535,131071]),
 .ret])⟩
def c_slices_Index_Lint_int_:CFn:=⟨19,[.tmp 4],(q [(.reg [o 4 (.mv (c (n 0)))]),
 (q [(.reg [o 6 (m 0),o 7 (ln 6),o 8 (.mv (c (n 0)))]),
 (.block 0 (.loop (q [(.reg [o 9 (b .lss 8 7)]),
 (i 9 .skip (.exit 0)),
 (.block 1 (q [(.reg [o 10 (m 8),o 5 (m 10)]),
 (.reg [o 11 (m 1),o 12 (m 0),o 13 (m 5),o 14 (ia 1 12 13),o 15 (l 14),o 16 (b .eql 11 15)]),
 (i 16 (q [(.reg [o 17 (m 5),o 4 (m 17)]),
 .ret]) .skip)])),
 (.reg [o 18 (bc .add 8 (n 1)),o 8 (m 18)])])))]),
 (.reg [o 4 (.mv (c (n (-1))))]),
 .ret])⟩
def c_slices_Clone_Luint64_uint64_:CFn:=⟨8,[.tmp 2],(q [(.reg [o 2 (.mv (c (.nils 1)))]),
 (q [(.reg [o 3 (m 0),o 4 (.eqN false (t 3) (c (.nils 1)))]),
 (i 4 (q [(.reg [o 2 (.mv (c (.nils 1)))]),
 .ret]) .skip)]),
 (.reg [o 5 (.bslice 1 0 [(u 0)] []),o 6 (m 0),o 7 (.app 1 8 (t 5) (t 6)),o 2 (m 7)]),
 .ret])⟩
def c_upgrade_reorder_1:CFn:=⟨28,[.cell 6 (some 2)],(q [(.reg [o 6 (.alloc [(n 0),(n 0)])]),
 (.reg [o 8 (f 3 1),o 9 (l 8),o 10 (l 2),o 11 (ia 1 9 10),o 12 (l 11),o 13 (m 0),o 14 (ia 1 12 13),o 15 (l 14),o 16 (.build [(n 0),(n 0)] [(0,1,(c (n 1))),(1,1,(t 15))]),o 7 (.alloc [(n 0),(n 0)]),w (.store 2 (t 7) (t 16))]),
 (q [(.reg [o 17 (l 3),o 18 (l 2),o 19 (m 0),o 20 (l 4),o 21 (.callv (t 17) [(t 18),(t 19),(t 20)]),o 22 (m 0),o 23 (b .shr 21 22),o 24 (bc .and 23 (u 1)),o 25 (bc .eql 24 (u 1))]),
 (i 25 (.reg [o 26 (.iaddrA 2 1 (t 7) (c (n 0))),w (.store 1 (t 26) (c (n 0)))]) .skip)]),
 (.reg [o 27 (la 2 7),w (.store 2 (t 6) (t 27))]),
 .ret])⟩
def c_upgrade_reorder_2:CFn:=⟨45,[.tmp 7],(q [(.reg [o 7 (.mv (c (n 0)))]),
 (.regd [o 10 (l 2),o 11 (m 0),o 12 (.callv (t 10) [(t 11)]),o 13 (l 2),o 14 (m 1),o 15 (.callv (t 13) [(t 14)]),o 8 (.alloc [(n 0),(n 0)]),o 9 (.alloc [(n 0),(n 0)]),w (.store 2 (t 8) (t 12)),w (.store 2 (t 9) (t 15))] [0,0,3,0,0,31,0,0,255,511]),
 (.regd [o 16 (f 2 3),o 17 (l 16),o 18 (l 4),o 19 (ia 1 17 18),o 20 (l 19),o 21 (m 0),o 22 (ia 1 20 21),o 23 (l 22),o 24 (f 2 3),o 25 (l 24),o 26 (l 4),o 27 (ia 1 25 26),o 28 (l 27),o 29 (m 1),o 30 (ia 1 28 29),o 31 (l 30),o 32 (.call 109 [(t 23),(t 31)]),o 33 (.iaddrA 2 1 (t 8) (c (n 0))),o 34 (l 33),o 35 (.iaddrA 2 1 (t 9) (c (n 0))),o 36 (l 35),o 37 (.call 109 [(t 34),(t 36)]),o 38 (.iaddrA 2 1 (t 8) (c (n 1))),o 39 (l 38),o 40 (.iaddrA 2 1 (t 9) (c (n 1))),o 41 (l 40),o 42 (.call 109 [(t 39),(t 41)]),o 43 (.bslice 1 3 [(n 0)] [(0,(t 32)),(1,(t 37)),(2,(t 42))]),o 44 (.call 108 [(t 43)]),o 7 (m 44)] [0,1,0,7,15,0,63,127,0,256,0,1792,3840,0,16128,32512,65535,0,131072,0,524288,2097151,0,4194304,0,16777216,67108863,134217727,268435455,536870911]),
 .ret])⟩
def c_cmp_Or_int_:CFn:=⟨18,[.tmp 2],(q [(.reg [o 2 (.mv (c (n 0)))]),
 (.reg [o 3 (.mv (c (n 0)))]),
 (q [(.reg [o 6 (m 0),o 7 (ln 6),o 8 (.mv (c (n 0)))]),
 (.block 0 (.loop (q [(.reg [o 9 (b .lss 8 7)]),
 (i 9 .skip (.exit 0)),
 (.block 1 (q [(.reg [o 10 (ia 1 6 8),o 11 (l 10),o 5 (m 11)]),
 (.reg [o 12 (m 5),o 13 (m 3),o 14 (b .neq 12 13)]),
 (i 14 (q [(.reg [o 15 (m 5),o 2 (m 15)]),
 .ret]) .skip)])),
 (.reg [o 16 (bc .add 8 (n 1)),o 8 (m 16)])])))]),
 (.reg [o 17 (m 3),o 2 (m 17)]),
 .ret])⟩
def c_cmp_Compare_int_:CFn:=⟨20,[.tmp 4],(q [(.reg [o 4 (.mv (c (n 0)))]),
 (.reg [o 7 (m 0),o 8 (.call 156 [(t 7)]),o 5 (m 8)]),
 (.reg [o 9 (m 1),o 10 (.call 156 [(t 9)]),o 6 (m 10)]),
 (q [(.reg [o 11 (m 5)]),
 (i 11 (q [(q [(.reg [o 12 (m 6)]),
 (i 12 (q [(.reg [o 4 (.mv (c (n 0)))]),
 .ret]) .skip)]),
 (.reg [o 4 (.mv (c (n (-1))))]),
 .ret]) .skip)]),
 (q [(.reg [o 13 (m 6)]),
 (i 13 (q [(.reg [o 4 (.mv (c (n 1)))]),
 .ret]) .skip)]),
 (q [(.reg [o 14 (m 0),o 15 (m 1),o 16 (b .lss 14 15)]),
 (i 16 (q [(.reg [o 4 (.mv (c (n (-1))))]),
 .ret]) .skip)]),
 (q [(.reg [o 17 (m 0),o 18 (m 1),o 19 (b .gtr 17 18)]),
 (i 19 (q [(.reg [o 4 (.mv (c (n 1)))]),
 .ret]) .skip)]),
 (.reg [o 4 (.mv (c (n 0)))]),
 .ret])⟩
def c_slices_SortFunc_Lint_int_:CFn:=⟨14,[],(q [(.reg [o 5 (m 0),o 6 (ln 5),o 4 (m 6)]),
 (.reg [o 7 (m 0),o 8 (m 4),o 9 (m 4),o 10 (.conv .u64 (t 9)),o 11 (.call 158 [(t 10)]),o 12 (m 1),o 13 (.call 157 [(t 7),(c (n 0)),(t 8),(t 11),(t 12)])])])⟩
def c_slices_Clone_Lint_int_:CFn:=⟨8,[.tmp 2],(q [(.reg [o 2 (.mv (c (.nils 1)))]),
 (q [(.reg [o 3 (m 0),o 4 (.eqN false (t 3) (c (.nils 1)))]),
 (i 4 (q [(.reg [o 2 (.mv (c (.nils 1)))]),
 .ret]) .skip)]),
 (.reg [o 5 (.bslice 1 0 [(n 0)] []),o 6 (m 0),o 7 (.app 1 8 (t 5) (t 6)),o 2 (m 7)]),
 .ret])⟩
def c_plaus_known:CFn:=⟨31,[.tmp 6],(q [(.reg [o 3 (.box 4 (t 0)),o 6 (.mv (c .bf))]),
 (.reg [o 7 (la 4 3),o 8 (.call 23 [(t 7)]),o 9 (bc .eql 8 (n 0)),o 10 (m 9),g 11 10 true (m 1),g 12 10 true (bc .geq 11 (n 0)),o 13 (pf 10 12),o 14 (m 13),g 15 14 true (m 1),g 16 14 true (f 2 3),g 17 14 true (l 16),g 18 14 true (ln 17),g 19 14 true (b .lss 15 18),o 20 (pf 14 19),o 21 (m 20),g 22 21 true (m 2),g 23 21 true (bc .geq 22 (n 0)),o 24 (pf 21 23),o 25 (m 24),g 26 25 true (m 2),g 27 25 true (f 0 3),g 28 25 true (l 27),g 29 25 true (b .lss 26 28),o 30 (pf 25 29),o 6 (m 30)]),
 .ret])⟩
def c_upgrade_every:CFn:=⟨4,[.tmp 2],(q [(.reg [o 1 (.box 1 (t 0)),o 2 (.mv (c (.d .nil)))]),
 (.reg [o 3 (.fnew f_upgrade_every_1 [(t 1)]),o 2 (m 3)]),
 .ret])⟩
def c_slices_Compact_Lint_int_:CFn:=⟨61,[.tmp 2],(q [(.reg [o 2 (.mv (c (.nils 1)))]),
 (q [(.reg [o 6 (m 0),o 7 (ln 6),o 8 (bc .lss 7 (n 2))]),
 (i 8 (q [(.reg [o 9 (m 0),o 2 (m 9)]),
 .ret]) .skip)]),
 (q [(.reg [o 3 (.mv (c (n 1)))]),
 (.block 0 (.loop (q [(q [(.reg [o 10 (m 3),o 11 (m 0),o 12 (ln 11),o 13 (b .lss 10 12)]),
 (i 13 .skip (.exit 0))]),
 (.block 1 (q [(.regd [o 16 (m 0),o 17 (m 3),o 18 (ia 1 16 17),o 19 (l 18),o 20 (m 0),o 21 (m 3),o 22 (bc .sub 21 (n 1)),o 23 (ia 1 20 22),o 24 (l 23),o 25 (b .eql 19 24)] [0,0,3,7,0,0,32,112,240,511]),
 (i 25 (q [(.reg [o 26 (m 0),o 27 (m 3),o 28 (.slice 1 (t 26) (some (t 27)) none),o 4 (m 28)]),
 (q [(.reg [o 5 (.mv (c (n 1)))]),
 (.block 2 (.loop (q [(q [(.reg [o 29 (m 5),o 30 (m 4),o 31 (ln 30),o 32 (b .lss 29 31)]),
 (i 32 .skip (.exit 2))]),
 (.block 3 (q [(.regd [o 35 (m 4),o 36 (m 5),o 37 (ia 1 35 36),o 38 (l 37),o 39 (m 4),o 40 (m 5),o 41 (bc .sub 40 (n 1)),o 42 (ia 1 39 41),o 43 (l 42),o 44 (b .neq 38 43)] [0,0,3,7,0,0,32,112,240,511]),
 (i 44 (q [(.reg [o 45 (m 0),o 46 (m 3),o 47 (m 4),o 48 (m 5),o 49 (ia 1 47 48),o 50 (l 49),o 51 (ia 1 45 46),w (.store 1 (t 51) (t 50))]),
 (.reg [o 52 (m 3),o 53 (bc .add 52 (n 1)),o 3 (m 53)])]) .skip)])),
 (.reg [o 33 (m 5),o 34 (bc .add 33 (n 1)),o 5 (m 34)])])))]),
 (.reg [o 54 (m 0),o 55 (m 3),o 56 (.slice 1 (t 54) (some (t 55)) none),w (.clear 1 [(n 0)] (t 56))]),
 (.reg [o 57 (m 0),o 58 (m 3),o 59 (.slice 1 (t 57) none (some (t 58))),o 2 (m 59)]),
 .ret]) .skip)])),
 (.reg [o 14 (m 3),o 15 (bc .add 14 (n 1)),o 3 (m 15)])])))]),
 (.reg [o 60 (m 0),o 2 (m 60)]),
 .ret])⟩
def c_formula_uses:CFn:=⟨55,[.cell 2 (some 7),.tmp 3],(q [(.reg [o 2 (.alloc [.bf,.bf,.bf,.bf,.bf,.bf,(n 0)]),o 3 (.mv (c .bf))]),
 (q [(.reg [o 4 (m 0)]),
 (.block 0 (q [(q [(.reg [o 6 (bc .eql 4 (n 1)),o 5 (m 6)]),
 (i 5 .skip (.reg [o 7 (bc .eql 4 (n 2)),o 5 (m 7)]))]),
 (i 5 (q [(.reg [o 8 (.build [.bf,.bf,.bf,.bf,.bf,.bf,(n 0)] []),w (.store 7 (t 2) (t 8)),o 3 (.mv (c .bt))]),
 .ret]) (q [(.reg [o 10 (bc .eql 4 (n 3)),o 9 (m 10)]),
 (i 9 (q [(.reg [o 11 (.build [.bf,.bf,.bf,.bf,.bf,.bf,(n 0)] [(2,1,(c .bt))]),w (.store 7 (t 2) (t 11)),o 3 (.mv (c .bt))]),
 .ret]) (q [(.reg [o 13 (bc .eql 4 (n 4)),o 12 (m 13)]),
 (i 12 (q [(.reg [o 14 (.build [.bf,.bf,.bf,.bf,.bf,.bf,(n 0)] [(0,1,(c .bt))]),w (.store 7 (t 2) (t 14)),o 3 (.mv (c .bt))]),
 .ret]) (q [(q [(.reg [o 16 (bc .eql 4 (n 5)),o 15 (m 16)]),
 (i 15 .skip (q [(.reg [o 17 (bc .eql 4 (n 6)),o 15 (m 17)]),
 (i 15 .skip (q [(.reg [o 18 (bc .eql 4 (n 7)),o 15 (m 18)]),
 (i 15 .skip (.reg [o 19 (bc .eql 4 (n 8)),o 15 (m 19)]))]))]))]),
 (i 15 (q [(.reg [o 20 (.build [.bf,.bf,.bf,.bf,.bf,.bf,(n 0)] [(0,1,(c .bt)),(1,1,(c .bt))]),w (.store 7 (t 2) (t 20)),o 3 (.mv (c .bt))]),
 .ret]) (q [(q [(.reg [o 22 (bc .eql 4 (n 9)),o 21 (m 22)]),
 (i 21 .skip (.reg [o 23 (bc .eql 4 (n 10)),o 21 (m 23)]))]),
 (i 21 (q [(.reg [o 24 (.build [.bf,.bf,.bf,.bf,.bf,.bf,(n 0)] [(0,1,(c .bt)),(3,1,(c .bt)),(6,1,(c (n 1)))]),w (.store 7 (t 2) (t 24)),o 3 (.mv (c .bt))]),
 .ret]) (q [(.reg [o 26 (bc .eql 4 (n 11)),o 25 (m 26)]),
 (i 25 (q [(.reg [o 27 (.build [.bf,.bf,.bf,.bf,.bf,.bf,(n 0)] [(0,1,(c .bt)),(4,1,(c .bt)),(6,1,(c (n 2)))]),w (.store 7 (t 2) (t 27)),o 3 (.mv (c .bt))]),
 .ret]) (q [(.reg [o 29 (bc .eql 4 (n 12)),o 28 (m 29)]),
 (i 28 (q [(.reg [o 30 (.build [.bf,.bf,.bf,.bf,.bf,.bf,(n 0)] [(0,1,(c .bt)),(4,1,(c .bt)),(6,1,(c (n 4)))]),w (.store 7 (t 2) (t 30)),o 3 (.mv (c .bt))]),
 .ret]) (q [(.reg [o 32 (bc .eql 4 (n 13)),o 31 (m 32)]),
 (i 31 (q [(.reg [o 33 (.build [.bf,.bf,.bf,.bf,.bf,.bf,(n 0)] [(0,1,(c .bt)),(1,1,(c .bt)),(4,1,(c .bt)),(6,1,(c (n 8)))]),w (.store 7 (t 2) (t 33)),o 3 (.mv (c .bt))]),
 .ret]) (q [(.reg [o 35 (bc .eql 4 (n 14)),o 34 (m 35)]),
 (i 34 (q [(.reg [o 36 (.build [.bf,.bf,.bf,.bf,.bf,.bf,(n 0)] [(0,1,(c .bt)),(1,1,(c .bt)),(3,1,(c .bt)),(6,1,(c (n 16)))]),w (.store 7 (t 2) (t 36)),o 3 (.mv (c .bt))]),
 .ret]) (q [(.reg [o 38 (bc .eql 4 (n 15)),o 37 (m 38)]),
 (i 37 (q [(.reg [o 39 (.build [.bf,.bf,.bf,.bf,.bf,.bf,(n 0)] [(0,1,(c .bt)),(3,1,(c .bt)),(6,1,(c (n 32)))]),w (.store 7 (t 2) (t 39)),o 3 (.mv (c .bt))]),
 .ret]) (q [(.reg [o 41 (bc .eql 4 (n 16)),o 40 (m 41)]),
 (i 40 (q [(.reg [o 42 (.build [.bf,.bf,.bf,.bf,.bf,.bf,(n 0)] [(0,1,(c .bt)),(1,1,(c .bt)),(6,1,(c (n 64)))]),w (.store 7 (t 2) (t 42)),o 3 (.mv (c .bt))]),
 .ret]) (q [(.reg [o 44 (bc .eql 4 (n 17)),o 43 (m 44)]),
 (i 43 (q [(.reg [o 45 (.build [.bf,.bf,.bf,.bf,.bf,.bf,(n 0)] [(0,1,(c .bt)),(5,1,(c .bt)),(6,1,(c (n 128)))]),w (.store 7 (t 2) (t 45)),o 3 (.mv (c .bt))]),
 .ret]) (q [(q [(.reg [o 47 (bc .eql 4 (n 18)),o 46 (m 47)]),
 (i 46 .skip (.reg [o 48 (bc .eql 4 (n 20)),o 46 (m 48)]))]),
 (i 46 (q [(.reg [o 49 (.build [.bf,.bf,.bf,.bf,.bf,.bf,(n 0)] [(0,1,(c .bt)),(6,1,(c (n 256)))]),w (.store 7 (t 2) (t 49)),o 3 (.mv (c .bt))]),
 .ret]) (q [(q [(.reg [o 51 (bc .eql 4 (n 19)),o 50 (m 51)]),
 (i 50 .skip (.reg [o 52 (bc .eql 4 (n 21)),o 50 (m 52)]))]),
 (i 50 (q [(.reg [o 53 (.build [.bf,.bf,.bf,.bf,.bf,.bf,(n 0)] [(0,1,(c .bt)),(1,1,(c .bt)),(6,1,(c (n 256)))]),w (.store 7 (t 2) (t 53)),o 3 (.mv (c .bt))]),
 .ret]) .skip)]))]))]))]))]))]))]))]))]))]))]))]))]))]))]),
 (.reg [o 54 (.build [.bf,.bf,.bf,.bf,.bf,.bf,(n 0)] []),w (.store 7 (t 2) (t 54)),o 3 (.mv (c .bf))]),
 .ret])⟩
def c_formula_nodeError:CFn:=⟨106,[.tmp 4],(q [(.reg [o 2 (.box 6 (t 0)),o 4 (.mv (c (n 0)))]),
 (.reg [o 9 (f 0 2),o 10 (l 9),o 11 (.call 122 [(t 10)]),o 8 (m 11),o 12 (e 8 0),o 13 (e 8 1),o 5 (.alloc [.bf,.bf,.bf,.bf,.bf,.bf,(n 0)]),w (.store 7 (t 5) (t 12)),o 6 (m 13)]),
 (q [(.reg [o 14 (m 6),o 15 (.un .not (t 14))]),
 (i 15 (q [(.reg [o 4 (.mv (c (n 10)))]),
 .ret]) .skip)]),
 (q [(.reg [o 16 (f 0 5),o 17 (l 16),o 18 (f 4 2),o 19 (l 18),o 20 (m 1),o 21 (.call 162 [(t 17),(t 19),(t 20)]),o 22 (.un .not (t 21)),o 23 (m 22),g 24 23 false (f 1 5),g 25 23 false (l 24),g 26 23 false (f 5 2),g 27 23 false (l 26),g 28 23 false (m 1),g 29 23 false (.call 162 [(t 25),(t 27),(t 28)]),g 30 23 false (.un .not (t 29)),o 31 (pt 23 30)]),
 (i 31 (q [(.reg [o 4 (.mv (c (n 3)))]),
 .ret]) .skip)]),
 (q [(.reg [o 32 (f 2 5),o 33 (l 32),o 34 (m 33),g 35 34 false (f 3 5),g 36 34 false (l 35),o 37 (pt 34 36),o 38 (m 37),g 39 38 false (f 5 5),g 40 38 false (l 39),o 41 (pt 38 40),o 42 (.un .not (t 41)),o 43 (m 42),g 44 43 true (f 1 2),g 45 43 true (l 44),g 46 43 true (bc .neq 45 (n 0)),o 47 (pf 43 46),o 48 (m 47),g 49 48 false (f 5 5),g 50 48 false (l 49),g 51 48 false (.un .not (t 50)),g 52 48 false (m 51),g 53 52 true (f 2 2),g 54 52 true (l 53),g 55 52 true (bc .neq 54 (n 0)),g 56 48 false (pf 52 55),o 57 (pt 48 56),o 58 (m 57),g 59 58 false (f 4 5),g 60 58 false (l 59),g 61 58 false (.un .not (t 60)),g 62 58 false (m 61),g 63 62 true (f 3 2),g 64 62 true (l 63),g 65 62 true (bc .neq 64 (n 0)),g 66 58 false (pf 62 65),o 67 (pt 58 66)]),
 (i 67 (q [(.reg [o 4 (.mv (c (n 3)))]),
 .ret]) .skip)]),
 (.reg [o 7 (.mv (c (.fn f_formula_nodeError_1 [])))]),
 (q [(.reg [o 68 (m 7),o 69 (f 2 5),o 70 (l 69),o 71 (f 1 2),o 72 (l 71),o 73 (.callv (t 68) [(t 70),(t 72),(c (n 0)),(c (n 7))]),o 74 (m 73),g 75 74 false (m 7),g 76 74 false (f 3 5),g 77 74 false (l 76),g 78 74 false (f 1 2),g 79 74 false (l 78),g 80 74 false (.callv (t 75) [(t 77),(t 79),(c (n 0)),(c (n 3))]),o 81 (pt 74 80),o 82 (m 81),g 83 82 false (m 7),g 84 82 false (f 5 5),g 85 82 false (l 84),g 86 82 false (f 1 2),g 87 82 false (l 86),g 88 82 false (.callv (t 83) [(t 85),(t 87),(c (n 0)),(c (n 7))]),o 89 (pt 82 88),o 90 (m 89),g 91 90 false (m 7),g 92 90 false (f 5 5),g 93 90 false (l 92),g 94 90 false (f 2 2),g 95 90 false (l 94),g 96 90 false (.callv (t 91) [(t 93),(t 95),(c (n 0)),(c (n 7))]),o 97 (pt 90 96),o 98 (m 97),g 99 98 false (m 7),g 100 98 false (f 4 5),g 101 98 false (l 100),g 102 98 false (f 3 2),g 103 98 false (l 102),g 104 98 false (.callv (t 99) [(t 101),(t 103),(c (n 1)),(c (n 15))]),o 105 (pt 98 104)]),
 (i 105 (q [(.reg [o 4 (.mv (c (n 2)))]),
 .ret]) .skip)]),
 (.reg [o 4 (.mv (c (n 0)))]),
 .ret])⟩
def c_formula_Sub:CFn:=⟨21,[.tmp 4],(q [(.reg [o 4 (.mv (c (.nils 6)))]),
 (q [(.reg [o 5 (m 0),o 6 (.call 67 [(t 5)]),o 7 (bc .neq 6 (n 0)),o 8 (m 7),g 9 8 false (m 1),g 10 8 false (bc .lss 9 (n 0)),o 11 (pt 8 10),o 12 (m 11),g 13 12 false (m 1),g 14 12 false (m 0),g 15 12 false (ln 14),g 16 12 false (b .geq 13 15),o 17 (pt 12 16)]),
 (i 17 (q [(.reg [o 4 (.mv (c (.nils 6)))]),
 .ret]) .skip)]),
 (.reg [o 18 (m 0),o 19 (m 1),o 20 (.call 131 [(t 18),(t 19)]),o 4 (m 20)]),
 .ret])⟩
def c_doxastic_all:CFn:=⟨7,[.tmp 2],(q [(.reg [o 1 (.box 4 (t 0)),o 2 (.mv (c (u 0)))]),
 (.reg [o 3 (f 0 1),o 4 (l 3),o 5 (.bin .sub (c (n 64)) (t 4)),o 6 (.bin .shr (c (u 18446744073709551615)) (t 5)),o 2 (m 6)]),
 .ret])⟩
def c_doxastic_knows:CFn:=⟨10,[.tmp 6],(q [(.reg [o 3 (.box 4 (t 0)),o 4 (.box 1 (t 1)),o 5 (.box 1 (t 2)),o 6 (.mv (c (u 0)))]),
 (.reg [o 7 (la 4 3),o 8 (.fnew f_doxastic_knows_1 [(t 3),(t 4),(t 5)]),o 9 (.call 72 [(t 7),(t 8)]),o 6 (m 9)]),
 .ret])⟩
def c_doxastic_every:CFn:=⟨30,[.tmp 6],(q [(.reg [o 3 (.box 4 (t 0)),o 6 (.mv (c (u 0)))]),
 (.reg [o 9 (la 4 3),o 10 (.call 125 [(t 9)]),o 7 (m 10)]),
 (q [(.reg [o 11 (f 2 3),o 12 (l 11),o 13 (ln 12),o 14 (.mv (c (n 0)))]),
 (.block 0 (.loop (q [(.reg [o 15 (b .lss 14 13)]),
 (i 15 .skip (.exit 0)),
 (.block 1 (q [(.reg [o 16 (m 14),o 8 (m 16)]),
 (.reg [o 17 (m 1),o 18 (m 8),o 19 (b .shr 17 18),o 20 (bc .and 19 (n 1)),o 21 (bc .eql 20 (n 1))]),
 (i 21 (.reg [o 22 (m 7),o 23 (la 4 3),o 24 (m 8),o 25 (m 2),o 26 (.call 126 [(t 23),(t 24),(t 25)]),o 27 (b .and 22 26),o 7 (m 27)]) .skip)])),
 (.reg [o 28 (bc .add 14 (n 1)),o 14 (m 28)])])))]),
 (.reg [o 29 (m 7),o 6 (m 29)]),
 .ret])⟩
def c_doxastic_common:CFn:=⟨29,[.tmp 8],(q [(.reg [o 4 (.box 4 (t 0)),o 8 (.mv (c (u 0)))]),
 (.reg [o 11 (la 4 4),o 12 (.call 125 [(t 11)]),o 9 (m 12)]),
 (.block 0 (.loop (.block 1 (q [(.regd [o 13 (la 4 4),o 14 (m 1),o 15 (la 4 4),o 16 (.call 125 [(t 15)]),o 17 (m 2),o 18 (b .andNot 16 17),o 19 (m 3),o 20 (m 9),o 21 (b .and 19 20),o 22 (b .or 18 21),o 23 (.call 127 [(t 13),(t 14),(t 22)]),o 10 (m 23)] [0,0,0,4,0,28,0,0,192,508,1023,2047]),
 (q [(.reg [o 24 (m 10),o 25 (m 9),o 26 (b .eql 24 25)]),
 (i 26 (q [(.reg [o 27 (m 9),o 8 (m 27)]),
 .ret]) .skip)]),
 (.reg [o 28 (m 10),o 9 (m 28)])]))))])⟩
def c_doxastic_believes:CFn:=⟨12,[.tmp 8],(q [(.reg [o 4 (.box 4 (t 0)),o 5 (.box 1 (t 1)),o 6 (.box 1 (t 2)),o 7 (.box 1 (t 3)),o 8 (.mv (c (u 0)))]),
 (.reg [o 9 (la 4 4),o 10 (.fnew f_doxastic_believes_1 [(t 4),(t 5),(t 6),(t 7)]),o 11 (.call 72 [(t 9),(t 10)]),o 8 (m 11)]),
 .ret])⟩
def c_doxastic_safely:CFn:=⟨18,[.tmp 6],(q [(.reg [o 3 (.box 4 (t 0)),o 5 (.box 1 (t 2)),o 6 (.mv (c (u 0)))]),
 (.reg [o 10 (la 4 3),o 11 (m 1),o 12 (.call 166 [(t 10),(t 11)]),o 9 (m 12),o 13 (e 9 0),o 14 (e 9 1),o 7 (.alloc [(.nils 1)]),w (.store 1 (t 7) (t 13)),o 8 (m 14)]),
 (.reg [o 15 (la 4 3),o 16 (.fnew f_doxastic_safely_1 [(t 7),(t 5)]),o 17 (.call 72 [(t 15),(t 16)]),o 6 (m 17)]),
 .ret])⟩
def c_formula_compact:CFn:=⟨16,[.tmp 4],(q [(.reg [o 2 (.box 1 (t 0)),o 4 (.mv (c (.nils 6)))]),
 (.reg [o 5 (.alloc [(.nils 6)])]),
 (.reg [o 9 .mkmap,o 6 (.alloc [(.d .nil)]),w (.store 1 (t 6) (t 9))]),
 (.reg [o 10 .mkmap,o 7 (.alloc [(.d .nil)]),w (.store 1 (t 7) (t 10))]),
 (.reg [o 8 (.alloc [(.d .nil)])]),
 (.reg [o 11 (.fnew f_formula_compact_1 [(t 7),(t 2),(t 8),(t 6),(t 5)]),w (.store 1 (t 8) (t 11))]),
 (.reg [o 12 (l 8),o 13 (m 1),o 14 (.callv (t 12) [(t 13)])]),
 (.reg [o 15 (l 5),o 4 (m 15)]),
 .ret])⟩
def c_formula_Agents_1:CFn:=⟨12,[.tmp 4],(q [(.reg [o 2 (.box 6 (t 0)),o 3 (.box 7 (t 1)),o 4 (.mv (c (n 0)))]),
 (q [(.reg [o 5 (f 3 3),o 6 (l 5)]),
 (i 6 (q [(.reg [o 7 (f 1 2),o 8 (l 7),o 9 (.bin .shl (c (n 1)) (t 8)),o 4 (m 9)]),
 .ret]) .skip)]),
 (.reg [o 10 (f 3 2),o 11 (l 10),o 4 (m 11)]),
 .ret])⟩
def c_formula_Facts_1:CFn:=⟨10,[.tmp 4],(q [(.reg [o 2 (.box 6 (t 0)),o 3 (.box 7 (t 1)),o 4 (.mv (c (n 0)))]),
 (q [(.reg [o 5 (f 2 3),o 6 (l 5)]),
 (i 6 (q [(.reg [o 7 (f 1 2),o 8 (l 7),o 9 (.bin .shl (c (n 1)) (t 8)),o 4 (m 9)]),
 .ret]) .skip)]),
 (.reg [o 4 (.mv (c (n 0)))]),
 .ret])⟩
def c_cmp_isNaN_int_:CFn:=⟨6,[.tmp 2],(q [(.reg [o 2 (.mv (c .bf))]),
 (.reg [o 3 (m 0),o 4 (m 0),o 5 (b .neq 3 4),o 2 (m 5)]),
 .ret])⟩
def c_slices_pdqsortCmpFunc_int_:CFn:=⟨148,[],(q [(.reg [o 10 (.mv (c .bt))]),
 (.reg [o 11 (.mv (c .bt))]),
 (.block 0 (.loop (.block 1 (q [(.reg [o 21 (m 2),o 22 (m 1),o 23 (b .sub 21 22),o 12 (m 23)]),
 (q [(.reg [o 24 (m 12),o 25 (bc .leq 24 (n 12))]),
 (i 25 (q [(.reg [o 26 (m 0),o 27 (m 1),o 28 (m 2),o 29 (m 4),o 30 (.call 189 [(t 26),(t 27),(t 28),(t 29)])]),
 .ret]) .skip)]),
 (q [(.reg [o 31 (m 3),o 32 (bc .eql 31 (n 0))]),
 (i 32 (q [(.reg [o 33 (m 0),o 34 (m 1),o 35 (m 2),o 36 (m 4),o 37 (.call 190 [(t 33),(t 34),(t 35),(t 36)])]),
 .ret]) .skip)]),
 (q [(.reg [o 38 (m 10),o 39 (.un .not (t 38))]),
 (i 39 (q [(.reg [o 40 (m 0),o 41 (m 1),o 42 (m 2),o 43 (m 4),o 44 (.call 191 [(t 40),(t 41),(t 42),(t 43)])]),
 (.reg [o 45 (m 3),o 46 (bc .sub 45 (n 1)),o 3 (m 46)])]) .skip)]),
 (.reg [o 48 (m 0),o 49 (m 1),o 50 (m 2),o 51 (m 4),o 52 (.call 192 [(t 48),(t 49),(t 50),(t 51)]),o 47 (m 52),o 53 (e 47 0),o 54 (e 47 1),o 13 (m 53),o 14 (m 54)]),
 (q [(.reg [o 55 (m 14),o 56 (bc .eql 55 (n 2))]),
 (i 56 (q [(.reg [o 57 (m 0),o 58 (m 1),o 59 (m 2),o 60 (m 4),o 61 (.call 193 [(t 57),(t 58),(t 59),(t 60)])]),
 (.reg [o 62 (m 2),o 63 (bc .sub 62 (n 1)),o 64 (m 13),o 65 (m 1),o 66 (b .sub 64 65),o 67 (b .sub 63 66),o 13 (m 67)]),
 (.reg [o 14 (.mv (c (n 1)))])]) .skip)]),
 (q [(.reg [o 68 (m 10),o 69 (m 68),g 70 69 true (m 11),o 71 (pf 69 70),o 72 (m 71),g 73 72 true (m 14),g 74 72 true (bc .eql 73 (n 1)),o 75 (pf 72 74)]),
 (i 75 (q [(.reg [o 76 (m 0),o 77 (m 1),o 78 (m 2),o 79 (m 4),o 80 (.call 194 [(t 76),(t 77),(t 78),(t 79)])]),
 (i 80 .ret .skip)]) .skip)]),
 (q [(.regd [o 81 (m 1),o 82 (bc .gtr 81 (n 0)),o 83 (m 82),g 84 83 true (m 4),g 85 83 true (m 0),g 86 83 true (m 1),g 87 83 true (bc .sub 86 (n 1)),g 88 83 true (ia 1 85 87),g 89 83 true (l 88),g 90 83 true (m 0),g 91 83 true (m 13),g 92 83 true (ia 1 90 91),g 93 83 true (l 92),g 94 83 true (.callv (t 84) [(t 89),(t 93)]),g 95 83 true (bc .lss 94 (n 0)),g 96 83 true (.un .not (t 95)),o 97 (pf 83 96)] [0,1,3,7,7,7,39,119,247,7,7,1543,3591,8191,16383,32767,65535]),
 (i 97 (q [(.reg [o 98 (m 0),o 99 (m 1),o 100 (m 2),o 101 (m 13),o 102 (m 4),o 103 (.call 195 [(t 98),(t 99),(t 100),(t 101),(t 102)]),o 15 (m 103)]),
 (.reg [o 104 (m 15),o 1 (m 104)]),
 (.exit 1)]) .skip)]),
 (.reg [o 106 (m 0),o 107 (m 1),o 108 (m 2),o 109 (m 13),o 110 (m 4),o 111 (.call 196 [(t 106),(t 107),(t 108),(t 109),(t 110)]),o 105 (m 111),o 112 (e 105 0),o 113 (e 105 1),o 16 (m 112),o 17 (m 113)]),
 (.reg [o 114 (m 17),o 11 (m 114)]),
 (.reg [o 115 (m 16),o 116 (m 1),o 117 (b .sub 115 116),o 118 (m 2),o 119 (m 16),o 120 (b .sub 118 119),o 18 (m 117),o 19 (m 120)]),
 (.reg [o 121 (m 12),o 122 (bc .quo 121 (n 8)),o 20 (m 122)]),
 (.reg [o 123 (m 18),o 124 (m 19),o 125 (b .lss 123 124)]),
 (i 125 (q [(.reg [o 126 (m 18),o 127 (m 20),o 128 (b .geq 126 127),o 10 (m 128)]),
 (.reg [o 129 (m 0),o 130 (m 1),o 131 (m 16),o 132 (m 3),o 133 (m 4),o 134 (.call 157 [(t 129),(t 130),(t 131),(t 132),(t 133)])]),
 (.reg [o 135 (m 16),o 136 (bc .add 135 (n 1)),o 1 (m 136)])]) (q [(.reg [o 137 (m 19),o 138 (m 20),o 139 (b .geq 137 138),o 10 (m 139)]),
 (.reg [o 140 (m 0),o 141 (m 16),o 142 (bc .add 141 (n 1)),o 143 (m 2),o 144 (m 3),o 145 (m 4),o 146 (.call 157 [(t 140),(t 142),(t 143),(t 144),(t 145)])]),
 (.reg [o 147 (m 16),o 2 (m 147)])]))]))))])⟩
def c_math_bits_Len:CFn:=⟨8,[.tmp 2],(q [(.reg [o 2 (.mv (c (n 0)))]),
 (.cond (c .bf) (q [(.reg [o 3 (m 0),o 4 (.conv .u32 (t 3)),o 5 (.call 197 [(t 4)]),o 2 (m 5)]),
 .ret]) .skip),
 (.reg [o 6 (m 0),o 7 (.call 198 [(t 6)]),o 2 (m 7)]),
 .ret])⟩
def c_upgrade_every_1:CFn:=⟨38,[.cell 5 (some 4),.tmp 6,.tmp 7],(q [(.reg [o 3 (.box 4 (t 0)),o 5 (.alloc [(n 0),(.nils 1),(.nils 1),(.nils 1)]),o 6 (.mv (c (.nils 1))),o 7 (.mv (c (n 0)))]),
 (.reg [o 13 (l 2),o 14 (la 4 3),o 15 (m 1),o 16 (.callv (t 13) [(t 14),(t 15)]),o 12 (m 16),o 17 (e 12 0),o 18 (e 12 1),o 8 (.alloc [(n 0),(.nils 1),(.nils 1),(.nils 1)]),w (.store 4 (t 8) (t 17)),o 9 (m 18)]),
 (q [(.reg [o 19 (m 9),o 20 (bc .neq 19 (n 0))]),
 (i 20 (q [(.reg [o 21 (.build [(n 0),(.nils 1),(.nils 1),(.nils 1)] []),o 22 (m 9),w (.store 4 (t 5) (t 21)),o 6 (.mv (c (.nils 1))),o 7 (m 22)]),
 .ret]) .skip)]),
 (.reg [o 23 (f 0 8),o 24 (l 23),o 25 (.mkslice 1 8 [(n 0)] (t 24) (t 24)),o 10 (m 25)]),
 (q [(.reg [o 26 (m 10),o 27 (ln 26),o 28 (.mv (c (n 0)))]),
 (.block 0 (.loop (q [(.reg [o 29 (b .lss 28 27)]),
 (i 29 .skip (.exit 0)),
 (.block 1 (q [(.reg [o 30 (m 28),o 11 (m 30)]),
 (.reg [o 31 (m 10),o 32 (m 11),o 33 (m 11),o 34 (ia 1 31 32),w (.store 1 (t 34) (t 33))])])),
 (.reg [o 35 (bc .add 28 (n 1)),o 28 (m 35)])])))]),
 (.reg [o 36 (la 4 8),o 37 (m 10),w (.store 4 (t 5) (t 36)),o 6 (m 37),o 7 (.mv (c (n 0)))]),
 .ret])⟩
def c_formula_operand:CFn:=⟨25,[.tmp 6],(q [(.reg [o 6 (.mv (c .bf))]),
 (.reg [o 7 (m 0),o 8 (m 7),g 9 8 true (m 1),g 10 8 true (bc .geq 9 (n 0)),o 11 (pf 8 10),o 12 (m 11),g 13 12 true (m 1),g 14 12 true (m 2),g 15 12 true (b .lss 13 14),o 16 (pf 12 15),o 17 (m 16),g 18 17 false (m 0),g 19 17 false (.un .not (t 18)),g 20 17 false (m 19),g 21 20 true (m 1),g 22 20 true (bc .eql 21 (n 0)),g 23 17 false (pf 20 22),o 24 (pt 17 23),o 6 (m 24)]),
 .ret])⟩
def c_formula_nodeError_1:CFn:=⟨20,[.tmp 8],(q [(.reg [o 8 (.mv (c .bf))]),
 (.reg [o 9 (m 0),o 10 (m 9),g 11 10 true (m 1),g 12 10 true (m 2),g 13 10 true (b .lss 11 12),g 14 10 true (m 13),g 15 14 false (m 1),g 16 14 false (m 3),g 17 14 false (b .gtr 15 16),g 18 10 true (pt 14 17),o 19 (pf 10 18),o 8 (m 19)]),
 .ret])⟩
def c_doxastic_knows_1:CFn:=⟨13,[.tmp 5],(q [(.reg [o 5 (.mv (c .bf))]),
 (.regd [o 6 (la 4 1),o 7 (l 2),o 8 (m 0),o 9 (.call 74 [(t 6),(t 7),(t 8)]),o 10 (l 3),o 11 (b .andNot 9 10),o 12 (bc .eql 11 (u 0)),o 5 (m 12)] [0,0,0,7,0,31,63,127]),
 .ret])⟩
def c_doxastic_believes_1:CFn:=⟨15,[.tmp 6],(q [(.reg [o 6 (.mv (c .bf))]),
 (.regd [o 7 (la 4 1),o 8 (l 2),o 9 (m 0),o 10 (l 3),o 11 (.call 55 [(t 7),(t 8),(t 9),(t 10)]),o 12 (l 4),o 13 (b .andNot 11 12),o 14 (bc .eql 13 (u 0)),o 6 (m 14)] [0,0,0,0,15,0,63,127,255]),
 .ret])⟩
def c_plaus_Weaker:CFn:=⟨84,[.tmp 4,.tmp 5],(q [(.reg [o 2 (.box 4 (t 0)),o 4 (.mv (c (.nils 1))),o 5 (.mv (c (n 0)))]),
 (q [(.reg [o 10 (la 4 2),o 11 (.call 23 [(t 10)]),o 6 (m 11)]),
 (.reg [o 12 (m 6),o 13 (bc .neq 12 (n 0))]),
 (i 13 (q [(.reg [o 14 (m 6),o 4 (.mv (c (.nils 1))),o 5 (m 14)]),
 .ret]) .skip)]),
 (q [(.reg [o 15 (m 1),o 16 (bc .lss 15 (n 0)),o 17 (m 16),g 18 17 false (m 1),g 19 17 false (f 2 2),g 20 17 false (l 19),g 21 17 false (ln 20),g 22 17 false (b .geq 18 21),o 23 (pt 17 22)]),
 (i 23 (q [(.reg [o 4 (.mv (c (.nils 1))),o 5 (.mv (c (n 2)))]),
 .ret]) .skip)]),
 (.reg [o 24 (f 0 2),o 25 (l 24),o 26 (.mkslice 1 8 [(u 0)] (t 25) (t 25)),o 7 (m 26)]),
 (q [(.reg [o 27 (m 7),o 28 (ln 27),o 29 (.mv (c (n 0)))]),
 (.block 0 (.loop (q [(.reg [o 30 (b .lss 29 28)]),
 (i 30 .skip (.exit 0)),
 (.block 1 (q [(.reg [o 31 (m 29),o 8 (m 31)]),
 (.reg [o 32 (m 7),o 33 (ln 32),o 34 (.mv (c (n 0)))]),
 (.block 2 (.loop (q [(.reg [o 35 (b .lss 34 33)]),
 (i 35 .skip (.exit 2)),
 (.block 3 (q [(.reg [o 36 (m 34),o 9 (m 36)]),
 (.regd [o 37 (f 2 2),o 38 (l 37),o 39 (m 1),o 40 (ia 1 38 39),o 41 (l 40),o 42 (m 9),o 43 (ia 1 41 42),o 44 (l 43),o 45 (f 2 2),o 46 (l 45),o 47 (m 1),o 48 (ia 1 46 47),o 49 (l 48),o 50 (m 8),o 51 (ia 1 49 50),o 52 (l 51),o 53 (b .eql 44 52),o 54 (m 53),g 55 54 true (f 3 2),g 56 54 true (l 55),g 57 54 true (m 1),g 58 54 true (ia 1 56 57),g 59 54 true (l 58),g 60 54 true (m 9),g 61 54 true (ia 1 59 60),g 62 54 true (l 61),g 63 54 true (f 3 2),g 64 54 true (l 63),g 65 54 true (m 1),g 66 54 true (ia 1 64 65),g 67 54 true (l 66),g 68 54 true (m 8),g 69 54 true (ia 1 67 68),g 70 54 true (l 69),g 71 54 true (b .leq 62 70),o 72 (pf 54 71)] [0,1,0,7,15,0,63,127,0,256,0,1792,3840,0,16128,32512,65535,131071,262143,524287,262143,2097151,4194303,262143,16777215,33554431,262143,67371007,262143,470024191,1006895103,262143,4228120575,8523087871,17179869183,34359738367]),
 (i 72 (.regd [o 73 (m 7),o 74 (m 8),o 75 (ia 1 73 74),o 76 (l 75),o 77 (m 9),o 78 (.bin .shl (c (u 1)) (t 77)),o 79 (b .or 76 78),o 80 (ia 1 73 74),w (.store 1 (t 80) (t 79))] [0,0,3,7,0,16,63,127,255]) .skip)])),
 (.reg [o 81 (bc .add 34 (n 1)),o 34 (m 81)])])))])),
 (.reg [o 82 (bc .add 29 (n 1)),o 29 (m 82)])])))]),
 (.reg [o 83 (m 7),o 4 (m 83),o 5 (.mv (c (n 0)))]),
 .ret])⟩
def c_doxastic_safely_1:CFn:=⟨12,[.tmp 4],(q [(.reg [o 4 (.mv (c .bf))]),
 (.regd [o 5 (l 1),o 6 (m 0),o 7 (ia 1 5 6),o 8 (l 7),o 9 (l 2),o 10 (b .andNot 8 9),o 11 (bc .eql 10 (u 0)),o 4 (m 11)] [0,0,3,7,0,31,63,127]),
 .ret])⟩
def c_formula_compact_1:CFn:=⟨68,[.tmp 7],(q [(.reg [o 7 (.mv (c (n 0)))]),
 (q [(.reg [o 16 (l 1),o 17 (m 0),o 18 (.look (.int .i64) [(n 0)] (t 16) (t 17) true),o 15 (m 18),o 19 (e 15 0),o 20 (e 15 1),o 8 (m 19),o 9 (m 20)]),
 (.reg [o 21 (m 9)]),
 (i 21 (q [(.reg [o 22 (m 8),o 7 (m 22)]),
 .ret]) .skip)]),
 (.reg [o 23 (l 2),o 24 (m 0),o 25 (ia 6 23 24),o 26 (la 6 25),o 10 (.alloc [(n 0),(n 0),(n 0),(n 0),(n 0),(n 0)]),w (.store 6 (t 10) (t 26))]),
 (.reg [o 28 (f 0 10),o 29 (l 28),o 30 (.call 122 [(t 29)]),o 27 (m 30),o 31 (e 27 0),o 32 (e 27 1),o 11 (.alloc [.bf,.bf,.bf,.bf,.bf,.bf,(n 0)]),w (.store 7 (t 11) (t 31)),o 12 (m 32)]),
 (q [(.reg [o 33 (f 0 11),o 34 (l 33)]),
 (i 34 (.reg [o 35 (l 3),o 36 (f 4 10),o 37 (l 36),o 38 (.callv (t 35) [(t 37)]),o 39 (f 4 10),w (.store 1 (t 39) (t 38))]) .skip)]),
 (q [(.reg [o 40 (f 1 11),o 41 (l 40)]),
 (i 41 (.reg [o 42 (l 3),o 43 (f 5 10),o 44 (l 43),o 45 (.callv (t 42) [(t 44)]),o 46 (f 5 10),w (.store 1 (t 46) (t 45))]) .skip)]),
 (.reg [o 48 (l 4),o 49 (la 6 10),o 50 (.look (.agg [(.int .i64),(.int .i64),(.int .i64),(.int .i64),(.int .i64),(.int .i64)]) [(n 0)] (t 48) (t 49) true),o 47 (m 50),o 51 (e 47 0),o 52 (e 47 1),o 13 (m 51),o 14 (m 52)]),
 (q [(.reg [o 53 (m 14),o 54 (.un .not (t 53))]),
 (i 54 (q [(.reg [o 55 (l 5),o 56 (ln 55),o 13 (m 56)]),
 (.reg [o 57 (l 5),o 58 (la 6 10),o 59 (.bslice 6 1 [(n 0),(n 0),(n 0),(n 0),(n 0),(n 0)] [(0,(t 58))]),o 60 (.app 6 48 (t 57) (t 59)),w (.store 1 (t 5) (t 60))]),
 (.reg [o 61 (l 4),o 62 (la 6 10),o 63 (m 13),w (.mupd (.agg [(.int .i64),(.int .i64),(.int .i64),(.int .i64),(.int .i64),(.int .i64)]) (t 61) (t 62) (t 63))])]) .skip)]),
 (.reg [o 64 (l 1),o 65 (m 0),o 66 (m 13),w (.mupd (.int .i64) (t 64) (t 65) (t 66))]),
 (.reg [o 67 (m 13),o 7 (m 67)]),
 .ret])⟩
def c_slices_insertionSortCmpFunc_int_:CFn:=⟨53,[],(q [(.reg [o 10 (m 1),o 11 (bc .add 10 (n 1)),o 8 (m 11)]),
 (.block 0 (.loop (q [(q [(.reg [o 12 (m 8),o 13 (m 2),o 14 (b .lss 12 13)]),
 (i 14 .skip (.exit 0))]),
 (.block 1 (q [(.reg [o 17 (m 8),o 9 (m 17)]),
 (.block 2 (.loop (q [(q [(.regd [o 18 (m 9),o 19 (m 1),o 20 (b .gtr 18 19),o 21 (m 20),g 22 21 true (m 3),g 23 21 true (m 0),g 24 21 true (m 9),g 25 21 true (ia 1 23 24),g 26 21 true (l 25),g 27 21 true (m 0),g 28 21 true (m 9),g 29 21 true (bc .sub 28 (n 1)),g 30 21 true (ia 1 27 29),g 31 21 true (l 30),g 32 21 true (.callv (t 22) [(t 26),(t 31)]),g 33 21 true (bc .lss 32 (n 0)),o 34 (pf 21 33)] [0,0,3,7,15,15,15,111,239,15,15,1039,3599,7695,16383,32767,65535]),
 (i 34 .skip (.exit 2))]),
 (.block 3 (.regd [o 37 (m 0),o 38 (m 9),o 39 (m 0),o 40 (m 9),o 41 (bc .sub 40 (n 1)),o 42 (m 0),o 43 (m 9),o 44 (bc .sub 43 (n 1)),o 45 (ia 1 42 44),o 46 (l 45),o 47 (m 0),o 48 (m 9),o 49 (ia 1 47 48),o 50 (l 49),o 51 (ia 1 37 38),w (.store 1 (t 51) (t 46)),o 52 (ia 1 39 41),w (.store 1 (t 52) (t 50))] [0,0,0,0,8,0,0,64,224,480,0,0,3072,7168,16355,32739,65535,131071])),
 (.reg [o 35 (m 9),o 36 (bc .sub 35 (n 1)),o 9 (m 36)])])))])),
 (.reg [o 15 (m 8),o 16 (bc .add 15 (n 1)),o 8 (m 16)])])))])⟩
def c_slices_heapSortCmpFunc_int_:CFn:=⟨60,[],(q [(.reg [o 13 (m 1),o 8 (m 13)]),
 (.reg [o 9 (.mv (c (n 0)))]),
 (.reg [o 14 (m 2),o 15 (m 1),o 16 (b .sub 14 15),o 10 (m 16)]),
 (q [(.reg [o 17 (m 10),o 18 (bc .sub 17 (n 1)),o 19 (bc .quo 18 (n 2)),o 11 (m 19)]),
 (.block 0 (.loop (q [(q [(.reg [o 20 (m 11),o 21 (bc .geq 20 (n 0))]),
 (i 21 .skip (.exit 0))]),
 (.block 1 (.reg [o 24 (m 0),o 25 (m 11),o 26 (m 10),o 27 (m 8),o 28 (m 3),o 29 (.call 220 [(t 24),(t 25),(t 26),(t 27),(t 28)])])),
 (.reg [o 22 (m 11),o 23 (bc .sub 22 (n 1)),o 11 (m 23)])])))]),
 (.reg [o 30 (m 10),o 31 (bc .sub 30 (n 1)),o 12 (m 31)]),
 (.block 2 (.loop (q [(q [(.reg [o 32 (m 12),o 33 (bc .geq 32 (n 0))]),
 (i 33 .skip (.exit 2))]),
 (.block 3 (q [(.regd [o 36 (m 0),o 37 (m 8),o 38 (m 0),o 39 (m 8),o 40 (m 12),o 41 (b .add 39 40),o 42 (m 0),o 43 (m 8),o 44 (m 12),o 45 (b .add 43 44),o 46 (ia 1 42 45),o 47 (l 46),o 48 (m 0),o 49 (m 8),o 50 (ia 1 48 49),o 51 (l 50),o 52 (ia 1 36 37),w (.store 1 (t 52) (t 47)),o 53 (ia 1 38 41),w (.store 1 (t 53) (t 51))] [0,0,0,0,0,24,0,0,0,384,960,1984,0,0,12288,28672,65475,131011,262143,524287]),
 (.reg [o 54 (m 0),o 55 (m 9),o 56 (m 12),o 57 (m 8),o 58 (m 3),o 59 (.call 220 [(t 54),(t 55),(t 56),(t 57),(t 58)])])])),
 (.reg [o 34 (m 12),o 35 (bc .sub 34 (n 1)),o 12 (m 35)])])))])⟩
def c_slices_breakPatternsCmpFunc_int_:CFn:=⟨67,[],(q [(.reg [o 13 (m 2),o 14 (m 1),o 15 (b .sub 13 14),o 8 (m 15)]),
 (.reg [o 16 (m 8),o 17 (bc .geq 16 (n 8))]),
 (i 17 (q [(.reg [o 18 (m 8),o 19 (.conv .u64 (t 18)),o 9 (.alloc [(u 0)]),w (.store 1 (t 9) (t 19))]),
 (.reg [o 20 (m 8),o 21 (.call 221 [(t 20)]),o 10 (m 21)]),
 (.reg [o 22 (m 1),o 23 (m 8),o 24 (bc .quo 23 (n 4)),o 25 (bc .mul 24 (n 2)),o 26 (b .add 22 25),o 27 (bc .sub 26 (n 1)),o 11 (m 27)]),
 (.block 0 (.loop (q [(q [(.reg [o 28 (m 11),o 29 (m 1),o 30 (m 8),o 31 (bc .quo 30 (n 4)),o 32 (bc .mul 31 (n 2)),o 33 (b .add 29 32),o 34 (bc .add 33 (n 1)),o 35 (b .leq 28 34)]),
 (i 35 .skip (.exit 0))]),
 (.block 1 (q [(.reg [o 38 (.call 222 [(t 9)]),o 39 (m 10),o 40 (bc .sub 39 (u 1)),o 41 (b .and 38 40),o 42 (.conv .i64 (t 41)),o 12 (m 42)]),
 (q [(.reg [o 43 (m 12),o 44 (m 8),o 45 (b .geq 43 44)]),
 (i 45 (.reg [o 46 (m 12),o 47 (m 8),o 48 (b .sub 46 47),o 12 (m 48)]) .skip)]),
 (.regd [o 49 (m 0),o 50 (m 11),o 51 (m 0),o 52 (m 1),o 53 (m 12),o 54 (b .add 52 53),o 55 (m 0),o 56 (m 1),o 57 (m 12),o 58 (b .add 56 57),o 59 (ia 1 55 58),o 60 (l 59),o 61 (m 0),o 62 (m 11),o 63 (ia 1 61 62),o 64 (l 63),o 65 (ia 1 49 50),w (.store 1 (t 65) (t 60)),o 66 (ia 1 51 54),w (.store 1 (t 66) (t 64))] [0,0,0,0,0,24,0,0,0,384,960,1984,0,0,12288,28672,65475,131011,262143,524287])])),
 (.reg [o 36 (m 11),o 37 (bc .add 36 (n 1)),o 11 (m 37)])])))]) .skip)])⟩
def c_slices_choosePivotCmpFunc_int_:CFn:=⟨63,[.tmp 8,.tmp 9],(q [(.reg [o 8 (.mv (c (n 0))),o 9 (.mv (c (n 0)))]),
 (.reg [o 15 (m 2),o 16 (m 1),o 17 (b .sub 15 16),o 10 (m 17)]),
 (.reg [o 11 (.alloc [(n 0)])]),
 (.reg [o 18 (m 1),o 19 (m 10),o 20 (bc .quo 19 (n 4)),o 21 (bc .mul 20 (n 1)),o 22 (b .add 18 21),o 12 (m 22)]),
 (.reg [o 23 (m 1),o 24 (m 10),o 25 (bc .quo 24 (n 4)),o 26 (bc .mul 25 (n 2)),o 27 (b .add 23 26),o 13 (m 27)]),
 (.reg [o 28 (m 1),o 29 (m 10),o 30 (bc .quo 29 (n 4)),o 31 (bc .mul 30 (n 3)),o 32 (b .add 28 31),o 14 (m 32)]),
 (q [(.reg [o 33 (m 10),o 34 (bc .geq 33 (n 8))]),
 (i 34 (q [(q [(.reg [o 35 (m 10),o 36 (bc .geq 35 (n 50))]),
 (i 36 (q [(.reg [o 37 (m 0),o 38 (m 12),o 39 (m 3),o 40 (.call 223 [(t 37),(t 38),(t 11),(t 39)]),o 12 (m 40)]),
 (.reg [o 41 (m 0),o 42 (m 13),o 43 (m 3),o 44 (.call 223 [(t 41),(t 42),(t 11),(t 43)]),o 13 (m 44)]),
 (.reg [o 45 (m 0),o 46 (m 14),o 47 (m 3),o 48 (.call 223 [(t 45),(t 46),(t 11),(t 47)]),o 14 (m 48)])]) .skip)]),
 (.reg [o 49 (m 0),o 50 (m 12),o 51 (m 13),o 52 (m 14),o 53 (m 3),o 54 (.call 224 [(t 49),(t 50),(t 51),(t 52),(t 11),(t 53)]),o 13 (m 54)])]) .skip)]),
 (.reg [o 55 (l 11)]),
 (.block 0 (q [(.reg [o 58 (bc .eql 55 (n 0)),o 57 (m 58)]),
 (i 57 (q [(.reg [o 59 (m 13),o 8 (m 59),o 9 (.mv (c (n 1)))]),
 .ret]) (q [(.reg [o 61 (bc .eql 55 (n 12)),o 60 (m 61)]),
 (i 60 (q [(.reg [o 62 (m 13),o 8 (m 62),o 9 (.mv (c (n 2)))]),
 .ret]) (q [(.reg [o 56 (m 13),o 8 (m 56),o 9 (.mv (c (n 0)))]),
 .ret]))]))]))])⟩
def c_slices_reverseRangeCmpFunc_int_:CFn:=⟨34,[],(q [(.reg [o 10 (m 1),o 8 (m 10)]),
 (.reg [o 11 (m 2),o 12 (bc .sub 11 (n 1)),o 9 (m 12)]),
 (.block 0 (.loop (q [(q [(.reg [o 13 (m 8),o 14 (m 9),o 15 (b .lss 13 14)]),
 (i 15 .skip (.exit 0))]),
 (.block 1 (q [(.regd [o 16 (m 0),o 17 (m 8),o 18 (m 0),o 19 (m 9),o 20 (m 0),o 21 (m 9),o 22 (ia 1 20 21),o 23 (l 22),o 24 (m 0),o 25 (m 8),o 26 (ia 1 24 25),o 27 (l 26),o 28 (ia 1 16 17),w (.store 1 (t 28) (t 23)),o 29 (ia 1 18 19),w (.store 1 (t 29) (t 27))] [0,0,0,0,0,0,48,112,0,0,768,1792,4083,8179,16383,32767]),
 (.reg [o 30 (m 8),o 31 (bc .add 30 (n 1)),o 8 (m 31)]),
 (.reg [o 32 (m 9),o 33 (bc .sub 32 (n 1)),o 9 (m 33)])]))])))])⟩
def c_slices_partialInsertionSortCmpFunc_int_:CFn:=⟨141,[.tmp 8],(q [(.reg [o 8 (.mv (c .bf))]),
 (.reg [o 13 (m 1),o 14 (bc .add 13 (n 1)),o 9 (m 14)]),
 (q [(.reg [o 10 (.mv (c (n 0)))]),
 (.block 0 (.loop (q [(q [(.reg [o 15 (m 10),o 16 (bc .lss 15 (n 5))]),
 (i 16 .skip (.exit 0))]),
 (.block 1 (q [(.block 2 (.loop (q [(q [(.regd [o 19 (m 9),o 20 (m 2),o 21 (b .lss 19 20),o 22 (m 21),g 23 22 true (m 3),g 24 22 true (m 0),g 25 22 true (m 9),g 26 22 true (ia 1 24 25),g 27 22 true (l 26),g 28 22 true (m 0),g 29 22 true (m 9),g 30 22 true (bc .sub 29 (n 1)),g 31 22 true (ia 1 28 30),g 32 22 true (l 31),g 33 22 true (.callv (t 23) [(t 27),(t 32)]),g 34 22 true (bc .lss 33 (n 0)),g 35 22 true (.un .not (t 34)),o 36 (pf 22 35)] [0,0,3,7,15,15,15,111,239,15,15,1039,3599,7695,16383,32767,65535,131071]),
 (i 36 .skip (.exit 2))]),
 (.block 3 (.reg [o 37 (m 9),o 38 (bc .add 37 (n 1)),o 9 (m 38)]))]))),
 (q [(.reg [o 39 (m 9),o 40 (m 2),o 41 (b .eql 39 40)]),
 (i 41 (q [(.reg [o 8 (.mv (c .bt))]),
 .ret]) .skip)]),
 (q [(.reg [o 42 (m 2),o 43 (m 1),o 44 (b .sub 42 43),o 45 (bc .lss 44 (n 50))]),
 (i 45 (q [(.reg [o 8 (.mv (c .bf))]),
 .ret]) .skip)]),
 (.regd [o 46 (m 0),o 47 (m 9),o 48 (m 0),o 49 (m 9),o 50 (bc .sub 49 (n 1)),o 51 (m 0),o 52 (m 9),o 53 (bc .sub 52 (n 1)),o 54 (ia 1 51 53),o 55 (l 54),o 56 (m 0),o 57 (m 9),o 58 (ia 1 56 57),o 59 (l 58),o 60 (ia 1 46 47),w (.store 1 (t 60) (t 55)),o 61 (ia 1 48 50),w (.store 1 (t 61) (t 59))] [0,0,0,0,8,0,0,64,224,480,0,0,3072,7168,16355,32739,65535,131071]),
 (q [(.reg [o 62 (m 9),o 63 (m 1),o 64 (b .sub 62 63),o 65 (bc .geq 64 (n 2))]),
 (i 65 (q [(.reg [o 66 (m 9),o 67 (bc .sub 66 (n 1)),o 11 (m 67)]),
 (.block 4 (.loop (q [(q [(.reg [o 68 (m 11),o 69 (bc .geq 68 (n 1))]),
 (i 69 .skip (.exit 4))]),
 (.block 5 (q [(q [(.regd [o 72 (m 3),o 73 (m 0),o 74 (m 11),o 75 (ia 1 73 74),o 76 (l 75),o 77 (m 0),o 78 (m 11),o 79 (bc .sub 78 (n 1)),o 80 (ia 1 77 79),o 81 (l 80),o 82 (.callv (t 72) [(t 76),(t 81)]),o 83 (bc .lss 82 (n 0)),o 84 (.un .not (t 83))] [0,0,0,6,14,0,0,64,224,480,1023,2047,4095]),
 (i 84 (.exit 4) .skip)]),
 (.regd [o 85 (m 0),o 86 (m 11),o 87 (m 0),o 88 (m 11),o 89 (bc .sub 88 (n 1)),o 90 (m 0),o 91 (m 11),o 92 (bc .sub 91 (n 1)),o 93 (ia 1 90 92),o 94 (l 93),o 95 (m 0),o 96 (m 11),o 97 (ia 1 95 96),o 98 (l 97),o 99 (ia 1 85 86),w (.store 1 (t 99) (t 94)),o 100 (ia 1 87 89),w (.store 1 (t 100) (t 98))] [0,0,0,0,8,0,0,64,224,480,0,0,3072,7168,16355,32739,65535,131071])])),
 (.reg [o 70 (m 11),o 71 (bc .sub 70 (n 1)),o 11 (m 71)])])))]) .skip)]),
 (.reg [o 101 (m 2),o 102 (m 9),o 103 (b .sub 101 102),o 104 (bc .geq 103 (n 2))]),
 (i 104 (q [(.reg [o 105 (m 9),o 106 (bc .add 105 (n 1)),o 12 (m 106)]),
 (.block 6 (.loop (q [(q [(.reg [o 107 (m 12),o 108 (m 2),o 109 (b .lss 107 108)]),
 (i 109 .skip (.exit 6))]),
 (.block 7 (q [(q [(.regd [o 112 (m 3),o 113 (m 0),o 114 (m 12),o 115 (ia 1 113 114),o 116 (l 115),o 117 (m 0),o 118 (m 12),o 119 (bc .sub 118 (n 1)),o 120 (ia 1 117 119),o 121 (l 120),o 122 (.callv (t 112) [(t 116),(t 121)]),o 123 (bc .lss 122 (n 0)),o 124 (.un .not (t 123))] [0,0,0,6,14,0,0,64,224,480,1023,2047,4095]),
 (i 124 (.exit 6) .skip)]),
 (.regd [o 125 (m 0),o 126 (m 12),o 127 (m 0),o 128 (m 12),o 129 (bc .sub 128 (n 1)),o 130 (m 0),o 131 (m 12),o 132 (bc .sub 131 (n 1)),o 133 (ia 1 130 132),o 134 (l 133),o 135 (m 0),o 136 (m 12),o 137 (ia 1 135 136),o 138 (l 137),o 139 (ia 1 125 126),w (.store 1 (t 139) (t 134)),o 140 (ia 1 127 129),w (.store 1 (t 140) (t 138))] [0,0,0,0,8,0,0,64,224,480,0,0,3072,7168,16355,32739,65535,131071])])),
 (.reg [o 110 (m 12),o 111 (bc .add 110 (n 1)),o 12 (m 111)])])))]) .skip)])),
 (.reg [o 17 (m 10),o 18 (bc .add 17 (n 1)),o 10 (m 18)])])))]),
 (.reg [o 8 (.mv (c .bf))]),
 .ret])⟩
def c_slices_partitionEqualCmpFunc_int_:CFn:=⟨90,[.tmp 10],(q [(.reg [o 10 (.mv (c (n 0)))]),
 (.regd [o 13 (m 0),o 14 (m 1),o 15 (m 0),o 16 (m 3),o 17 (m 0),o 18 (m 3),o 19 (ia 1 17 18),o 20 (l 19),o 21 (m 0),o 22 (m 1),o 23 (ia 1 21 22),o 24 (l 23),o 25 (ia 1 13 14),w (.store 1 (t 25) (t 20)),o 26 (ia 1 15 16),w (.store 1 (t 26) (t 24))] [0,0,0,0,0,0,48,112,0,0,768,1792,4083,8179,16383,32767]),
 (.reg [o 27 (m 1),o 28 (bc .add 27 (n 1)),o 29 (m 2),o 30 (bc .sub 29 (n 1)),o 11 (m 28),o 12 (m 30)]),
 (.block 0 (.loop (.block 1 (q [(.block 2 (.loop (q [(q [(.regd [o 31 (m 11),o 32 (m 12),o 33 (b .leq 31 32),o 34 (m 33),g 35 34 true (m 4),g 36 34 true (m 0),g 37 34 true (m 1),g 38 34 true (ia 1 36 37),g 39 34 true (l 38),g 40 34 true (m 0),g 41 34 true (m 11),g 42 34 true (ia 1 40 41),g 43 34 true (l 42),g 44 34 true (.callv (t 35) [(t 39),(t 43)]),g 45 34 true (bc .lss 44 (n 0)),g 46 34 true (.un .not (t 45)),o 47 (pf 34 46)] [0,0,3,7,15,15,15,111,239,15,15,1551,3599,8191,16383,32767,65535]),
 (i 47 .skip (.exit 2))]),
 (.block 3 (.reg [o 48 (m 11),o 49 (bc .add 48 (n 1)),o 11 (m 49)]))]))),
 (.block 4 (.loop (q [(q [(.regd [o 50 (m 11),o 51 (m 12),o 52 (b .leq 50 51),o 53 (m 52),g 54 53 true (m 4),g 55 53 true (m 0),g 56 53 true (m 1),g 57 53 true (ia 1 55 56),g 58 53 true (l 57),g 59 53 true (m 0),g 60 53 true (m 12),g 61 53 true (ia 1 59 60),g 62 53 true (l 61),g 63 53 true (.callv (t 54) [(t 58),(t 62)]),g 64 53 true (bc .lss 63 (n 0)),o 65 (pf 53 64)] [0,0,3,7,15,15,15,111,239,15,15,1551,3599,8191,16383,32767]),
 (i 65 .skip (.exit 4))]),
 (.block 5 (.reg [o 66 (m 12),o 67 (bc .sub 66 (n 1)),o 12 (m 67)]))]))),
 (q [(.reg [o 68 (m 11),o 69 (m 12),o 70 (b .gtr 68 69)]),
 (i 70 (.exit 0) .skip)]),
 (.regd [o 71 (m 0),o 72 (m 11),o 73 (m 0),o 74 (m 12),o 75 (m 0),o 76 (m 12),o 77 (ia 1 75 76),o 78 (l 77),o 79 (m 0),o 80 (m 11),o 81 (ia 1 79 80),o 82 (l 81),o 83 (ia 1 71 72),w (.store 1 (t 83) (t 78)),o 84 (ia 1 73 74),w (.store 1 (t 84) (t 82))] [0,0,0,0,0,0,48,112,0,0,768,1792,4083,8179,16383,32767]),
 (.reg [o 85 (m 11),o 86 (bc .add 85 (n 1)),o 11 (m 86)]),
 (.reg [o 87 (m 12),o 88 (bc .sub 87 (n 1)),o 12 (m 88)])])))),
 (.reg [o 89 (m 11),o 10 (m 89)]),
 .ret])⟩
def c_slices_partitionCmpFunc_int_:CFn:=⟨178,[.tmp 10,.tmp 11],(q [(.reg [o 10 (.mv (c (n 0))),o 11 (.mv (c .bf))]),
 (.regd [o 14 (m 0),o 15 (m 1),o 16 (m 0),o 17 (m 3),o 18 (m 0),o 19 (m 3),o 20 (ia 1 18 19),o 21 (l 20),o 22 (m 0),o 23 (m 1),o 24 (ia 1 22 23),o 25 (l 24),o 26 (ia 1 14 15),w (.store 1 (t 26) (t 21)),o 27 (ia 1 16 17),w (.store 1 (t 27) (t 25))] [0,0,0,0,0,0,48,112,0,0,768,1792,4083,8179,16383,32767]),
 (.reg [o 28 (m 1),o 29 (bc .add 28 (n 1)),o 30 (m 2),o 31 (bc .sub 30 (n 1)),o 12 (m 29),o 13 (m 31)]),
 (.block 0 (.loop (q [(q [(.regd [o 32 (m 12),o 33 (m 13),o 34 (b .leq 32 33),o 35 (m 34),g 36 35 true (m 4),g 37 35 true (m 0),g 38 35 true (m 12),g 39 35 true (ia 1 37 38),g 40 35 true (l 39),g 41 35 true (m 0),g 42 35 true (m 1),g 43 35 true (ia 1 41 42),g 44 35 true (l 43),g 45 35 true (.callv (t 36) [(t 40),(t 44)]),g 46 35 true (bc .lss 45 (n 0)),o 47 (pf 35 46)] [0,0,3,7,15,15,15,111,239,15,15,1551,3599,8191,16383,32767]),
 (i 47 .skip (.exit 0))]),
 (.block 1 (.reg [o 48 (m 12),o 49 (bc .add 48 (n 1)),o 12 (m 49)]))]))),
 (.block 2 (.loop (q [(q [(.regd [o 50 (m 12),o 51 (m 13),o 52 (b .leq 50 51),o 53 (m 52),g 54 53 true (m 4),g 55 53 true (m 0),g 56 53 true (m 13),g 57 53 true (ia 1 55 56),g 58 53 true (l 57),g 59 53 true (m 0),g 60 53 true (m 1),g 61 53 true (ia 1 59 60),g 62 53 true (l 61),g 63 53 true (.callv (t 54) [(t 58),(t 62)]),g 64 53 true (bc .lss 63 (n 0)),g 65 53 true (.un .not (t 64)),o 66 (pf 53 65)] [0,0,3,7,15,15,15,111,239,15,15,1551,3599,8191,16383,32767,65535]),
 (i 66 .skip (.exit 2))]),
 (.block 3 (.reg [o 67 (m 13),o 68 (bc .sub 67 (n 1)),o 13 (m 68)]))]))),
 (q [(.reg [o 69 (m 12),o 70 (m 13),o 71 (b .gtr 69 70)]),
 (i 71 (q [(.regd [o 72 (m 0),o 73 (m 13),o 74 (m 0),o 75 (m 1),o 76 (m 0),o 77 (m 1),o 78 (ia 1 76 77),o 79 (l 78),o 80 (m 0),o 81 (m 13),o 82 (ia 1 80 81),o 83 (l 82),o 84 (ia 1 72 73),w (.store 1 (t 84) (t 79)),o 85 (ia 1 74 75),w (.store 1 (t 85) (t 83))] [0,0,0,0,0,0,48,112,0,0,768,1792,4083,8179,16383,32767]),
 (.reg [o 86 (m 13),o 10 (m 86),o 11 (.mv (c .bt))]),
 .ret]) .skip)]),
 (.regd [o 87 (m 0),o 88 (m 12),o 89 (m 0),o 90 (m 13),o 91 (m 0),o 92 (m 13),o 93 (ia 1 91 92),o 94 (l 93),o 95 (m 0),o 96 (m 12),o 97 (ia 1 95 96),o 98 (l 97),o 99 (ia 1 87 88),w (.store 1 (t 99) (t 94)),o 100 (ia 1 89 90),w (.store 1 (t 100) (t 98))] [0,0,0,0,0,0,48,112,0,0,768,1792,4083,8179,16383,32767]),
 (.reg [o 101 (m 12),o 102 (bc .add 101 (n 1)),o 12 (m 102)]),
 (.reg [o 103 (m 13),o 104 (bc .sub 103 (n 1)),o 13 (m 104)]),
 (.block 4 (.loop (.block 5 (q [(.block 6 (.loop (q [(q [(.regd [o 105 (m 12),o 106 (m 13),o 107 (b .leq 105 106),o 108 (m 107),g 109 108 true (m 4),g 110 108 true (m 0),g 111 108 true (m 12),g 112 108 true (ia 1 110 111),g 113 108 true (l 112),g 114 108 true (m 0),g 115 108 true (m 1),g 116 108 true (ia 1 114 115),g 117 108 true (l 116),g 118 108 true (.callv (t 109) [(t 113),(t 117)]),g 119 108 true (bc .lss 118 (n 0)),o 120 (pf 108 119)] [0,0,3,7,15,15,15,111,239,15,15,1551,3599,8191,16383,32767]),
 (i 120 .skip (.exit 6))]),
 (.block 7 (.reg [o 121 (m 12),o 122 (bc .add 121 (n 1)),o 12 (m 122)]))]))),
 (.block 8 (.loop (q [(q [(.regd [o 123 (m 12),o 124 (m 13),o 125 (b .leq 123 124),o 126 (m 125),g 127 126 true (m 4),g 128 126 true (m 0),g 129 126 true (m 13),g 130 126 true (ia 1 128 129),g 131 126 true (l 130),g 132 126 true (m 0),g 133 126 true (m 1),g 134 126 true (ia 1 132 133),g 135 126 true (l 134),g 136 126 true (.callv (t 127) [(t 131),(t 135)]),g 137 126 true (bc .lss 136 (n 0)),g 138 126 true (.un .not (t 137)),o 139 (pf 126 138)] [0,0,3,7,15,15,15,111,239,15,15,1551,3599,8191,16383,32767,65535]),
 (i 139 .skip (.exit 8))]),
 (.block 9 (.reg [o 140 (m 13),o 141 (bc .sub 140 (n 1)),o 13 (m 141)]))]))),
 (q [(.reg [o 142 (m 12),o 143 (m 13),o 144 (b .gtr 142 143)]),
 (i 144 (.exit 4) .skip)]),
 (.regd [o 145 (m 0),o 146 (m 12),o 147 (m 0),o 148 (m 13),o 149 (m 0),o 150 (m 13),o 151 (ia 1 149 150),o 152 (l 151),o 153 (m 0),o 154 (m 12),o 155 (ia 1 153 154),o 156 (l 155),o 157 (ia 1 145 146),w (.store 1 (t 157) (t 152)),o 158 (ia 1 147 148),w (.store 1 (t 158) (t 156))] [0,0,0,0,0,0,48,112,0,0,768,1792,4083,8179,16383,32767]),
 (.reg [o 159 (m 12),o 160 (bc .add 159 (n 1)),o 12 (m 160)]),
 (.reg [o 161 (m 13),o 162 (bc .sub 161 (n 1)),o 13 (m 162)])])))),
 (.regd [o 163 (m 0),o 164 (m 13),o 165 (m 0),o 166 (m 1),o 167 (m 0),o 168 (m 1),o 169 (ia 1 167 168),o 170 (l 169),o 171 (m 0),o 172 (m 13),o 173 (ia 1 171 172),o 174 (l 173),o 175 (ia 1 163 164),w (.store 1 (t 175) (t 170)),o 176 (ia 1 165 166),w (.store 1 (t 176) (t 174))] [0,0,0,0,0,0,48,112,0,0,768,1792,4083,8179,16383,32767]),
 (.reg [o 177 (m 13),o 10 (m 177),o 11 (.mv (c .bf))]),
 .ret])⟩
def c_slices_siftDownCmpFunc_int_:CFn:=⟨82,[],(q [(.reg [o 12 (m 1),o 10 (m 12)]),
 (.block 0 (.loop (.block 1 (q [(.reg [o 13 (m 10),o 14 (.bin .mul (c (n 2)) (t 13)),o 15 (bc .add 14 (n 1)),o 11 (m 15)]),
 (q [(.reg [o 16 (m 11),o 17 (m 2),o 18 (b .geq 16 17)]),
 (i 18 (.exit 0) .skip)]),
 (q [(.regd [o 19 (m 11),o 20 (bc .add 19 (n 1)),o 21 (m 2),o 22 (b .lss 20 21),o 23 (m 22),g 24 23 true (m 4),g 25 23 true (m 0),g 26 23 true (m 3),g 27 23 true (m 11),g 28 23 true (b .add 26 27),g 29 23 true (ia 1 25 28),g 30 23 true (l 29),g 31 23 true (m 0),g 32 23 true (m 3),g 33 23 true (m 11),g 34 23 true (b .add 32 33),g 35 23 true (bc .add 34 (n 1)),g 36 23 true (ia 1 31 35),g 37 23 true (l 36),g 38 23 true (.callv (t 24) [(t 30),(t 37)]),g 39 23 true (bc .lss 38 (n 0)),o 40 (pf 23 39)] [0,1,0,7,15,31,31,31,31,415,991,2015,31,31,31,24607,57375,127007,258079,524287,1048575,2097151]),
 (i 40 (.reg [o 41 (m 11),o 42 (bc .add 41 (n 1)),o 11 (m 42)]) .skip)]),
 (q [(.regd [o 43 (m 4),o 44 (m 0),o 45 (m 3),o 46 (m 10),o 47 (b .add 45 46),o 48 (ia 1 44 47),o 49 (l 48),o 50 (m 0),o 51 (m 3),o 52 (m 11),o 53 (b .add 51 52),o 54 (ia 1 50 53),o 55 (l 54),o 56 (.callv (t 43) [(t 49),(t 55)]),o 57 (bc .lss 56 (n 0)),o 58 (.un .not (t 57))] [0,0,0,0,12,30,62,0,0,0,768,1920,3968,8191,16383,32767]),
 (i 58 .ret .skip)]),
 (.regd [o 59 (m 0),o 60 (m 3),o 61 (m 10),o 62 (b .add 60 61),o 63 (m 0),o 64 (m 3),o 65 (m 11),o 66 (b .add 64 65),o 67 (m 0),o 68 (m 3),o 69 (m 11),o 70 (b .add 68 69),o 71 (ia 1 67 70),o 72 (l 71),o 73 (m 0),o 74 (m 3),o 75 (m 10),o 76 (b .add 74 75),o 77 (ia 1 73 76),o 78 (l 77),o 79 (ia 1 59 62),w (.store 1 (t 79) (t 72)),o 80 (ia 1 63 66),w (.store 1 (t 80) (t 78))] [0,0,0,6,0,0,0,96,0,0,0,1536,3840,7936,0,0,0,98304,245760,507904,1048335,2096911,4194303,8388607]),
 (.reg [o 81 (m 11),o 10 (m 81)])]))))])⟩
def c_slices_nextPowerOfTwo:CFn:=⟨7,[.tmp 2],(q [(.reg [o 2 (.mv (c (u 0)))]),
 (.reg [o 3 (m 0),o 4 (.conv .u64 (t 3)),o 5 (.call 158 [(t 4)]),o 6 (.bin .shl (c (u 1)) (t 5)),o 2 (m 6)]),
 .ret])⟩
def c___slices_xorshift__Next:CFn:=⟨33,[.tmp 2],(q [(.reg [o 2 (.mv (c (u 0)))]),
 (.regd [o 3 (m 0),o 4 (.nilck (t 3)),o 5 (l 4),o 6 (m 0),o 7 (.nilck (t 6)),o 8 (l 7),o 9 (bc .shl 8 (u 13)),o 10 (b .xor 5 9),o 11 (.nilck (t 3)),w (.store 1 (t 11) (t 10))] [0,1,3,0,8,24,56,127,255,511]),
 (.regd [o 12 (m 0),o 13 (.nilck (t 12)),o 14 (l 13),o 15 (m 0),o 16 (.nilck (t 15)),o 17 (l 16),o 18 (bc .shr 17 (u 7)),o 19 (b .xor 14 18),o 20 (.nilck (t 12)),w (.store 1 (t 20) (t 19))] [0,1,3,0,8,24,56,127,255,511]),
 (.regd [o 21 (m 0),o 22 (.nilck (t 21)),o 23 (l 22),o 24 (m 0),o 25 (.nilck (t 24)),o 26 (l 25),o 27 (bc .shl 26 (u 17)),o 28 (b .xor 23 27),o 29 (.nilck (t 21)),w (.store 1 (t 29) (t 28))] [0,1,3,0,8,24,56,127,255,511]),
 (.reg [o 30 (m 0),o 31 (.nilck (t 30)),o 32 (l 31),o 2 (m 32)]),
 .ret])⟩
def c_slices_medianAdjacentCmpFunc_int_:CFn:=⟨18,[.tmp 8],(q [(.reg [o 8 (.mv (c (n 0)))]),
 (.reg [o 9 (m 0),o 10 (m 1),o 11 (bc .sub 10 (n 1)),o 12 (m 1),o 13 (m 1),o 14 (bc .add 13 (n 1)),o 15 (m 2),o 16 (m 3),o 17 (.call 224 [(t 9),(t 11),(t 12),(t 14),(t 15),(t 16)]),o 8 (m 17)]),
 .ret])⟩
def c_slices_medianCmpFunc_int_:CFn:=⟨41,[.tmp 12],(q [(.reg [o 12 (.mv (c (n 0)))]),
 (.reg [o 14 (m 0),o 15 (m 1),o 16 (m 2),o 17 (m 4),o 18 (m 5),o 19 (.call 233 [(t 14),(t 15),(t 16),(t 17),(t 18)]),o 13 (m 19),o 20 (e 13 0),o 21 (e 13 1),o 1 (m 20),o 2 (m 21)]),
 (.reg [o 23 (m 0),o 24 (m 2),o 25 (m 3),o 26 (m 4),o 27 (m 5),o 28 (.call 233 [(t 23),(t 24),(t 25),(t 26),(t 27)]),o 22 (m 28),o 29 (e 22 0),o 30 (e 22 1),o 2 (m 29),o 3 (m 30)]),
 (.reg [o 32 (m 0),o 33 (m 1),o 34 (m 2),o 35 (m 4),o 36 (m 5),o 37 (.call 233 [(t 32),(t 33),(t 34),(t 35),(t 36)]),o 31 (m 37),o 38 (e 31 0),o 39 (e 31 1),o 1 (m 38),o 2 (m 39)]),
 (.reg [o 40 (m 2),o 12 (m 40)]),
 .ret])⟩
def c_slices_order2CmpFunc_int_:CFn:=⟨32,[.tmp 10,.tmp 11],(q [(.reg [o 10 (.mv (c (n 0))),o 11 (.mv (c (n 0)))]),
 (q [(.regd [o 12 (m 4),o 13 (m 0),o 14 (m 2),o 15 (ia 1 13 14),o 16 (l 15),o 17 (m 0),o 18 (m 1),o 19 (ia 1 17 18),o 20 (l 19),o 21 (.callv (t 12) [(t 16),(t 20)]),o 22 (bc .lss 21 (n 0))] [0,0,0,6,14,0,0,96,224,511,1023]),
 (i 22 (q [(.reg [o 23 (m 3),o 24 (.nilck (t 23)),o 25 (l 24),o 26 (bc .add 25 (n 1)),o 27 (.nilck (t 23)),w (.store 1 (t 27) (t 26))]),
 (.reg [o 28 (m 2),o 29 (m 1),o 10 (m 28),o 11 (m 29)]),
 .ret]) .skip)]),
 (.reg [o 30 (m 1),o 31 (m 2),o 10 (m 30),o 11 (m 31)]),
 .ret])⟩
end Go.Ab
namespace Go.Ab
open Go Go.Proofs
theorem hmix:Tryz.prog.follows .mixedOrders=true:=by kernel_rfl
theorem k_wittingref33_Few:compFn Tryz.prog f_wittingref33_Few=some c_wittingref33_Few:=by kernel_rfl
theorem k_wittinglaw36_awake:compFn Tryz.prog f_wittinglaw36_awake=some c_wittinglaw36_awake:=by kernel_rfl
theorem k_upgrade_Hard:compFn Tryz.prog f_upgrade_Hard=some c_upgrade_Hard:=by kernel_rfl
theorem k_wittingref33_Same:compFn Tryz.prog f_wittingref33_Same=some c_wittingref33_Same:=by kernel_rfl
theorem k_wittinglaw36_sameInts:compFn Tryz.prog f_wittinglaw36_sameInts=some c_wittinglaw36_sameInts:=by kernel_rfl
theorem k_upgrade_Radical:compFn Tryz.prog f_upgrade_Radical=some c_upgrade_Radical:=by kernel_rfl
theorem k_upgrade_Conservative:compFn Tryz.prog f_upgrade_Conservative=some c_upgrade_Conservative:=by kernel_rfl
theorem k_upgrade_Sequence:compFn Tryz.prog f_upgrade_Sequence=some c_upgrade_Sequence:=by kernel_rfl
theorem k_plaus_Check:compFn Tryz.prog f_plaus_Check=some c_plaus_Check:=by kernel_rfl
theorem k_formula_Frags:compFn Tryz.prog f_formula_Frags=some c_formula_Frags:=by kernel_rfl
theorem k_doxastic_Holds:compFn Tryz.prog f_doxastic_Holds=some c_doxastic_Holds:=by kernel_rfl
theorem k_wittinglaw36_plain:compFn Tryz.prog f_wittinglaw36_plain=some c_wittinglaw36_plain:=by kernel_rfl
theorem k_wittinglaw36_holds:compFn Tryz.prog f_wittinglaw36_holds=some c_wittinglaw36_holds:=by kernel_rfl
theorem k_formula_Belief:compFn Tryz.prog f_formula_Belief=some c_formula_Belief:=by kernel_rfl
theorem k_formula_And:compFn Tryz.prog f_formula_And=some c_formula_And:=by kernel_rfl
theorem k_formula_Not:compFn Tryz.prog f_formula_Not=some c_formula_Not:=by kernel_rfl
theorem k_formula_Or:compFn Tryz.prog f_formula_Or=some c_formula_Or:=by kernel_rfl
theorem k_formula_Poss:compFn Tryz.prog f_formula_Poss=some c_formula_Poss:=by kernel_rfl
theorem k_formula_True:compFn Tryz.prog f_formula_True=some c_formula_True:=by kernel_rfl
theorem k_doxastic_Strong:compFn Tryz.prog f_doxastic_Strong=some c_doxastic_Strong:=by kernel_rfl
theorem k_formula_Fits:compFn Tryz.prog f_formula_Fits=some c_formula_Fits:=by kernel_rfl
theorem k_wittinglaw36_example:compFn Tryz.prog f_wittinglaw36_example=some c_wittinglaw36_example:=by kernel_rfl
theorem k_formula_Fact:compFn Tryz.prog f_formula_Fact=some c_formula_Fact:=by kernel_rfl
theorem k_formula_False:compFn Tryz.prog f_formula_False=some c_formula_False:=by kernel_rfl
theorem k_plaus_Same:compFn Tryz.prog f_plaus_Same=some c_plaus_Same:=by kernel_rfl
theorem k_plaus_Restrict:compFn Tryz.prog f_plaus_Restrict=some c_plaus_Restrict:=by kernel_rfl
theorem k_wittingref02_Same:compFn Tryz.prog f_wittingref02_Same=some c_wittingref02_Same:=by kernel_rfl
theorem k_wittingref33_sameInts:compFn Tryz.prog f_wittingref33_sameInts=some c_wittingref33_sameInts:=by kernel_rfl
theorem k_upgrade_reorder:compFn Tryz.prog f_upgrade_reorder=some c_upgrade_reorder:=by kernel_rfl
theorem k_upgrade_Radical_1:compFn Tryz.prog f_upgrade_Radical_1=some c_upgrade_Radical_1:=by kernel_rfl
theorem k_upgrade_Conservative_1:compFn Tryz.prog f_upgrade_Conservative_1=some c_upgrade_Conservative_1:=by kernel_rfl
theorem k_plaus_Best:compFn Tryz.prog f_plaus_Best=some c_plaus_Best:=by kernel_rfl
theorem k_slices_IndexFunc_Lupgrade_kind_upgrade_kind_:compFn Tryz.prog f_slices_IndexFunc_Lupgrade_kind_upgrade_kind_=some c_slices_IndexFunc_Lupgrade_kind_upgrade_kind_:=by kernel_rfl
theorem k_upgrade_kinds:compFn Tryz.prog f_upgrade_kinds=some c_upgrade_kinds:=by kernel_rfl
theorem k_upgrade_Sequence_1:compFn Tryz.prog f_upgrade_Sequence_1=some c_upgrade_Sequence_1:=by kernel_rfl
theorem k_plaus_shape:compFn Tryz.prog f_plaus_shape=some c_plaus_shape:=by kernel_rfl
theorem k_formula_union:compFn Tryz.prog f_formula_union=some c_formula_union:=by kernel_rfl
theorem k_formula_Frags_1:compFn Tryz.prog f_formula_Frags_1=some c_formula_Frags_1:=by kernel_rfl
theorem k_formula_Check:compFn Tryz.prog f_formula_Check=some c_formula_Check:=by kernel_rfl
theorem k_formula_Compact:compFn Tryz.prog f_formula_Compact=some c_formula_Compact:=by kernel_rfl
theorem k_doxastic_value:compFn Tryz.prog f_doxastic_value=some c_doxastic_value:=by kernel_rfl
theorem k_formula_build:compFn Tryz.prog f_formula_build=some c_formula_build:=by kernel_rfl
theorem k_doxastic_request:compFn Tryz.prog f_doxastic_request=some c_doxastic_request:=by kernel_rfl
theorem k_doxastic_where:compFn Tryz.prog f_doxastic_where=some c_doxastic_where:=by kernel_rfl
theorem k_doxastic_Strong_1:compFn Tryz.prog f_doxastic_Strong_1=some c_doxastic_Strong_1:=by kernel_rfl
theorem k_plaus_Cell:compFn Tryz.prog f_plaus_Cell=some c_plaus_Cell:=by kernel_rfl
theorem k_formula_Fits_1:compFn Tryz.prog f_formula_Fits_1=some c_formula_Fits_1:=by kernel_rfl
theorem k_formula_Agents:compFn Tryz.prog f_formula_Agents=some c_formula_Agents:=by kernel_rfl
theorem k_formula_Facts:compFn Tryz.prog f_formula_Facts=some c_formula_Facts:=by kernel_rfl
theorem k_plaus_bestOf:compFn Tryz.prog f_plaus_bestOf=some c_plaus_bestOf:=by kernel_rfl
theorem k_plaus_cellOf:compFn Tryz.prog f_plaus_cellOf=some c_plaus_cellOf:=by kernel_rfl
theorem k_plaus_Same_1:compFn Tryz.prog f_plaus_Same_1=some c_plaus_Same_1:=by kernel_rfl
theorem k_slices_EqualFunc_LLint_LLint_Lint_Lint_:compFn Tryz.prog f_slices_EqualFunc_LLint_LLint_Lint_Lint_=some c_slices_EqualFunc_LLint_LLint_Lint_Lint_:=by kernel_rfl
theorem k_slices_Equal_Lint_int_:compFn Tryz.prog f_slices_Equal_Lint_int_=some c_slices_Equal_Lint_int_:=by kernel_rfl
theorem k_slices_Equal_Luint64_uint64_:compFn Tryz.prog f_slices_Equal_Luint64_uint64_=some c_slices_Equal_Luint64_uint64_:=by kernel_rfl
theorem k_plaus_all:compFn Tryz.prog f_plaus_all=some c_plaus_all:=by kernel_rfl
theorem k_slices_IndexFunc_Lint_int_:compFn Tryz.prog f_slices_IndexFunc_Lint_int_=some c_slices_IndexFunc_Lint_int_:=by kernel_rfl
theorem k_plaus_Restrict_1:compFn Tryz.prog f_plaus_Restrict_1=some c_plaus_Restrict_1:=by kernel_rfl
theorem k_slices_Index_Lint_int_:compFn Tryz.prog f_slices_Index_Lint_int_=some c_slices_Index_Lint_int_:=by kernel_rfl
theorem k_slices_Clone_Luint64_uint64_:compFn Tryz.prog f_slices_Clone_Luint64_uint64_=some c_slices_Clone_Luint64_uint64_:=by kernel_rfl
theorem k_upgrade_reorder_1:compFn Tryz.prog f_upgrade_reorder_1=some c_upgrade_reorder_1:=by kernel_rfl
theorem k_upgrade_reorder_2:compFn Tryz.prog f_upgrade_reorder_2=some c_upgrade_reorder_2:=by kernel_rfl
theorem k_cmp_Or_int_:compFn Tryz.prog f_cmp_Or_int_=some c_cmp_Or_int_:=by kernel_rfl
theorem k_cmp_Compare_int_:compFn Tryz.prog f_cmp_Compare_int_=some c_cmp_Compare_int_:=by kernel_rfl
theorem k_slices_SortFunc_Lint_int_:compFn Tryz.prog f_slices_SortFunc_Lint_int_=some c_slices_SortFunc_Lint_int_:=by kernel_rfl
theorem k_slices_Clone_Lint_int_:compFn Tryz.prog f_slices_Clone_Lint_int_=some c_slices_Clone_Lint_int_:=by kernel_rfl
theorem k_plaus_known:compFn Tryz.prog f_plaus_known=some c_plaus_known:=by kernel_rfl
theorem k_upgrade_every:compFn Tryz.prog f_upgrade_every=some c_upgrade_every:=by kernel_rfl
theorem k_slices_Compact_Lint_int_:compFn Tryz.prog f_slices_Compact_Lint_int_=some c_slices_Compact_Lint_int_:=by kernel_rfl
theorem k_formula_uses:compFn Tryz.prog f_formula_uses=some c_formula_uses:=by kernel_rfl
theorem k_formula_nodeError:compFn Tryz.prog f_formula_nodeError=some c_formula_nodeError:=by kernel_rfl
theorem k_formula_Sub:compFn Tryz.prog f_formula_Sub=some c_formula_Sub:=by kernel_rfl
theorem k_doxastic_all:compFn Tryz.prog f_doxastic_all=some c_doxastic_all:=by kernel_rfl
theorem k_doxastic_knows:compFn Tryz.prog f_doxastic_knows=some c_doxastic_knows:=by kernel_rfl
theorem k_doxastic_every:compFn Tryz.prog f_doxastic_every=some c_doxastic_every:=by kernel_rfl
theorem k_doxastic_common:compFn Tryz.prog f_doxastic_common=some c_doxastic_common:=by kernel_rfl
theorem k_doxastic_believes:compFn Tryz.prog f_doxastic_believes=some c_doxastic_believes:=by kernel_rfl
theorem k_doxastic_safely:compFn Tryz.prog f_doxastic_safely=some c_doxastic_safely:=by kernel_rfl
theorem k_formula_compact:compFn Tryz.prog f_formula_compact=some c_formula_compact:=by kernel_rfl
theorem k_formula_Agents_1:compFn Tryz.prog f_formula_Agents_1=some c_formula_Agents_1:=by kernel_rfl
theorem k_formula_Facts_1:compFn Tryz.prog f_formula_Facts_1=some c_formula_Facts_1:=by kernel_rfl
theorem k_cmp_isNaN_int_:compFn Tryz.prog f_cmp_isNaN_int_=some c_cmp_isNaN_int_:=by kernel_rfl
theorem k_slices_pdqsortCmpFunc_int_:compFn Tryz.prog f_slices_pdqsortCmpFunc_int_=some c_slices_pdqsortCmpFunc_int_:=by kernel_rfl
theorem k_math_bits_Len:compFn Tryz.prog f_math_bits_Len=some c_math_bits_Len:=by kernel_rfl
theorem k_upgrade_every_1:compFn Tryz.prog f_upgrade_every_1=some c_upgrade_every_1:=by kernel_rfl
theorem k_formula_operand:compFn Tryz.prog f_formula_operand=some c_formula_operand:=by kernel_rfl
theorem k_formula_nodeError_1:compFn Tryz.prog f_formula_nodeError_1=some c_formula_nodeError_1:=by kernel_rfl
theorem k_doxastic_knows_1:compFn Tryz.prog f_doxastic_knows_1=some c_doxastic_knows_1:=by kernel_rfl
theorem k_doxastic_believes_1:compFn Tryz.prog f_doxastic_believes_1=some c_doxastic_believes_1:=by kernel_rfl
theorem k_plaus_Weaker:compFn Tryz.prog f_plaus_Weaker=some c_plaus_Weaker:=by kernel_rfl
theorem k_doxastic_safely_1:compFn Tryz.prog f_doxastic_safely_1=some c_doxastic_safely_1:=by kernel_rfl
theorem k_formula_compact_1:compFn Tryz.prog f_formula_compact_1=some c_formula_compact_1:=by kernel_rfl
theorem k_slices_insertionSortCmpFunc_int_:compFn Tryz.prog f_slices_insertionSortCmpFunc_int_=some c_slices_insertionSortCmpFunc_int_:=by kernel_rfl
theorem k_slices_heapSortCmpFunc_int_:compFn Tryz.prog f_slices_heapSortCmpFunc_int_=some c_slices_heapSortCmpFunc_int_:=by kernel_rfl
theorem k_slices_breakPatternsCmpFunc_int_:compFn Tryz.prog f_slices_breakPatternsCmpFunc_int_=some c_slices_breakPatternsCmpFunc_int_:=by kernel_rfl
theorem k_slices_choosePivotCmpFunc_int_:compFn Tryz.prog f_slices_choosePivotCmpFunc_int_=some c_slices_choosePivotCmpFunc_int_:=by kernel_rfl
theorem k_slices_reverseRangeCmpFunc_int_:compFn Tryz.prog f_slices_reverseRangeCmpFunc_int_=some c_slices_reverseRangeCmpFunc_int_:=by kernel_rfl
theorem k_slices_partialInsertionSortCmpFunc_int_:compFn Tryz.prog f_slices_partialInsertionSortCmpFunc_int_=some c_slices_partialInsertionSortCmpFunc_int_:=by kernel_rfl
theorem k_slices_partitionEqualCmpFunc_int_:compFn Tryz.prog f_slices_partitionEqualCmpFunc_int_=some c_slices_partitionEqualCmpFunc_int_:=by kernel_rfl
theorem k_slices_partitionCmpFunc_int_:compFn Tryz.prog f_slices_partitionCmpFunc_int_=some c_slices_partitionCmpFunc_int_:=by kernel_rfl
theorem k_slices_siftDownCmpFunc_int_:compFn Tryz.prog f_slices_siftDownCmpFunc_int_=some c_slices_siftDownCmpFunc_int_:=by kernel_rfl
theorem k_slices_nextPowerOfTwo:compFn Tryz.prog f_slices_nextPowerOfTwo=some c_slices_nextPowerOfTwo:=by kernel_rfl
theorem k___slices_xorshift__Next:compFn Tryz.prog f___slices_xorshift__Next=some c___slices_xorshift__Next:=by kernel_rfl
theorem k_slices_medianAdjacentCmpFunc_int_:compFn Tryz.prog f_slices_medianAdjacentCmpFunc_int_=some c_slices_medianAdjacentCmpFunc_int_:=by kernel_rfl
theorem k_slices_medianCmpFunc_int_:compFn Tryz.prog f_slices_medianCmpFunc_int_=some c_slices_medianCmpFunc_int_:=by kernel_rfl
theorem k_slices_order2CmpFunc_int_:compFn Tryz.prog f_slices_order2CmpFunc_int_=some c_slices_order2CmpFunc_int_:=by kernel_rfl
end Go.Ab
namespace Go.Ab
open Go Go.Proofs
set_option linter.unusedSimpArgs false
set_option linter.unusedVariables false
set_option maxRecDepth 10000
set_option maxHeartbeats 4000000
variable {T:Nat→Obj→Prop}
def allL (n:Int):BitVec 64:=if n ≥ 64 then -1 else (1#64 <<< n.toNat) - 1#64
theorem fn_plaus_all (n:Int) (h:0≤n):Fn Tryz.prog T f_plaus_all [.d (.int .i64 n)] [] (.d (.u64 (allL n))) []:=by
 refine fn_dataR hmix k_plaus_all (by show 1≤8;decide) ?_
 (repeat' ((conv=>whnf);first|refine vA ?_|(refine vF ?_ ?_<;>intro hc<;>try simp only [vL] at hc)|(refine vP ?_ ?_;·omega)|refine vY ?_));all_goals try conv=>whnf
 ·simp [allL, *]
 ·rw [allL,if_neg (by omega)];rfl
def bad (n:Int) (s:BitVec 64):Bool:=s &&& ~~~ (allL n)≠0
def shapeL (worlds agents:Int) (val:List (BitVec 64)):Int :=
 if worlds < 1∨64 < worlds then 2 else if 8 < val.length∨4 < agents then 8 else if val.any (bad worlds) then 3 else 0
theorem fn_plaus_shape (worlds agents:Int) (val:List (BitVec 64)):Fn Tryz.prog T f_plaus_shape [.d (.int .i64 worlds),.d (.int .i64 agents),.d (dU val)] [] (.d (.int .i64 (shapeL worlds agents val))) []:=by
 refine fn_dataR hmix k_plaus_shape (by show 3≤34;decide) ?_
 (repeat' ((conv=>whnf);first|refine vA ?_|(refine vF ?_ ?_<;>intro hc<;>try simp only [vL] at hc)|refine vJ fun hg=>?_|refine vX ?_));all_goals try conv=>whnf
 ·simp [shapeL, *]
 ·simp [shapeL, *]
 ·rw [shapeL,if_neg (by omega),if_pos (by omega)]
 ·rw [shapeL,if_neg (by omega),if_pos (by omega)]
 ·refine loop_intro (fun (k:Nat)=>[(0,.d (.int .i64 (worlds))),(22,.d (dU val)),(23,.d (.int .i64 ((val.map D.u64).length:Int))),(24,.d (.int .i64 ((k:Int))))]) (fun (k:Nat)=>k≤val.length∧val.any (bad worlds)=(val.drop k).any (bad worlds)) (fun (k:Nat)=>val.length - k) (0) (⟨by simp,by simp⟩) (by (repeat' first|exact trivial|exact rfl|refine And.intro ?_ ?_)) ?_
  rintro k ⟨hk,hI⟩
  (repeat' ((conv=>whnf);first|refine vA ?_|((first|refine vD ?_ ?_|refine vF ?_ ?_)<;>intro hc<;>try simp only [vL] at hc)|(refine vQ ?_ fun x hx=>?_;·omega)|(refine vO ?_ ?_;·omega)|refine vX ?_|(refine yD (fn_plaus_all _ ?_) ⟨⟨rfl,rfl⟩,rfl⟩ rfl ?_;(·omega))|fail));all_goals try conv=>whnf
  ·have hb:bad worlds x=true:=by simpa [bad] using hc
   rw [shapeL,if_neg (by omega),if_neg (by omega),hI,drop_cons hx];simp [hb]
  ·have hb:bad worlds x=false:=by simpa [bad] using hc
   exact ⟨k+1,[],[],⟨by (omega),by rw [hI,drop_cons hx];simp [hb]⟩,by (omega),by (refine ⟨rfl,rfl,rfl,?_,?_⟩;repeat' first|exact trivial|exact rfl|refine And.intro ?_ ?_)⟩
  ·rw [shapeL,if_neg (by omega),if_neg (by omega),hI,List.drop_eq_nil_of_le (by omega)];simp
theorem fn_Equal_int (a b:List Int):Fn Tryz.prog T f_slices_Equal_Lint_int_ [.d (dI a),.d (dI b)] [] (.d (.bool (a==b))) []:=by
 refine fn_dataR hmix k_slices_Equal_Lint_int_ (by show 2≤26;decide) ?_
 (repeat' ((conv=>whnf);first|refine vA ?_|(refine vD ?_ ?_<;>intro hc<;>try simp only [vL] at hc)|refine vJ fun hg=>?_|refine vZ ?_));all_goals try conv=>whnf
 ·have:a≠b:=fun e=>hc (by rw [e])
  simp [this]
 ·refine loop_intro (fun (k:Nat)=>[(0,.d (dI a)),(1,.d (dI b)),(12,.d (.int .i64 ((a.map (D.int .i64)).length:Int))),(13,.d (.int .i64 ((k:Int))))]) (fun (k:Nat)=>k≤a.length∧(a==b)=(a.drop k==b.drop k)) (fun (k:Nat)=>a.length - k) (0) (⟨by simp,by simp⟩) (by (repeat' first|exact trivial|exact rfl|refine And.intro ?_ ?_)) ?_
  rintro k ⟨hk,hI⟩
  (repeat' ((conv=>whnf);first|refine vA ?_|((first|refine vD ?_ ?_|refine vF ?_ ?_)<;>intro hc<;>try simp only [vL] at hc)|(refine vQ ?_ fun x hx=>?_;·omega)|(refine vO ?_ ?_;·omega)|(refine vU ?_ ?_;·kernel_rfl)|refine vZ ?_));all_goals try conv=>whnf
  ·rw [hI,drop_cons ‹a[k]? = some _›,drop_cons ‹b[k]? = some _›];simp [hc]
  ·exact ⟨k+1,[],[],⟨by (omega),by rw [hI,drop_cons ‹a[k]? = some _›,drop_cons ‹b[k]? = some _›];simp [hc]⟩,by (omega),by (refine ⟨rfl,rfl,rfl,?_,?_⟩;repeat' first|exact trivial|exact rfl|refine And.intro ?_ ?_)⟩
  ·rw [hI,List.drop_eq_nil_of_le (by omega),List.drop_eq_nil_of_le (by omega)];rfl
theorem fn_Equal_u64 (a b:List (BitVec 64)):Fn Tryz.prog T f_slices_Equal_Luint64_uint64_ [.d (dU a),.d (dU b)] [] (.d (.bool (a==b))) []:=by
 refine fn_dataR hmix k_slices_Equal_Luint64_uint64_ (by show 2≤26;decide) ?_
 (repeat' ((conv=>whnf);first|refine vA ?_|(refine vD ?_ ?_<;>intro hc<;>try simp only [vL] at hc)|refine vJ fun hg=>?_|refine vZ ?_));all_goals try conv=>whnf
 ·have:a≠b:=fun e=>hc (by rw [e])
  simp [this]
 ·refine loop_intro (fun (k:Nat)=>[(0,.d (dU a)),(1,.d (dU b)),(12,.d (.int .i64 ((a.map D.u64).length:Int))),(13,.d (.int .i64 ((k:Int))))]) (fun (k:Nat)=>k≤a.length∧(a==b)=(a.drop k==b.drop k)) (fun (k:Nat)=>a.length - k) (0) (⟨by simp,by simp⟩) (by (repeat' first|exact trivial|exact rfl|refine And.intro ?_ ?_)) ?_
  rintro k ⟨hk,hI⟩
  (repeat' ((conv=>whnf);first|refine vA ?_|((first|refine vD ?_ ?_|refine vF ?_ ?_)<;>intro hc<;>try simp only [vL] at hc)|(refine vQ ?_ fun x hx=>?_;·omega)|(refine vO ?_ ?_;·omega)|(refine vU ?_ ?_;·kernel_rfl)|refine vZ ?_));all_goals try conv=>whnf
  ·rw [hI,drop_cons ‹a[k]? = some _›,drop_cons ‹b[k]? = some _›];simp [hc]
  ·exact ⟨k+1,[],[],⟨by (omega),by rw [hI,drop_cons ‹a[k]? = some _›,drop_cons ‹b[k]? = some _›];simp [hc]⟩,by (omega),by (refine ⟨rfl,rfl,rfl,?_,?_⟩;repeat' first|exact trivial|exact rfl|refine And.intro ?_ ?_)⟩
  ·rw [hI,List.drop_eq_nil_of_le (by omega),List.drop_eq_nil_of_le (by omega)];rfl
theorem fn_sameInts (a b:List Int):Fn Tryz.prog T f_wittingref33_sameInts [.d (dI a),.d (dI b)] [] (.d (.bool (a==b))) []:=by
 refine fn_dataR hmix k_wittingref33_sameInts (by show 2≤26;decide) ?_
 (repeat' ((conv=>whnf);first|refine vA ?_|(refine vD ?_ ?_<;>intro hc<;>try simp only [vL] at hc)|refine vJ fun hg=>?_|refine vZ ?_));all_goals try conv=>whnf
 ·have:a≠b:=fun e=>hc (by rw [e])
  simp [this]
 ·refine loop_intro (fun (k:Nat)=>[(0,.d (dI a)),(1,.d (dI b)),(5,.d (.int .i64 ((k:Int))))]) (fun (k:Nat)=>k≤a.length∧(a==b)=(a.drop k==b.drop k)) (fun (k:Nat)=>a.length - k) (0) (⟨by simp,by simp⟩) (by (repeat' first|exact trivial|exact rfl|refine And.intro ?_ ?_)) ?_
  rintro k ⟨hk,hI⟩
  (repeat' ((conv=>whnf);first|refine vA ?_|((first|refine vD ?_ ?_|refine vF ?_ ?_)<;>intro hc<;>try simp only [vL] at hc)|refine vJ fun hg=>?_|(refine vQ ?_ fun x hx=>?_;·omega)|(refine vO ?_ ?_;·omega)|(refine vU ?_ ?_;·kernel_rfl)|refine vZ ?_));all_goals try conv=>whnf
  ·rw [hI,drop_cons ‹a[k]? = some _›,drop_cons ‹b[k]? = some _›];simp [hc]
  ·exact ⟨k+1,[],[],⟨by (omega),by rw [hI,drop_cons ‹a[k]? = some _›,drop_cons ‹b[k]? = some _›];simp [hc]⟩,by (omega),by (refine ⟨rfl,rfl,rfl,?_,?_⟩;repeat' first|exact trivial|exact rfl|refine And.intro ?_ ?_)⟩
  ·rw [hI,List.drop_eq_nil_of_le (by omega),List.drop_eq_nil_of_le (by omega)];rfl
theorem fn_ref02_Same (a b:List (BitVec 64)):Fn Tryz.prog T f_wittingref02_Same [.d (dU a),.d (dU b)] [] (.d (.bool (a==b))) []:=by
 refine fn_dataR hmix k_wittingref02_Same (by show 2≤26;decide) ?_
 (repeat' ((conv=>whnf);first|refine vA ?_|(refine vD ?_ ?_<;>intro hc<;>try simp only [vL] at hc)|refine vJ fun hg=>?_|refine vZ ?_));all_goals try conv=>whnf
 ·have:a≠b:=fun e=>hc (by rw [e])
  simp [this]
 ·refine loop_intro (fun (k:Nat)=>[(0,.d (dU a)),(1,.d (dU b)),(5,.d (.int .i64 ((k:Int))))]) (fun (k:Nat)=>k≤a.length∧(a==b)=(a.drop k==b.drop k)) (fun (k:Nat)=>a.length - k) (0) (⟨by simp,by simp⟩) (by (repeat' first|exact trivial|exact rfl|refine And.intro ?_ ?_)) ?_
  rintro k ⟨hk,hI⟩
  (repeat' ((conv=>whnf);first|refine vA ?_|((first|refine vD ?_ ?_|refine vF ?_ ?_)<;>intro hc<;>try simp only [vL] at hc)|refine vJ fun hg=>?_|(refine vQ ?_ fun x hx=>?_;·omega)|(refine vO ?_ ?_;·omega)|(refine vU ?_ ?_;·kernel_rfl)|refine vZ ?_));all_goals try conv=>whnf
  ·rw [hI,drop_cons ‹a[k]? = some _›,drop_cons ‹b[k]? = some _›];simp [hc]
  ·exact ⟨k+1,[],[],⟨by (omega),by rw [hI,drop_cons ‹a[k]? = some _›,drop_cons ‹b[k]? = some _›];simp [hc]⟩,by (omega),by (refine ⟨rfl,rfl,rfl,?_,?_⟩;repeat' first|exact trivial|exact rfl|refine And.intro ?_ ?_)⟩
  ·rw [hI,List.drop_eq_nil_of_le (by omega),List.drop_eq_nil_of_le (by omega)];rfl
theorem fn_EqualFunc (a b:List (List Int)):Fn Tryz.prog T f_slices_EqualFunc_LLint_LLint_Lint_Lint_ [.d (dII a),.d (dII b),.d (.fn f_slices_Equal_Lint_int_ [])] [] (.d (.bool (a==b))) []:=by
 refine fn_dataR hmix k_slices_EqualFunc_LLint_LLint_Lint_Lint_ (by show 3≤32;decide) ?_
 (repeat' ((conv=>whnf);first|refine vA ?_|(refine vD ?_ ?_<;>intro hc<;>try simp only [vL] at hc)|refine vJ fun hg=>?_|refine vZ ?_));all_goals try conv=>whnf
 ·have:a≠b:=fun e=>hc (by rw [e])
  simp [this]
 ·refine loop_intro (fun (k:Nat)=>[(1,.d (dII b)),(2,.d (.fn f_slices_Equal_Lint_int_ [])),(15,.d (dII a)),(16,.d (.int .i64 ((a.map dI).length:Int))),(17,.d (.int .i64 ((k:Int))))]) (fun (k:Nat)=>k≤a.length∧(a==b)=(a.drop k==b.drop k)) (fun (k:Nat)=>a.length - k) (0) (⟨by simp,by simp⟩) (by (repeat' first|exact trivial|exact rfl|refine And.intro ?_ ?_)) ?_
  rintro k ⟨hk,hI⟩
  (repeat' ((conv=>whnf);first|refine vA ?_|refine vE ?_|((first|refine vF ?_ ?_|refine vI ?_ ?_)<;>intro hc<;>try simp only [vL] at hc)|(refine vQ ?_ fun x hx=>?_;·omega)|(refine vO ?_ ?_;·omega)|refine vZ ?_|refine yD (fn_Equal_int _ _) ⟨⟨rfl,rfl⟩,⟨rfl,rfl⟩,rfl⟩ rfl ?_));all_goals try conv=>whnf
  ·exact ⟨k+1,[],[],⟨by (omega),by rw [hI,drop_cons ‹a[k]? = some _›,drop_cons ‹b[k]? = some _›];simp_all⟩,by (omega),by (refine ⟨rfl,rfl,rfl,?_,?_⟩;repeat' first|exact trivial|exact rfl|refine And.intro ?_ ?_)⟩
  ·rw [hI,drop_cons ‹a[k]? = some _›,drop_cons ‹b[k]? = some _›];simp_all
  ·rw [hI,List.drop_eq_nil_of_le (by omega),List.drop_eq_nil_of_le (by omega)];rfl
theorem fn_Same_1 (a b:List (List Int)):Fn Tryz.prog T f_plaus_Same_1 [.d (dII a),.d (dII b)] [] (.d (.bool (a==b))) []:=by
 refine fn_dataR hmix k_plaus_Same_1 (by show 2≤8;decide) ?_
 (repeat' ((conv=>whnf);first|refine vZ ?_|refine yD (fn_EqualFunc _ _) ⟨⟨rfl,rfl⟩,⟨rfl,rfl⟩,⟨rfl,rfl⟩,rfl⟩ rfl ?_));all_goals try conv=>whnf
structure PM where
 W:Int
 val:List (BitVec 64)
 cell:List (List Int)
 rank:List (List Int)
 deriving DecidableEq
abbrev dPM (p:PM):D := .agg [.int .i64 p.W,dU p.val,dII p.cell,dII p.rank]
theorem fn_plaus_Same (p q:PM):Fn Tryz.prog T f_plaus_Same [.d (dPM p),.d (dPM q)] [] (.d (.bool (decide (p=q)))) []:=by
 obtain ⟨W,v,c,r⟩:=p
 obtain ⟨W',v',c',r'⟩:=q
 refine fn_dataR hmix k_plaus_Same (by show 2≤34;decide) ?_
 (repeat' ((conv=>whnf);first|refine vA ?_|((first|refine vF ?_ ?_|refine vI ?_ ?_)<;>intro hc<;>try simp only [vL] at hc)|refine vZ ?_|refine yD (fn_Equal_u64 _ _) ⟨⟨rfl,rfl⟩,⟨rfl,rfl⟩,rfl⟩ rfl ?_|refine yD (fn_Same_1 _ _) ⟨⟨rfl,rfl⟩,⟨rfl,rfl⟩,rfl⟩ rfl ?_));all_goals try conv=>whnf
 ·show (r==r')=_
  rw [Bool.eq_iff_iff];simp_all
 all_goals simp_all
theorem bit_one (s:BitVec 64) (n:Nat):(s >>> n)&&&1#64=1#64↔s.getLsbD n=true:=by
 constructor
 ·intro h
  have:=congrArg (fun x=>x.getLsbD 0) h
  simpa using this
 ·intro h
  apply BitVec.eq_of_getLsbD_eq
  intro i hi
  by_cases h0:i=0
  ·subst h0;simpa using h
  ·simp [h0]
theorem bit_zero (s:BitVec 64) (n:Nat):(s >>> n)&&&1#64=0#64↔s.getLsbD n=false:=by
 constructor
 ·intro h
  have:=congrArg (fun x=>x.getLsbD 0) h
  simpa using this
 ·intro h
  apply BitVec.eq_of_getLsbD_eq
  intro i hi
  by_cases h0:i=0
  ·subst h0;simpa using h
  ·simp [h0]
@[irreducible] def bit (s:BitVec 64) (i:Nat):Bool:=s.getLsbD i
def at0 (l:List Int) (i:Nat):Int:=l.getD i 0
theorem at0_of {l:List Int} {i:Nat} {x:Int} (h:l[i]? = some x):at0 l i=x:=by simp [at0,List.getD,h]
theorem get_at0 {l:List Int} {i:Nat} (h:i < l.length):l[i]? = some (at0 l i):=by simp [at0,List.getD,h]
abbrev Cells (cell:List Int):Prop := ∀ w,w < cell.length→0≤at0 cell w∧at0 cell w≤w∧at0 cell (at0 cell w).toNat=at0 cell w
abbrev Ranked (cell rank:List Int):Prop := ∀ w,w < cell.length→0≤at0 rank w∧(at0 rank w=0 ∨ ∃ v,v < cell.length∧at0 cell v=at0 cell w∧at0 rank v=at0 rank w - 1)
end Go.Ab
namespace Go.Ab
open Go Go.Proofs
set_option linter.unusedSimpArgs false
set_option linter.unusedVariables false
set_option maxRecDepth 10000
set_option maxHeartbeats 4000000
variable {T:Nat→Obj→Prop}
theorem fn_ref33_Same (p q:PM):Fn Tryz.prog T f_wittingref33_Same [.d (dPM p),.d (dPM q)] [] (.d (.bool (decide (p=q)))) []:=by
 refine fn_dataR hmix k_wittingref33_Same (by show 2≤76;decide) ?_
 (repeat' ((conv=>whnf);first|refine vA ?_|refine vE ?_|((first|refine vD ?_ ?_|refine vI ?_ ?_)<;>intro hc<;>try simp only [vL] at hc)|refine vJ fun hg=>?_|refine vZ ?_|refine yD (fn_ref02_Same _ _) ⟨⟨rfl,rfl⟩,⟨rfl,rfl⟩,rfl⟩ rfl ?_));all_goals try conv=>whnf
 ·symm;rw [decide_eq_false_iff_not];rintro rfl;simp_all
 ·symm;rw [decide_eq_false_iff_not];rintro rfl;simp_all
 ·symm;rw [decide_eq_false_iff_not];rintro rfl;simp_all
 ·refine loop_mem (fun (k:Nat)=>[(2,.ptr 0 0),(3,.ptr 1 0),(5,.d (.int .i64 ((k:Int))))]) (fun (k:Nat)=>[(0,some (.box [.d (.int .i64 p.W),.d (dU p.val),.d (dII p.cell),.d (dII p.rank)])),(1,some (.box [.d (.int .i64 q.W),.d (dU q.val),.d (dII q.cell),.d (dII q.rank)]))]) 2 (fun (k:Nat)=>k≤p.cell.length∧(p.cell==q.cell)=(p.cell.drop k==q.cell.drop k)) (fun (k:Nat)=>p.cell.length - k) (0) [(0,0),(1,1)] [] (⟨by simp,by simp⟩) (by (refine ⟨rfl,rfl,rfl,?_,?_⟩;repeat' first|exact trivial|exact rfl|refine And.intro ?_ ?_|refine ⟨_,rfl,?_⟩|decide)) ?_
  rintro k ⟨hk,hI⟩
  (repeat' ((conv=>whnf);first|refine vA ?_|refine vE ?_|((first|refine vF ?_ ?_|refine vI ?_ ?_)<;>intro hc<;>try simp only [vL] at hc)|refine vJ fun hg=>?_|(refine vQ ?_ fun x hx=>?_;·omega)|(refine vO ?_ ?_;·omega)|(refine vU ?_ ?_;·kernel_rfl)|refine vZ ?_|refine yD (fn_sameInts _ _) ⟨⟨rfl,rfl⟩,⟨rfl,rfl⟩,rfl⟩ rfl ?_));all_goals try conv=>whnf
  ·exact ⟨k+1,[(0,0),(1,1)],[],⟨by (omega),by rw [hI,drop_cons ‹p.cell[k]? = some _›,drop_cons ‹q.cell[k]? = some _›];simp_all⟩,by (omega),by (refine ⟨rfl,rfl,rfl,?_,?_⟩;repeat' first|exact trivial|exact rfl|refine And.intro ?_ ?_|refine ⟨_,rfl,?_⟩|decide)⟩
  ·symm;rw [decide_eq_false_iff_not];rintro rfl
   have:=drop_cons ‹p.cell[k]? = some _›;simp_all
  ·rw [List.drop_eq_nil_of_le (by omega),List.drop_eq_nil_of_le (by omega)] at hI
   refine loop_mem (fun (k:Nat)=>[(2,.ptr 0 0),(3,.ptr 1 0),(6,.d (.int .i64 ((k:Int))))]) (fun (k:Nat)=>[(0,some (.box [.d (.int .i64 p.W),.d (dU p.val),.d (dII p.cell),.d (dII p.rank)])),(1,some (.box [.d (.int .i64 q.W),.d (dU q.val),.d (dII q.cell),.d (dII q.rank)]))]) 2 (fun (k:Nat)=>k≤p.rank.length∧(p.rank==q.rank)=(p.rank.drop k==q.rank.drop k)) (fun (k:Nat)=>p.rank.length - k) (0) [(0,0),(1,1)] [] (⟨by simp,by simp⟩) (by (refine ⟨rfl,rfl,rfl,?_,?_⟩;repeat' first|exact trivial|exact rfl|refine And.intro ?_ ?_|refine ⟨_,rfl,?_⟩|decide)) ?_
   rintro k ⟨hk,hJ⟩
   (repeat' ((conv=>whnf);first|refine vA ?_|refine vE ?_|((first|refine vF ?_ ?_|refine vI ?_ ?_)<;>intro hc<;>try simp only [vL] at hc)|refine vJ fun hg=>?_|(refine vQ ?_ fun x hx=>?_;·omega)|(refine vO ?_ ?_;·omega)|(refine vU ?_ ?_;·kernel_rfl)|refine vZ ?_|refine yD (fn_sameInts _ _) ⟨⟨rfl,rfl⟩,⟨rfl,rfl⟩,rfl⟩ rfl ?_));all_goals try conv=>whnf
   ·exact ⟨k+1,[(0,0),(1,1)],[],⟨by (omega),by rw [hJ,drop_cons ‹p.rank[k]? = some _›,drop_cons ‹q.rank[k]? = some _›];simp_all⟩,by (omega),by (refine ⟨rfl,rfl,rfl,?_,?_⟩;repeat' first|exact trivial|exact rfl|refine And.intro ?_ ?_|refine ⟨_,rfl,?_⟩|decide)⟩
   ·symm;rw [decide_eq_false_iff_not];rintro rfl
    simp_all
   ·rw [List.drop_eq_nil_of_le (by omega),List.drop_eq_nil_of_le (by omega)] at hJ
    cases p;cases q;simp_all
 ·symm;rw [decide_eq_false_iff_not];rintro rfl;simp_all
def setTo (f:Nat→Bool):Nat→BitVec 64
 | 0=>0#64
 | k+1=>if f k then setTo f k|||1#64 <<< k else setTo f k
theorem bit_pow (k i:Nat):(1#64 <<< k).getLsbD i=(decide (i < 64)&&decide (i=k)):=by
 rw [BitVec.getLsbD_shiftLeft]
 by_cases h:i < 64
 ·by_cases h1:i < k
  ·simp [h,h1];omega
  ·by_cases h2:i=k
   ·subst h2;simp [h]
   ·have:i - k≠0:=by omega
    simp [h,h1,h2,this]
 ·simp [h]
theorem setTo_bit (f:Nat→Bool) : ∀ (n i:Nat),(setTo f n).getLsbD i=(decide (i < 64)&&decide (i < n)&&f i)
 | 0,i=>by simp [setTo]
 | n+1,i=>by
  have ih:=setTo_bit f n i
  unfold setTo
  split
  ·rename_i h
   rw [BitVec.getLsbD_or,ih,bit_pow]
   by_cases h1:i=n
   ·subst h1;simp [h]
   ·by_cases h2:i < n
    ·simp [h1,h2,show i < n+1 by omega]
    ·simp [h1,h2,show ¬ i < n+1 by omega]
  ·rename_i h
   rw [ih]
   by_cases h1:i=n
   ·subst h1;simp [h]
   ·by_cases h2:i < n
    ·simp [h2,show i < n+1 by omega]
    ·simp [h2,show ¬ i < n+1 by omega]
def cellSet (row:List Int) (w:Nat):BitVec 64:=setTo (fun v=>at0 row v==at0 row w) row.length
theorem fn_cellOf (p:PM) (a w:Int) (row:List Int) (ha:0≤a) (hr:p.cell[a.toNat]? = some row) (hw:0≤w) (hw':w < row.length):Fn Tryz.prog T f_plaus_cellOf [.d (dPM p),.d (.int .i64 a),.d (.int .i64 w)] [] (.d (.u64 (cellSet row w.toNat))) []:=by
 refine fn_dataR hmix k_plaus_cellOf (by show 3≤37;decide) ?_
 (repeat' ((conv=>whnf);first|refine vA ?_|refine vJ fun hg=>?_|(refine vR ?_ ‹_› ?_;·omega)|fail));all_goals try conv=>whnf
 refine loop_mem (fun ((k,s):Nat×BitVec 64)=>[(1,.d (.int .i64 (a))),(2,.d (.int .i64 (w))),(3,.ptr 0 0),(14,.d (dI row)),(15,.d (.int .i64 ((row.map (D.int .i64)).length:Int))),(7,.d (.u64 (s))),(16,.d (.int .i64 ((k:Int))))]) (fun ((k,s):Nat×BitVec 64)=>[(0,some (.box [.d (.int .i64 p.W),.d (dU p.val),.d (dII p.cell),.d (dII p.rank)]))]) 1 (fun ((k,s):Nat×BitVec 64)=>k≤row.length∧s=setTo (fun v=>at0 row v==at0 row w.toNat) k) (fun ((k,s):Nat×BitVec 64)=>row.length - k) ((0,0#64)) [(0,0)] [] (⟨by simp,rfl⟩) (by (refine ⟨rfl,rfl,rfl,?_,?_⟩;repeat' first|exact trivial|exact rfl|refine And.intro ?_ ?_|refine ⟨_,rfl,?_⟩|decide)) ?_
 rintro ⟨k,s⟩ ⟨hk,hI⟩
 (repeat' ((conv=>whnf);first|refine vA ?_|(refine vF ?_ ?_<;>intro hc<;>try simp only [vL] at hc)|(refine vQ ?_ fun x hx=>?_;·omega)|((first|refine vO ?_ ?_|refine vR ?_ ‹_› ?_|refine vS ?_ fun x hx=>?_|refine vP ?_ ?_);·omega)|refine vY ?_));all_goals try conv=>whnf
 ·have h1:=at0_of ‹row[k]? = some _›
  have h2:=at0_of hx
  refine ⟨(k+1,_),[(0,0)],[],?_,?_,by (refine ⟨rfl,rfl,rfl,?_,?_⟩;repeat' first|exact trivial|exact rfl|refine And.intro ?_ ?_|refine ⟨_,rfl,?_⟩|decide)⟩
  ·exact ⟨by (omega),by rw [setTo,if_pos (by simp;omega),hI];rfl⟩
  ·((simp only [vM] at *;omega))
 ·have h1:=at0_of ‹row[k]? = some _›
  have h2:=at0_of hx
  exact ⟨(k+1,s),[(0,0)],[],⟨by (omega),by rw [setTo,if_neg (by simp;omega),hI]⟩,by ((simp only [vM] at *;omega)),by (refine ⟨rfl,rfl,rfl,?_,?_⟩;repeat' first|exact trivial|exact rfl|refine And.intro ?_ ?_|refine ⟨_,rfl,?_⟩|decide)⟩
 ·rw [hI,show k=row.length by omega];rfl
def leastIn (rank:List Int) (s:BitVec 64) (n v:Nat):Bool:=s.getLsbD v&&decide (∀ u,u < n→s.getLsbD u=true→at0 rank v≤at0 rank u)
def bestSet (rank:List Int) (s:BitVec 64):BitVec 64:=setTo (leastIn rank s rank.length) rank.length
theorem bit_true {s:BitVec 64} {n:Nat} (h : ¬(s >>> n)&&&1#64=0#64):s.getLsbD n=true:=by
 rw [bit_zero] at h;simpa using h
theorem leastIn_iff {rank:List Int} {s:BitVec 64} {n v:Nat} : leastIn rank s n v=true↔s.getLsbD v=true ∧ ∀ u,u < n→s.getLsbD u=true→at0 rank v≤at0 rank u:=by
 simp [leastIn]
theorem best_bit {rank:List Int} {s:BitVec 64} {n i:Nat} : (setTo (leastIn rank s n) n).getLsbD i=true↔i < n∧s.getLsbD i=true ∧ ∀ u,u < n→s.getLsbD u=true→at0 rank i≤at0 rank u:=by
 rw [setTo_bit]
 simp only [Bool.and_eq_true,decide_eq_true_eq,leastIn_iff]
 constructor
 ·rintro ⟨⟨_,h1⟩,h2⟩;exact ⟨h1,h2⟩
 ·rintro ⟨h1,h2⟩;exact ⟨⟨by have:=BitVec.lt_of_getLsbD h2.1;exact this,h1⟩,h2⟩
theorem bits_ext {x y:BitVec 64} (h : ∀ i,i < 64→(x.getLsbD i=true↔y.getLsbD i=true)):x=y :=
 BitVec.eq_of_getLsbD_eq fun i hi=>Bool.eq_iff_iff.2 (h i hi)
def Least (rank:List Int) (s:BitVec 64) (k:Nat) (m:Int):Prop:=(∃ v,v < k∧s.getLsbD v=true)→(∃ v,v < k∧s.getLsbD v=true∧at0 rank v=m) ∧ ∀ v,v < k→s.getLsbD v=true→m≤at0 rank v
theorem best_none {rank:List Int} {s:BitVec 64} {k:Nat} {m:Int} (hM:Least rank s k m):setTo (leastIn rank s k) k=0#64 ↔ ¬∃ v,v < k∧s.getLsbD v=true:=by
 constructor
 ·intro h hv
  obtain ⟨⟨v,h1,h2,h3⟩,h4⟩:=hM hv
  have:(setTo (leastIn rank s k) k).getLsbD v=true:=best_bit.2 ⟨h1,h2,fun u hu hs=>by rw [h3];exact h4 u hu hs⟩
  rw [h] at this;simp at this
 ·intro h
  refine bits_ext fun i hi=>⟨fun hb=>?_,fun hb=>by simp at hb⟩
  exact absurd ⟨i,(best_bit.1 hb).1,(best_bit.1 hb).2.1⟩ h
theorem best_skip {rank:List Int} {s:BitVec 64} {k:Nat} (hs:s.getLsbD k=false):setTo (leastIn rank s (k+1)) (k+1)=setTo (leastIn rank s k) k:=by
 refine bits_ext fun i hi=>?_
 rw [best_bit,best_bit]
 constructor
 ·rintro ⟨h1,h2,h3⟩
  have:i≠k:=fun e=>by rw [e,hs] at h2;cases h2
  exact ⟨by omega,h2,fun u hu=>h3 u (by omega)⟩
 ·rintro ⟨h1,h2,h3⟩
  refine ⟨by omega,h2,fun u hu hsu=>?_⟩
  have:u≠k:=fun e=>by rw [e,hs] at hsu;cases hsu
  exact h3 u (by omega) hsu
theorem least_skip {rank:List Int} {s:BitVec 64} {k:Nat} {m:Int} (hM:Least rank s k m) (hs:s.getLsbD k=false):Least rank s (k+1) m:=by
 have key : ∀ v,v < k+1→s.getLsbD v=true→v < k:=fun v hv h=>by
  have:v≠k:=fun e=>by rw [e,hs] at h;cases h
  omega
 rintro ⟨v,h1,h2⟩
 obtain ⟨⟨u,h3,h4⟩,h5⟩:=hM ⟨v,key v h1 h2,h2⟩
 exact ⟨⟨u,by omega,h4⟩,fun v hv h=>h5 v (key v hv h) h⟩
theorem best_new {rank:List Int} {s:BitVec 64} {k:Nat} (hk:k < 64) (hs:s.getLsbD k=true) (h : ∀ v,v < k→s.getLsbD v=true→at0 rank k < at0 rank v):setTo (leastIn rank s (k+1)) (k+1)=1#64 <<< k:=by
 refine bits_ext fun i hi=>?_
 rw [best_bit,bit_pow]
 simp only [Bool.and_eq_true,decide_eq_true_eq]
 constructor
 ·rintro ⟨h1,h2,h3⟩
  refine ⟨hi,?_⟩
  by_cases e:i=k
  ·exact e
  ·have:=h i (by omega) h2
   have:=h3 k (by omega) hs
   omega
 ·rintro ⟨_,rfl⟩
  refine ⟨by omega,hs,fun u hu hsu=>?_⟩
  by_cases e:u=i
  ·rw [e];omega
  ·have:=h u (by omega) hsu;omega
theorem least_new {rank:List Int} {s:BitVec 64} {k:Nat} (hs:s.getLsbD k=true) (h : ∀ v,v < k→s.getLsbD v=true→at0 rank k < at0 rank v):Least rank s (k+1) (at0 rank k):=by
 rintro _
 refine ⟨⟨k,by omega,hs,rfl⟩,fun v hv hsv=>?_⟩
 by_cases e:v=k
 ·rw [e];omega
 ·have:=h v (by omega) hsv;omega
theorem best_also {rank:List Int} {s:BitVec 64} {k:Nat} {m:Int} (hk:k < 64) (hs:s.getLsbD k=true) (hM:Least rank s k m) (hv : ∃ v,v < k∧s.getLsbD v=true) (e:at0 rank k=m) :
  setTo (leastIn rank s (k+1)) (k+1)=setTo (leastIn rank s k) k|||1#64 <<< k:=by
 obtain ⟨⟨w,w1,w2,w3⟩,w4⟩:=hM hv
 refine bits_ext fun i hi=>?_
 rw [BitVec.getLsbD_or,Bool.or_eq_true,best_bit,best_bit,bit_pow]
 simp only [Bool.and_eq_true,decide_eq_true_eq]
 constructor
 ·rintro ⟨h1,h2,h3⟩
  by_cases e:i=k
  ·exact .inr ⟨hi,e⟩
  ·exact .inl ⟨by omega,h2,fun u hu=>h3 u (by omega)⟩
 ·rintro (⟨h1,h2,h3⟩|⟨_,rfl⟩)
  ·refine ⟨by omega,h2,fun u hu hsu=>?_⟩
   by_cases e':u=k
   ·rw [e',e,← w3];exact h3 w w1 w2
   ·exact h3 u (by omega) hsu
  ·refine ⟨by omega,hs,fun u hu hsu=>?_⟩
   by_cases e':u=i
   ·rw [e'];omega
   ·have:=w4 u (by omega) hsu;omega
theorem least_more {rank:List Int} {s:BitVec 64} {k:Nat} {m:Int} (hM:Least rank s k m) (hv : ∃ v,v < k∧s.getLsbD v=true) (e:m≤at0 rank k):Least rank s (k+1) m:=by
 obtain ⟨⟨w,w1,w2⟩,w4⟩:=hM hv
 refine fun _=>⟨⟨w,by omega,w2⟩,fun v hv hsv=>?_⟩
 by_cases e':v=k
 ·rw [e'];exact e
 ·exact w4 v (by omega) hsv
theorem best_more {rank:List Int} {s:BitVec 64} {k:Nat} {m:Int} (hs:s.getLsbD k=true) (hM:Least rank s k m) (hv : ∃ v,v < k∧s.getLsbD v=true) (e:m < at0 rank k) :
  setTo (leastIn rank s (k+1)) (k+1)=setTo (leastIn rank s k) k:=by
 obtain ⟨⟨w,w1,w2,w3⟩,w4⟩:=hM hv
 refine bits_ext fun i hi=>?_
 rw [best_bit,best_bit]
 constructor
 ·rintro ⟨h1,h2,h3⟩
  have:i≠k:=fun e'=>by have:=h3 w (by omega) w2;rw [e'] at this;omega
  exact ⟨by omega,h2,fun u hu=>h3 u (by omega)⟩
 ·rintro ⟨h1,h2,h3⟩
  refine ⟨by omega,h2,fun u hu hsu=>?_⟩
  by_cases e':u=k
  ·have:=h3 w w1 w2;rw [e'];omega
  ·exact h3 u (by omega) hsu
theorem fn_bestOf (rank:List Int) (s:BitVec 64) (hl:rank.length≤64):Fn Tryz.prog T f_plaus_bestOf [.d (dI rank),.d (.u64 s)] [] (.d (.u64 (bestSet rank s))) []:=by
 refine fn_dataR hmix k_plaus_bestOf (by show 2≤43;decide) ?_
 (repeat' ((conv=>whnf);first|refine vA ?_|refine vJ fun hg=>?_));all_goals try conv=>whnf
 refine loop_intro (fun ((k,o,m):Nat×BitVec 64×Int)=>[(1,.d (.u64 (s))),(9,.d (dI rank)),(10,.d (.int .i64 ((rank.map (D.int .i64)).length:Int))),(5,.d (.u64 (o))),(6,.d (.int .i64 (m))),(11,.d (.int .i64 ((k:Int))))]) (fun ((k,o,m):Nat×BitVec 64×Int)=>k≤rank.length∧o=setTo (leastIn rank s k) k∧Least rank s k m) (fun ((k,o,m):Nat×BitVec 64×Int)=>rank.length - k) ((0,0#64,0)) (⟨by simp,rfl,fun ⟨v,h,_⟩=>by omega⟩) (by (repeat' first|exact trivial|exact rfl|refine And.intro ?_ ?_)) ?_
 rintro ⟨k,o,m⟩ ⟨hk,hI,hM⟩
 (repeat' ((conv=>whnf);first|refine vA ?_|(refine vF ?_ ?_<;>intro hc<;>try simp only [vL] at hc)|(refine vQ ?_ fun x hx=>?_;·omega)|((first|refine vO ?_ ?_|refine vP ?_ ?_);·omega)|refine vY ?_));all_goals try conv=>whnf
 ·have hb:=(bit_zero s k).1 hc
  exact ⟨(k+1,o,m),[],[],⟨by (omega),by rw [best_skip hb,hI],least_skip hM hb⟩,by ((simp only [vM] at *;omega)),by (refine ⟨rfl,rfl,rfl,?_,?_⟩;repeat' first|exact trivial|exact rfl|refine And.intro ?_ ?_)⟩
 ·have hb:s.getLsbD k=true:=bit_true ‹¬s >>> (k:Int).toNat&&&1=0›
  have h0:=at0_of hx
  subst h0
  have hn:=(best_none hM).1 (hI▸hc)
  have hn' : ∀ v,v < k→s.getLsbD v=true→at0 rank k < at0 rank v:=fun v h1 h2=>absurd ⟨v,h1,h2⟩ hn
  exact ⟨(k+1,1#64 <<< k,at0 rank k),[],[],⟨by (omega),(best_new (by omega) hb hn').symm,least_new hb hn'⟩,by ((simp only [vM] at *;omega)),by (refine ⟨rfl,rfl,rfl,?_,?_⟩;repeat' first|exact trivial|exact rfl|refine And.intro ?_ ?_)⟩
 ·have hb:s.getLsbD k=true:=bit_true ‹¬s >>> (k:Int).toNat&&&1=0›
  have h0:=at0_of hx
  subst h0
  have hn:=Classical.not_not.1 (fun h=>‹¬o=0› (hI.trans ((best_none hM).2 h)))
  have hn' : ∀ v,v < k→s.getLsbD v=true→at0 rank k < at0 rank v:=fun v h1 h2=>by have:=(hM hn).2 v h1 h2;omega
  exact ⟨(k+1,1#64 <<< k,at0 rank k),[],[],⟨by (omega),(best_new (by omega) hb hn').symm,least_new hb hn'⟩,by ((simp only [vM] at *;omega)),by (refine ⟨rfl,rfl,rfl,?_,?_⟩;repeat' first|exact trivial|exact rfl|refine And.intro ?_ ?_)⟩
 ·have hb:s.getLsbD k=true:=bit_true ‹¬s >>> (k:Int).toNat&&&1=0›
  have h0:=at0_of hx
  subst h0
  have hn:=Classical.not_not.1 (fun h=>‹¬o=0› (hI.trans ((best_none hM).2 h)))
  exact ⟨(k+1,o|||1#64 <<< k,m),[],[],⟨by (omega),by rw [best_also (by omega) hb hM hn hc,hI],least_more hM hn (by omega)⟩,by ((simp only [vM] at *;omega)),by (refine ⟨rfl,rfl,rfl,?_,?_⟩;repeat' first|exact trivial|exact rfl|refine And.intro ?_ ?_)⟩
 ·have hb:s.getLsbD k=true:=bit_true ‹¬s >>> (k:Int).toNat&&&1=0›
  have h0:=at0_of hx
  subst h0
  have hn:=Classical.not_not.1 (fun h=>‹¬o=0› (hI.trans ((best_none hM).2 h)))
  exact ⟨(k+1,o,m),[],[],⟨by (omega),by rw [best_more hb hM hn (by omega),hI],least_more hM hn (by omega)⟩,by ((simp only [vM] at *;omega)),by (refine ⟨rfl,rfl,rfl,?_,?_⟩;repeat' first|exact trivial|exact rfl|refine And.intro ?_ ?_)⟩
 ·rw [hI,show k=rank.length by omega];rfl
end Go.Ab
namespace Go.Ab
open Go Go.Proofs
set_option linter.unusedSimpArgs false
set_option linter.unusedVariables false
set_option maxRecDepth 10000
set_option maxHeartbeats 4000000
variable {T:Nat→Obj→Prop}
def rowAt (l:List (List Int)) (a:Nat):List Int:=l.getD a []
theorem rowAt_of {l:List (List Int)} {i:Nat} {x:List Int} (h:l[i]? = some x):rowAt l i=x:=by simp [rowAt,List.getD,h]
theorem get_rowAt {l:List (List Int)} {i:Nat} (h:i < l.length):l[i]? = some (rowAt l i):=by simp [rowAt,List.getD,h]
abbrev Lens (p:PM):Prop := ∀ a,a < p.cell.length→((rowAt p.cell a).length:Int)=p.W∧((rowAt p.rank a).length:Int)=p.W
abbrev AllCells (p:PM):Prop := ∀ a,a < p.cell.length→Cells (rowAt p.cell a)
abbrev AllRanked (p:PM):Prop := ∀ a,a < p.cell.length→Ranked (rowAt p.cell a) (rowAt p.rank a)
def checkL (p:PM):Int :=
 if shapeL p.W p.cell.length p.val≠0 then shapeL p.W p.cell.length p.val
 else if p.rank.length≠p.cell.length then 3
 else if ¬Lens p then 3
 else if ¬AllCells p then 1
 else if ¬AllRanked p then 9
 else 0
structure Good (p:PM):Prop where
 w1:1≤p.W
 w2:p.W≤64
 val : ∀ s∈p.val,bad p.W s=false
 n4:p.cell.length≤4
 v8:p.val.length≤8
 len:p.rank.length=p.cell.length
 lens:Lens p
 cells:AllCells p
 ranked:AllRanked p
theorem shapeL_ok {W n:Int} {val:List (BitVec 64)} (h:shapeL W n val=0):1≤W∧W≤64∧val.length≤8∧n≤4 ∧ ∀ s∈val,bad W s=false:=by
 unfold shapeL at h
 split at h
 ·cases h
 ·split at h
  ·cases h
  ·split at h
   ·cases h
   ·rename_i h1 h2 h3
    refine ⟨by omega,by omega,by omega,by omega,fun s hs=>?_⟩
    simp only [List.any_eq_true,not_exists,not_and] at h3
    simpa using h3 s hs
theorem checkL_good {p:PM} (h:checkL p=0):Good p:=by
 unfold checkL at h
 split at h
 ·rename_i h0;exact absurd h h0
 ·rename_i h0
  obtain ⟨a1,a2,a3,a4,a5⟩:=shapeL_ok (Classical.not_not.1 h0)
  split at h
  ·cases h
  ·split at h
   ·cases h
   ·split at h
    ·cases h
    ·split at h
     ·cases h
     ·rename_i h1 h2 h3 h4
      exact ⟨a1,a2,a5,by omega,a3,Classical.not_not.1 h1,Classical.not_not.1 h2,Classical.not_not.1 h3,Classical.not_not.1 h4⟩
def IntsOk (l:List (List Int)):Prop := ∀ r∈l,∀ x∈r,inR .i64 x
abbrev boxPM (p:PM):Ob := .box [.d (.int .i64 p.W),.d (dU p.val),.d (dII p.cell),.d (dII p.rank)]
theorem checkL_3 {p:PM} (h0:shapeL p.W p.cell.length p.val=0) (h1:p.rank.length=p.cell.length) (h : ¬Lens p):checkL p=3:=by
 rw [checkL,if_neg (by omega),if_neg (by omega),if_pos h]
theorem checkL_1 {p:PM} (h0:shapeL p.W p.cell.length p.val=0) (h1:p.rank.length=p.cell.length) (h2:Lens p) (h : ¬AllCells p):checkL p=1:=by
 rw [checkL,if_neg (by omega),if_neg (by omega),if_neg (not_not_intro h2),if_pos h]
theorem checkL_9 {p:PM} (h0:shapeL p.W p.cell.length p.val=0) (h1:p.rank.length=p.cell.length) (h2:Lens p) (h3:AllCells p) (h : ¬AllRanked p):checkL p=9:=by
 rw [checkL,if_neg (by omega),if_neg (by omega),if_neg (not_not_intro h2),if_neg (not_not_intro h3),if_pos h]
theorem checkL_0 {p:PM} (h0:shapeL p.W p.cell.length p.val=0) (h1:p.rank.length=p.cell.length) (h2:Lens p) (h3:AllCells p) (h4:AllRanked p):checkL p=0:=by
 rw [checkL,if_neg (by omega),if_neg (by omega),if_neg (not_not_intro h2),if_neg (not_not_intro h3),if_neg (not_not_intro h4)]
theorem fn_known (hC : ∀ p,IntsOk p.rank→Fn Tryz.prog T f_plaus_Check [.d (dPM p)] [] (.d (.int .i64 (checkL p))) []) (p:PM) (hp:IntsOk p.rank) (a w:Int):Fn Tryz.prog T f_plaus_known [.d (dPM p),.d (.int .i64 a),.d (.int .i64 w)] [] (.d (.bool (decide (checkL p=0∧0≤a∧a < p.cell.length∧0≤w∧w < p.W)))) []:=by
 refine fn_dataR hmix k_plaus_known (by show 3≤31;decide) ?_
 (repeat' ((conv=>whnf);first|refine vA ?_|(refine vF ?_ ?_<;>intro hc<;>try simp only [vL] at hc)|refine vJ fun hg=>?_|refine vZ ?_|refine yD (hC _ hp) (by (repeat refine ⟨⟨rfl,rfl⟩,?_⟩);rfl) rfl ?_));all_goals try conv=>whnf
 ·simp [*]
 all_goals
  symm;rw [decide_eq_false_iff_not];omega
theorem fn_Few (p:PM):Fn Tryz.prog T f_wittingref33_Few [.d (dPM p)] [] (.d (.bool (decide (p.val.length≤20∧p.cell.length≤8∧p.rank.length≤8∧(∀ a,a < p.cell.length→(rowAt p.cell a).length≤20) ∧ ∀ a,a < p.rank.length→(rowAt p.rank a).length≤20)))) []:=by
 refine fn_dataR hmix k_wittingref33_Few (by show 1≤49;decide) ?_
 (repeat' ((conv=>whnf);first|refine vA ?_|(refine vF ?_ ?_<;>intro hc<;>try simp only [vL] at hc)|refine vJ fun hg=>?_|refine vZ ?_));all_goals try conv=>whnf
 iterate 3
  ·symm;rw [decide_eq_false_iff_not];omega
 refine loop_mem (fun (k:Nat)=>[(1,.ptr 0 0),(3,.d (.int .i64 ((k:Int))))]) (fun (k:Nat)=>[(0,some (boxPM p))]) 1 (fun (k:Nat)=>k≤p.cell.length ∧ ∀ a,a < k→(rowAt p.cell a).length≤20) (fun (k:Nat)=>p.cell.length - k) (0) [(0,0)] [] (⟨by simp,by simp⟩) (by (refine ⟨rfl,rfl,rfl,?_,?_⟩;repeat' first|exact trivial|exact rfl|refine And.intro ?_ ?_|refine ⟨_,rfl,?_⟩|decide)) ?_
 rintro k ⟨hk,hI⟩
 (repeat' ((conv=>whnf);first|refine vA ?_|(refine vF ?_ ?_<;>intro hc<;>try simp only [vL] at hc)|refine vJ fun hg=>?_|(refine vQ ?_ fun x hx=>?_;·omega)|(refine vO ?_ ?_;·omega)|refine vZ ?_));all_goals try conv=>whnf
 ·have h1:=rowAt_of hx
  symm;rw [decide_eq_false_iff_not];intro h
  have:=h.2.2.2.1 k (by omega)
  rw [h1] at this;omega
 ·have h1:=rowAt_of hx
  exact ⟨k+1,[(0,0)],[],⟨by (omega),fun a ha=>by
   by_cases e:a=k
   ·subst e;rw [h1];omega
   ·exact hI a (by omega)⟩,by (omega),by (refine ⟨rfl,rfl,rfl,?_,?_⟩;repeat' first|exact trivial|exact rfl|refine And.intro ?_ ?_|refine ⟨_,rfl,?_⟩|decide)⟩
 have hI1 : ∀ a,a < p.cell.length→(rowAt p.cell a).length≤20:=fun a ha=>hI a (by omega)
 refine loop_mem (fun (k:Nat)=>[(1,.ptr 0 0),(4,.d (.int .i64 ((k:Int))))]) (fun (k:Nat)=>[(0,some (boxPM p))]) 1 (fun (k:Nat)=>k≤p.rank.length ∧ ∀ a,a < k→(rowAt p.rank a).length≤20) (fun (k:Nat)=>p.rank.length - k) (0) [(0,0)] [] (⟨by simp,by simp⟩) (by (refine ⟨rfl,rfl,rfl,?_,?_⟩;repeat' first|exact trivial|exact rfl|refine And.intro ?_ ?_|refine ⟨_,rfl,?_⟩|decide)) ?_
 rintro k ⟨hk,hI⟩
 (repeat' ((conv=>whnf);first|refine vA ?_|(refine vF ?_ ?_<;>intro hc<;>try simp only [vL] at hc)|refine vJ fun hg=>?_|(refine vQ ?_ fun x hx=>?_;·omega)|(refine vO ?_ ?_;·omega)|refine vZ ?_));all_goals try conv=>whnf
 ·have h1:=rowAt_of hx
  symm;rw [decide_eq_false_iff_not];intro h
  have:=h.2.2.2.2 k (by omega)
  rw [h1] at this;omega
 ·have h1:=rowAt_of hx
  exact ⟨k+1,[(0,0)],[],⟨by (omega),fun a ha=>by
   by_cases e:a=k
   ·subst e;rw [h1];omega
   ·exact hI a (by omega)⟩,by (omega),by (refine ⟨rfl,rfl,rfl,?_,?_⟩;repeat' first|exact trivial|exact rfl|refine And.intro ?_ ?_|refine ⟨_,rfl,?_⟩|decide)⟩
 ·symm;rw [decide_eq_true_eq];exact ⟨by omega,by omega,by omega,hI1,fun a ha=>hI a (by omega)⟩
end Go.Ab
namespace Go.Ab
open Go Go.Proofs
set_option linter.unusedSimpArgs false
set_option linter.unusedVariables false
set_option maxRecDepth 10000
set_option maxHeartbeats 4000000
variable {T:Nat→Obj→Prop}
def insD (x:Int):List Int→List Int
 | []=>[x]
 | y::r=>if x < y then x::y::r else if x=y then y::r else y::insD x r
def sortD:List Int→List Int
 | []=>[]
 | x::r=>insD x (sortD r)
def keysOf (cell:List Int):List Int:=cell.foldl (fun l c=>if c∈l then l else l++[c]) []
def inCell (cell rank:List Int) (c:Int):List Int:=((List.range cell.length).filter fun w=>at0 cell w==c).map (at0 rank)
def ranksOf (cell rank:List Int) (c:Int):List Int:=sortD (inCell cell rank c)
abbrev ranksD (cell rank:List Int):List (D×D):=(keysOf cell).map fun c=>(.int .i64 c,dI (ranksOf cell rank c))
def RanksOk (T:Nat→Obj→Prop):Prop := ∀ cell rank:List Int,cell.length≤rank.length→cell.length≤64→Fn Tryz.prog T f_plaus_ranks [.d (dI cell),.d (dI rank)] [] (.d (.map (ranksD cell rank))) []
def Gapless (l:List Int):Prop := ∀ i,i < l.length→at0 l i=i
instance (l:List Int):Decidable (Gapless l):=inferInstanceAs (Decidable (∀ i,i < l.length→at0 l i=i))
theorem map_erase {α β:Type} (f:α→β) : ∀ (l:List α) (i:Nat),(l.map f).eraseIdx i=(l.eraseIdx i).map f
 | [],_=>rfl
 | _::_,0=>rfl
 | x::l,i+1=>congrArg (f x :: ·) (map_erase f l i)
abbrev Rising (l:List Int):Prop:=l.Pairwise (· < ·)
theorem mem_insD {x y:Int} : ∀ {l:List Int},y∈insD x l↔y=x∨y∈l
 | []=>by simp [insD]
 | z::r=>by
  unfold insD
  split
  ·simp
  ·split
   ·rename_i h;subst h;simp
   ·rw [List.mem_cons,mem_insD,List.mem_cons]
    constructor
    ·rintro (h|h|h)
     ·exact .inr (.inl h)
     ·exact .inl h
     ·exact .inr (.inr h)
    ·rintro (h|h|h)
     ·exact .inr (.inl h)
     ·exact .inl h
     ·exact .inr (.inr h)
theorem rising_insD {x:Int} : ∀ {l:List Int},Rising l→Rising (insD x l)
 | [],_=>by simp [insD,Rising]
 | z::r,h=>by
  unfold insD
  obtain ⟨h1,h2⟩:=List.pairwise_cons.1 h
  split
  ·rename_i hx
   refine List.pairwise_cons.2 ⟨fun y hy=>?_,h⟩
   rcases List.mem_cons.1 hy with rfl|hy
   ·exact hx
   ·have:=h1 y hy;omega
  ·split
   ·exact h
   ·refine List.pairwise_cons.2 ⟨fun y hy=>?_,rising_insD h2⟩
    rcases mem_insD.1 hy with rfl|hy
    ·omega
    ·exact h1 y hy
theorem mem_sortD {y:Int} : ∀ {l:List Int},y∈sortD l↔y∈l
 | []=>by simp [sortD]
 | x::r=>by rw [sortD,mem_insD,mem_sortD,List.mem_cons]
theorem rising_sortD : ∀ {l:List Int},Rising (sortD l)
 | []=>List.Pairwise.nil
 | x::r=>rising_insD rising_sortD
theorem mem_foldKeys {c:Int} : ∀ {l acc:List Int},c∈l.foldl (fun l c=>if c∈l then l else l++[c]) acc↔c∈acc∨c∈l
 | [],acc=>by simp
 | x::r,acc=>by
  rw [List.foldl_cons,mem_foldKeys]
  split
  ·rename_i h
   rw [List.mem_cons]
   constructor
   ·rintro (h1|h1)
    ·exact .inl h1
    ·exact .inr (.inr h1)
   ·rintro (h1|rfl|h1)
    ·exact .inl h1
    ·exact .inl h
    ·exact .inr h1
  ·rw [List.mem_append,List.mem_singleton,List.mem_cons,or_assoc]
theorem mem_keysOf {c:Int} {cell:List Int} : c∈keysOf cell↔c∈cell:=by
 rw [keysOf,mem_foldKeys];simp
theorem mem_ranksOf {cell rank:List Int} {c x:Int} : x∈ranksOf cell rank c ↔ ∃ w,w < cell.length∧at0 cell w=c∧at0 rank w=x:=by
 rw [ranksOf,mem_sortD,inCell,List.mem_map]
 constructor
 ·rintro ⟨w,h,rfl⟩
  rw [List.mem_filter,List.mem_range] at h
  exact ⟨w,h.1,by simpa using h.2,rfl⟩
 ·rintro ⟨w,h1,h2,rfl⟩
  exact ⟨w,List.mem_filter.2 ⟨List.mem_range.2 h1,by simpa using h2⟩,rfl⟩
theorem mem_at0 {l:List Int} {x:Int} : x∈l ↔ ∃ i,i < l.length∧at0 l i=x:=by
 constructor
 ·intro h
  obtain ⟨i,hi⟩:=List.getElem?_of_mem h
  exact ⟨i,(List.getElem?_eq_some_iff.1 hi).1,at0_of hi⟩
 ·rintro ⟨i,hi,rfl⟩
  exact List.mem_of_getElem? (get_at0 hi)
theorem rising_at0 {l:List Int} (h:Rising l) {i j:Nat} (hij:i < j) (hj:j < l.length):at0 l i < at0 l j:=by
 have h1:=get_at0 (show i < l.length by omega)
 have h2:=get_at0 hj
 obtain ⟨_,e1⟩:=List.getElem?_eq_some_iff.1 h1
 obtain ⟨_,e2⟩:=List.getElem?_eq_some_iff.1 h2
 rw [← e1,← e2]
 exact List.pairwise_iff_getElem.1 h i j (by omega) hj hij
theorem gapless_iff {l:List Int} (h:Rising l):Gapless l ↔ ∀ x∈l,0≤x∧(x=0∨x - 1∈l):=by
 constructor
 ·intro hg x hx
  obtain ⟨i,hi,rfl⟩:=mem_at0.1 hx
  rw [hg i hi]
  refine ⟨by omega,?_⟩
  by_cases e:i=0
  ·exact .inl (by omega)
  ·exact .inr (mem_at0.2 ⟨i - 1,by omega,by rw [hg (i - 1) (by omega)];omega⟩)
 ·intro hc i
  induction i using Nat.strongRecOn with
  | _ i ih =>
   intro hi
   obtain ⟨h0,h1⟩:=hc _ (mem_at0.2 ⟨i,hi,rfl⟩)
   by_cases e:i=0
   ·subst e
    rcases h1 with h1|h1
    ·exact h1
    ·obtain ⟨j,hj,hj'⟩:=mem_at0.1 h1
     by_cases e:j=0
     ·subst e;omega
     ·have:=rising_at0 h (show 0 < j by omega) hj;omega
   ·have hp:=ih (i - 1) (by omega) (by omega)
    have hr:=rising_at0 h (show i - 1 < i by omega) hi
    rcases h1 with h1|h1
    ·omega
    ·obtain ⟨j,hj,hj'⟩:=mem_at0.1 h1
     have:j < i:=by
      apply Classical.byContradiction
      intro hn
      by_cases e:j=i
      ·subst e;omega
      ·have:=rising_at0 h (show i < j by omega) hj;omega
     have:=ih j this hj
     omega
theorem gapless_ranked {cell rank:List Int} : (∀ c∈keysOf cell,Gapless (ranksOf cell rank c))↔Ranked cell rank:=by
 constructor
 ·intro h w hw
  have hc:=h (at0 cell w) (mem_keysOf.2 (mem_at0.2 ⟨w,hw,rfl⟩))
  replace hc:=(gapless_iff rising_sortD).1 hc
  obtain ⟨h1,h2⟩:=hc (at0 rank w) (mem_ranksOf.2 ⟨w,hw,rfl,rfl⟩)
  refine ⟨h1,h2.imp_right fun h3=>?_⟩
  obtain ⟨v,hv,h4,h5⟩:=mem_ranksOf.1 h3
  exact ⟨v,hv,h4,h5⟩
 ·intro h c hc
  refine (gapless_iff rising_sortD).2 ?_
  intro x hx
  obtain ⟨w,hw,rfl,rfl⟩:=mem_ranksOf.1 hx
  obtain ⟨h1,h2⟩:=h w hw
  refine ⟨h1,h2.imp_right fun ⟨v,hv,h4,h5⟩=>?_⟩
  exact mem_ranksOf.2 ⟨v,hv,h4,h5⟩
theorem fn_plaus_Check (hR:RanksOk T) (p:PM) (hp:IntsOk p.rank):Fn Tryz.prog T f_plaus_Check [.d (dPM p)] [] (.d (.int .i64 (checkL p))) []:=by
 refine fn_dataR hmix k_plaus_Check (by show 1≤123;decide) ?_
 (repeat' ((conv=>whnf);first|refine vA ?_|(refine vD ?_ ?_<;>intro hc<;>try simp only [vL] at hc)|refine vJ fun hg=>?_|refine vX ?_|refine yD (fn_plaus_shape _ _ _) ⟨⟨rfl,rfl⟩,⟨rfl,rfl⟩,⟨rfl,rfl⟩,rfl⟩ rfl ?_));all_goals try conv=>whnf
 ·rw [List.length_map,checkL,if_pos hc]
 ·rw [checkL,if_neg (by omega),if_pos (by omega)]
 have hs0:=‹shapeL p.W p.cell.length p.val=0›
 have hW64:=(shapeL_ok hs0).2.1
 have hlr:p.rank.length=p.cell.length:=by omega
 refine loop_mem (fun (k:Nat)=>[(1,.ptr 0 0),(34,.d (.int .i64 ((p.cell.map dI).length:Int))),(35,.d (.int .i64 ((k:Int))))]) (fun (k:Nat)=>[(0,some (boxPM p))]) 1 (fun (k:Nat)=>k≤p.cell.length ∧ ∀ a,a < k→((rowAt p.cell a).length:Int)=p.W∧((rowAt p.rank a).length:Int)=p.W) (fun (k:Nat)=>p.cell.length - k) (0) [(0,0)] [] (⟨by simp,by simp⟩) (by (refine ⟨rfl,rfl,rfl,?_,?_⟩;repeat' first|exact trivial|exact rfl|refine And.intro ?_ ?_|refine ⟨_,rfl,?_⟩|decide)) ?_
 rintro k ⟨hk,hI⟩
 (repeat' ((conv=>whnf);first|refine vA ?_|((first|refine vD ?_ ?_|refine vF ?_ ?_)<;>intro hc<;>try simp only [vL] at hc)|refine vJ fun hg=>?_|(refine vQ ?_ fun x hx=>?_;·omega)|(refine vO ?_ ?_;·omega)|(refine vU ?_ ?_;·kernel_rfl)|refine vX ?_));all_goals try conv=>whnf
 ·have h1:=rowAt_of hx
  refine (checkL_3 hs0 hlr fun h=>?_).symm
  have:=(h k (by omega)).1
  rw [h1] at this;exact hc this
 ·have h1:=rowAt_of hx
  refine (checkL_3 hs0 hlr fun h=>?_).symm
  have:=(h k (by omega)).2
  rw [h1] at this;exact hc this
 ·have h1:=rowAt_of ‹p.cell[k]? = some _›
  have h2:=rowAt_of ‹p.rank[k]? = some _›
  exact ⟨k+1,[(0,0)],[],⟨by (omega),fun a ha=>by
   by_cases e:a=k
   ·subst e;rw [h1,h2];omega
   ·exact hI a (by omega)⟩,by (omega),by (refine ⟨rfl,rfl,rfl,?_,?_⟩;repeat' first|exact trivial|exact rfl|refine And.intro ?_ ?_|refine ⟨_,rfl,?_⟩|decide)⟩
 have hL:Lens p:=fun a ha=>hI a (by omega)
 refine loop_mem (fun (k:Nat)=>[(1,.ptr 0 0),(60,.d (dII p.cell)),(61,.d (.int .i64 ((p.cell.map dI).length:Int))),(62,.d (.int .i64 ((k:Int))))]) (fun (k:Nat)=>[(0,some (boxPM p))]) 1 (fun (k:Nat)=>k≤p.cell.length ∧ ∀ a,a < k→Cells (rowAt p.cell a)) (fun (k:Nat)=>p.cell.length - k) (0) [(0,0)] [] (⟨by simp,by simp⟩) (by (refine ⟨rfl,rfl,rfl,?_,?_⟩;repeat' first|exact trivial|exact rfl|refine And.intro ?_ ?_|refine ⟨_,rfl,?_⟩|decide)) ?_
 rintro k ⟨hk,hI⟩
 (repeat' ((conv=>whnf);first|refine vA ?_|(refine vF ?_ ?_<;>intro hc<;>try simp only [vL] at hc)|refine vJ fun hg=>?_|(refine vQ ?_ fun x hx=>?_;·omega)|fail));all_goals try conv=>whnf
 ·have h1:=rowAt_of hx
  subst h1
  refine loop_mem (fun (j:Nat)=>[(1,.ptr 0 0),(60,.d (dII p.cell)),(61,.d (.int .i64 ((p.cell.map dI).length:Int))),(62,.d (.int .i64 ((k:Int)))),(6,.d (dI (rowAt p.cell k))),(66,.d (dI (rowAt p.cell k))),(67,.d (.int .i64 (((rowAt p.cell k).map (D.int .i64)).length:Int))),(68,.d (.int .i64 ((j:Int))))]) (fun (j:Nat)=>[(0,some (boxPM p))]) 1 (fun (j:Nat)=>j≤(rowAt p.cell k).length ∧ ∀ w,w < j→0≤at0 (rowAt p.cell k) w∧at0 (rowAt p.cell k) w≤w∧at0 (rowAt p.cell k) (at0 (rowAt p.cell k) w).toNat=at0 (rowAt p.cell k) w) (fun (j:Nat)=>(rowAt p.cell k).length - j) (0) [(0,0)] [] (⟨by simp,by simp⟩) (by (refine ⟨rfl,rfl,rfl,?_,?_⟩;repeat' first|exact trivial|exact rfl|refine And.intro ?_ ?_|refine ⟨_,rfl,?_⟩|decide)) ?_
  rintro j ⟨hj,hJ⟩
  (repeat' ((conv=>whnf);first|refine vA ?_|((first|refine vD ?_ ?_|refine vF ?_ ?_)<;>intro hc<;>try simp only [vL] at hc)|(refine vQ ?_ fun x hx=>?_;·omega)|((first|refine vO ?_ ?_|refine vS ?_ fun x hx=>?_);·omega)|refine vX ?_));all_goals try conv=>whnf
  iterate 2
   ·refine (checkL_1 hs0 hlr hL fun h=>?_).symm
    have:=h k (by omega) j (by omega)
    rw [at0_of hx] at this;omega
  ·refine (checkL_1 hs0 hlr hL fun h=>?_).symm
   have:=h k (by omega) j (by omega)
   rw [at0_of ‹(rowAt p.cell k)[j]? = some _›,at0_of hx] at this;omega
  ·have h0:=at0_of ‹(rowAt p.cell k)[j]? = some _›
   have h1:=at0_of hx
   exact ⟨j+1,[(0,0)],[],⟨by (omega),fun w hw=>by
    by_cases e:w=j
    ·subst e;rw [h0,h1];omega
    ·exact hJ w (by omega)⟩,by (omega),by (refine ⟨rfl,rfl,rfl,?_,?_⟩;repeat' first|exact trivial|exact rfl|refine And.intro ?_ ?_|refine ⟨_,rfl,?_⟩|decide)⟩
  ·exact ⟨k+1,[(0,0)],[],⟨by (omega),fun a ha=>by
    by_cases e:a=k
    ·subst e;exact fun w hw=>hJ w (by omega)
    ·exact hI a (by omega)⟩,by (omega),by (refine ⟨rfl,rfl,rfl,?_,?_⟩;repeat' first|exact trivial|exact rfl|refine And.intro ?_ ?_|refine ⟨_,rfl,?_⟩|decide)⟩
 have hC:AllCells p:=fun a ha=>hI a (by omega)
 refine loop_mem (fun (k:Nat)=>[(1,.ptr 0 0),(91,.d (dII p.cell)),(92,.d (.int .i64 ((p.cell.map dI).length:Int))),(93,.d (.int .i64 ((k:Int))))]) (fun (k:Nat)=>[(0,some (boxPM p))]) 1 (fun (k:Nat)=>k≤p.cell.length ∧ ∀ a,a < k→Ranked (rowAt p.cell a) (rowAt p.rank a)) (fun (k:Nat)=>p.cell.length - k) (0) [(0,0)] [] (⟨by simp,by simp⟩) (by (refine ⟨rfl,rfl,rfl,?_,?_⟩;repeat' first|exact trivial|exact rfl|refine And.intro ?_ ?_|refine ⟨_,rfl,?_⟩|decide)) ?_
 rintro k ⟨hk,hI⟩
 (repeat' ((conv=>whnf);first|refine vA ?_|(refine vF ?_ ?_<;>intro hc<;>try simp only [vL] at hc)|(refine vQ ?_ fun x hx=>?_;·omega)|refine vX ?_));all_goals try conv=>whnf
 ·have h1:=rowAt_of ‹p.cell[k]? = some _›
  have h2:=rowAt_of ‹p.rank[k]? = some _›
  have h3:=hL k (by omega)
  subst h1;subst h2
  refine CallS.dataN (hR (rowAt p.cell k) (rowAt p.rank k) (by omega) (by omega)) (by (repeat refine ⟨⟨rfl,rfl⟩,?_⟩);rfl) ?_
  (repeat' ((conv=>whnf);fail));all_goals try conv=>whnf
  refine loop_mem (fun ((left,cur):List (D×D)×Option (D×D))=>[(1,.ptr 0 0),(91,.d (dII p.cell)),(92,.d (.int .i64 ((p.cell.map dI).length:Int))),(93,.d (.int .i64 ((k:Int)))),(105,.iter 1)]) (fun ((left,cur):List (D×D)×Option (D×D))=>[(0,some (boxPM p)),(1,some (.iter left cur))]) 2 (fun ((left,cur):List (D×D)×Option (D×D)) => ∃ ks:List Int,left=ks.map (fun c=>(D.int .i64 c,dI (ranksOf (rowAt p.cell k) (rowAt p.rank k) c)))∧(∀ c∈ks,c∈keysOf (rowAt p.cell k)) ∧ ∀ c∈keysOf (rowAt p.cell k),c∈ks∨Gapless (ranksOf (rowAt p.cell k) (rowAt p.rank k) c)) (fun ((left,cur):List (D×D)×Option (D×D))=>left.length) ((ranksD (rowAt p.cell k) (rowAt p.rank k),none)) [(0,0),(1,1)] [] (⟨_,rfl,fun c h=>h,fun c h => .inl h⟩) (by (refine ⟨rfl,rfl,rfl,?_,?_⟩;repeat' first|exact trivial|exact rfl|refine And.intro ?_ ?_|refine ⟨_,rfl,?_⟩|decide)) ?_
  rintro ⟨left,cur⟩ ⟨ks,hleft,hks,hdone⟩
  (repeat' ((conv=>whnf);first|refine vA ?_|refine vC (fun hl=>?_) fun i kv vv hi=>?_|refine vG ?_|refine vH ?_|(refine vO ?_ ?_;·omega)|fail));all_goals try conv=>whnf
  ·exact ⟨k+1,[(0,0)],[],⟨by (omega),fun a ha=>by
    by_cases e:a=k
    ·subst e
     rw [hl] at hleft
     have:ks=[]:=by simpa using hleft.symm
     subst this
     exact gapless_ranked.1 fun c hc=>(hdone c hc).resolve_left (by simp)
    ·exact hI a (by omega)⟩,by (omega),by (refine ⟨rfl,rfl,rfl,?_,?_⟩;repeat' first|exact trivial|exact rfl|refine And.intro ?_ ?_|refine ⟨_,rfl,?_⟩|decide)⟩
  ·rw [hleft,List.getElem?_map,Option.map_eq_some_iff] at hi
   obtain ⟨c,hci,hce⟩:=hi
   cases hce
   (repeat' ((conv=>whnf);refine vJ fun hg=>?_));all_goals try conv=>whnf
   refine loop_mem (fun (j:Nat)=>[(1,.ptr 0 0),(91,.d (dII p.cell)),(92,.d (.int .i64 ((p.cell.map dI).length:Int))),(93,.d (.int .i64 ((k:Int)))),(105,.iter 1),(12,.d (dI (ranksOf (rowAt p.cell k) (rowAt p.rank k) c))),(111,.d (.int .i64 (((ranksOf (rowAt p.cell k) (rowAt p.rank k) c).map (D.int .i64)).length:Int))),(112,.d (.int .i64 ((j:Int))))]) (fun (j:Nat)=>[(0,some (boxPM p)),(1,some (.iter (left.eraseIdx i) (some (D.int .i64 c,dI (ranksOf (rowAt p.cell k) (rowAt p.rank k) c)))))]) 2 (fun (j:Nat)=>j≤(ranksOf (rowAt p.cell k) (rowAt p.rank k) c).length ∧ ∀ i,i < j→at0 (ranksOf (rowAt p.cell k) (rowAt p.rank k) c) i=i) (fun (j:Nat)=>(ranksOf (rowAt p.cell k) (rowAt p.rank k) c).length - j) (0) [(0,0),(1,1)] [] (⟨by simp,by simp⟩) (by (refine ⟨rfl,rfl,rfl,?_,?_⟩;repeat' first|exact trivial|exact rfl|refine And.intro ?_ ?_|refine ⟨_,rfl,?_⟩|decide)) ?_
   rintro j ⟨hj,hJ⟩
   (repeat' ((conv=>whnf);first|refine vA ?_|((first|refine vD ?_ ?_|refine vF ?_ ?_)<;>intro hc<;>try simp only [vL] at hc)|(refine vQ ?_ fun x hx=>?_;·omega)|(refine vO ?_ ?_;·omega)|refine vX ?_));all_goals try conv=>whnf
   ·refine (checkL_9 hs0 hlr hL hC fun h=>hc ?_).symm
    have h4:=gapless_ranked.2 (h k (by omega)) c (hks c (List.mem_of_getElem? hci)) j (by omega)
    rw [at0_of hx] at h4;exact h4
   ·have h0:=at0_of hx
    exact ⟨j+1,[(0,0),(1,1)],[],⟨by (omega),fun w hw=>by
     by_cases e:w=j
     ·subst e;rw [h0];omega
     ·exact hJ w (by omega)⟩,by (omega),by (refine ⟨rfl,rfl,rfl,?_,?_⟩;repeat' first|exact trivial|exact rfl|refine And.intro ?_ ?_|refine ⟨_,rfl,?_⟩|decide)⟩
   ·refine ⟨(left.eraseIdx i,some (D.int .i64 c,dI (ranksOf (rowAt p.cell k) (rowAt p.rank k) c))),[(0,0),(1,1)],[],⟨ks.eraseIdx i,?_,?_,?_⟩,?_,⟨rfl,rfl,rfl,by (repeat' first|exact trivial|exact rfl|refine And.intro ?_ ?_|refine ⟨_,rfl,?_⟩),by (repeat' first|exact trivial|exact rfl|refine And.intro ?_ ?_|refine ⟨_,rfl,?_⟩|decide)⟩⟩
    ·rw [hleft,map_erase]
    ·exact fun c h=>hks c (List.mem_of_mem_eraseIdx h)
    ·intro c' h
     rcases hdone c' h with h1|h1
     ·by_cases e:c'=c
      ·subst e;exact .inr fun i hi=>hJ i (by omega)
      ·refine .inl ?_
       rw [List.mem_eraseIdx_iff_getElem?]
       obtain ⟨i',hi'⟩:=List.getElem?_of_mem h1
       exact ⟨i',fun e'=>e (by rw [e',hci] at hi';cases hi';rfl),hi'⟩
     ·exact .inr h1
    ·show (left.eraseIdx i).length < left.length
     have:i < left.length:=by
      rw [hleft,List.length_map];exact (List.getElem?_eq_some_iff.1 hci).1
     rw [List.length_eraseIdx];split<;>omega
 ·exact (checkL_0 hs0 hlr hL hC fun a ha=>hI a (by omega)).symm
end Go.Ab
namespace Go.Ab
open Go Go.Proofs
set_option linter.unusedSimpArgs false
set_option linter.unusedVariables false
set_option maxRecDepth 10000
set_option maxHeartbeats 4000000
variable {T:Nat→Obj→Prop}
structure At (p:PM) (a w:Int):Prop where
 ok:checkL p=0
 a0:0≤a
 a1:a < p.cell.length
 w0:0≤w
 w1:w < p.W
instance (p:PM) (a w:Int):Decidable (At p a w):=decidable_of_iff (checkL p=0∧0≤a∧a < p.cell.length∧0≤w∧w < p.W) ⟨fun ⟨a,b,c,d,e⟩=>⟨a,b,c,d,e⟩,fun ⟨a,b,c,d,e⟩=>⟨a,b,c,d,e⟩⟩
theorem fn_known' (hR:RanksOk T) (p:PM) (hp:IntsOk p.rank) (a w:Int):Fn Tryz.prog T f_plaus_known [.d (dPM p),.d (.int .i64 a),.d (.int .i64 w)] [] (.d (.bool (decide (At p a w)))) []:=by
 have:=fn_known (T:=T) (fun p hp=>fn_plaus_Check hR p hp) p hp a w
 rwa [show decide (checkL p=0∧0≤a∧a < p.cell.length∧0≤w∧w < p.W)=decide (At p a w) from by
  rw [Bool.eq_iff_iff,decide_eq_true_eq,decide_eq_true_eq]
  exact ⟨fun ⟨a,b,c,d,e⟩=>⟨a,b,c,d,e⟩,fun ⟨a,b,c,d,e⟩=>⟨a,b,c,d,e⟩⟩] at this
def cellL (p:PM) (a w:Int):BitVec 64:=if At p a w then cellSet (rowAt p.cell a.toNat) w.toNat else 0#64
def bestL (p:PM) (a w:Int) (s:BitVec 64):BitVec 64:=if At p a w then bestSet (rowAt p.rank a.toNat) (s&&&cellSet (rowAt p.cell a.toNat) w.toNat) else 0#64
theorem At.rows {p:PM} {a w:Int} (h:At p a w):p.cell[a.toNat]? = some (rowAt p.cell a.toNat)∧p.rank[a.toNat]? = some (rowAt p.rank a.toNat)∧((rowAt p.cell a.toNat).length:Int)=p.W∧((rowAt p.rank a.toNat).length:Int)=p.W∧p.W≤64∧a.toNat < p.cell.length∧p.rank.length=p.cell.length:=by
 have hg:=checkL_good h.ok
 have h0:=h.a0
 have h1:=h.a1
 have hl:=hg.lens a.toNat (by omega)
 exact ⟨get_rowAt (by omega),get_rowAt (by rw [hg.len];omega),hl.1,hl.2,hg.w2,by omega,hg.len⟩
theorem fn_Cell (hR:RanksOk T) (p:PM) (hp:IntsOk p.rank) (a w:Int):Fn Tryz.prog T f_plaus_Cell [.d (dPM p),.d (.int .i64 a),.d (.int .i64 w)] [] (.d (.u64 (cellL p a w))) []:=by
 refine fn_dataR hmix k_plaus_Cell (by show 3≤16;decide) ?_
 (repeat' ((conv=>whnf);first|refine vA ?_|refine vE ?_|(refine vF ?_ ?_<;>intro hc)|refine vY ?_|refine yD (fn_known' hR _ hp _ _) (by (repeat refine ⟨⟨rfl,rfl⟩,?_⟩);rfl) rfl ?_));all_goals try conv=>whnf
 ·obtain ⟨h1,-,h2,-⟩:=At.rows hc
  refine CallS.data (fn_cellOf p a w (rowAt p.cell a.toNat) hc.a0 h1 hc.w0 (by rw [h2];exact hc.w1)) (by (repeat refine ⟨⟨rfl,rfl⟩,?_⟩);rfl) rfl ?_
  (repeat' ((conv=>whnf);refine vY ?_));all_goals try conv=>whnf
  rw [cellL,if_pos hc]
 ·rw [cellL,if_neg hc];rfl
theorem ofInt_nat {k:Nat} (h:k < 18446744073709551616):(BitVec.ofInt 64 (k:Int)).toNat=k:=by
 rw [BitVec.toNat_ofInt,Int.emod_eq_of_lt (by omega) (by omega)];rfl
theorem fn_Best (hR:RanksOk T) (p:PM) (hp:IntsOk p.rank) (a w:Int) (s:BitVec 64):Fn Tryz.prog T f_plaus_Best [.d (dPM p),.d (.int .i64 a),.d (.int .i64 w),.d (.u64 s)] [] (.d (.u64 (bestL p a w s))) []:=by
 refine fn_dataR hmix k_plaus_Best (by show 4≤26;decide) ?_
 (repeat' ((conv=>whnf);first|refine vA ?_|refine vE ?_|(refine vF ?_ ?_<;>intro hc)|(refine vS ?_ fun x hx=>?_;·omega)|refine vY ?_|refine yD (fn_known' hR _ hp _ _) (by (repeat refine ⟨⟨rfl,rfl⟩,?_⟩);rfl) rfl ?_));all_goals try conv=>whnf
 ·obtain ⟨hrow,hrank,hlen,hlen',h64,ha,-⟩:=At.rows hc
  have h0:=hc.a0
  (repeat' ((conv=>whnf);first|(refine vR ?_ ‹_› ?_;·omega)|fail));all_goals try conv=>whnf
  refine CallS.data (fn_cellOf p a w (rowAt p.cell a.toNat) h0 hrow hc.w0 (by rw [hlen];exact hc.w1)) (by (repeat refine ⟨⟨rfl,rfl⟩,?_⟩);rfl) rfl ?_
  (repeat' ((conv=>whnf);first|(refine vU ?_ ?_;·kernel_rfl)|refine vY ?_|(refine yD (fn_bestOf _ _ ?_) ⟨⟨rfl,rfl⟩,⟨rfl,rfl⟩,rfl⟩ rfl ?_;(·omega))|fail));all_goals try conv=>whnf
  rw [bestL,if_pos hc]
 ·rw [bestL,if_neg hc];rfl
def weakRow (cell rank:List Int) (w:Nat):Nat→BitVec 64:=setTo fun v=>at0 cell v==at0 cell w&&decide (at0 rank v≤at0 rank w)
def weakL (p:PM) (a:Nat):List (BitVec 64):=(List.range p.W.toNat).map fun w=>weakRow (rowAt p.cell a) (rowAt p.rank a) w p.W.toNat
def weakerL (p:PM) (a:Int):List (BitVec 64)×Int:=if checkL p≠0 then ([],checkL p) else if a < 0∨(p.cell.length:Int)≤a then ([],2) else (weakL p a.toNat,0)
abbrev dUI (x:List (BitVec 64)×Int):D := .tup [dU x.1,.int .i64 x.2]
theorem set_range {β:Type} {g:Nat→β} {n k:Nat} (x:β):((List.range n).map g).set k x=(List.range n).map fun u=>if u=k then x else g u:=by
 refine List.ext_getElem (by simp) fun i h1 h2=>?_
 rw [List.getElem_set]
 by_cases e:k=i
 ·subst e;simp
 ·simp [e,Ne.symm e]
theorem map_range_congr {β:Type} {g h:Nat→β} {n:Nat} (e : ∀ u,u < n→g u=h u):(List.range n).map g=(List.range n).map h :=
 List.map_congr_left fun u hu=>e u (List.mem_range.1 hu)
theorem get_range {n k x:Nat} (h:(List.range n)[k]? = some x):x=k:=by
 obtain ⟨h1,rfl⟩:=List.getElem?_eq_some_iff.1 h
 simp
theorem replicate_range {β:Type} (x:β) (n:Nat):List.replicate n x=(List.range n).map fun _=>x:=by
 refine List.ext_getElem (by simp) fun i h1 h2=>by simp
theorem fn_Weaker (hR:RanksOk T) (p:PM) (hp:IntsOk p.rank) (a:Int):Fn Tryz.prog T f_plaus_Weaker [.d (dPM p),.d (.int .i64 a)] [] (.d (dUI (weakerL p a))) []:=by
 refine fn_dataR hmix k_plaus_Weaker (by show 2≤84;decide) ?_
 (repeat' ((conv=>whnf);first|refine vA ?_|((first|refine vD ?_ ?_|refine vF ?_ ?_)<;>intro hc<;>try simp only [vL] at hc)|refine vJ fun hg=>?_|(refine vP ?_ ?_;·omega)|refine yD (fn_plaus_Check hR _ hp) ⟨⟨rfl,rfl⟩,rfl⟩ rfl ?_));all_goals try conv=>whnf
 ·rw [weakerL,if_pos hc];rfl
 ·rw [weakerL,if_neg (by omega),if_pos (.inl hc)];rfl
 ·rw [weakerL,if_neg (by omega),if_pos (.inr hc)];rfl
 have hg:=checkL_good ‹checkL p=0›
 have hw1:=hg.w1
 have hw2:=hg.w2
 have hrow:=get_rowAt (l:=p.cell) (i:=a.toNat) (by omega)
 have hrank:=get_rowAt (l:=p.rank) (i:=a.toNat) (by have:=hg.len;omega)
 obtain ⟨hl1,hl2⟩:=hg.lens a.toNat (by omega)
 have hlr:=hg.len
 (repeat' ((conv=>whnf);first|refine vA ?_|refine vK fun hg=>?_|(refine vP ?_ ?_;·omega)|fail));all_goals try conv=>whnf
 refine loop_mem (fun ((k,xs):Nat×List D)=>[(1,.d (.int .i64 (a))),(2,.ptr 0 0),(7,.own 1),(28,.d (.int .i64 ((List.replicate p.W.toNat (D.u64 0#64)).length:Int))),(29,.d (.int .i64 ((k:Int))))]) (fun ((k,xs):Nat×List D)=>[(0,some (boxPM p)),(1,some (.row 1 xs))]) 2 (fun ((k,xs):Nat×List D)=>k≤p.W.toNat∧xs=(List.range p.W.toNat).map fun u=>D.u64 (if u < k then weakRow (rowAt p.cell a.toNat) (rowAt p.rank a.toNat) u p.W.toNat else 0#64)) (fun ((k,xs):Nat×List D)=>p.W.toNat - k) ((0,List.replicate p.W.toNat (D.u64 0#64))) [(0,0),(1,1)] [] (⟨by simp,by simp only [Nat.not_lt_zero,if_false];exact replicate_range _ _⟩) (by (refine ⟨rfl,rfl,rfl,?_,?_⟩;repeat' first|exact trivial|exact rfl|refine And.intro ?_ ?_|refine ⟨_,rfl,?_⟩|decide)) ?_
 rintro ⟨k,_⟩ ⟨hk,rfl⟩
 (repeat' ((conv=>whnf);first|refine vA ?_|(refine vF ?_ ?_<;>intro hc<;>try simp only [vL] at hc)|refine vJ fun hg=>?_));all_goals try conv=>whnf
 ·refine loop_mem (fun ((j,xs):Nat×List D)=>[(1,.d (.int .i64 (a))),(2,.ptr 0 0),(7,.own 1),(8,.d (.int .i64 ((k:Int)))),(28,.d (.int .i64 ((List.replicate p.W.toNat (D.u64 0#64)).length:Int))),(29,.d (.int .i64 ((k:Int)))),(33,.d (.int .i64 (((List.range p.W.toNat).map fun u=>D.u64 (if u < k then weakRow (rowAt p.cell a.toNat) (rowAt p.rank a.toNat) u p.W.toNat else 0#64)).length:Int))),(34,.d (.int .i64 ((j:Int))))]) (fun ((j,xs):Nat×List D)=>[(0,some (boxPM p)),(1,some (.row 1 xs))]) 2 (fun ((j,xs):Nat×List D)=>j≤p.W.toNat∧xs=(List.range p.W.toNat).map fun u=>D.u64 (if u < k then weakRow (rowAt p.cell a.toNat) (rowAt p.rank a.toNat) u p.W.toNat else if u=k then weakRow (rowAt p.cell a.toNat) (rowAt p.rank a.toNat) k j else 0#64)) (fun ((j,xs):Nat×List D)=>p.W.toNat - j) ((0,_)) [(0,0),(1,1)] [] (⟨by simp,map_range_congr fun u hu=>by simp [weakRow,setTo]⟩) (by (refine ⟨rfl,rfl,rfl,?_,?_⟩;repeat' first|exact trivial|exact rfl|refine And.intro ?_ ?_|refine ⟨_,rfl,?_⟩|decide)) ?_
  rintro ⟨j,_⟩ ⟨hj,rfl⟩
  (repeat' ((conv=>whnf);first|refine vA ?_|(refine vF ?_ ?_<;>intro hc<;>try simp only [vL] at hc)|(refine vQ ?_ fun x hx=>?_;·first|omega|(simp only [vM] at *;omega))|((first|refine vO ?_ ?_|refine vR ?_ ‹_› ?_|refine vP ?_ ?_);·first|omega|(simp only [vM] at *;omega))|(refine vU ?_ ?_;·kernel_rfl)|fail));all_goals try conv=>whnf
  ·have h1:=at0_of ‹(rowAt p.cell a.toNat)[j]? = some _›
   have h2:=at0_of ‹(rowAt p.cell a.toNat)[k]? = some _›
   have h3:=at0_of ‹(rowAt p.rank a.toNat)[j]? = some _›
   have h4:=at0_of ‹(rowAt p.rank a.toNat)[k]? = some _›
   have hx':=get_range hx
   refine ⟨(j+1,_),[(0,0),(1,1)],[],?_,?_,by (refine ⟨rfl,rfl,rfl,?_,?_⟩;repeat' first|exact trivial|exact rfl|refine And.intro ?_ ?_|refine ⟨_,rfl,?_⟩|decide)⟩
   ·refine ⟨by (omega),(set_range _).trans (map_range_congr fun u hu=>?_)⟩
    have e0:(at0 (rowAt p.cell a.toNat) j==at0 (rowAt p.cell a.toNat) k&&decide (at0 (rowAt p.rank a.toNat) j≤at0 (rowAt p.rank a.toNat) k))=true:=by
     simp only [Bool.and_eq_true,beq_iff_eq,decide_eq_true_eq];omega
    show (if u=k then _ else _)=_
    have hx'':x=k:=hx'
    subst hx''
    by_cases e:u=x
    ·subst e
     simp only [Nat.lt_irrefl,if_false,if_true,weakRow,setTo,e0];rfl
    ·rw [if_neg e];simp only [if_neg e]
   ·((simp only [vM] at *;omega))
  ·have h1:=at0_of ‹(rowAt p.cell a.toNat)[j]? = some _›
   have h2:=at0_of ‹(rowAt p.cell a.toNat)[k]? = some _›
   have h3:=at0_of ‹(rowAt p.rank a.toNat)[j]? = some _›
   have h4:=at0_of ‹(rowAt p.rank a.toNat)[k]? = some _›
   refine ⟨(j+1,_),[(0,0),(1,1)],[],?_,?_,by (refine ⟨rfl,rfl,rfl,?_,?_⟩;repeat' first|exact trivial|exact rfl|refine And.intro ?_ ?_|refine ⟨_,rfl,?_⟩|decide)⟩
   ·refine ⟨by (omega),map_range_congr fun u hu=>?_⟩
    have e0:(at0 (rowAt p.cell a.toNat) j==at0 (rowAt p.cell a.toNat) k&&decide (at0 (rowAt p.rank a.toNat) j≤at0 (rowAt p.rank a.toNat) k))=false:=by
     rw [Bool.and_eq_false_iff];right;rw [decide_eq_false_iff_not];omega
    simp only [weakRow,setTo,e0,Bool.false_eq_true,if_false]
   ·((simp only [vM] at *;omega))
  ·have h1:=at0_of ‹(rowAt p.cell a.toNat)[j]? = some _›
   have h2:=at0_of ‹(rowAt p.cell a.toNat)[k]? = some _›
   refine ⟨(j+1,_),[(0,0),(1,1)],[],?_,?_,by (refine ⟨rfl,rfl,rfl,?_,?_⟩;repeat' first|exact trivial|exact rfl|refine And.intro ?_ ?_|refine ⟨_,rfl,?_⟩|decide)⟩
   ·refine ⟨by (omega),map_range_congr fun u hu=>?_⟩
    have e0:(at0 (rowAt p.cell a.toNat) j==at0 (rowAt p.cell a.toNat) k&&decide (at0 (rowAt p.rank a.toNat) j≤at0 (rowAt p.rank a.toNat) k))=false:=by
     rw [Bool.and_eq_false_iff];left;rw [beq_eq_false_iff_ne];omega
    simp only [weakRow,setTo,e0,Bool.false_eq_true,if_false]
   ·((simp only [vM] at *;omega))
  ·refine ⟨(k+1,_),[(0,0),(1,1)],[],?_,?_,by (refine ⟨rfl,rfl,rfl,?_,?_⟩;repeat' first|exact trivial|exact rfl|refine And.intro ?_ ?_|refine ⟨_,rfl,?_⟩|decide)⟩
   ·refine ⟨by (omega),map_range_congr fun u hu=>?_⟩
    have e0:j=p.W.toNat:=by (omega)
    subst e0
    by_cases e:u=k
    ·subst e;simp
    ·by_cases e1:u < k
     ·simp [e1,show u < k+1 by omega]
     ·simp [e1,e,show ¬ u < k+1 by omega]
   ·((simp only [vM] at *;omega))
 ·rw [weakerL,if_neg (by omega),if_neg (by omega),weakL]
  have e0:k=p.W.toNat:=by (omega)
  refine congrArg some (congrArg D.tup (congrArg (fun l=>[D.arr 1 l,D.int .i64 0]) ?_))
  rw [List.map_map]
  refine map_range_congr fun u hu=>?_
  rw [if_pos (by omega)];rfl
end Go.Ab
namespace Go.Ab
open Go Go.Proofs
set_option linter.unusedSimpArgs false
set_option linter.unusedVariables false
set_option maxRecDepth 10000
set_option maxHeartbeats 4000000
variable {T:Nat→Obj→Prop}
structure KM where
 W:Int
 val:List (BitVec 64)
 rel:List (List (BitVec 64))
 deriving DecidableEq
abbrev dKM (m:KM):D := .agg [.int .i64 m.W,dU m.val,dUU m.rel]
abbrev boxKM (m:KM):Ob := .box [.d (.int .i64 m.W),.d (dU m.val),.d (dUU m.rel)]
theorem fn_Clone_u64 (l:List (BitVec 64)) (hl:l.length≤34359738368):Fn Tryz.prog T f_slices_Clone_Luint64_uint64_ [.d (dU l)] [] (.d (dU l)) []:=by
 refine fn_dataR hmix k_slices_Clone_Luint64_uint64_ (by show 1≤8;decide) ?_
 (repeat' ((conv=>whnf);first|refine vA ?_|refine vB fun b hb=>?_|refine vE ?_|(refine vF ?_ ?_<;>intro hc)|(refine vP ?_ ?_;·(simp only [vM] at *;omega))|fail));all_goals try conv=>whnf
 ·rfl
 ·have:l=[]:=by simpa using hb (by simpa using hc)
  subst this;rfl
def kripkeL (p:PM) (succ:Nat→Nat→BitVec 64):KM×Int :=
 if checkL p≠0 then (⟨0,[],[]⟩,checkL p) else (⟨p.W,p.val,(List.range p.cell.length).map fun a=>(List.range p.W.toNat).map fun w=>succ a w⟩,0)
abbrev dKI (x:KM×Int):D := .tup [dKM x.1,.int .i64 x.2]
abbrev dBox (p:PM):D := .box [.int .i64 p.W,dU p.val,dII p.cell,dII p.rank]
end Go.Ab
namespace Go.Ab
open Go Go.Proofs
set_option linter.unusedSimpArgs false
set_option linter.unusedVariables false
set_option maxRecDepth 10000
set_option maxHeartbeats 4000000
variable {T:Nat→Obj→Prop}
theorem allL_bit {n:Int} {i:Nat} (h1:0≤n) (hi:i < 64):(allL n).getLsbD i=decide ((i:Int) < n):=by
 unfold allL
 split
 ·rename_i h
  rw [show ((-1:BitVec 64))=BitVec.allOnes 64 from rfl,BitVec.getLsbD_allOnes]
  simp [hi];omega
 ·rename_i h
  obtain ⟨m,rfl⟩:=Int.eq_ofNat_of_zero_le h1
  have hm:m < 64:=by omega
  rw [show (1#64 <<< (m:Int).toNat - 1#64)=BitVec.setWidth 64 (BitVec.allOnes m) from ?_]
  ·rw [BitVec.getLsbD_setWidth,BitVec.getLsbD_allOnes];simp [hi]
  ·apply BitVec.eq_of_toNat_eq
   have h2:2 ^ m < 2 ^ 64:=Nat.pow_lt_pow_right (by omega) hm
   have h3:0 < 2 ^ m:=Nat.two_pow_pos m
   rw [BitVec.toNat_sub,BitVec.toNat_shiftLeft,BitVec.toNat_setWidth,BitVec.toNat_allOnes]
   simp only [Int.toNat_natCast,Nat.shiftLeft_eq]
   rw [show (1#64).toNat=1 from rfl,Nat.one_mul,Nat.mod_eq_of_lt h2,Nat.mod_eq_of_lt (show 2 ^ m - 1 < 2 ^ 64 by omega)]
   omega
end Go.Ab
namespace Go.Ab
open Go Go.Proofs
set_option linter.unusedSimpArgs false
set_option linter.unusedVariables false
set_option maxRecDepth 10000
set_option maxHeartbeats 4000000
variable {T:Nat→Obj→Prop}
def bitsOf (s:BitVec 64):List Nat:=(List.range 64).filter fun i=>s.getLsbD i
abbrev dBits (s:BitVec 64):List (List D):=(bitsOf s).map fun (i:Nat)=>[D.int .i64 (i:Int)]
def unionOf (r:List (BitVec 64)) (l:List Nat):BitVec 64:=l.foldl (fun o w=>o|||r.getD w 0#64) 0#64
def rb (r:List (BitVec 64)) (w v:Nat):Bool:=(r.getD w 0#64).getLsbD v
theorem rb_of {r:List (BitVec 64)} {w:Nat} {s:BitVec 64} (h:r[w]? = some s) (v:Nat):rb r w v=s.getLsbD v:=by simp [rb,List.getD,h]
theorem rb_out {r:List (BitVec 64)} {w v:Nat} (h:r.length≤w):rb r w v=false:=by simp [rb,List.getD,h]
def Inside (r:List (BitVec 64)):Prop := ∀ w v,rb r w v=true→v < r.length
def revL (r:List (BitVec 64)):List (BitVec 64):=(List.range r.length).map fun v=>setTo (fun w=>rb r w v) r.length
def findL {α:Type} (p:α→Bool) (l:List α):Int:=if l.findIdx p < l.length then (l.findIdx p:Int) else -1
theorem findL_hit {α:Type} {p:α→Bool} {l:List α} {k:Nat} {x:α} (h:l[k]? = some x) (hp:p x=true) (hI : ∀ i y,i < k→l[i]? = some y→p y=false):findL p l=k:=by
 obtain ⟨hk,rfl⟩:=List.getElem?_eq_some_iff.1 h
 have:l.findIdx p=k:=by
  rw [List.findIdx_eq hk]
  exact ⟨hp,fun j hj=>by simpa using hI j l[j] hj (List.getElem?_eq_getElem (by omega))⟩
 rw [findL,this,if_pos hk]
theorem findL_none {α:Type} {p:α→Bool} {l:List α} (hI : ∀ i y,i < l.length→l[i]? = some y→p y=false):findL p l = -1:=by
 rw [findL,if_neg]
 intro h
 have h1:=List.findIdx_getElem (p:=p) (xs:=l) (w:=h)
 rw [hI _ _ h (List.getElem?_eq_getElem h)] at h1;cases h1
theorem fn_Index_int (l:List Int) (x:Int):Fn Tryz.prog T f_slices_Index_Lint_int_ [.d (dI l),.d (.int .i64 x)] [] (.d (.int .i64 (findL (fun y=>x==y) l))) []:=by
 refine fn_dataR hmix k_slices_Index_Lint_int_ (by show 2≤19;decide) ?_
 (repeat' ((conv=>whnf);first|refine vA ?_|refine vJ fun hg=>?_));all_goals try conv=>whnf
 refine loop_intro (fun (k:Nat)=>[(0,.d (dI l)),(1,.d (.int .i64 (x))),(7,.d (.int .i64 ((l.map (D.int .i64)).length:Int))),(8,.d (.int .i64 ((k:Int))))]) (fun (k:Nat)=>k≤l.length ∧ ∀ i y,i < k→l[i]? = some y→(x==y)=false) (fun (k:Nat)=>l.length - k) (0) (⟨by simp,by simp⟩) (by (repeat' first|exact trivial|exact rfl|refine And.intro ?_ ?_)) ?_
 rintro k ⟨hk,hI⟩
 (repeat' ((conv=>whnf);first|refine vA ?_|(refine vF ?_ ?_<;>intro hc<;>try simp only [vL] at hc)|(refine vQ ?_ fun x hx=>?_;·omega)|(refine vO ?_ ?_;·omega)|refine vX ?_));all_goals try conv=>whnf
 ·exact (findL_hit hx (by simpa using hc) hI).symm
 ·have hne:=hc
  exact ⟨k+1,[],[],⟨by (omega),fun i y hi hy=>by
   by_cases e:i=k
   ·subst e;rw [hx] at hy;cases hy;simpa using hne
   ·exact hI i y (by omega) hy⟩,by (omega),by (refine ⟨rfl,rfl,rfl,?_,?_⟩;repeat' first|exact trivial|exact rfl|refine And.intro ?_ ?_)⟩
 ·exact (findL_none fun i y hi hy=>hI i y (by omega) hy).symm
def relCheck (r:List (BitVec 64)):Int:=if 64 < r.length then 2 else if r.any (bad r.length) then 1 else 0
theorem bad_false {n:Int} {s:BitVec 64} (h:0≤n):bad n s=false ↔ ∀ i,s.getLsbD i=true→(i:Int) < n:=by
 rw [bad,decide_eq_false_iff_not,Classical.not_not]
 constructor
 ·intro e i hi
  have hlt:=BitVec.lt_of_getLsbD hi
  have:=congrArg (fun x=>x.getLsbD i) e
  simp only [BitVec.getLsbD_and,BitVec.getLsbD_not,hlt,decide_true,Bool.true_and,hi,allL_bit h hlt] at this
  simpa using this
 ·intro hs
  apply BitVec.eq_of_getLsbD_eq
  intro i hi
  rw [BitVec.getLsbD_and,BitVec.getLsbD_not,allL_bit h hi]
  cases hb:s.getLsbD i with
  | false=>simp
  | true=>have:=hs i hb;simp [hi,this]
def HasP (r:List (BitVec 64)) (p:Int):Prop:=relCheck r=0 ∧
 ((p=1 ∧ ∀ w,w < r.length → ∃ v,rb r w v=true)∨(p=2 ∧ ∀ w,w < r.length→rb r w w=true)∨(p=3 ∧ ∀ w v,rb r w v=true→rb r v w=true) ∨
  (p=4 ∧ ∀ w u v,rb r w u=true→rb r u v=true→rb r w v=true)∨(p=5 ∧ ∀ w u v,rb r w u=true→rb r w v=true→rb r u v=true))
noncomputable def hasB (r:List (BitVec 64)) (p:Int):Bool := @decide (HasP r p) (Classical.propDecidable _)
theorem zero_iff {s:BitVec 64} : s=0#64 ↔ ∀ i,s.getLsbD i=false:=by
 constructor
 ·rintro rfl i;simp
 ·intro h;apply BitVec.eq_of_getLsbD_eq;intro i _;rw [h i];simp
end Go.Ab
namespace Go.Ab
open Go Go.Proofs
set_option linter.unusedSimpArgs false
set_option linter.unusedVariables false
set_option maxRecDepth 10000
set_option maxHeartbeats 4000000
variable {T:Nat→Obj→Prop}
theorem CallS.objs {P:Program} {M:Nat→Option Ob} {n f:Nat} {vs lvs:List V} {obs:List Ob} {lv:V} {obs':List (Option Ob)} {K:V→Upd→Nat→Prop} (js:List Nat) (hf:Fn P T f lvs obs lv obs') (ha:VPasses M js [] 20 lvs vs)
  (ho:ObPasses M js [] obs js) (hnd:nodup js=true) (hsj:subl js (valReach M vs)=true) (hle:js.length≤obs'.length)
  (hK:K (renV js n 20 lv) (callU js [] n obs' false) (obs'.length - js.length)):CallS (CallC P T) M n f vs K :=
 ⟨⟨_,_,_,⟨js,[],false,lvs,obs,lv,obs',hf,ha,ho,hnd,by simp [disj],hsj,by simp [subl],hle,nofun,rfl,rfl,rfl⟩,hK⟩⟩
section
variable {α:Type} [Inhabited α]
theorem arr_get {d:Array α} {i:Nat} (h:i < d.size):d.toList[i]? = some d[i]! := by
 simp [h]
theorem arr_eq {d:Array α} {i:Nat} {x:α} (h:d.toList[i]? = some x):d[i]! = x∧i < d.size:=by
 obtain ⟨h1,h2⟩:=List.getElem?_eq_some_iff.1 h
 rw [Array.length_toList] at h1
 exact ⟨by simp [h1];simpa using h2,h1⟩
theorem swp_row {enc:α→D} {d:Array α} {i j:Nat} {x y:α} (hi:d.toList[i]? = some x) (hj:d.toList[j]? = some y):((d.toList.map enc).set i (enc y)).set j (enc x)=(Sort.swp d i j).toList.map enc:=by
 obtain ⟨e1,_⟩:=arr_eq hi
 obtain ⟨e2,_⟩:=arr_eq hj
 simp [Sort.swp,e1,e2,List.map_set]
theorem arr_at {d:Array α} {i:Int} {x:α} (k:Nat) (h:d.toList[i.toNat]? = some x) (hk:i=k):d.toList[k]? = some x:=by subst hk;exact h
theorem swp_rowI {enc:α→D} {d:Array α} {i j:Int} {x y:α} (i' j':Nat) (hi:d.toList[i.toNat]? = some x) (hj:d.toList[j.toNat]? = some y) (ei:i=i') (ej:j=j'):((d.toList.map enc).set i.toNat (enc y)).set j.toNat (enc x)=(Sort.swp d i' j').toList.map enc:=by
 subst ei;subst ej;exact swp_row hi hj
theorem swp_size (d:Array α) (i j:Nat):(Sort.swp d i j).size=d.size:=by simp [Sort.swp]
variable {lt:α→α→Bool}
theorem lt_at {d:Array α} {i j:Nat} {x y:α} (hi:d.toList[i]? = some x) (hj:d.toList[j]? = some y):lt d[i]! d[j]! = lt x y:=by rw [(arr_eq hi).1,(arr_eq hj).1]
theorem insInner_stop {a j:Nat} {d:Array α} (h : ¬(a < j∧lt d[j]! d[j - 1]! = true)):Sort.insInner lt a j d=d:=by
 cases j with
 | zero=>rfl
 | succ j =>
  unfold Sort.insInner
  rw [if_neg]
  simpa using h
theorem insInner_step {a j:Nat} {d:Array α} (h1:a < j) (h2:lt d[j]! d[j - 1]! = true):Sort.insInner lt a j d=Sort.insInner lt a (j - 1) (Sort.swp d j (j - 1)):=by
 cases j with
 | zero=>omega
 | succ j =>
  rw [Sort.insInner,if_pos]
  ·simp
  ·simp at h2 ⊢;exact ⟨by omega,h2⟩
theorem insInner_size {a:Nat} : ∀ {j:Nat} {d:Array α},(Sort.insInner lt a j d).size=d.size
 | 0,d=>rfl
 | j+1,d=>by
  unfold Sort.insInner
  split
  ·rw [insInner_size,swp_size]
  ·rfl
theorem insOuter_stop {a b i:Nat} {d:Array α} (h : ¬i < b):Sort.insOuter lt a b i d=d:=by rw [Sort.insOuter,if_neg h]
theorem insOuter_step {a b i:Nat} {d:Array α} (h:i < b):Sort.insOuter lt a b i d=Sort.insOuter lt a b (i+1) (Sort.insInner lt a i d):=by rw [Sort.insOuter.eq_def lt a b i,if_pos h]
theorem sift_stop {hi first root:Nat} {d:Array α} (h:2 * root+1 ≥ hi):Sort.siftDown lt hi first root d=d:=by rw [Sort.siftDown,dif_pos h]
def childOf (lt:α→α→Bool) (hi first root:Nat) (d:Array α):Nat:=if 2 * root+1+1 < hi∧lt d[first+(2 * root+1)]! d[first+(2 * root+1)+1]! = true then 2 * root+2 else 2 * root+1
theorem sift_eq {hi first root:Nat} {d:Array α} (h : ¬2 * root+1 ≥ hi):Sort.siftDown lt hi first root d =
  if lt d[first+root]! d[first+childOf lt hi first root d]! = true then Sort.siftDown lt hi first (childOf lt hi first root d) (Sort.swp d (first+root) (first+childOf lt hi first root d)) else d:=by
 rw [Sort.siftDown,dif_neg h,childOf]
 by_cases h1:2 * root+1+1 < hi∧lt d[first+(2 * root+1)]! d[first+(2 * root+1)+1]! = true
 ·rw [if_pos (by simpa using h1),if_pos h1]
  cases hb:lt d[first+root]! d[first+(2 * root+2)]! with
  | false=>simp
  | true=>simp only [Bool.not_true,Bool.false_eq_true,if_false,if_true];rw [dif_pos (by omega)]
 ·rw [if_neg (by simpa using h1),if_neg h1]
  cases hb:lt d[first+root]! d[first+(2 * root+1)]! with
  | false=>simp
  | true=>simp
theorem sift_size {hi first:Nat} : ∀ (n root:Nat) (d:Array α),hi - root≤n→(Sort.siftDown lt hi first root d).size=d.size
 | 0,root,d,h=>by rw [sift_stop (by omega)]
 | n+1,root,d,h=>by
  by_cases h1:2 * root+1 ≥ hi
  ·rw [sift_stop h1]
  ·rw [sift_eq h1]
   split
   ·have:root < childOf lt hi first root d:=by unfold childOf;split<;>omega
    rw [sift_size n _ _ (by omega),swp_size]
   ·rfl
theorem siftDown_size {hi first root:Nat} {d:Array α} : (Sort.siftDown lt hi first root d).size=d.size:=sift_size _ _ _ (Nat.le_refl _)
theorem build_size {hi first:Nat} : ∀ {k:Nat} {d:Array α},(Sort.heapBuild lt hi first k d).size=d.size
 | 0,d=>rfl
 | k+1,d=>by rw [Sort.heapBuild,build_size,siftDown_size]
theorem rev_stop {i j:Nat} {d:Array α} (h : ¬i < j):Sort.reverseLoop i j d=d:=by rw [Sort.reverseLoop,if_neg h]
theorem rev_next {i j:Nat} {d:Array α} (h:i < j):Sort.reverseLoop i j d=Sort.reverseLoop (i+1) (j - 1) (Sort.swp d i j):=by rw [Sort.reverseLoop,if_pos h]
end
end Go.Ab
namespace Go.Ab
open Go Go.Proofs
set_option linter.unusedSimpArgs false
set_option linter.unusedVariables false
set_option maxRecDepth 10000
set_option maxHeartbeats 4000000
variable {T : Nat → Obj → Prop}
abbrev eC {α : Type} (v : α → Int) (x : α) : D := .int .i64 (v x)
def ltC {α : Type} (c : α → α → Int) (x y : α) : Bool := decide (c x y < 0)
abbrev rowC {τ : Type} (vf : τ → Int) (d : Array τ) : Ob := .row 1 (d.toList.map (eC vf))
variable {τ : Type} [Inhabited τ] {vf : τ → Int} {cf : τ → τ → Int} {fid : Nat} {y1 y2 y3 : D} (hcf : ∀ x y : τ, Fn Tryz.prog T fid [.d (.int .i64 (vf x)), .d (.int .i64 (vf y)), .d y1, .d y2, .d y3] [] (.d (.int .i64 (cf x y))) []) (hO : Sort.SWO (ltC cf))
include hcf hO
theorem fn_ins_cmp (d : Array (τ)) (a b : Nat) (hb : b ≤ d.size) (hs : d.size ≤ 1073741824) (ha : a ≤ b) :
    Fn Tryz.prog T f_slices_insertionSortCmpFunc_int_ [.own 0, .d (.int .i64 (a : Int)), .d (.int .i64 (b : Int)), .d (.fn fid [y1, y2, y3])] [rowC vf d] (.tup []) [some (rowC vf (Sort.insertionSort (ltC cf) d a b))] := by
  refine fn_introR hmix k_slices_insertionSortCmpFunc_int_ (by show 4 ≤ 53; decide) _ (fun e env mem n h => h) ?_
  (repeat' ((conv=>whnf);first|(refine vO ?_ ?_;·omega)|fail));all_goals try conv=>whnf
  refine loop_mem (fun ((ii, xs) : Int × List D) => [(0, .own 0), (1, .d (.int .i64 ((a : Int)))), (2, .d (.int .i64 ((b : Int)))), (8, .d (.int .i64 (ii))), (3, .d (.fn fid [y1, y2, y3])), (ghostAt, .own 0)]) (fun ((ii, xs) : Int × List D) => [(0, some (.row 1 xs))]) 1 (fun ((ii, xs) : Int × List D) => ∃ (i : Nat) (e : Array (τ)), ii = i ∧ xs = e.toList.map (eC vf) ∧ a < i ∧ i ≤ b + 1 ∧ e.size = d.size ∧ Sort.insOuter (ltC cf) a b i e = Sort.insertionSort (ltC cf) d a b) (fun ((ii, xs) : Int × List D) => (b - ii).toNat) (((a : Int) + 1, d.toList.map (eC vf))) [(0, 0)] [] (⟨a + 1, d, by omega, rfl, by omega, by omega, rfl, rfl⟩) (by (refine ⟨rfl,rfl,rfl,?_,?_⟩;repeat' first|exact trivial|exact rfl|refine And.intro ?_ ?_|refine ⟨_,rfl,?_⟩|decide)) ?_
  rintro ⟨_, _⟩ ⟨i, e, rfl, rfl, hi, hi2, he, hI⟩
  (repeat' ((conv=>whnf);first|refine vA ?_|(refine vF ?_ ?_<;>intro hc<;>try simp only [vL] at hc)));all_goals try conv=>whnf
  · refine loop_mem (fun ((jj, xs) : Int × List D) => [(0, .own 0), (1, .d (.int .i64 ((a : Int)))), (2, .d (.int .i64 ((b : Int)))), (8, .d (.int .i64 ((i : Int)))), (9, .d (.int .i64 (jj))), (3, .d (.fn fid [y1, y2, y3])), (ghostAt, .own 0)]) (fun ((jj, xs) : Int × List D) => [(0, some (.row 1 xs))]) 1 (fun ((jj, xs) : Int × List D) => ∃ (j : Nat) (g : Array (τ)), jj = j ∧ xs = g.toList.map (eC vf) ∧ j ≤ i ∧ g.size = d.size ∧ Sort.insInner (ltC cf) a j g = Sort.insInner (ltC cf) a i e) (fun ((jj, xs) : Int × List D) => jj.toNat) (((i : Int), e.toList.map (eC vf))) [(0, 0)] [] (⟨i, e, rfl, rfl, by omega, he, rfl⟩) (by (refine ⟨rfl,rfl,rfl,?_,?_⟩;repeat' first|exact trivial|exact rfl|refine And.intro ?_ ?_|refine ⟨_,rfl,?_⟩|decide)) ?_
    rintro ⟨_, _⟩ ⟨j, g, rfl, rfl, hj, hg, hJ⟩
    have hgl : g.toList.length = d.size := by rw [Array.length_toList]; exact hg
    have stop : ¬(a < j ∧ (ltC cf) g[j]! g[j - 1]! = true) → Sort.insOuter (ltC cf) a b (i + 1) g = Sort.insertionSort (ltC cf) d a b := fun h => by
      rw [← hI, Sort.insOuter.eq_def (ltC cf) a b i, if_pos (by omega), ← hJ, insInner_stop h]
    (repeat' ((conv=>whnf);first|refine vA ?_|(refine vF ?_ ?_<;>intro hc<;>try simp only [vL] at hc)|refine vN ‹_› ?_|(refine vQ ?_ fun x hx=>?_;·omega)|((first|refine vO ?_ ?_|refine vP ?_ ?_);·first|omega|(simp only [vM] at *;omega))|(refine vU ?_ ?_;·kernel_rfl)|refine yD (hcf _ _) (by (repeat refine ⟨⟨rfl,rfl⟩,?_⟩);rfl) rfl ?_));all_goals try conv=>whnf
    · have e1 : ((j : Int) - 1).toNat = j - 1 := by omega
      have hx1 : g.toList[j]? = some _ := ‹g.toList[(j : Int).toNat]? = some _›
      have hx2 : g.toList[j - 1]? = some x := by rw [← e1]; exact hx
      refine ⟨(_, _), [(0, 0)], [], ?_, ?_, by (refine ⟨rfl,rfl,rfl,?_,?_⟩;repeat' first|exact trivial|exact rfl|refine And.intro ?_ ?_|refine ⟨_,rfl,?_⟩|decide)⟩
      · refine ⟨j - 1, Sort.swp g j (j - 1), by omega, ?_, by omega, by rw [swp_size, hg], ?_⟩
        · rw [e1]; exact swp_row hx1 hx2
        · exact (insInner_step (d := g) (j := j) (by omega) (by rw [(arr_eq hx1).1, (arr_eq hx2).1]; exact decide_eq_true hc)).symm.trans hJ
      · ((simp only [vM] at *;omega))
    · have e1 : ((j : Int) - 1).toNat = j - 1 := by omega
      have hx1 : g.toList[j]? = some _ := ‹g.toList[(j : Int).toNat]? = some _›
      have hx2 : g.toList[j - 1]? = some x := by rw [← e1]; exact hx
      refine ⟨(_, _), [(0, 0)], [], ?_, ?_, by (refine ⟨rfl,rfl,rfl,?_,?_⟩;repeat' first|exact trivial|exact rfl|refine And.intro ?_ ?_|refine ⟨_,rfl,?_⟩|decide)⟩
      · exact ⟨i + 1, g, by omega, rfl, by omega, by omega, hg, stop fun h => by
          rw [(arr_eq hx1).1, (arr_eq hx2).1] at h
          have := of_decide_eq_true h.2; omega⟩
      · ((simp only [vM] at *;omega))
    · refine ⟨(_, _), [(0, 0)], [], ?_, ?_, by (refine ⟨rfl,rfl,rfl,?_,?_⟩;repeat' first|exact trivial|exact rfl|refine And.intro ?_ ?_|refine ⟨_,rfl,?_⟩|decide)⟩
      · exact ⟨i + 1, g, by omega, rfl, by omega, by omega, hg, stop fun h => by omega⟩
      · ((simp only [vM] at *;omega))
  · have e0 : Sort.insertionSort (ltC cf) d a b = e := by
      rw [← hI, Sort.insOuter, if_neg (by omega)]
    rw [e0]
    refine ⟨trivial, _, [(0, 0)], [], rfl, .inl (by (repeat' first|exact rfl|refine ⟨_,rfl,?_⟩)), ⟨by rfl, by rfl, by rfl, trivial, by (repeat' first|exact trivial|exact rfl|refine And.intro ?_ ?_|refine ⟨_,rfl,?_⟩|exact of_decide_eq_true rfl)⟩, by (repeat' first|exact trivial|exact rfl|refine And.intro ?_ ?_)⟩
theorem fn_sift_cmp (d : Array τ) (root hi first : Nat) (hb : first + hi ≤ d.size) (hs : d.size ≤ 1073741824) (hr : root ≤ d.size) :
    Fn Tryz.prog T f_slices_siftDownCmpFunc_int_ [.own 0, .d (.int .i64 (root : Int)), .d (.int .i64 (hi : Int)), .d (.int .i64 (first : Int)), .d (.fn fid [y1, y2, y3])] [rowC vf d] (.tup []) [some (rowC vf (Sort.siftDown (ltC cf) hi first root d))] := by
  refine fn_introR hmix k_slices_siftDownCmpFunc_int_ (by show 5 ≤ 82; decide) _ (fun e env mem n h => h) ?_
  (repeat' ((conv=>whnf);fail));all_goals try conv=>whnf
  refine loop_mem (fun ((ii, xs) : Int × List D) => [(0, .own 0), (2, .d (.int .i64 ((hi : Int)))), (3, .d (.int .i64 ((first : Int)))), (10, .d (.int .i64 (ii))), (4, .d (.fn fid [y1, y2, y3])), (ghostAt, .own 0)]) (fun ((ii, xs) : Int × List D) => [(0, some (.row 1 xs))]) 1 (fun ((ii, xs) : Int × List D) => ∃ (i : Nat) (e : Array τ), ii = i ∧ xs = e.toList.map (eC vf) ∧ i ≤ d.size ∧ e.size = d.size ∧ Sort.siftDown (ltC cf) hi first i e = Sort.siftDown (ltC cf) hi first root d) (fun ((ii, xs) : Int × List D) => (hi - ii).toNat) (((root : Int), d.toList.map (eC vf))) [(0, 0)] [] (⟨root, d, rfl, rfl, hr, rfl, rfl⟩) (by (refine ⟨rfl,rfl,rfl,?_,?_⟩;repeat' first|exact trivial|exact rfl|refine And.intro ?_ ?_|refine ⟨_,rfl,?_⟩|decide)) ?_
  rintro ⟨_, _⟩ ⟨i, e, rfl, rfl, hi0, he, hI⟩
  have hel : e.toList.length = d.size := by rw [Array.length_toList]; exact he
  have stop : 2 * i + 1 ≥ hi → Sort.siftDown (ltC cf) hi first root d = e := fun h => by rw [← hI, sift_stop h]
  have stop2 : ∀ k, ¬2 * i + 1 ≥ hi → childOf (ltC cf) hi first i e = k → (ltC cf) e[first + i]! e[first + k]! = false → Sort.siftDown (ltC cf) hi first root d = e := fun k h hk hf => by rw [← hI, sift_eq h, hk, hf]; rfl
  have next : ∀ k, ¬2 * i + 1 ≥ hi → childOf (ltC cf) hi first i e = k → (ltC cf) e[first + i]! e[first + k]! = true → Sort.siftDown (ltC cf) hi first k (Sort.swp e (first + i) (first + k)) = Sort.siftDown (ltC cf) hi first root d := fun k h hk hf => by rw [← hI, sift_eq h, hk, hf, if_pos rfl]
  (repeat' ((conv=>whnf);first|refine vA ?_|refine vE ?_|(refine vF ?_ ?_<;>intro hc<;>try simp only [vL] at hc)|refine vN ‹_› ?_|(refine vQ ?_ fun x hx=>?_;·omega)|((first|refine vO ?_ ?_|refine vP ?_ ?_);·first|omega|(simp only [vM] at *;omega))|(refine vU ?_ ?_;·kernel_rfl)|refine yD (hcf _ _) (by (repeat refine ⟨⟨rfl,rfl⟩,?_⟩);rfl) rfl ?_));all_goals try conv=>whnf
  · rw [stop (by omega)]; refine ⟨trivial, _, [(0, 0)], [], rfl, .inl (by (repeat' first|exact rfl|refine ⟨_,rfl,?_⟩)), ⟨by rfl, by rfl, by rfl, trivial, by (repeat' first|exact trivial|exact rfl|refine And.intro ?_ ?_|refine ⟨_,rfl,?_⟩|exact of_decide_eq_true rfl)⟩, by (repeat' first|exact trivial|exact rfl|refine And.intro ?_ ?_)⟩
  iterate 4
    · have h1 := arr_at (first + (2 * i + 1)) ‹e.toList[((first : Int) + (2 * (i : Int) + 1)).toNat]? = some _› (by omega)
      have h2 := arr_at (first + (2 * i + 1) + 1) ‹e.toList[((first : Int) + (2 * (i : Int) + 1) + 1).toNat]? = some _› (by omega)
      have h2' : e.toList[first + (2 * i + 2)]? = some _ := h2
      have h3 := arr_at (first + i) ‹e.toList[((first : Int) + (i : Int)).toNat]? = some _› (by omega)
      first
      | (rw [stop2 (2 * i + 2) (by omega) (if_pos ⟨by omega, (lt_at h1 h2).trans (decide_eq_true (by omega))⟩) ((lt_at h3 h2').trans (decide_eq_false (by omega)))]; refine ⟨trivial, _, [(0, 0)], [], rfl, .inl (by (repeat' first|exact rfl|refine ⟨_,rfl,?_⟩)), ⟨by rfl, by rfl, by rfl, trivial, by (repeat' first|exact trivial|exact rfl|refine And.intro ?_ ?_|refine ⟨_,rfl,?_⟩|exact of_decide_eq_true rfl)⟩, by (repeat' first|exact trivial|exact rfl|refine And.intro ?_ ?_)⟩; done)
      | (rw [stop2 (2 * i + 1) (by omega) (if_neg fun h => absurd ((lt_at h1 h2).symm.trans h.2) (by rw [show (ltC cf) _ _ = false from decide_eq_false (by omega)]; exact Bool.false_ne_true)) ((lt_at h3 h1).trans (decide_eq_false (by omega)))]; refine ⟨trivial, _, [(0, 0)], [], rfl, .inl (by (repeat' first|exact rfl|refine ⟨_,rfl,?_⟩)), ⟨by rfl, by rfl, by rfl, trivial, by (repeat' first|exact trivial|exact rfl|refine And.intro ?_ ?_|refine ⟨_,rfl,?_⟩|exact of_decide_eq_true rfl)⟩, by (repeat' first|exact trivial|exact rfl|refine And.intro ?_ ?_)⟩; done)
      | (refine ⟨(_, _), [(0, 0)], [], ?_, ?_, by (refine ⟨rfl,rfl,rfl,?_,?_⟩;repeat' first|exact trivial|exact rfl|refine And.intro ?_ ?_|refine ⟨_,rfl,?_⟩|decide)⟩
         · exact ⟨2 * i + 2, Sort.swp e (first + i) (first + (2 * i + 2)), by omega, swp_rowI _ _ hx ‹_› (by omega) (by omega), by omega, by rw [swp_size, he], next _ (by omega) (if_pos ⟨by omega, (lt_at h1 h2).trans (decide_eq_true (by omega))⟩) ((lt_at h3 h2').trans (decide_eq_true (by omega)))⟩
         · ((simp only [vM] at *;omega)))
      | (refine ⟨(_, _), [(0, 0)], [], ?_, ?_, by (refine ⟨rfl,rfl,rfl,?_,?_⟩;repeat' first|exact trivial|exact rfl|refine And.intro ?_ ?_|refine ⟨_,rfl,?_⟩|decide)⟩
         · exact ⟨2 * i + 1, Sort.swp e (first + i) (first + (2 * i + 1)), by omega, swp_rowI _ _ hx ‹_› (by omega) (by omega), by omega, by rw [swp_size, he], next _ (by omega) (if_neg fun h => absurd ((lt_at h1 h2).symm.trans h.2) (by rw [show (ltC cf) _ _ = false from decide_eq_false (by omega)]; exact Bool.false_ne_true)) ((lt_at h3 h1).trans (decide_eq_true (by omega)))⟩
         · ((simp only [vM] at *;omega)))
  iterate 2
    · have h1 := arr_at (first + (2 * i + 1)) ‹e.toList[((first : Int) + (2 * (i : Int) + 1)).toNat]? = some _› (by omega)
      have h3 := arr_at (first + i) ‹e.toList[((first : Int) + (i : Int)).toNat]? = some _› (by omega)
      first
      | (rw [stop2 (2 * i + 1) (by omega) (if_neg fun h => by omega) ((lt_at h3 h1).trans (decide_eq_false (by omega)))]; refine ⟨trivial, _, [(0, 0)], [], rfl, .inl (by (repeat' first|exact rfl|refine ⟨_,rfl,?_⟩)), ⟨by rfl, by rfl, by rfl, trivial, by (repeat' first|exact trivial|exact rfl|refine And.intro ?_ ?_|refine ⟨_,rfl,?_⟩|exact of_decide_eq_true rfl)⟩, by (repeat' first|exact trivial|exact rfl|refine And.intro ?_ ?_)⟩; done)
      | (refine ⟨(_, _), [(0, 0)], [], ?_, ?_, by (refine ⟨rfl,rfl,rfl,?_,?_⟩;repeat' first|exact trivial|exact rfl|refine And.intro ?_ ?_|refine ⟨_,rfl,?_⟩|decide)⟩
         · exact ⟨2 * i + 1, Sort.swp e (first + i) (first + (2 * i + 1)), by omega, swp_rowI _ _ ‹e.toList[((first : Int) + (i : Int)).toNat]? = some _› ‹e.toList[((first : Int) + (2 * (i : Int) + 1)).toNat]? = some _› (by omega) (by omega), by omega, by rw [swp_size, he], next _ (by omega) (if_neg fun h => by omega) ((lt_at h3 h1).trans (decide_eq_true (by omega)))⟩
         · ((simp only [vM] at *;omega)))
theorem fn_sift_cmp' {xs : List D} (d : Array τ) (ex : xs = d.toList.map (eC vf)) {root hi first : Nat} {ri hii fi : Int} (er : ri = root) (eh : hii = hi) (ef : fi = first) (hb : first + hi ≤ d.size) (hs : d.size ≤ 1073741824) (hr : root ≤ d.size) :
    Fn Tryz.prog T f_slices_siftDownCmpFunc_int_ [.own 0, .d (.int .i64 ri), .d (.int .i64 hii), .d (.int .i64 fi), .d (.fn fid [y1, y2, y3])] [.row 1 xs] (.tup []) [some (rowC vf (Sort.siftDown (ltC cf) hi first root d))] := by
  subst er; subst eh; subst ef; subst ex; exact fn_sift_cmp hcf hO d root hi first hb hs hr
theorem fn_ins_cmp' (d : Array τ) {a b : Nat} {ai bi : Int} (ea : ai = a) (eb : bi = b) (hb : b ≤ d.size) (hs : d.size ≤ 1073741824) (ha : a ≤ b) :
    Fn Tryz.prog T f_slices_insertionSortCmpFunc_int_ [.own 0, .d (.int .i64 ai), .d (.int .i64 bi), .d (.fn fid [y1, y2, y3])] [rowC vf d] (.tup []) [some (rowC vf (Sort.insertionSort (ltC cf) d a b))] := by
  subst ea; subst eb; exact fn_ins_cmp hcf hO d a b hb hs ha
end Go.Ab
namespace Go.Ab
open Go Go.Proofs
set_option linter.unusedSimpArgs false
set_option linter.unusedVariables false
set_option maxRecDepth 10000
set_option maxHeartbeats 4000000
variable {T:Nat→Obj→Prop}
variable {τ:Type} [Inhabited τ] {vf:τ→Int} {cf:τ→τ→Int} {fid:Nat} {y1 y2 y3:D} (hcf : ∀ x y:τ,Fn Tryz.prog T fid [.d (.int .i64 (vf x)),.d (.int .i64 (vf y)),.d y1,.d y2,.d y3] [] (.d (.int .i64 (cf x y))) []) (hO:Sort.SWO (ltC cf))
include hcf hO
abbrev box1cmp (s:Nat):Ob := .box [.d (.int .i64 (s:Int))]
theorem fn_order2_cmp (d:Array τ) {a b s:Nat} {ai bi:Int} (ea:ai=a) (eb:bi=b) (ha:a < d.size) (hb:b < d.size) (hs:s≤1000) :
  Fn Tryz.prog T f_slices_order2CmpFunc_int_ [.own 0,.d (.int .i64 ai),.d (.int .i64 bi),.ptr 1 0,.d (.fn fid [y1,y2,y3])] [rowC vf d,box1cmp s] (.tup [.d (.int .i64 ((Sort.order2 (ltC cf) d a b s).1:Int)),.d (.int .i64 ((Sort.order2 (ltC cf) d a b s).2.1:Int))])
   [some (rowC vf d),some (box1cmp (Sort.order2 (ltC cf) d a b s).2.2)]:=by
 subst ea;subst eb
 have hl:d.toList.length=d.size:=Array.length_toList
 refine fn_introR hmix k_slices_order2CmpFunc_int_ (by show 5≤32;decide) _ (fun e env mem n h=>h) ?_
 (repeat' ((conv=>whnf);first|refine vA ?_|(refine vF ?_ ?_<;>intro hc<;>try simp only [vL] at hc)|(refine vQ ?_ fun x hx=>?_;·omega)|((first|refine vO ?_ ?_|refine vP ?_ ?_);·first|omega|(simp only [vM] at *;omega))|(refine vU ?_ ?_;·kernel_rfl)|refine yD (hcf _ _) (by (repeat refine ⟨⟨rfl,rfl⟩,?_⟩);rfl) rfl ?_));all_goals try conv=>whnf
 ·have h1:d.toList[b]? = some _:=‹d.toList[(b:Int).toNat]? = some _›
  have h2:d.toList[a]? = some _:=‹d.toList[(a:Int).toNat]? = some _›
  rw [show Sort.order2 (ltC cf) d a b s=(b,a,s+1) by rw [Sort.order2,if_pos ((lt_at h1 h2).trans (decide_eq_true (by omega)))]]
  refine ⟨trivial,_,[(0,0),(1,1)],[],rfl,.inl (by (repeat' first|exact rfl|refine And.intro ?_ ?_|refine ⟨_,rfl,?_⟩)),⟨by rfl,by rfl,by rfl,trivial,by (repeat' first|exact trivial|exact rfl|refine And.intro ?_ ?_|refine ⟨_,rfl,?_⟩|exact of_decide_eq_true rfl)⟩,by (repeat' first|exact trivial|exact rfl|refine And.intro ?_ ?_|refine ⟨_,rfl,?_⟩)⟩
 ·have h1:d.toList[b]? = some _:=‹d.toList[(b:Int).toNat]? = some _›
  have h2:d.toList[a]? = some _:=‹d.toList[(a:Int).toNat]? = some _›
  rw [show Sort.order2 (ltC cf) d a b s=(a,b,s) by rw [Sort.order2,if_neg (by rw [lt_at (lt:=(ltC cf)) h1 h2];exact Bool.eq_false_iff.1 (decide_eq_false (by omega)))]]
  refine ⟨trivial,_,[(0,0),(1,1)],[],rfl,.inl (by (repeat' first|exact rfl|refine And.intro ?_ ?_|refine ⟨_,rfl,?_⟩)),⟨by rfl,by rfl,by rfl,trivial,by (repeat' first|exact trivial|exact rfl|refine And.intro ?_ ?_|refine ⟨_,rfl,?_⟩|exact of_decide_eq_true rfl)⟩,by (repeat' first|exact trivial|exact rfl|refine And.intro ?_ ?_|refine ⟨_,rfl,?_⟩)⟩
theorem order2_lt_cmp (d:Array τ) {a b s m:Nat} (ha:a < m) (hb:b < m):(Sort.order2 (ltC cf) d a b s).1 < m∧(Sort.order2 (ltC cf) d a b s).2.1 < m∧(Sort.order2 (ltC cf) d a b s).2.2≤s+1:=by
 unfold Sort.order2
 split
 ·exact ⟨hb,ha,Nat.le_refl _⟩
 ·exact ⟨ha,hb,Nat.le_succ _⟩
theorem fn_median_cmp (d:Array τ) {a b c s:Nat} {ai bi ci:Int} (ea:ai=a) (eb:bi=b) (ec:ci=c) (ha:a < d.size) (hb:b < d.size) (hc:c < d.size) (hs:s≤100) :
  Fn Tryz.prog T f_slices_medianCmpFunc_int_ [.own 0,.d (.int .i64 ai),.d (.int .i64 bi),.d (.int .i64 ci),.ptr 1 0,.d (.fn fid [y1,y2,y3])] [rowC vf d,box1cmp s] (.d (.int .i64 ((Sort.median (ltC cf) d a b c s).1:Int)))
   [some (rowC vf d),some (box1cmp (Sort.median (ltC cf) d a b c s).2)]:=by
 refine fn_introR hmix k_slices_medianCmpFunc_int_ (by show 6≤41;decide) _ (fun e env mem n h=>h) ?_
 have g1:=order2_lt_cmp hcf hO d (s:=s) ha hb
 have g2:=order2_lt_cmp hcf hO d (s:=(Sort.order2 (ltC cf) d a b s).2.2) g1.2.1 hc
 (repeat' ((conv=>whnf);fail));all_goals try conv=>whnf
 refine CallS.objs [0,1] (fn_order2_cmp hcf hO d (s:=s) ea eb ha hb (by omega)) (by (repeat' first|exact rfl|refine And.intro ?_ ?_|refine ⟨_,rfl,?_⟩)) (by (repeat' first|exact rfl|refine And.intro ?_ ?_|refine ⟨_,rfl,?_⟩)) (by rfl) (by rfl) (by simp) ?_
 (repeat' ((conv=>whnf);fail));all_goals try conv=>whnf
 refine CallS.objs [0,1] (fn_order2_cmp hcf hO d (s:=(Sort.order2 (ltC cf) d a b s).2.2) rfl ec g1.2.1 hc (by omega)) (by (repeat' first|exact rfl|refine And.intro ?_ ?_|refine ⟨_,rfl,?_⟩)) (by (repeat' first|exact rfl|refine And.intro ?_ ?_|refine ⟨_,rfl,?_⟩)) (by rfl) (by rfl) (by simp) ?_
 (repeat' ((conv=>whnf);fail));all_goals try conv=>whnf
 refine CallS.objs [0,1] (fn_order2_cmp hcf hO d (s:=(Sort.order2 (ltC cf) d (Sort.order2 (ltC cf) d a b s).2.1 c (Sort.order2 (ltC cf) d a b s).2.2).2.2) rfl rfl g1.1 g2.1 (by omega)) (by (repeat' first|exact rfl|refine And.intro ?_ ?_|refine ⟨_,rfl,?_⟩)) (by (repeat' first|exact rfl|refine And.intro ?_ ?_|refine ⟨_,rfl,?_⟩)) (by rfl) (by rfl) (by simp) ?_
 (repeat' ((conv=>whnf);fail));all_goals try conv=>whnf
 refine ⟨trivial,_,[(0,0),(1,1)],[],rfl,.inl (by (repeat' exact rfl)),⟨by rfl,by rfl,by rfl,trivial,by (repeat' first|exact trivial|exact rfl|refine And.intro ?_ ?_|refine ⟨_,rfl,?_⟩|exact of_decide_eq_true rfl)⟩,by (repeat' first|exact trivial|exact rfl|refine And.intro ?_ ?_|refine ⟨_,rfl,?_⟩)⟩
theorem fn_medAdj_cmp (d:Array τ) {a s:Nat} {ai:Int} (ea:ai=a) (ha:a+1 < d.size) (h0:0 < a) (hs:s≤100) (hz:d.size≤1073741824) :
  Fn Tryz.prog T f_slices_medianAdjacentCmpFunc_int_ [.own 0,.d (.int .i64 ai),.ptr 1 0,.d (.fn fid [y1,y2,y3])] [rowC vf d,box1cmp s] (.d (.int .i64 ((Sort.medianAdjacent (ltC cf) d a s).1:Int)))
   [some (rowC vf d),some (box1cmp (Sort.medianAdjacent (ltC cf) d a s).2)]:=by
 refine fn_introR hmix k_slices_medianAdjacentCmpFunc_int_ (by show 4≤18;decide) _ (fun e env mem n h=>h) ?_
 (repeat' ((conv=>whnf);first|(refine vO ?_ ?_;·omega)|fail));all_goals try conv=>whnf
 refine CallS.objs [0,1] (fn_median_cmp hcf hO d (s:=s) (a:=a - 1) (b:=a) (c:=a+1) (ai:=ai - 1) (bi:=ai) (ci:=ai+1) (by omega) (by omega) (by omega) (by omega) (by omega) (by omega) hs) (by (repeat' first|exact rfl|refine And.intro ?_ ?_|refine ⟨_,rfl,?_⟩)) (by (repeat' first|exact rfl|refine And.intro ?_ ?_|refine ⟨_,rfl,?_⟩)) (by rfl) (by rfl) (by simp) ?_
 (repeat' ((conv=>whnf);fail));all_goals try conv=>whnf
 refine ⟨trivial,_,[(0,0),(1,1)],[],rfl,.inl (by (repeat' exact rfl)),⟨by rfl,by rfl,by rfl,trivial,by (repeat' first|exact trivial|exact rfl|refine And.intro ?_ ?_|refine ⟨_,rfl,?_⟩|exact of_decide_eq_true rfl)⟩,by (repeat' first|exact trivial|exact rfl|refine And.intro ?_ ?_|refine ⟨_,rfl,?_⟩)⟩
theorem fn_rev_cmp (d:Array τ) {a b:Nat} {ai bi:Int} (ea:ai=a) (eb:bi=b) (hab:a < b) (hb:b≤d.size) (hs:d.size≤1073741824) :
  Fn Tryz.prog T f_slices_reverseRangeCmpFunc_int_ [.own 0,.d (.int .i64 ai),.d (.int .i64 bi),.d (.fn fid [y1,y2,y3])] [rowC vf d] (.tup []) [some (rowC vf (Sort.reverseRange d a b))]:=by
 subst ea;subst eb
 refine fn_introR hmix k_slices_reverseRangeCmpFunc_int_ (by show 4≤34;decide) _ (fun e env mem n h=>h) ?_
 (repeat' ((conv=>whnf);first|(refine vO ?_ ?_;·omega)|fail));all_goals try conv=>whnf
 refine loop_mem (fun ((ii,jj,xs):Int×Int×List D)=>[(0,.own 0),(8,.d (.int .i64 (ii))),(9,.d (.int .i64 (jj))),(3,.d (.fn fid [y1,y2,y3])),(ghostAt,.own 0)]) (fun ((ii,jj,xs):Int×Int×List D)=>[(0,some (.row 1 xs))]) 1 (fun ((ii,jj,xs):Int×Int×List D) => ∃ (i j:Nat) (e:Array τ),ii=i∧jj=j∧xs=e.toList.map (eC vf)∧i≤d.size∧j < d.size∧e.size=d.size∧Sort.reverseLoop i j e=Sort.reverseRange d a b) (fun ((ii,jj,xs):Int×Int×List D)=>(jj - ii).toNat) (((a:Int),(b:Int) - 1,d.toList.map (eC vf))) [(0,0)] [] (⟨a,b - 1,d,rfl,by omega,rfl,by omega,by omega,rfl,rfl⟩) (by (refine ⟨rfl,rfl,rfl,?_,?_⟩;repeat' first|exact trivial|exact rfl|refine And.intro ?_ ?_|refine ⟨_,rfl,?_⟩|decide)) ?_
 rintro ⟨_,_,_⟩ ⟨i,j,e,rfl,rfl,rfl,hi,hj,he,hI⟩
 have hel:e.toList.length=d.size:=by rw [Array.length_toList];exact he
 (repeat' ((conv=>whnf);first|refine vA ?_|(refine vF ?_ ?_<;>intro hc<;>try simp only [vL] at hc)|(refine vQ ?_ fun x hx=>?_;·omega)|((first|refine vO ?_ ?_|refine vP ?_ ?_);·first|omega|(simp only [vM] at *;omega))|(refine vU ?_ ?_;·kernel_rfl)|fail));all_goals try conv=>whnf
 ·have h1:e.toList[i]? = some _:=‹e.toList[(i:Int).toNat]? = some _›
  have h2:e.toList[j]? = some _:=‹e.toList[(j:Int).toNat]? = some _›
  refine ⟨(_,_,_),[(0,0)],[],?_,?_,by (refine ⟨rfl,rfl,rfl,?_,?_⟩;repeat' first|exact trivial|exact rfl|refine And.intro ?_ ?_|refine ⟨_,rfl,?_⟩|decide)⟩
  ·exact ⟨i+1,j - 1,Sort.swp e i j,by omega,by omega,swp_row h1 h2,by omega,by omega,by rw [swp_size,he],(rev_next (i:=i) (j:=j) (d:=e) (by omega)).symm.trans hI⟩
  ·((simp only [vM] at *;omega))
 ·rw [show Sort.reverseRange d a b=e by rw [← hI,rev_stop (by omega)]]
  refine ⟨trivial,_,[(0,0)],[],rfl,.inl (by (repeat' first|exact rfl|refine ⟨_,rfl,?_⟩)),⟨by rfl,by rfl,by rfl,trivial,by (repeat' first|exact trivial|exact rfl|refine And.intro ?_ ?_|refine ⟨_,rfl,?_⟩|exact of_decide_eq_true rfl)⟩,by (repeat' first|exact trivial|exact rfl|refine And.intro ?_ ?_)⟩
theorem fn_heap_cmp (d:Array τ) {a b:Nat} {ai bi:Int} (ea:ai=a) (eb:bi=b) (hab:a < b) (hb:b≤d.size) (hs:d.size≤1073741824) :
  Fn Tryz.prog T f_slices_heapSortCmpFunc_int_ [.own 0,.d (.int .i64 ai),.d (.int .i64 bi),.d (.fn fid [y1,y2,y3])] [rowC vf d] (.tup []) [some (rowC vf (Sort.heapSort (ltC cf) d a b))]:=by
 subst ea;subst eb
 have hq:((b:Int) - (a:Int) - 1).tdiv 2=((b - a - 1) / 2:Nat):=by rw [Int.tdiv_eq_ediv_of_nonneg (by omega)];omega
 refine fn_introR hmix k_slices_heapSortCmpFunc_int_ (by show 4≤60;decide) _ (fun e env mem n h=>h) ?_
 (repeat' ((conv=>whnf);first|refine vA ?_|((first|refine vO ?_ ?_|refine vP ?_ ?_);·omega)|fail));all_goals try conv=>whnf
 refine loop_mem (fun ((ii,xs):Int×List D)=>[(0,.own 0),(8,.d (.int .i64 ((a:Int)))),(9,.d (.int .i64 (0))),(10,.d (.int .i64 (((b:Int) - (a:Int))))),(11,.d (.int .i64 (ii))),(3,.d (.fn fid [y1,y2,y3])),(ghostAt,.own 0)]) (fun ((ii,xs):Int×List D)=>[(0,some (.row 1 xs))]) 1 (fun ((ii,xs):Int×List D) => ∃ (k:Nat) (e:Array τ),ii=(k:Int) - 1∧xs=e.toList.map (eC vf)∧k≤(b - a - 1) / 2+1∧e.size=d.size∧Sort.heapBuild (ltC cf) (b - a) a k e=Sort.heapBuild (ltC cf) (b - a) a ((b - a - 1) / 2+1) d) (fun ((ii,xs):Int×List D)=>(ii+1).toNat) ((((b:Int) - (a:Int) - 1).tdiv 2,d.toList.map (eC vf))) [(0,0)] [] (⟨(b - a - 1) / 2+1,d,by omega,rfl,by omega,rfl,rfl⟩) (by (refine ⟨rfl,rfl,rfl,?_,?_⟩;repeat' first|exact trivial|exact rfl|refine And.intro ?_ ?_|refine ⟨_,rfl,?_⟩|decide)) ?_
 rintro ⟨_,_⟩ ⟨k,e,rfl,rfl,hk,he,hI⟩
 (repeat' ((conv=>whnf);first|refine vA ?_|(refine vF ?_ ?_<;>intro hc<;>try simp only [vL] at hc)|(refine vO ?_ ?_;·omega)|fail));all_goals try conv=>whnf
 ·obtain ⟨k,rfl⟩ : ∃ m,k=m+1:=⟨k - 1,by omega⟩
  refine CallS.objs [0] (fn_sift_cmp' hcf hO e rfl (root:=k) (hi:=b - a) (first:=a) (ri:=((k+1:Nat):Int) - 1) (hii:=(b:Int) - (a:Int)) (fi:=(a:Int)) (by omega) (by omega) rfl (by omega) (by omega) (by omega)) (by (repeat' first|exact rfl|refine And.intro ?_ ?_|refine ⟨_,rfl,?_⟩)) (by (repeat' first|exact rfl|refine And.intro ?_ ?_)) (by rfl) (by rfl) (by simp) ?_
  (repeat' ((conv=>whnf);first|(refine vO ?_ ?_;·omega)|fail));all_goals try conv=>whnf
  refine ⟨(_,_),[(0,0)],[],?_,?_,by (refine ⟨rfl,rfl,rfl,?_,?_⟩;repeat' first|exact trivial|exact rfl|refine And.intro ?_ ?_|refine ⟨_,rfl,?_⟩|decide)⟩
  ·exact ⟨k,Sort.siftDown (ltC cf) (b - a) a k e,by omega,rfl,by omega,by rw [siftDown_size,he],by rw [← hI];rfl⟩
  ·((simp only [vM] at *;omega))
 ·have hk0:k=0:=by omega
  subst hk0
  have hI':e=Sort.heapBuild (ltC cf) (b - a) a ((b - a - 1) / 2+1) d:=hI
  refine loop_mem (fun ((ii,xs):Int×List D)=>[(0,.own 0),(8,.d (.int .i64 ((a:Int)))),(9,.d (.int .i64 (0))),(12,.d (.int .i64 (ii))),(3,.d (.fn fid [y1,y2,y3])),(ghostAt,.own 0)]) (fun ((ii,xs):Int×List D)=>[(0,some (.row 1 xs))]) 1 (fun ((ii,xs):Int×List D) => ∃ (k:Nat) (g:Array τ),ii=(k:Int) - 1∧xs=g.toList.map (eC vf)∧k≤b - a∧g.size=d.size∧Sort.heapPop (ltC cf) a k g=Sort.heapSort (ltC cf) d a b) (fun ((ii,xs):Int×List D)=>(ii+1).toNat) (((b:Int) - (a:Int) - 1,e.toList.map (eC vf))) [(0,0)] [] (⟨b - a,e,by omega,rfl,by omega,he,by rw [Sort.heapSort,← hI']⟩) (by (refine ⟨rfl,rfl,rfl,?_,?_⟩;repeat' first|exact trivial|exact rfl|refine And.intro ?_ ?_|refine ⟨_,rfl,?_⟩|decide)) ?_
  rintro ⟨_,_⟩ ⟨k,g,rfl,rfl,hk,hg,hJ⟩
  have hgl:g.toList.length=d.size:=by rw [Array.length_toList];exact hg
  (repeat' ((conv=>whnf);first|refine vA ?_|(refine vF ?_ ?_<;>intro hc<;>try simp only [vL] at hc)|(refine vQ ?_ fun x hx=>?_;·omega)|((first|refine vO ?_ ?_|refine vP ?_ ?_);·first|omega|(simp only [vM] at *;omega))|(refine vU ?_ ?_;·kernel_rfl)|fail));all_goals try conv=>whnf
  ·obtain ⟨k,rfl⟩ : ∃ m,k=m+1:=⟨k - 1,by omega⟩
   have h1:g.toList[a]? = some _:=‹g.toList[(a:Int).toNat]? = some _›
   have h2:=arr_at (a+k) ‹g.toList[((a:Int)+(((k+1:Nat):Int) - 1)).toNat]? = some _› (by omega)
   have er:=swp_rowI (enc:=(eC vf)) (i:=(a:Int)) (j:=(a:Int)+(((k+1:Nat):Int) - 1)) a (a+k) h1 ‹g.toList[((a:Int)+(((k+1:Nat):Int) - 1)).toNat]? = some _› rfl (by omega)
   refine CallS.objs [0] (fn_sift_cmp' hcf hO (Sort.swp g a (a+k)) er (root:=0) (hi:=k) (first:=a) (ri:=0) (hii:=((k+1:Nat):Int) - 1) (fi:=(a:Int)) rfl (by omega) rfl (by rw [swp_size];omega) (by rw [swp_size];omega) (by omega)) (by (repeat' first|exact rfl|refine And.intro ?_ ?_|refine ⟨_,rfl,?_⟩)) (by (repeat' first|exact rfl|refine And.intro ?_ ?_)) (by rfl) (by rfl) (by simp) ?_
   (repeat' ((conv=>whnf);first|(refine vO ?_ ?_;·omega)|fail));all_goals try conv=>whnf
   refine ⟨(_,_),[(0,0)],[],?_,?_,by (refine ⟨rfl,rfl,rfl,?_,?_⟩;repeat' first|exact trivial|exact rfl|refine And.intro ?_ ?_|refine ⟨_,rfl,?_⟩|decide)⟩
   ·exact ⟨k,Sort.siftDown (ltC cf) k a 0 (Sort.swp g a (a+k)),by omega,rfl,by omega,by rw [siftDown_size,swp_size,hg],by rw [← hJ];rfl⟩
   ·((simp only [vM] at *;omega))
  ·have hk0:k=0:=by omega
   subst hk0
   rw [show Sort.heapSort (ltC cf) d a b=g from hJ.symm]
   refine ⟨trivial,_,[(0,0)],[],rfl,.inl (by (repeat' first|exact rfl|refine ⟨_,rfl,?_⟩)),⟨by rfl,by rfl,by rfl,trivial,by (repeat' first|exact trivial|exact rfl|refine And.intro ?_ ?_|refine ⟨_,rfl,?_⟩|exact of_decide_eq_true rfl)⟩,by (repeat' first|exact trivial|exact rfl|refine And.intro ?_ ?_)⟩
end Go.Ab
namespace Go.Proofs
def Tryz.lays129_ren:Go.Shelf.Ren:=⟨fun|129=>198|n=>n,fun|53=>42|3=>3|4=>4|46=>52|5=>5|9=>9|n=>n,fun|n=>n⟩
theorem Tryz.lays129:Go.Proofs.Lays.n129 Tryz.prog Tryz.lays129_ren := {
 mixed:=by kernel_rfl
 f129:=Tryz.func198.trans (congrArg some (by kernel_rfl))
 t3:=Tryz.underlying3
 a3:=Tryz.isAgg3
 z3:=Tryz.sizeOf3
 v3:=Tryz.zeroValue3
 t4:=Tryz.underlying4
 a4:=Tryz.isAgg4
 z4:=Tryz.sizeOf4
 v4:=Tryz.zeroValue4
 t5:=Tryz.underlying5
 a5:=Tryz.isAgg5
 z5:=Tryz.sizeOf5
 v5:=Tryz.zeroValue5
 t9:=Tryz.underlying9
 a9:=Tryz.isAgg9
 z9:=Tryz.sizeOf9
 v9:=Tryz.zeroValue9
 t46:=Tryz.underlying52
 a46:=Tryz.isAgg52
 z46:=Tryz.sizeOf52
 v46:=Tryz.zeroValue52
 t53:=Tryz.underlying42
 a53:=Tryz.isAgg42
 z53:=Tryz.sizeOf42
 v53:=Tryz.zeroValue42 }
end Go.Proofs
namespace Go.Ab
open Go Go.Proofs
set_option linter.unusedSimpArgs false
set_option linter.unusedVariables false
set_option maxRecDepth 10000
set_option maxHeartbeats 4000000
variable {T:Nat→Obj→Prop}
theorem call_len64:callable Tryz.prog f_math_bits_Len64:=⟨_,Tryz.func198,by kernel_rfl,by kernel_rfl⟩
theorem fn_Len64 (x:BitVec 64):Fn Tryz.prog T f_math_bits_Len64 [.d (.u64 x)] [] (.d (.int .i64 (Sort.bitsLen x.toNat:Int))) []:=by
 refine fn_pure (ds:=[.u64 x]) call_len64 fun w args hw hsz hargs=>?_
 obtain ⟨X,hX⟩:=hargs 0 (by simp)
 have ha:args = #[.int .u64 (x.toNat:Int)]:=by
  have h0:args.getD 0 undef = .int .u64 (x.toNat:Int):=by
   generalize args.getD 0 undef=y at hX
   cases hX;rfl
  obtain ⟨l⟩:=args
  match l,hsz with
  | [y],_=>rw [← h0];rfl
 rw [ha]
 have:=Any.bits_Len64 Tryz.lays129 (x.toNat:Int) w (by omega) (by have:=x.isLt;omega)
 refine this.mono fun e w' he=>⟨_,he.1,he.2,fun X=>?_⟩
 rw [Int.toNat_natCast,Go.Proofs.bitLen_eq _ x.isLt]
 exact .int _ _ (by decide)
theorem fn_Len (x:BitVec 64):Fn Tryz.prog T f_math_bits_Len [.d (.u64 x)] [] (.d (.int .i64 (Sort.bitsLen x.toNat:Int))) []:=by
 refine fn_dataR hmix k_math_bits_Len (by show 1≤8;decide) ?_
 (repeat' ((conv=>whnf);first|refine vX ?_|refine yD (fn_Len64 _) ⟨⟨rfl,rfl⟩,rfl⟩ rfl ?_));all_goals try conv=>whnf
end Go.Ab
namespace Go.Ab
open Go Go.Proofs
set_option linter.unusedSimpArgs false
set_option linter.unusedVariables false
set_option maxRecDepth 10000
set_option maxHeartbeats 4000000
variable {T:Nat→Obj→Prop}
def xnB (r:BitVec 64):BitVec 64 :=
 let r:=r ^^^ (r <<< (13#64).toNat)
 let r:=r ^^^ (r >>> (7#64).toNat)
 r ^^^ (r <<< (17#64).toNat)
theorem xn_eq (r:UInt64):(Sort.xorNext r).toBitVec=xnB r.toBitVec:=by
 simp [Sort.xorNext,xnB]
theorem fn_Next (r:BitVec 64):Fn Tryz.prog T f___slices_xorshift__Next [.ptr 0 0] [.box [.d (.u64 r)]] (.d (.u64 (xnB r))) [some (.box [.d (.u64 (xnB r))])]:=by
 refine fn_introR hmix k___slices_xorshift__Next (by show 1≤33;decide) _ (fun e env mem n h=>h) ?_
 (repeat' ((conv=>whnf);first|refine vA ?_|(refine vU ?_ ?_;·kernel_rfl)|fail));all_goals try conv=>whnf
 refine ⟨trivial,_,[(0,0)],[],rfl,.inl (by (repeat' exact rfl)),⟨by rfl,by rfl,by rfl,trivial,by (repeat' first|exact trivial|exact rfl|refine And.intro ?_ ?_|refine ⟨_,rfl,?_⟩|exact of_decide_eq_true rfl)⟩,by (repeat' first|exact trivial|exact rfl|refine And.intro ?_ ?_|refine ⟨_,rfl,?_⟩)⟩
theorem fn_npow {n:Int} (l:Nat) (e:n=l) (h:l < 1073741824):Fn Tryz.prog T f_slices_nextPowerOfTwo [.d (.int .i64 n)] [] (.d (.u64 (1#64 <<< Sort.bitsLen l))) []:=by
 subst e
 refine fn_dataR hmix k_slices_nextPowerOfTwo (by show 1≤7;decide) ?_
 (repeat' ((conv=>whnf);first|(refine vP ?_ ?_;·omega)|refine vY ?_|refine yD (fn_Len _) ⟨⟨rfl,rfl⟩,rfl⟩ rfl ?_));all_goals try conv=>whnf
 have:(BitVec.ofInt 64 (l:Int)).toNat=l:=ofInt_nat (by omega)
 rw [this];rfl
def otherOf (l:Nat) (r:UInt64):Nat :=
 let o:=r.toNat&&&((1 <<< Sort.bitsLen l) - 1)
 if o ≥ l then o - l else o
theorem other_lt {l:Nat} (h:0 < l) (r:UInt64):r.toNat&&&((1 <<< Sort.bitsLen l) - 1) < 2 * l∧otherOf l r < l:=by
 have h1:=Sort.two_pow_bitsLen_le h
 have h0:=Nat.two_pow_pos (Sort.bitsLen l)
 have h2:r.toNat&&&((1 <<< Sort.bitsLen l) - 1)≤(1 <<< Sort.bitsLen l) - 1:=Nat.and_le_right
 rw [Nat.shiftLeft_eq,Nat.one_mul] at h2 ⊢
 unfold otherOf
 rw [Nat.shiftLeft_eq,Nat.one_mul]
 refine ⟨by omega,?_⟩
 simp only
 split<;>omega
theorem and_mask (l:Nat) (hl:l < 1073741824) (r:UInt64):(r.toBitVec&&&((1#64 <<< Sort.bitsLen l) - 1#64)).toNat=r.toNat&&&((1 <<< Sort.bitsLen l) - 1):=by
 have hb:Sort.bitsLen l≤30:=(Sort.bitsLen_le_iff l 30).2 (by omega)
 have h0:=Nat.two_pow_pos (Sort.bitsLen l)
 have h1:2 ^ Sort.bitsLen l≤2 ^ 30:=Nat.pow_le_pow_right (by omega) hb
 have e1:(1#64 <<< Sort.bitsLen l).toNat=2 ^ Sort.bitsLen l:=by
  rw [BitVec.toNat_shiftLeft,Nat.shiftLeft_eq,show (1#64).toNat=1 from rfl,Nat.one_mul,Nat.mod_eq_of_lt (by omega)]
 have e2:((1#64 <<< Sort.bitsLen l) - 1#64).toNat=2 ^ Sort.bitsLen l - 1:=by
  rw [BitVec.toNat_sub,e1,show (1#64).toNat=1 from rfl]
  omega
 rw [BitVec.toNat_and,e2,Nat.shiftLeft_eq,Nat.one_mul];rfl
theorem breakStep_eq {α:Type} [Inhabited α] (a l idx:Nat) (st:UInt64×Array α):Sort.breakStep a l (1 <<< Sort.bitsLen l) st idx=(Sort.xorNext st.1,Sort.swp st.2 idx (a+otherOf l (Sort.xorNext st.1))):=rfl
def brk {α:Type} [Inhabited α] (d:Array α) (a b:Nat):Nat→UInt64×Array α
 | 0=>(UInt64.ofNat (b - a),d)
 | k+1=>Sort.breakStep a (b - a) (1 <<< Sort.bitsLen (b - a)) (brk d a b k) (a+(b - a) / 4 * 2 - 1+k)
theorem brk_eq {α:Type} [Inhabited α] {d:Array α} {a b:Nat} (h:b - a ≥ 8):Sort.breakPatterns d a b=(brk d a b 3).2:=by
 unfold Sort.breakPatterns
 simp only [h,if_true];rfl
theorem brk_size {α:Type} [Inhabited α] (d:Array α) (a b:Nat) : ∀ k,(brk d a b k).2.size=d.size
 | 0=>rfl
 | k+1=>by rw [brk,breakStep_eq,swp_size,brk_size d a b k]
section
variable {α:Type} [Inhabited α] {lt:α→α→Bool}
theorem scanS_stop {d:Array α} {b i:Nat} (h : ¬(i < b∧lt d[i]! d[i - 1]! = false)):Sort.scanSorted lt d b i=i:=by
 rw [Sort.scanSorted,if_neg]
 simpa using h
theorem scanS_next {d:Array α} {b i:Nat} (h1:i < b) (h2:lt d[i]! d[i - 1]! = false):Sort.scanSorted lt d b (i+1)=Sort.scanSorted lt d b i:=by
 rw [Sort.scanSorted.eq_def lt d b i,if_pos]
 simp [h1,h2]
theorem shD_stop {j:Nat} {d:Array α} (h : ¬(1≤j∧lt d[j]! d[j - 1]! = true)):Sort.shiftDown lt j d=d:=by
 cases j with
 | zero=>rfl
 | succ j =>
  rw [Sort.shiftDown,if_pos]
  simpa using h
theorem shD_next {j:Nat} {d:Array α} (h1:1≤j) (h2:lt d[j]! d[j - 1]! = true):Sort.shiftDown lt (j - 1) (Sort.swp d j (j - 1))=Sort.shiftDown lt j d:=by
 cases j with
 | zero=>omega
 | succ j =>
  conv=>rhs;rw [Sort.shiftDown]
  rw [if_neg]
  ·simp
  ·simpa using h2
theorem shU_stop {b j:Nat} {d:Array α} (h : ¬(j < b∧lt d[j]! d[j - 1]! = true)):Sort.shiftUp lt b j d=d:=by
 rw [Sort.shiftUp]
 by_cases h1:j < b
 ·rw [if_pos h1,if_pos]
  simpa [h1] using h
 ·rw [if_neg h1]
theorem shU_next {b j:Nat} {d:Array α} (h1:j < b) (h2:lt d[j]! d[j - 1]! = true):Sort.shiftUp lt b (j+1) (Sort.swp d j (j - 1))=Sort.shiftUp lt b j d:=by
 rw [Sort.shiftUp.eq_def lt b j d,if_pos h1,if_neg]
 simp [h2]
end
section
variable {α:Type} [Inhabited α] {p:α→Bool}
theorem su_stop {d:Array α} {i j:Nat} (h : ¬(i≤j∧p d[i]! = true)):Sort.scanUp p d j i=i:=by
 rw [Sort.scanUp,if_neg]
 simpa using h
theorem su_next {d:Array α} {i j:Nat} (h1:i≤j) (h2:p d[i]! = true):Sort.scanUp p d j (i+1)=Sort.scanUp p d j i:=by
 rw [Sort.scanUp.eq_def p d j i,if_pos]
 simp [h1,h2]
theorem sd_stop {d:Array α} {i j:Nat} (h : ¬(i≤j∧p d[j]! = true)):Sort.scanDown p d i j=j:=by
 cases j with
 | zero=>rfl
 | succ j =>
  rw [Sort.scanDown,if_neg]
  simpa using h
theorem sd_next {d:Array α} {i j:Nat} (h0:1≤j) (h1:i≤j) (h2:p d[j]! = true):Sort.scanDown p d i (j - 1)=Sort.scanDown p d i j:=by
 cases j with
 | zero=>omega
 | succ j =>
  conv=>rhs;rw [Sort.scanDown]
  rw [if_pos]
  ·simp
  ·simp [h1,h2]
end
section
open Go.Sort
variable {α:Type} [Inhabited α] (lt:α→α→Bool)
def pdqTail (d:Array α) (a b p lim:Nat) (wb wp:Bool):Array α :=
 if a > 0∧lt d[a - 1]! d[p]! = false then pdq lt (partitionEqual lt d a b p).2 (partitionEqual lt d a b p).1 b lim wb wp
 else if (partition lt d a b p).1 - a < b - (partition lt d a b p).1 then
  pdq lt (pdq lt (partition lt d a b p).2.2 a (partition lt d a b p).1 lim true true) ((partition lt d a b p).1+1) b lim (decide ((partition lt d a b p).1 - a ≥ (b - a) / 8)) (partition lt d a b p).2.1
 else pdq lt (pdq lt (partition lt d a b p).2.2 ((partition lt d a b p).1+1) b lim true true) a (partition lt d a b p).1 lim (decide (b - (partition lt d a b p).1 ≥ (b - a) / 8)) (partition lt d a b p).2.1
def pdqD (d:Array α) (a b p lim:Nat) (wb wp:Bool) (hint:Hint):Array α :=
 if wb=true∧wp=true∧hint = .increasing then (if (partialInsertionSort lt d a b).2=true then (partialInsertionSort lt d a b).1 else pdqTail lt (partialInsertionSort lt d a b).1 a b p lim wb wp)
 else pdqTail lt d a b p lim wb wp
def pdqC (d:Array α) (a b lim:Nat) (wb wp:Bool):Array α :=
 if (choosePivot lt d a b).2 = .decreasing then pdqD lt (reverseRange d a b) a b ((b - 1) - ((choosePivot lt d a b).1 - a)) lim wb wp .increasing
 else pdqD lt d a b (choosePivot lt d a b).1 lim wb wp (choosePivot lt d a b).2
variable {lt}
theorem pareq_range {d:Array α} {a b p:Nat} (hab:a < b) (hb:b≤d.size):a < (partitionEqual lt d a b p).1∧(partitionEqual lt d a b p).1≤b∧(partitionEqual lt d a b p).2.size=d.size:=by
 obtain ⟨h1,h2,h3,_⟩:=partEqLoop_spec lt a b (b - 1+1 - (a+1)) (a+1) (b - 1) (Sort.swp d a p) (Nat.le_refl _) (by omega) (by omega) (by omega) (by rw [Ab.swp_size];exact hb) (fun t _ _=>by omega) (fun t _ _=>by omega)
 exact ⟨h1,h2,by rw [show (partitionEqual lt d a b p).2=(partEqLoop lt a (a+1) (b - 1) (Sort.swp d a p)).2 from rfl,h3.1,Ab.swp_size]⟩
theorem pdq_tail (hS:SWO lt) {d:Array α} {a b p lim:Nat} {wb wp:Bool} (ha:a≤p) (hp:p < b) (hb:b≤d.size) :
  (if a > 0 && !lt d[a - 1]! d[p]! then
   match partitionEqual lt d a b p with
   | (mid,d4)=>if _h:a < mid∧mid≤b then pdq lt d4 mid b lim wb wp else d4
  else
   match partition lt d a b p with
   | (mid,ap,d4) =>
    if _h:a≤mid∧mid < b then
     if mid - a < b - mid then pdq lt (pdq lt d4 a mid lim true true) (mid+1) b lim (decide (mid - a ≥ (b - a) / 8)) ap
     else pdq lt (pdq lt d4 (mid+1) b lim true true) a mid lim (decide (b - mid ≥ (b - a) / 8)) ap
    else d4)=pdqTail lt d a b p lim wb wp:=by
 obtain ⟨e1,e2,_⟩:=pareq_range (lt:=lt) (p:=p) (show a < b by omega) hb
 obtain ⟨q1,q2,_⟩:=partition_holds lt hS d a b p ha hp hb
 unfold pdqTail
 by_cases h:a > 0∧lt d[a - 1]! d[p]! = false
 ·rw [if_pos h,if_pos (by simpa using h)]
  exact dif_pos ⟨e1,e2⟩
 ·rw [if_neg h,if_neg (by simpa using h)]
  exact dif_pos ⟨q1,q2⟩
theorem shiftDown_size : ∀ {j:Nat} {d:Array α},(Sort.shiftDown lt j d).size=d.size
 | 0,d=>rfl
 | j+1,d=>by
  unfold Sort.shiftDown
  split
  ·rfl
  ·rw [shiftDown_size,Ab.swp_size]
theorem shiftUp_size {b:Nat} : ∀ (n j:Nat) (d:Array α),b - j≤n→(Sort.shiftUp lt b j d).size=d.size
 | 0,j,d,h=>by rw [Sort.shiftUp,if_neg (by omega)]
 | n+1,j,d,h=>by
  rw [Sort.shiftUp]
  split
  ·split
   ·rfl
   ·rw [shiftUp_size n _ _ (by omega),Ab.swp_size]
  ·rfl
theorem pins_size' {a b:Nat} : ∀ (s i:Nat) (d:Array α),(Sort.partialIns lt a b s i d).1.size=d.size
 | 0,i,d=>rfl
 | s+1,i,d=>by
  rw [Sort.partialIns_succ]
  split
  ·rfl
  ·split
   ·rfl
   ·rw [pins_size' s]
    unfold Sort.fixUp Sort.fixDown
    split<;>split<;>simp [shiftUp_size _ _ _ (Nat.le_refl _),shiftDown_size,Ab.swp_size]
theorem pins_size {a b:Nat} {d:Array α} : (Sort.partialInsertionSort lt d a b).1.size=d.size:=pins_size' _ _ _
theorem pdq_go (hS:SWO lt) {d:Array α} {a b limit:Nat} {wb wp:Bool} (h12 : ¬b - a≤12) (h0:limit≠0) (hb:b≤d.size) :
  pdq lt d a b limit wb wp=if wb=true then pdqC lt d a b limit wb wp else pdqC lt (breakPatterns d a b) a b (limit - 1) wb wp:=by
 have key : ∀ (d1:Array α) (lim:Nat),d1.size=d.size →
   (if (if (wb&&wp&&decide ((if (choosePivot lt d1 a b).2 = .decreasing then Hint.increasing else (choosePivot lt d1 a b).2) = .increasing))=true then partialInsertionSort lt (if (choosePivot lt d1 a b).2 = .decreasing then reverseRange d1 a b else d1) a b else ((if (choosePivot lt d1 a b).2 = .decreasing then reverseRange d1 a b else d1),false)).2=true then
    (if (wb&&wp&&decide ((if (choosePivot lt d1 a b).2 = .decreasing then Hint.increasing else (choosePivot lt d1 a b).2) = .increasing))=true then partialInsertionSort lt (if (choosePivot lt d1 a b).2 = .decreasing then reverseRange d1 a b else d1) a b else ((if (choosePivot lt d1 a b).2 = .decreasing then reverseRange d1 a b else d1),false)).1
   else pdqTail lt (if (wb&&wp&&decide ((if (choosePivot lt d1 a b).2 = .decreasing then Hint.increasing else (choosePivot lt d1 a b).2) = .increasing))=true then partialInsertionSort lt (if (choosePivot lt d1 a b).2 = .decreasing then reverseRange d1 a b else d1) a b else ((if (choosePivot lt d1 a b).2 = .decreasing then reverseRange d1 a b else d1),false)).1 a b
    (if (choosePivot lt d1 a b).2 = .decreasing then (b - 1) - ((choosePivot lt d1 a b).1 - a) else (choosePivot lt d1 a b).1) lim wb wp)=pdqC lt d1 a b lim wb wp:=by
  intro d1 lim _
  unfold pdqC pdqD
  by_cases hc:(choosePivot lt d1 a b).2 = .decreasing
  ·simp only [hc,if_true]
   by_cases hw:wb=true∧wp=true
   ·simp [hw.1,hw.2]
   ·have:(wb&&wp)=false:=by
     cases wb<;>cases wp<;>simp_all
    simp [this,hw]
  ·simp only [hc,if_false]
   by_cases hw:wb=true∧wp=true∧(choosePivot lt d1 a b).2 = .increasing
   ·simp [hw.1,hw.2.1,hw.2.2]
   ·have:(wb&&wp&&decide ((choosePivot lt d1 a b).2 = .increasing))=false:=by
     cases wb<;>cases wp<;>simp_all
    simp only [this,Bool.false_eq_true,if_false,if_neg hw]
 have fin : ∀ (d1:Array α) (lim:Nat),PermIn a b d d1→(let c:=choosePivot lt d1 a b
  let d2:=if c.2 = .decreasing then reverseRange d1 a b else d1
  let pivot:=if c.2 = .decreasing then (b - 1) - (c.1 - a) else c.1
  let hint:=if c.2 = .decreasing then Hint.increasing else c.2
  let pi:=if wb&&wp&&hint = .increasing then partialInsertionSort lt d2 a b else (d2,false)
  if pi.2 then pi.1 else
  let d3:=pi.1
  if a > 0 && !lt d3[a - 1]! d3[pivot]! then
   match partitionEqual lt d3 a b pivot with
   | (mid,d4)=>if _h:a < mid∧mid≤b then pdq lt d4 mid b lim wb wp else d4
  else
   match partition lt d3 a b pivot with
   | (mid,ap,d4) =>
    if _h:a≤mid∧mid < b then
     if mid - a < b - mid then pdq lt (pdq lt d4 a mid lim true true) (mid+1) b lim (decide (mid - a ≥ (b - a) / 8)) ap
     else pdq lt (pdq lt d4 (mid+1) b lim true true) a mid lim (decide (b - mid ≥ (b - a) / 8)) ap
    else d4)=pdqC lt d1 a b lim wb wp:=by
  intro d1 lim hp1
  rw [← key d1 lim hp1.1]
  have hc:=choosePivot_holds lt d1 a b (by omega)
  have hpv:=pivot_range hc.1 hc.2 ((choosePivot lt d1 a b).2 = .decreasing)
  have hr:(if (choosePivot lt d1 a b).2 = .decreasing then reverseRange d1 a b else d1).size=d.size:=by
   split
   ·rw [(reverseRange_holds d1 a b (by omega) (by rw [hp1.1];exact hb)).1,hp1.1]
   ·exact hp1.1
  refine ite_congr rfl (fun _=>rfl) fun _=>pdq_tail hS ?_ ?_ ?_
  ·exact hpv.1
  ·exact hpv.2
  ·by_cases hw:(wb&&wp&&decide ((if (choosePivot lt d1 a b).2 = .decreasing then Hint.increasing else (choosePivot lt d1 a b).2) = .increasing))=true
   ·rw [if_pos hw,pins_size,hr];exact hb
   ·rw [if_neg hw]
    show b≤(if (choosePivot lt d1 a b).2 = .decreasing then reverseRange d1 a b else d1).size
    rw [hr];exact hb
 rw [Sort.pdq,if_neg h12,if_neg h0]
 cases wb with
 | true=>exact fin d limit (permIn_refl d a b)
 | false=>exact fin (breakPatterns d a b) (limit - 1) (breakPatterns_holds d a b (by omega) hb)
theorem insO_size {a b:Nat} : ∀ (n i:Nat) (d:Array α),b - i≤n→(Sort.insOuter lt a b i d).size=d.size
 | 0,i,d,h=>by rw [Ab.insOuter_stop (by omega)]
 | n+1,i,d,h=>by
  by_cases h1:i < b
  ·rw [Ab.insOuter_step h1,insO_size n _ _ (by omega),Ab.insInner_size]
  ·rw [Ab.insOuter_stop h1]
theorem pop_size {first:Nat} : ∀ (k:Nat) (d:Array α),(Sort.heapPop lt first k d).size=d.size
 | 0,d=>rfl
 | k+1,d=>by rw [Sort.heapPop,pop_size k,Ab.siftDown_size,Ab.swp_size]
theorem pdq_size (hS:SWO lt) : ∀ (N:Nat) (d:Array α) (a b limit:Nat) (wb wp:Bool),b - a≤N→a≤b→b≤d.size→(pdq lt d a b limit wb wp).size=d.size:=by
 intro N
 induction N using Nat.strongRecOn with
 | _ N ih =>
 intro d a b limit wb wp hN hab hb
 by_cases h12:b - a≤12
 ·rw [Sort.pdq,if_pos h12];exact insO_size _ _ _ (Nat.le_refl _)
 by_cases h0:limit=0
 ·rw [Sort.pdq,if_neg h12,if_pos h0,Sort.heapSort,pop_size,Ab.build_size]
 have tail : ∀ (u:Array α) (p lim:Nat),u.size=d.size→a≤p→p < b→(pdqTail lt u a b p lim wb wp).size=d.size:=by
  intro u p lim hu h1 h2
  obtain ⟨e1,e2,e3⟩:=pareq_range (lt:=lt) (p:=p) (show a < b by omega) (show b≤u.size by omega)
  obtain ⟨q1,q2,q3,_⟩:=partition_holds lt hS u a b p h1 h2 (by omega)
  unfold pdqTail
  split
  ·rw [ih (b - (partitionEqual lt u a b p).1) (by omega) _ _ _ _ _ _ (Nat.le_refl _) e2 (by omega),e3,hu]
  ·split
   ·rw [ih (b - ((partition lt u a b p).1+1)) (by omega) _ _ _ _ _ _ (Nat.le_refl _) (by omega) (by rw [ih ((partition lt u a b p).1 - a) (by omega) _ _ _ _ _ _ (Nat.le_refl _) q1 (by rw [q3.1];omega),q3.1];omega),
     ih ((partition lt u a b p).1 - a) (by omega) _ _ _ _ _ _ (Nat.le_refl _) q1 (by rw [q3.1];omega),q3.1,hu]
   ·rw [ih ((partition lt u a b p).1 - a) (by omega) _ _ _ _ _ _ (Nat.le_refl _) (by omega) (by rw [ih (b - ((partition lt u a b p).1+1)) (by omega) _ _ _ _ _ _ (Nat.le_refl _) (by omega) (by rw [q3.1];omega),q3.1];omega),
     ih (b - ((partition lt u a b p).1+1)) (by omega) _ _ _ _ _ _ (Nat.le_refl _) (by omega) (by rw [q3.1];omega),q3.1,hu]
 have goD : ∀ (u:Array α) (p lim:Nat) (hint:Hint),u.size=d.size→a≤p→p < b→(pdqD lt u a b p lim wb wp hint).size=d.size:=by
  intro u p lim hint hu h1 h2
  unfold pdqD
  split
  ·split
   ·rw [pins_size,hu]
   ·exact tail _ _ _ (by rw [pins_size,hu]) h1 h2
  ·exact tail _ _ _ hu h1 h2
 have goC : ∀ (u:Array α) (lim:Nat),u.size=d.size→(pdqC lt u a b lim wb wp).size=d.size:=by
  intro u lim hu
  have hc:=choosePivot_holds lt u a b (by omega)
  unfold pdqC
  split
  ·refine goD _ _ _ _ (by rw [(reverseRange_holds u a b hab (by omega)).1,hu]) (by omega) (by omega)
  ·exact goD _ _ _ _ hu hc.1 hc.2
 rw [pdq_go hS h12 h0 hb]
 split
 ·exact goC _ _ rfl
 ·exact goC _ _ (breakPatterns_holds d a b hab hb).1
end
end Go.Ab
namespace Go.Ab
open Go Go.Proofs
set_option linter.unusedSimpArgs false
set_option linter.unusedVariables false
set_option maxRecDepth 10000
set_option maxHeartbeats 4000000
variable {T:Nat→Obj→Prop}
variable {τ:Type} [Inhabited τ] {vf:τ→Int} {cf:τ→τ→Int} {fid:Nat} {y1 y2 y3:D} (hcf : ∀ x y:τ,Fn Tryz.prog T fid [.d (.int .i64 (vf x)),.d (.int .i64 (vf y)),.d y1,.d y2,.d y3] [] (.d (.int .i64 (cf x y))) []) (hO:Sort.SWO (ltC cf))
include hcf hO
theorem fn_brk_cmp (d:Array τ) {a b:Nat} {ai bi:Int} (ea:ai=a) (eb:bi=b) (hab:a+8≤b) (hb:b≤d.size) (hs:d.size≤536870912) :
  Fn Tryz.prog T f_slices_breakPatternsCmpFunc_int_ [.own 0,.d (.int .i64 ai),.d (.int .i64 bi),.d (.fn fid [y1,y2,y3])] [rowC vf d] (.tup []) [some (rowC vf (Sort.breakPatterns d a b))]:=by
 subst ea;subst eb
 have hq:((b:Int) - (a:Int)).tdiv 4=((b - a) / 4:Nat):=by rw [Int.tdiv_eq_ediv_of_nonneg (by omega)];omega
 refine fn_introR hmix k_slices_breakPatternsCmpFunc_int_ (by show 4≤67;decide) _ (fun e env mem n h=>h) ?_
 (repeat' ((conv=>whnf);first|(refine vF ?_ ?_<;>intro hc<;>try simp only [vL] at hc)|(refine vO ?_ ?_;·omega)|fail));all_goals try conv=>whnf
 ·refine CallS.dataN (fn_npow (n:=(b:Int) - (a:Int)) (b - a) (by omega) (by omega)) (by (repeat refine ⟨⟨rfl,rfl⟩,?_⟩);rfl) ?_
  (repeat' ((conv=>whnf);first|((first|refine vO ?_ ?_|refine vP ?_ ?_);·omega)|fail));all_goals try conv=>whnf
  refine loop_mem (fun ((ii,r,xs):Int×BitVec 64×List D)=>[(0,.own 0),(1,.d (.int .i64 ((a:Int)))),(8,.d (.int .i64 (((b:Int) - (a:Int))))),(9,.ptr 1 0),(10,.d (.u64 (1#64 <<< Sort.bitsLen (b - a)))),(11,.d (.int .i64 (ii))),(3,.d (.fn fid [y1,y2,y3])),(ghostAt,.own 0)]) (fun ((ii,r,xs):Int×BitVec 64×List D)=>[(0,some (.row 1 xs)),(1,some (.box [.d (.u64 r)]))]) 2 (fun ((ii,r,xs):Int×BitVec 64×List D) => ∃ k:Nat,ii=((a+(b - a) / 4 * 2 - 1+k:Nat):Int)∧r=(brk d a b k).1.toBitVec∧xs=(brk d a b k).2.toList.map (eC vf)∧k≤3) (fun ((ii,r,xs):Int×BitVec 64×List D)=>((a:Int)+((b - a) / 4 * 2+2:Nat) - ii).toNat) (((a:Int)+((b:Int) - (a:Int)).tdiv 4 * 2 - 1,BitVec.ofInt 64 ((b:Int) - (a:Int)),d.toList.map (eC vf))) [(0,0),(1,1)] [] (⟨0,by omega,by rw [show ((b:Int) - (a:Int))=((b - a:Nat):Int) by omega];rfl,rfl,by omega⟩) (by (refine ⟨rfl,rfl,rfl,?_,?_⟩;repeat' first|exact trivial|exact rfl|refine And.intro ?_ ?_|refine ⟨_,rfl,?_⟩|decide)) ?_
  rintro ⟨_,_,_⟩ ⟨k,rfl,rfl,rfl,hk⟩
  have hol:=other_lt (l:=b - a) (by omega) (Sort.xorNext (brk d a b k).1)
  have hm:=and_mask (b - a) (by omega) (Sort.xorNext (brk d a b k).1)
  have hoe:otherOf (b - a) (Sort.xorNext (brk d a b k).1)=if ((Sort.xorNext (brk d a b k).1).toNat&&&((1 <<< Sort.bitsLen (b - a)) - 1)) ≥ b - a then ((Sort.xorNext (brk d a b k).1).toNat&&&((1 <<< Sort.bitsLen (b - a)) - 1)) - (b - a) else ((Sort.xorNext (brk d a b k).1).toNat&&&((1 <<< Sort.bitsLen (b - a)) - 1)):=rfl
  have hel:(brk d a b k).2.toList.length=d.size:=by rw [Array.length_toList];exact brk_size d a b k
  (repeat' ((conv=>whnf);first|refine vA ?_|(refine vF ?_ ?_<;>intro hc<;>try simp only [vL] at hc)|((first|refine vO ?_ ?_|refine vP ?_ ?_);·omega)|fail));all_goals try conv=>whnf
  ·refine CallS.objs [1] (fn_Next _) (by (repeat' first|exact rfl|refine And.intro ?_ ?_|refine ⟨_,rfl,?_⟩)) (by (repeat' first|exact rfl|refine And.intro ?_ ?_|refine ⟨_,rfl,?_⟩)) (by rfl) (by rfl) (by simp) ?_
   have hx:xnB (brk d a b k).1.toBitVec=(Sort.xorNext (brk d a b k).1).toBitVec:=(xn_eq _).symm
   rw [hx]
   have hm':((Sort.xorNext (brk d a b k).1).toBitVec&&&(1#64 <<< Sort.bitsLen (b - a) - (1:BitVec 64))).toNat=(Sort.xorNext (brk d a b k).1).toNat&&&((1 <<< Sort.bitsLen (b - a)) - 1):=hm
   (repeat' ((conv=>whnf);first|refine vA ?_|(refine vF ?_ ?_<;>intro hc<;>try simp only [vL] at hc)|(refine vQ ?_ fun x hx=>?_;·omega)|((first|refine vO ?_ ?_|refine vP ?_ ?_);·first|omega|(simp only [vM] at *;omega))|(refine vU ?_ ?_;·kernel_rfl)|fail));all_goals try conv=>whnf
   ·have hoe':=hoe.trans (if_pos (by omega))
    refine ⟨(_,_,_),[(0,0),(1,1)],[],?_,?_,by (refine ⟨rfl,rfl,rfl,?_,?_⟩;repeat' first|exact trivial|exact rfl|refine And.intro ?_ ?_|refine ⟨_,rfl,?_⟩|decide)⟩
    ·refine ⟨k+1,by omega,rfl,?_,by omega⟩
     rw [brk,breakStep_eq,hoe']
     exact swp_rowI _ _ hx ‹_› (by omega) (by omega)
    ·((simp only [vM] at *;omega))
   ·have hoe':=hoe.trans (if_neg (by omega))
    refine ⟨(_,_,_),[(0,0),(1,1)],[],?_,?_,by (refine ⟨rfl,rfl,rfl,?_,?_⟩;repeat' first|exact trivial|exact rfl|refine And.intro ?_ ?_|refine ⟨_,rfl,?_⟩|decide)⟩
    ·refine ⟨k+1,by omega,rfl,?_,by omega⟩
     rw [brk,breakStep_eq,hoe']
     exact swp_rowI _ _ hx ‹_› (by omega) (by omega)
    ·((simp only [vM] at *;omega))
  ·have hk3:k=3:=by omega
   subst hk3
   rw [brk_eq (by omega)]
   refine ⟨trivial,_,[(0,0)],[],rfl,.inl (by (repeat' first|exact rfl|refine ⟨_,rfl,?_⟩)),⟨by rfl,by rfl,by rfl,trivial,by (repeat' first|exact trivial|exact rfl|refine And.intro ?_ ?_|refine ⟨_,rfl,?_⟩|exact of_decide_eq_true rfl)⟩,by (repeat' first|exact trivial|exact rfl|refine And.intro ?_ ?_)⟩
 ·omega
theorem fn_pivot_cmp (d:Array τ) {a b:Nat} {ai bi:Int} (ea:ai=a) (eb:bi=b) (hab:a+8≤b) (hb:b≤d.size) (hs:d.size≤536870912) :
  Fn Tryz.prog T f_slices_choosePivotCmpFunc_int_ [.own 0,.d (.int .i64 ai),.d (.int .i64 bi),.d (.fn fid [y1,y2,y3])] [rowC vf d] (.tup [.d (.int .i64 ((Sort.choosePivot (ltC cf) d a b).1:Int)),.d (.int .i64 (Sort.hintCode (Sort.choosePivot (ltC cf) d a b).2))]) [some (rowC vf d)]:=by
 subst ea;subst eb
 have hq:((b:Int) - (a:Int)).tdiv 4=((b - a) / 4:Nat):=by rw [Int.tdiv_eq_ediv_of_nonneg (by omega)];omega
 have fin : ∀ p s:Nat,Sort.rawPivot (ltC cf) d a b=(p,s)→Sort.choosePivot (ltC cf) d a b=(p,Sort.hintOf s):=fun p s h=>by rw [Sort.choosePivot_eq,h]
 refine fn_introR hmix k_slices_choosePivotCmpFunc_int_ (by show 4≤63;decide) _ (fun e env mem n h=>h) ?_
 (repeat' ((conv=>whnf);first|refine vA ?_|refine vG ?_|(refine vF ?_ ?_<;>intro hc<;>try simp only [vL] at hc)|((first|refine vO ?_ ?_|refine vP ?_ ?_);·omega)|fail));all_goals try conv=>whnf
 ·have m1:=Sort.medianAdjacent_mem (ltC cf) d (a+(b - a) / 4 * 1) 0
  have c1:=Sort.medianAdjacent_count (ltC cf) d (a+(b - a) / 4 * 1) 0
  have hraw:Sort.rawPivot (ltC cf) d a b=_:=(if_pos (by omega)).trans (if_pos (by omega))
  refine CallS.objs [0,1] (fn_medAdj_cmp hcf hO d (s:=0) (a:=a+(b - a) / 4 * 1) (ai:=(a:Int)+((b:Int) - (a:Int)).tdiv 4 * 1) (by omega) (by omega) (by omega) (by omega) (by omega)) (by (repeat' first|exact rfl|refine And.intro ?_ ?_|refine ⟨_,rfl,?_⟩)) (by (repeat' first|exact rfl|refine And.intro ?_ ?_|refine ⟨_,rfl,?_⟩)) (by rfl) (by rfl) (by simp) ?_
  generalize Sort.medianAdjacent (ltC cf) d (a+(b - a) / 4 * 1) 0=r1 at m1 c1 hraw
  (repeat' ((conv=>whnf);fail));all_goals try conv=>whnf
  have m2:=Sort.medianAdjacent_mem (ltC cf) d (a+(b - a) / 4 * 2) r1.2
  have c2:=Sort.medianAdjacent_count (ltC cf) d (a+(b - a) / 4 * 2) r1.2
  refine CallS.objs [0,1] (fn_medAdj_cmp hcf hO d (s:=r1.2) (a:=a+(b - a) / 4 * 2) (ai:=(a:Int)+((b:Int) - (a:Int)).tdiv 4 * 2) (by omega) (by omega) (by omega) (by omega) (by omega)) (by (repeat' first|exact rfl|refine And.intro ?_ ?_|refine ⟨_,rfl,?_⟩)) (by (repeat' first|exact rfl|refine And.intro ?_ ?_|refine ⟨_,rfl,?_⟩)) (by rfl) (by rfl) (by simp) ?_
  generalize Sort.medianAdjacent (ltC cf) d (a+(b - a) / 4 * 2) r1.2=r2 at m2 c2 hraw
  (repeat' ((conv=>whnf);fail));all_goals try conv=>whnf
  have m3:=Sort.medianAdjacent_mem (ltC cf) d (a+(b - a) / 4 * 3) r2.2
  have c3:=Sort.medianAdjacent_count (ltC cf) d (a+(b - a) / 4 * 3) r2.2
  refine CallS.objs [0,1] (fn_medAdj_cmp hcf hO d (s:=r2.2) (a:=a+(b - a) / 4 * 3) (ai:=(a:Int)+((b:Int) - (a:Int)).tdiv 4 * 3) (by omega) (by omega) (by omega) (by omega) (by omega)) (by (repeat' first|exact rfl|refine And.intro ?_ ?_|refine ⟨_,rfl,?_⟩)) (by (repeat' first|exact rfl|refine And.intro ?_ ?_|refine ⟨_,rfl,?_⟩)) (by rfl) (by rfl) (by simp) ?_
  generalize Sort.medianAdjacent (ltC cf) d (a+(b - a) / 4 * 3) r2.2=r3 at m3 c3 hraw
  (repeat' ((conv=>whnf);fail));all_goals try conv=>whnf
  refine CallS.objs [0,1] (fn_median_cmp hcf hO d (s:=r3.2) (a:=r1.1) (b:=r2.1) (c:=r3.1) rfl rfl rfl (by omega) (by omega) (by omega) (by omega)) (by (repeat' first|exact rfl|refine And.intro ?_ ?_|refine ⟨_,rfl,?_⟩)) (by (repeat' first|exact rfl|refine And.intro ?_ ?_|refine ⟨_,rfl,?_⟩)) (by rfl) (by rfl) (by simp) ?_
  generalize Sort.median (ltC cf) d r1.1 r2.1 r3.1 r3.2=r4 at hraw
  obtain ⟨p,q⟩:=r4
  (repeat' ((conv=>whnf);(refine vF ?_ ?_<;>intro hc<;>try simp only [vL] at hc)));all_goals try conv=>whnf
  ·rw [fin _ _ hraw,show Sort.hintOf _ = .increasing from if_pos (by omega)];refine ⟨trivial,_,[(0,0)],[],rfl,.inl (by (repeat' first|exact rfl|refine And.intro ?_ ?_|refine ⟨_,rfl,?_⟩)),⟨by rfl,by rfl,by rfl,trivial,by (repeat' first|exact trivial|exact rfl|refine And.intro ?_ ?_|refine ⟨_,rfl,?_⟩|exact of_decide_eq_true rfl)⟩,by (repeat' first|exact trivial|exact rfl|refine And.intro ?_ ?_)⟩
  ·rw [fin _ _ hraw,show Sort.hintOf _ = .decreasing from (if_neg (by omega)).trans (if_pos (by omega))];refine ⟨trivial,_,[(0,0)],[],rfl,.inl (by (repeat' first|exact rfl|refine And.intro ?_ ?_|refine ⟨_,rfl,?_⟩)),⟨by rfl,by rfl,by rfl,trivial,by (repeat' first|exact trivial|exact rfl|refine And.intro ?_ ?_|refine ⟨_,rfl,?_⟩|exact of_decide_eq_true rfl)⟩,by (repeat' first|exact trivial|exact rfl|refine And.intro ?_ ?_)⟩
  ·rw [fin _ _ hraw,show Sort.hintOf _ = .unknown from (if_neg (by omega)).trans (if_neg (by omega))];refine ⟨trivial,_,[(0,0)],[],rfl,.inl (by (repeat' first|exact rfl|refine And.intro ?_ ?_|refine ⟨_,rfl,?_⟩)),⟨by rfl,by rfl,by rfl,trivial,by (repeat' first|exact trivial|exact rfl|refine And.intro ?_ ?_|refine ⟨_,rfl,?_⟩|exact of_decide_eq_true rfl)⟩,by (repeat' first|exact trivial|exact rfl|refine And.intro ?_ ?_)⟩
 ·have hraw:Sort.rawPivot (ltC cf) d a b=_:=(if_pos (by omega)).trans (if_neg (by omega))
  refine CallS.objs [0,1] (fn_median_cmp hcf hO d (s:=0) (a:=a+(b - a) / 4 * 1) (b:=a+(b - a) / 4 * 2) (c:=a+(b - a) / 4 * 3) (ai:=(a:Int)+((b:Int) - (a:Int)).tdiv 4 * 1) (bi:=(a:Int)+((b:Int) - (a:Int)).tdiv 4 * 2) (ci:=(a:Int)+((b:Int) - (a:Int)).tdiv 4 * 3) (by omega) (by omega) (by omega) (by omega) (by omega) (by omega) (by omega)) (by (repeat' first|exact rfl|refine And.intro ?_ ?_|refine ⟨_,rfl,?_⟩)) (by (repeat' first|exact rfl|refine And.intro ?_ ?_|refine ⟨_,rfl,?_⟩)) (by rfl) (by rfl) (by simp) ?_
  generalize Sort.median (ltC cf) d (a+(b - a) / 4 * 1) (a+(b - a) / 4 * 2) (a+(b - a) / 4 * 3) 0=r4 at hraw
  obtain ⟨p,q⟩:=r4
  (repeat' ((conv=>whnf);(refine vF ?_ ?_<;>intro hc<;>try simp only [vL] at hc)));all_goals try conv=>whnf
  ·rw [fin _ _ hraw,show Sort.hintOf _ = .increasing from if_pos (by omega)];refine ⟨trivial,_,[(0,0)],[],rfl,.inl (by (repeat' first|exact rfl|refine And.intro ?_ ?_|refine ⟨_,rfl,?_⟩)),⟨by rfl,by rfl,by rfl,trivial,by (repeat' first|exact trivial|exact rfl|refine And.intro ?_ ?_|refine ⟨_,rfl,?_⟩|exact of_decide_eq_true rfl)⟩,by (repeat' first|exact trivial|exact rfl|refine And.intro ?_ ?_)⟩
  ·rw [fin _ _ hraw,show Sort.hintOf _ = .decreasing from (if_neg (by omega)).trans (if_pos (by omega))];refine ⟨trivial,_,[(0,0)],[],rfl,.inl (by (repeat' first|exact rfl|refine And.intro ?_ ?_|refine ⟨_,rfl,?_⟩)),⟨by rfl,by rfl,by rfl,trivial,by (repeat' first|exact trivial|exact rfl|refine And.intro ?_ ?_|refine ⟨_,rfl,?_⟩|exact of_decide_eq_true rfl)⟩,by (repeat' first|exact trivial|exact rfl|refine And.intro ?_ ?_)⟩
  ·rw [fin _ _ hraw,show Sort.hintOf _ = .unknown from (if_neg (by omega)).trans (if_neg (by omega))];refine ⟨trivial,_,[(0,0)],[],rfl,.inl (by (repeat' first|exact rfl|refine And.intro ?_ ?_|refine ⟨_,rfl,?_⟩)),⟨by rfl,by rfl,by rfl,trivial,by (repeat' first|exact trivial|exact rfl|refine And.intro ?_ ?_|refine ⟨_,rfl,?_⟩|exact of_decide_eq_true rfl)⟩,by (repeat' first|exact trivial|exact rfl|refine And.intro ?_ ?_)⟩
 all_goals omega
end Go.Ab
namespace Go.Ab
open Go Go.Proofs
set_option linter.unusedSimpArgs false
set_option linter.unusedVariables false
set_option maxRecDepth 10000
set_option maxHeartbeats 4000000
variable {T:Nat→Obj→Prop}
variable {τ:Type} [Inhabited τ] {vf:τ→Int} {cf:τ→τ→Int} {fid:Nat} {y1 y2 y3:D} (hcf : ∀ x y:τ,Fn Tryz.prog T fid [.d (.int .i64 (vf x)),.d (.int .i64 (vf y)),.d y1,.d y2,.d y3] [] (.d (.int .i64 (cf x y))) []) (hO:Sort.SWO (ltC cf))
include hcf hO
set_option maxHeartbeats 2000000 in
theorem fn_part_cmp (d:Array τ) {a b:Nat} {ai bi:Int} (ea:ai=a) (eb:bi=b) (hab:a < b) (hb:b≤d.size) (hs:d.size≤536870912) :
  Fn Tryz.prog T f_slices_partialInsertionSortCmpFunc_int_ [.own 0,.d (.int .i64 ai),.d (.int .i64 bi),.d (.fn fid [y1,y2,y3])] [rowC vf d] (.d (.bool (Sort.partialInsertionSort (ltC cf) d a b).2)) [some (rowC vf (Sort.partialInsertionSort (ltC cf) d a b).1)]:=by
 subst ea;subst eb
 rw [Sort.partialInsertionSort]
 generalize hR:Sort.partialIns (ltC cf) a b 5 (a+1) d=R
 refine fn_introR hmix k_slices_partialInsertionSortCmpFunc_int_ (by show 4≤141;decide) _ (fun e env mem n h=>h) ?_
 (repeat' ((conv=>whnf);first|refine vA ?_|(refine vO ?_ ?_;·omega)|fail));all_goals try conv=>whnf
 refine loop_mem (fun ((jj,ii,xs):Int×Int×List D)=>[(0,.own 0),(1,.d (.int .i64 ((a:Int)))),(2,.d (.int .i64 ((b:Int)))),(9,.d (.int .i64 (ii))),(10,.d (.int .i64 (jj))),(3,.d (.fn fid [y1,y2,y3])),(ghostAt,.own 0)]) (fun ((jj,ii,xs):Int×Int×List D)=>[(0,some (.row 1 xs))]) 1 (fun ((jj,ii,xs):Int×Int×List D) => ∃ (s i:Nat) (e:Array τ),jj=5 - (s:Int)∧s≤5∧ii=i∧xs=e.toList.map (eC vf)∧a < i∧i≤b∧e.size=d.size∧Sort.partialIns (ltC cf) a b s i e=R) (fun ((jj,ii,xs):Int×Int×List D)=>(5 - jj).toNat) ((0,(a:Int)+1,d.toList.map (eC vf))) [(0,0)] [] (⟨5,a+1,d,by omega,by omega,by omega,rfl,by omega,by omega,rfl,hR⟩) (by (refine ⟨rfl,rfl,rfl,?_,?_⟩;repeat' first|exact trivial|exact rfl|refine And.intro ?_ ?_|refine ⟨_,rfl,?_⟩|decide)) ?_
 rintro ⟨_,_,_⟩ ⟨s,i,e,rfl,hs5,rfl,rfl,hi,hib,he,hI⟩
 have hel:e.toList.length=d.size:=by rw [Array.length_toList];exact he
 (repeat' ((conv=>whnf);first|refine vA ?_|(refine vF ?_ ?_<;>intro hc<;>try simp only [vL] at hc)));all_goals try conv=>whnf
 ·obtain ⟨s,rfl⟩ : ∃ m,s=m+1:=⟨s - 1,by omega⟩
  rw [Sort.partialIns_succ] at hI
  refine loop_mem (fun (kk:Int)=>[(0,.own 0),(1,.d (.int .i64 ((a:Int)))),(2,.d (.int .i64 ((b:Int)))),(9,.d (.int .i64 (kk))),(10,.d (.int .i64 ((5 - ((s+1:Nat):Int))))),(3,.d (.fn fid [y1,y2,y3])),(ghostAt,.own 0)]) (fun (kk:Int)=>[(0,some (rowC vf e))]) 1 (fun (kk:Int) => ∃ k:Nat,kk=k∧i≤k∧k≤b∧Sort.scanSorted (ltC cf) e b k=Sort.scanSorted (ltC cf) e b i) (fun (kk:Int)=>(b - kk).toNat) ((i:Int)) [(0,0)] [] (⟨i,rfl,by omega,by omega,rfl⟩) (by (refine ⟨rfl,rfl,rfl,?_,?_⟩;repeat' first|exact trivial|exact rfl|refine And.intro ?_ ?_|refine ⟨_,rfl,?_⟩|decide)) ?_
  rintro _ ⟨k,rfl,hik,hkb,hK⟩
  have hS : ∀ (h : ¬(k < b∧(ltC cf) e[k]! e[k - 1]! = false)),Sort.scanSorted (ltC cf) e b i=k:=fun h=>hK.symm.trans (scanS_stop h)
  have hsw:(Sort.swp e k (k - 1)).size=d.size:=by rw [swp_size,he]
  have f1:Sort.scanSorted (ltC cf) e b i=k→k≠b → ¬b - a < 50 → ∀ g,Sort.fixUp (ltC cf) b k (Sort.fixDown (ltC cf) a k (Sort.swp e k (k - 1)))=g→Sort.partialIns (ltC cf) a b s k g=R:=fun h1 h2 h3 g hg=>by
   rw [h1,if_neg h2,if_neg h3,hg] at hI;exact hI
  (repeat' ((conv=>whnf);first|refine vA ?_|refine vE ?_|(refine vF ?_ ?_<;>intro hc<;>try simp only [vL] at hc)|refine vN ‹_› ?_|(refine vQ ?_ fun x hx=>?_;·omega)|((first|refine vO ?_ ?_|refine vP ?_ ?_);·first|omega|(simp only [vM] at *;omega))|(refine vU ?_ ?_;·kernel_rfl)|refine yD (hcf _ _) (by (repeat refine ⟨⟨rfl,rfl⟩,?_⟩);rfl) rfl ?_));all_goals try conv=>whnf
  all_goals try (exfalso;omega)
  all_goals try (have h1:=arr_at k ‹e.toList[(k:Int).toNat]? = some _› rfl)
  all_goals try (have h2:=arr_at (k - 1) ‹e.toList[((k:Int) - 1).toNat]? = some _› (by omega))
  ·have hk:=hS fun h=>Bool.false_ne_true (h.2.symm.trans ((lt_at h1 h2).trans (decide_eq_true (by omega))))
   rw [hk,if_neg (by omega),if_pos (by omega)] at hI
   subst hI
   refine ⟨trivial,_,[(0,0)],[],rfl,.inl (by (repeat' exact .inr (.inr ⟨rfl,rfl⟩))),⟨by rfl,by rfl,by rfl,trivial,by (repeat' first|exact trivial|exact rfl|refine And.intro ?_ ?_|refine ⟨_,rfl,?_⟩|exact of_decide_eq_true rfl)⟩,by (repeat' first|exact trivial|exact rfl|refine And.intro ?_ ?_)⟩
  ·
   have hk:=hS fun h=>Bool.false_ne_true (h.2.symm.trans ((lt_at h1 h2).trans (decide_eq_true (by omega))))
   have f2:=f1 hk (by omega) (by omega)
   refine loop_mem (fun ((mm,xs):Int×List D)=>[(0,.own 0),(1,.d (.int .i64 ((a:Int)))),(2,.d (.int .i64 ((b:Int)))),(9,.d (.int .i64 ((k:Int)))),(10,.d (.int .i64 ((5 - ((s+1:Nat):Int))))),(11,.d (.int .i64 (mm))),(3,.d (.fn fid [y1,y2,y3])),(ghostAt,.own 0)]) (fun ((mm,xs):Int×List D)=>[(0,some (.row 1 xs))]) 1 (fun ((mm,xs):Int×List D) => ∃ (m:Nat) (g:Array τ),mm=m∧xs=g.toList.map (eC vf)∧m≤k - 1∧g.size=d.size∧Sort.shiftDown (ltC cf) m g=Sort.shiftDown (ltC cf) (k - 1) (Sort.swp e k (k - 1))) (fun ((mm,xs):Int×List D)=>mm.toNat) (((k:Int) - 1,_)) [(0,0)] [] (⟨k - 1,Sort.swp e k (k - 1),by omega,swp_rowI _ _ ‹e.toList[(k:Int).toNat]? = some _› ‹e.toList[((k:Int) - 1).toNat]? = some _› rfl (by omega),by omega,hsw,rfl⟩) (by (refine ⟨rfl,rfl,rfl,?_,?_⟩;repeat' first|exact trivial|exact rfl|refine And.intro ?_ ?_|refine ⟨_,rfl,?_⟩|decide)) ?_
   rintro ⟨_,_⟩ ⟨m,u,rfl,rfl,hm,hu,hU⟩
   have hul:u.toList.length=d.size:=by rw [Array.length_toList];exact hu
   have f3 : ∀ h : ¬(1≤m∧(ltC cf) u[m]! u[m - 1]! = true),Sort.fixDown (ltC cf) a k (Sort.swp e k (k - 1))=u:=fun h=>by
    rw [Sort.fixDown,if_pos (by omega),← hU,shD_stop h]
   (repeat' ((conv=>whnf);first|refine vA ?_|refine vE ?_|(refine vF ?_ ?_<;>intro hc<;>try simp only [vL] at hc)|refine vN ‹_› ?_|(refine vQ ?_ fun x hx=>?_;·omega)|((first|refine vO ?_ ?_|refine vP ?_ ?_);·first|omega|(simp only [vM] at *;omega))|(refine vU ?_ ?_;·kernel_rfl)|refine yD (hcf _ _) (by (repeat refine ⟨⟨rfl,rfl⟩,?_⟩);rfl) rfl ?_));all_goals try conv=>whnf
   ·have g1:=arr_at m ‹u.toList[(m:Int).toNat]? = some _› rfl
    have g2:=arr_at (m - 1) ‹u.toList[((m:Int) - 1).toNat]? = some _› (by omega)
    refine ⟨(_,_),[(0,0)],[],?_,?_,by (refine ⟨rfl,rfl,rfl,?_,?_⟩;repeat' first|exact trivial|exact rfl|refine And.intro ?_ ?_|refine ⟨_,rfl,?_⟩|decide)⟩
    ·exact ⟨m - 1,Sort.swp u m (m - 1),by omega,swp_rowI _ _ ‹u.toList[(m:Int).toNat]? = some _› ‹u.toList[((m:Int) - 1).toNat]? = some _› rfl (by omega),by omega,by rw [swp_size,hu],(shD_next (by omega) ((lt_at g1 g2).trans (decide_eq_true (by omega)))).trans hU⟩
    ·((simp only [vM] at *;omega))
   ·have g1:=arr_at m ‹u.toList[(m:Int).toNat]? = some _› rfl
    have g2:=arr_at (m - 1) ‹u.toList[((m:Int) - 1).toNat]? = some _› (by omega)
    have f4:=f3 fun h=>Bool.false_ne_true ((((lt_at g1 g2).trans (decide_eq_false (by omega))).symm).trans h.2)
    rw [f4] at f2
    have f5 : ∀ g,Sort.shiftUp (ltC cf) b (k+1) u=g→Sort.partialIns (ltC cf) a b s k g=R:=fun g hg=>f2 g (by rw [Sort.fixUp,if_pos (by omega)];exact hg)
    refine loop_mem (fun ((mm,xs):Int×List D)=>[(0,.own 0),(1,.d (.int .i64 ((a:Int)))),(2,.d (.int .i64 ((b:Int)))),(9,.d (.int .i64 ((k:Int)))),(10,.d (.int .i64 ((5 - ((s+1:Nat):Int))))),(12,.d (.int .i64 (mm))),(3,.d (.fn fid [y1,y2,y3])),(ghostAt,.own 0)]) (fun ((mm,xs):Int×List D)=>[(0,some (.row 1 xs))]) 1 (fun ((mm,xs):Int×List D) => ∃ (m:Nat) (g:Array τ),mm=m∧xs=g.toList.map (eC vf)∧k+1≤m∧m≤b∧g.size=d.size∧Sort.shiftUp (ltC cf) b m g=Sort.shiftUp (ltC cf) b (k+1) u) (fun ((mm,xs):Int×List D)=>(b - mm).toNat) (((k:Int)+1,_)) [(0,0)] [] (⟨k+1,u,by omega,rfl,by omega,by omega,hu,rfl⟩) (by (refine ⟨rfl,rfl,rfl,?_,?_⟩;repeat' first|exact trivial|exact rfl|refine And.intro ?_ ?_|refine ⟨_,rfl,?_⟩|decide)) ?_
    rintro ⟨_,_⟩ ⟨m,g,rfl,rfl,hm,hmb,hg,hG⟩
    have hgl:g.toList.length=d.size:=by rw [Array.length_toList];exact hg
    (repeat' ((conv=>whnf);first|refine vA ?_|refine vE ?_|(refine vF ?_ ?_<;>intro hc<;>try simp only [vL] at hc)|refine vN ‹_› ?_|(refine vQ ?_ fun x hx=>?_;·omega)|((first|refine vO ?_ ?_|refine vP ?_ ?_);·first|omega|(simp only [vM] at *;omega))|(refine vU ?_ ?_;·kernel_rfl)|refine yD (hcf _ _) (by (repeat refine ⟨⟨rfl,rfl⟩,?_⟩);rfl) rfl ?_));all_goals try conv=>whnf
    ·have h1:=arr_at m ‹g.toList[(m:Int).toNat]? = some _› rfl
     have h2:=arr_at (m - 1) ‹g.toList[((m:Int) - 1).toNat]? = some _› (by omega)
     refine ⟨(_,_),[(0,0)],[],?_,?_,by (refine ⟨rfl,rfl,rfl,?_,?_⟩;repeat' first|exact trivial|exact rfl|refine And.intro ?_ ?_|refine ⟨_,rfl,?_⟩|decide)⟩
     ·exact ⟨m+1,Sort.swp g m (m - 1),by omega,swp_rowI _ _ ‹g.toList[(m:Int).toNat]? = some _› ‹g.toList[((m:Int) - 1).toNat]? = some _› rfl (by omega),by omega,by omega,by rw [swp_size,hg],(shU_next (by omega) ((lt_at h1 h2).trans (decide_eq_true (by omega)))).trans hG⟩
     ·((simp only [vM] at *;omega))
    ·have h1:=arr_at m ‹g.toList[(m:Int).toNat]? = some _› rfl
     have h2:=arr_at (m - 1) ‹g.toList[((m:Int) - 1).toNat]? = some _› (by omega)
     refine ⟨(_,_,_),[(0,0)],[],?_,?_,by (refine ⟨rfl,rfl,rfl,?_,?_⟩;repeat' first|exact trivial|exact rfl|refine And.intro ?_ ?_|refine ⟨_,rfl,?_⟩|decide)⟩
     ·exact ⟨s,k,g,by omega,by omega,rfl,rfl,by omega,by omega,hg,f5 g (hG.symm.trans (shU_stop fun h=>Bool.false_ne_true ((((lt_at h1 h2).trans (decide_eq_false (by omega))).symm).trans h.2)))⟩
     ·((simp only [vM] at *;omega))
    ·refine ⟨(_,_,_),[(0,0)],[],?_,?_,by (refine ⟨rfl,rfl,rfl,?_,?_⟩;repeat' first|exact trivial|exact rfl|refine And.intro ?_ ?_|refine ⟨_,rfl,?_⟩|decide)⟩
     ·exact ⟨s,k,g,by omega,by omega,rfl,rfl,by omega,by omega,hg,f5 g (hG.symm.trans (shU_stop fun h=>by omega))⟩
     ·((simp only [vM] at *;omega))
   ·have g1:=arr_at m ‹u.toList[(m:Int).toNat]? = some _› rfl
    have g2:=arr_at (m - 1) ‹u.toList[((m:Int) - 1).toNat]? = some _› (by omega)
    have f4:=f3 fun h=>Bool.false_ne_true ((((lt_at g1 g2).trans (decide_eq_false (by omega))).symm).trans h.2)
    rw [f4] at f2
    refine ⟨(_,_,_),[(0,0)],[],?_,?_,by (refine ⟨rfl,rfl,rfl,?_,?_⟩;repeat' first|exact trivial|exact rfl|refine And.intro ?_ ?_|refine ⟨_,rfl,?_⟩|decide)⟩
    ·exact ⟨s,k,u,by omega,by omega,rfl,rfl,by omega,by omega,hu,f2 u (by rw [Sort.fixUp,if_neg (by omega)])⟩
    ·((simp only [vM] at *;omega))
   ·have f4:=f3 fun h=>by omega
    rw [f4] at f2
    have f5 : ∀ g,Sort.shiftUp (ltC cf) b (k+1) u=g→Sort.partialIns (ltC cf) a b s k g=R:=fun g hg=>f2 g (by rw [Sort.fixUp,if_pos (by omega)];exact hg)
    refine loop_mem (fun ((mm,xs):Int×List D)=>[(0,.own 0),(1,.d (.int .i64 ((a:Int)))),(2,.d (.int .i64 ((b:Int)))),(9,.d (.int .i64 ((k:Int)))),(10,.d (.int .i64 ((5 - ((s+1:Nat):Int))))),(12,.d (.int .i64 (mm))),(3,.d (.fn fid [y1,y2,y3])),(ghostAt,.own 0)]) (fun ((mm,xs):Int×List D)=>[(0,some (.row 1 xs))]) 1 (fun ((mm,xs):Int×List D) => ∃ (m:Nat) (g:Array τ),mm=m∧xs=g.toList.map (eC vf)∧k+1≤m∧m≤b∧g.size=d.size∧Sort.shiftUp (ltC cf) b m g=Sort.shiftUp (ltC cf) b (k+1) u) (fun ((mm,xs):Int×List D)=>(b - mm).toNat) (((k:Int)+1,_)) [(0,0)] [] (⟨k+1,u,by omega,rfl,by omega,by omega,hu,rfl⟩) (by (refine ⟨rfl,rfl,rfl,?_,?_⟩;repeat' first|exact trivial|exact rfl|refine And.intro ?_ ?_|refine ⟨_,rfl,?_⟩|decide)) ?_
    rintro ⟨_,_⟩ ⟨m,g,rfl,rfl,hm,hmb,hg,hG⟩
    have hgl:g.toList.length=d.size:=by rw [Array.length_toList];exact hg
    (repeat' ((conv=>whnf);first|refine vA ?_|refine vE ?_|(refine vF ?_ ?_<;>intro hc<;>try simp only [vL] at hc)|refine vN ‹_› ?_|(refine vQ ?_ fun x hx=>?_;·omega)|((first|refine vO ?_ ?_|refine vP ?_ ?_);·first|omega|(simp only [vM] at *;omega))|(refine vU ?_ ?_;·kernel_rfl)|refine yD (hcf _ _) (by (repeat refine ⟨⟨rfl,rfl⟩,?_⟩);rfl) rfl ?_));all_goals try conv=>whnf
    ·have h1:=arr_at m ‹g.toList[(m:Int).toNat]? = some _› rfl
     have h2:=arr_at (m - 1) ‹g.toList[((m:Int) - 1).toNat]? = some _› (by omega)
     refine ⟨(_,_),[(0,0)],[],?_,?_,by (refine ⟨rfl,rfl,rfl,?_,?_⟩;repeat' first|exact trivial|exact rfl|refine And.intro ?_ ?_|refine ⟨_,rfl,?_⟩|decide)⟩
     ·exact ⟨m+1,Sort.swp g m (m - 1),by omega,swp_rowI _ _ ‹g.toList[(m:Int).toNat]? = some _› ‹g.toList[((m:Int) - 1).toNat]? = some _› rfl (by omega),by omega,by omega,by rw [swp_size,hg],(shU_next (by omega) ((lt_at h1 h2).trans (decide_eq_true (by omega)))).trans hG⟩
     ·((simp only [vM] at *;omega))
    ·have h1:=arr_at m ‹g.toList[(m:Int).toNat]? = some _› rfl
     have h2:=arr_at (m - 1) ‹g.toList[((m:Int) - 1).toNat]? = some _› (by omega)
     refine ⟨(_,_,_),[(0,0)],[],?_,?_,by (refine ⟨rfl,rfl,rfl,?_,?_⟩;repeat' first|exact trivial|exact rfl|refine And.intro ?_ ?_|refine ⟨_,rfl,?_⟩|decide)⟩
     ·exact ⟨s,k,g,by omega,by omega,rfl,rfl,by omega,by omega,hg,f5 g (hG.symm.trans (shU_stop fun h=>Bool.false_ne_true ((((lt_at h1 h2).trans (decide_eq_false (by omega))).symm).trans h.2)))⟩
     ·((simp only [vM] at *;omega))
    ·refine ⟨(_,_,_),[(0,0)],[],?_,?_,by (refine ⟨rfl,rfl,rfl,?_,?_⟩;repeat' first|exact trivial|exact rfl|refine And.intro ?_ ?_|refine ⟨_,rfl,?_⟩|decide)⟩
     ·exact ⟨s,k,g,by omega,by omega,rfl,rfl,by omega,by omega,hg,f5 g (hG.symm.trans (shU_stop fun h=>by omega))⟩
     ·((simp only [vM] at *;omega))
   ·have f4:=f3 fun h=>by omega
    rw [f4] at f2
    refine ⟨(_,_,_),[(0,0)],[],?_,?_,by (refine ⟨rfl,rfl,rfl,?_,?_⟩;repeat' first|exact trivial|exact rfl|refine And.intro ?_ ?_|refine ⟨_,rfl,?_⟩|decide)⟩
    ·exact ⟨s,k,u,by omega,by omega,rfl,rfl,by omega,by omega,hu,f2 u (by rw [Sort.fixUp,if_neg (by omega)])⟩
    ·((simp only [vM] at *;omega))
  ·have hk:=hS fun h=>Bool.false_ne_true (h.2.symm.trans ((lt_at h1 h2).trans (decide_eq_true (by omega))))
   have f2:=f1 hk (by omega) (by omega)
   rw [Sort.fixDown,if_neg (by omega)] at f2
   have f5 : ∀ g,Sort.shiftUp (ltC cf) b (k+1) (Sort.swp e k (k - 1))=g→Sort.partialIns (ltC cf) a b s k g=R:=fun g hg=>f2 g (by rw [Sort.fixUp,if_pos (by omega)];exact hg)
   refine loop_mem (fun ((mm,xs):Int×List D)=>[(0,.own 0),(1,.d (.int .i64 ((a:Int)))),(2,.d (.int .i64 ((b:Int)))),(9,.d (.int .i64 ((k:Int)))),(10,.d (.int .i64 ((5 - ((s+1:Nat):Int))))),(12,.d (.int .i64 (mm))),(3,.d (.fn fid [y1,y2,y3])),(ghostAt,.own 0)]) (fun ((mm,xs):Int×List D)=>[(0,some (.row 1 xs))]) 1 (fun ((mm,xs):Int×List D) => ∃ (m:Nat) (g:Array τ),mm=m∧xs=g.toList.map (eC vf)∧k+1≤m∧m≤b∧g.size=d.size∧Sort.shiftUp (ltC cf) b m g=Sort.shiftUp (ltC cf) b (k+1) (Sort.swp e k (k - 1))) (fun ((mm,xs):Int×List D)=>(b - mm).toNat) (((k:Int)+1,_)) [(0,0)] [] (⟨k+1,(Sort.swp e k (k - 1)),by omega,swp_rowI _ _ ‹e.toList[(k:Int).toNat]? = some _› ‹e.toList[((k:Int) - 1).toNat]? = some _› rfl (by omega),by omega,by omega,hsw,rfl⟩) (by (refine ⟨rfl,rfl,rfl,?_,?_⟩;repeat' first|exact trivial|exact rfl|refine And.intro ?_ ?_|refine ⟨_,rfl,?_⟩|decide)) ?_
   rintro ⟨_,_⟩ ⟨m,g,rfl,rfl,hm,hmb,hg,hG⟩
   have hgl:g.toList.length=d.size:=by rw [Array.length_toList];exact hg
   (repeat' ((conv=>whnf);first|refine vA ?_|refine vE ?_|(refine vF ?_ ?_<;>intro hc<;>try simp only [vL] at hc)|refine vN ‹_› ?_|(refine vQ ?_ fun x hx=>?_;·omega)|((first|refine vO ?_ ?_|refine vP ?_ ?_);·first|omega|(simp only [vM] at *;omega))|(refine vU ?_ ?_;·kernel_rfl)|refine yD (hcf _ _) (by (repeat refine ⟨⟨rfl,rfl⟩,?_⟩);rfl) rfl ?_));all_goals try conv=>whnf
   ·have h1:=arr_at m ‹g.toList[(m:Int).toNat]? = some _› rfl
    have h2:=arr_at (m - 1) ‹g.toList[((m:Int) - 1).toNat]? = some _› (by omega)
    refine ⟨(_,_),[(0,0)],[],?_,?_,by (refine ⟨rfl,rfl,rfl,?_,?_⟩;repeat' first|exact trivial|exact rfl|refine And.intro ?_ ?_|refine ⟨_,rfl,?_⟩|decide)⟩
    ·exact ⟨m+1,Sort.swp g m (m - 1),by omega,swp_rowI _ _ ‹g.toList[(m:Int).toNat]? = some _› ‹g.toList[((m:Int) - 1).toNat]? = some _› rfl (by omega),by omega,by omega,by rw [swp_size,hg],(shU_next (by omega) ((lt_at h1 h2).trans (decide_eq_true (by omega)))).trans hG⟩
    ·((simp only [vM] at *;omega))
   ·have h1:=arr_at m ‹g.toList[(m:Int).toNat]? = some _› rfl
    have h2:=arr_at (m - 1) ‹g.toList[((m:Int) - 1).toNat]? = some _› (by omega)
    refine ⟨(_,_,_),[(0,0)],[],?_,?_,by (refine ⟨rfl,rfl,rfl,?_,?_⟩;repeat' first|exact trivial|exact rfl|refine And.intro ?_ ?_|refine ⟨_,rfl,?_⟩|decide)⟩
    ·exact ⟨s,k,g,by omega,by omega,rfl,rfl,by omega,by omega,hg,f5 g (hG.symm.trans (shU_stop fun h=>Bool.false_ne_true ((((lt_at h1 h2).trans (decide_eq_false (by omega))).symm).trans h.2)))⟩
    ·((simp only [vM] at *;omega))
   ·refine ⟨(_,_,_),[(0,0)],[],?_,?_,by (refine ⟨rfl,rfl,rfl,?_,?_⟩;repeat' first|exact trivial|exact rfl|refine And.intro ?_ ?_|refine ⟨_,rfl,?_⟩|decide)⟩
    ·exact ⟨s,k,g,by omega,by omega,rfl,rfl,by omega,by omega,hg,f5 g (hG.symm.trans (shU_stop fun h=>by omega))⟩
    ·((simp only [vM] at *;omega))
  ·refine ⟨_,[(0,0)],[],?_,?_,by (refine ⟨rfl,rfl,rfl,?_,?_⟩;repeat' first|exact trivial|exact rfl|refine And.intro ?_ ?_|refine ⟨_,rfl,?_⟩|decide)⟩
   ·exact ⟨k+1,by omega,by omega,by omega,(scanS_next (by omega) ((lt_at h1 h2).trans (decide_eq_false (by omega)))).trans hK⟩
   ·(omega)
  ·have hk:=hS fun h=>by omega
   rw [hk,if_pos (by omega)] at hI
   subst hI
   refine ⟨trivial,_,[(0,0)],[],rfl,.inl (by (repeat' exact .inr (.inl ⟨rfl,rfl⟩))),⟨by rfl,by rfl,by rfl,trivial,by (repeat' first|exact trivial|exact rfl|refine And.intro ?_ ?_|refine ⟨_,rfl,?_⟩|exact of_decide_eq_true rfl)⟩,by (repeat' first|exact trivial|exact rfl|refine And.intro ?_ ?_)⟩
 ·have hs0:s=0:=by omega
  subst hs0
  have hI':(e,false)=R:=hI
  subst hI'
  refine ⟨trivial,_,[(0,0)],[],rfl,.inl (by (repeat' exact .inr (.inr ⟨rfl,rfl⟩))),⟨by rfl,by rfl,by rfl,trivial,by (repeat' first|exact trivial|exact rfl|refine And.intro ?_ ?_|refine ⟨_,rfl,?_⟩|exact of_decide_eq_true rfl)⟩,by (repeat' first|exact trivial|exact rfl|refine And.intro ?_ ?_)⟩
end Go.Ab
