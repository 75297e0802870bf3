/- A part of the proofs of this seat: functions and their contracts. -/
import Derived.Test.YtffknaghkomefaaGreatMC
import Derived.Test.YtffknaghkomefaaGreatProg
import Derived.Lib.TrailingZeros
set_option linter.unusedVariables false
set_option linter.unusedSimpArgs false
set_option linter.unusedSectionVars false
namespace Go.Ab.K
open Go
abbrev t:=Arg.t
abbrev c:=Arg.c
abbrev n (x:Int):V := .d (.int .i64 x)
abbrev u (x:BitVec 64):V := .d (.u64 x)
abbrev m (x:Nat):CO := .mv (.t x)
abbrev pf (x y:Nat):CO := .pick (.t x) (.t y) (.c .bf)
abbrev pt (x y:Nat):CO := .pick (.t x) (.c .bt) (.t y)
abbrev b (o:BinOp) (x y:Nat):CO := .bin o (.t x) (.t y)
abbrev bc (o:BinOp) (x:Nat) (y:V):CO := .bin o (.t x) (.c y)
abbrev l (x:Nat):CO := .load none (.t x)
abbrev la (k x:Nat):CO := .load (some k) (.t x)
abbrev f (o x:Nat):CO := .faddr o (.t x)
abbrev ia (s x i:Nat):CO := .iaddr s (.t x) (.t i)
abbrev e (x k:Nat):CO := .ext (.t x) k
abbrev ln (x:Nat):CO := .len (.t x)
abbrev o (d:Nat) (x:CO):COp:=⟨some d,none,x⟩
abbrev w (x:CO):COp:=⟨none,none,x⟩
abbrev g (d k:Nat) (v:Bool) (x:CO):COp:=⟨some d,some (k,v),x⟩
abbrev gw (k:Nat) (v:Bool) (x:CO):COp:=⟨none,some (k,v),x⟩
abbrev i (x:Nat) (p r:CC):CC := .cond (.t x) p r
def q:List CC→CC
 | [] => .skip
 | [x]=>x
 | x::y::r => .seq x (q (y::r))
end Go.Ab.K
namespace Go.Ab
open Go K
def f_wittinglaw34_awake:Nat:=4
def f_wittinglaw34_few:Nat:=5
def f_doxastic_Holds:Nat:=6
def f_wittingref34_Holds:Nat:=7
def f_doxastic_At:Nat:=8
def f_wittingref34_At:Nat:=9
def f_formula_Fact:Nat:=10
def f_formula_True:Nat:=11
def f_wittinglaw34_holds:Nat:=12
def f_formula_Belief:Nat:=13
def f_formula_Not:Nat:=14
def f_formula_Or:Nat:=15
def f_formula_Know:Nat:=16
def f_formula_Safe:Nat:=17
def f_doxastic_Strong:Nat:=18
def f_wittinglaw34_example:Nat:=19
def f_doxastic_Believes:Nat:=20
def f_formula_Dist:Nat:=21
def f_wittingref34_Few:Nat:=22
def f_plaus_Check:Nat:=23
def f_formula_Check:Nat:=24
def f_formula_Frags:Nat:=25
def f_formula_Fits:Nat:=26
def f_formula_Compact:Nat:=27
def f_doxastic_value:Nat:=28
def f_wittingref33_Check:Nat:=29
def f_wittingref05_Check:Nat:=30
def f_wittingref05_Frags:Nat:=31
def f_wittingref05_Fits:Nat:=32
def f_wittingref34_knowledge:Nat:=33
def f_wittingref05_Compact:Nat:=34
def f_wittingref05_UsesX:Nat:=35
def f_wittingref05_UsesY:Nat:=36
def f_wittingref34_believes:Nat:=37
def f_wittingref34_safely:Nat:=38
def f_wittingref17_One:Nat:=39
def f_wittingref13_Has:Nat:=40
def f_formula_build:Nat:=41
def f_doxastic_request:Nat:=42
def f_doxastic_where:Nat:=43
def f_doxastic_Strong_1:Nat:=44
def f_plaus_Cell:Nat:=45
def f_doxastic_believes:Nat:=46
def f_plaus_shape:Nat:=47
def f_plaus_ranks:Nat:=48
def f_formula_nodeError:Nat:=49
def f_formula_union:Nat:=50
def f_formula_Frags_1:Nat:=51
def f_formula_Fits_1:Nat:=52
def f_formula_Agents:Nat:=53
def f_formula_Facts:Nat:=54
def f_formula_Sub:Nat:=55
def f_doxastic_all:Nat:=56
def f_doxastic_knows:Nat:=57
def f_doxastic_every:Nat:=58
def f_doxastic_common:Nat:=59
def f_doxastic_safely:Nat:=60
def f_wittingref33_sizes:Nat:=61
def f_wittingref33_cells:Nat:=62
def f_wittingref33_ranked:Nat:=63
def f_wittingref05_node:Nat:=64
def f_wittingref05_Frag:Nat:=65
def f_wittingref05_Agents:Nat:=66
def f_wittingref05_Facts:Nat:=67
def f_wittingref34_Cell:Nat:=68
def f_wittingref05_Sub:Nat:=69
def f_wittingref34_best:Nat:=70
def f_wittingref34_safer:Nat:=71
def f_wittingref13_All:Nat:=72
def f_wittingref17_Boolean:Nat:=73
def f_wittingref17_Box:Nat:=74
def f_wittingref13_Group:Nat:=75
def f_wittingref17_common:Nat:=77
def f_formula_uses:Nat:=78
def f_formula_compact:Nat:=79
def f_plaus_known:Nat:=80
def f_plaus_cellOf:Nat:=81
def f_doxastic_believes_1:Nat:=82
def f_plaus_Best:Nat:=83
def f_plaus_all:Nat:=84
def f_slices_Sort_Lint_int_:Nat:=85
def f_slices_Compact_Lint_int_:Nat:=86
def f_formula_operand:Nat:=87
def f_formula_nodeError_1:Nat:=88
def f_formula_Agents_1:Nat:=89
def f_formula_Facts_1:Nat:=90
def f_doxastic_knows_1:Nat:=91
def f_plaus_Weaker:Nat:=92
def f_doxastic_safely_1:Nat:=93
def f_wittingref02_All:Nat:=94
def f_wittingref05_agent:Nat:=95
def f_wittingref05_group:Nat:=96
def f_wittingref05_finish:Nat:=97
def f_wittingref13_group:Nat:=98
def f_wittingref17_Paths:Nat:=99
def f_formula_compact_1:Nat:=100
def f_plaus_bestOf:Nat:=101
def f_slices_pdqsortOrdered_int_:Nat:=102
def f_math_bits_Len:Nat:=103
def f_wittingref05_put:Nat:=104
def f_wittingref13_Check:Nat:=105
def f_slices_insertionSortOrdered_int_:Nat:=106
def f_slices_heapSortOrdered_int_:Nat:=107
def f_slices_breakPatternsOrdered_int_:Nat:=108
def f_slices_choosePivotOrdered_int_:Nat:=109
def f_slices_reverseRangeOrdered_int_:Nat:=110
def f_slices_partialInsertionSortOrdered_int_:Nat:=111
def f_cmp_Less_int_:Nat:=112
def f_slices_partitionEqualOrdered_int_:Nat:=113
def f_slices_partitionOrdered_int_:Nat:=114
def f_math_bits_Len64:Nat:=116
def f_wittingref13_beyond:Nat:=117
def f_slices_siftDownOrdered_int_:Nat:=118
def f_slices_nextPowerOfTwo:Nat:=119
def f___slices_xorshift__Next:Nat:=120
def f_slices_medianAdjacentOrdered_int_:Nat:=121
def f_slices_medianOrdered_int_:Nat:=122
def f_cmp_isNaN_int_:Nat:=123
def f_slices_order2Ordered_int_:Nat:=124
def c_wittinglaw34_awake:CFn:=⟨128,[.tmp 0],(q [(.reg [o 0 (.mv (c .bf))]),
 (.reg [o 17 (.call 10 [(c (n 0))]),o 18 (.call 10 [(c (n 1))]),o 19 (.call 11 []),o 1 (m 17),o 2 (m 18),o 3 (m 19)]),
 (.reg [o 20 (m 3),o 21 (m 2),o 22 (.call 13 [(c (n 0)),(t 20),(t 21)]),o 23 (.call 12 [(t 22),(c (u 7))]),o 24 (m 23),g 25 24 true (m 2),g 26 24 true (.call 14 [(t 25)]),g 27 24 true (m 1),g 28 24 true (.call 13 [(c (n 0)),(t 26),(t 27)]),g 29 24 true (.call 12 [(t 28),(c (u 7))]),o 30 (pf 24 29),o 31 (m 30),g 32 31 true (m 1),g 33 31 true (m 2),g 34 31 true (.call 14 [(t 33)]),g 35 31 true (.call 15 [(t 32),(t 34)]),g 36 31 true (m 2),g 37 31 true (.call 13 [(c (n 0)),(t 35),(t 36)]),g 38 31 true (.call 12 [(t 37),(c (u 0))]),o 39 (pf 31 38),o 40 (m 39),g 41 40 true (m 2),g 42 40 true (.call 16 [(c (n 0)),(t 41)]),g 43 40 true (.call 12 [(t 42),(c (u 0))]),o 44 (pf 40 43),o 45 (m 44),g 46 45 true (m 2),g 47 45 true (.call 17 [(c (n 0)),(t 46)]),g 48 45 true (.call 12 [(t 47),(c (u 2))]),o 49 (pf 45 48),o 4 (m 49)]),
 (.reg [o 51 (.call 19 []),o 52 (.call 18 [(t 51),(c (n 0)),(c (u 2))]),o 50 (m 52),o 53 (e 50 0),o 54 (e 50 1),o 5 (m 53),o 6 (m 54)]),
 (.reg [o 56 (.call 19 []),o 57 (.call 18 [(t 56),(c (n 0)),(c (u 3))]),o 55 (m 57),o 58 (e 55 0),o 59 (e 55 1),o 7 (m 58),o 8 (m 59)]),
 (.reg [o 61 (.call 19 []),o 62 (.call 18 [(t 61),(c (n 0)),(c (u 6))]),o 60 (m 62),o 63 (e 60 0),o 64 (e 60 1),o 9 (m 63),o 10 (m 64)]),
 (.reg [o 66 (.call 19 []),o 67 (m 2),o 68 (.call 17 [(c (n 0)),(t 67)]),o 69 (.call 8 [(t 66),(c (n 1)),(t 68)]),o 65 (m 69),o 70 (e 65 0),o 71 (e 65 1),o 11 (m 70),o 12 (m 71)]),
 (.reg [o 73 (.call 19 []),o 74 (.call 20 [(t 73),(c (n 0)),(c (u 5)),(c (u 1))]),o 72 (m 74),o 75 (e 72 0),o 76 (e 72 1),o 13 (m 75),o 14 (m 76)]),
 (.reg [o 78 (.call 19 []),o 79 (m 1),o 80 (.call 21 [(c (n 1)),(t 79)]),o 81 (.call 6 [(t 78),(t 80)]),o 77 (m 81),o 82 (e 77 0),o 83 (e 77 1),o 15 (m 82),o 16 (m 83)]),
 (.reg [o 84 (m 4),o 85 (m 84),g 86 85 true (m 6),g 87 85 true (bc .eql 86 (n 0)),o 88 (pf 85 87),o 89 (m 88),g 90 89 true (m 8),g 91 89 true (bc .eql 90 (n 0)),o 92 (pf 89 91),o 93 (m 92),g 94 93 true (m 10),g 95 93 true (bc .eql 94 (n 0)),o 96 (pf 93 95),o 97 (m 96),g 98 97 true (m 12),g 99 97 true (bc .eql 98 (n 0)),o 100 (pf 97 99),o 101 (m 100),g 102 101 true (m 14),g 103 101 true (bc .eql 102 (n 0)),o 104 (pf 101 103),o 105 (m 104),g 106 105 true (m 16),g 107 105 true (bc .eql 106 (n 10)),o 108 (pf 105 107),o 109 (m 108),g 110 109 true (m 5),g 111 109 true (bc .eql 110 (u 7)),o 112 (pf 109 111),o 113 (m 112),g 114 113 true (m 7),g 115 113 true (bc .eql 114 (u 7)),o 116 (pf 113 115),o 117 (m 116),g 118 117 true (m 9),g 119 117 true (bc .eql 118 (u 0)),o 120 (pf 117 119),o 121 (m 120),g 122 121 true (m 11),o 123 (pf 121 122),o 124 (m 123),g 125 124 true (m 13),g 126 124 true (bc .eql 125 (u 7)),o 127 (pf 124 126),o 0 (m 127)]),
 .ret])⟩
def c_wittinglaw34_few:CFn:=⟨19,[.tmp 4],(q [(.reg [o 2 (.box 4 (t 0)),o 4 (.mv (c .bf))]),
 (q [(.reg [o 7 (m 1),o 8 (ln 7),o 9 (.mv (c (n 0)))]),
 (.block 0 (.loop (q [(.reg [o 10 (b .lss 9 8)]),
 (i 10 .skip (.exit 0)),
 (.block 1 (q [(.reg [o 11 (ia 1 7 9),o 12 (l 11),o 6 (m 12)]),
 (.reg [o 13 (m 6),o 14 (ln 13),o 15 (bc .gtr 14 (n 60))]),
 (i 15 (q [(.reg [o 4 (.mv (c .bf))]),
 .ret]) .skip)])),
 (.reg [o 16 (bc .add 9 (n 1)),o 9 (m 16)])])))]),
 (.reg [o 17 (la 4 2),o 18 (.call 22 [(t 17),(c (n 12))]),o 4 (m 18)]),
 .ret])⟩
def c_doxastic_Holds:CFn:=⟨71,[.tmp 4,.tmp 5],(q [(.reg [o 2 (.box 4 (t 0)),o 4 (.mv (c (u 0))),o 5 (.mv (c (n 0)))]),
 (q [(.reg [o 13 (la 4 2),o 14 (.call 23 [(t 13)]),o 6 (m 14)]),
 (.reg [o 15 (m 6),o 16 (bc .neq 15 (n 0))]),
 (i 16 (q [(.reg [o 17 (m 6),o 4 (.mv (c (u 0))),o 5 (m 17)]),
 .ret]) .skip)]),
 (q [(.reg [o 18 (m 1),o 19 (.call 24 [(t 18)]),o 7 (m 19)]),
 (.reg [o 20 (m 7),o 21 (bc .neq 20 (n 0))]),
 (i 21 (q [(.reg [o 22 (m 7),o 4 (.mv (c (u 0))),o 5 (m 22)]),
 .ret]) .skip)]),
 (q [(.reg [o 23 (m 1),o 24 (.call 25 [(t 23)]),o 25 (bc .andNot 24 (n 59)),o 26 (bc .neq 25 (n 0))]),
 (i 26 (q [(.reg [o 4 (.mv (c (u 0))),o 5 (.mv (c (n 10)))]),
 .ret]) .skip)]),
 (q [(.reg [o 27 (m 1),o 28 (f 2 2),o 29 (l 28),o 30 (ln 29),o 31 (f 1 2),o 32 (l 31),o 33 (ln 32),o 34 (.call 26 [(t 27),(t 30),(t 33)]),o 35 (.un .not (t 34))]),
 (i 35 (q [(.reg [o 4 (.mv (c (u 0))),o 5 (.mv (c (n 2)))]),
 .ret]) .skip)]),
 (.reg [o 8 (.mv (c (.nils 1)))]),
 (q [(.reg [o 36 (m 1),o 37 (.call 27 [(t 36)]),o 38 (ln 37),o 39 (.mv (c (n 0)))]),
 (.block 0 (.loop (q [(.reg [o 40 (b .lss 39 38)]),
 (i 40 .skip (.exit 0)),
 (.block 1 (q [(.reg [o 41 (ia 6 37 39),o 42 (la 6 41),o 10 (.alloc [(n 0),(n 0),(n 0),(n 0),(n 0),(n 0)]),w (.store 6 (t 10) (t 42))]),
 (.reg [o 11 (.mv (c (u 0))),o 12 (.mv (c (u 0)))]),
 (q [(.reg [o 43 (m 8),o 44 (ln 43),o 45 (bc .gtr 44 (n 0))]),
 (i 45 (.regd [o 46 (m 8),o 47 (f 4 10),o 48 (l 47),o 49 (ia 1 46 48),o 50 (l 49),o 51 (m 8),o 52 (f 5 10),o 53 (l 52),o 54 (ia 1 51 53),o 55 (l 54),o 11 (m 50),o 12 (m 55)] [0,0,2,7,15,0,0,64,224,480,31,2047]) .skip)]),
 (.reg [o 56 (m 8),o 57 (la 4 2),o 58 (la 6 10),o 59 (m 11),o 60 (m 12),o 61 (.call 28 [(t 57),(t 58),(t 59),(t 60)]),o 62 (.bslice 1 1 [(u 0)] [(0,(t 61))]),o 63 (.app 1 8 (t 56) (t 62)),o 8 (m 63)])])),
 (.reg [o 64 (bc .add 39 (n 1)),o 39 (m 64)])])))]),
 (.reg [o 65 (m 8),o 66 (m 8),o 67 (ln 66),o 68 (bc .sub 67 (n 1)),o 69 (ia 1 65 68),o 70 (l 69),o 4 (m 70),o 5 (.mv (c (n 0)))]),
 .ret])⟩
def c_wittingref34_Holds:CFn:=⟨126,[.tmp 4,.tmp 5],(q [(.reg [o 2 (.box 4 (t 0)),o 4 (.mv (c (u 0))),o 5 (.mv (c (n 0)))]),
 (.reg [o 13 (la 4 2),o 14 (.call 29 [(t 13)]),o 6 (m 14)]),
 (q [(.reg [o 15 (m 6),o 16 (bc .neq 15 (n 0))]),
 (i 16 (q [(.reg [o 17 (m 6),o 4 (.mv (c (u 0))),o 5 (m 17)]),
 .ret]) .skip)]),
 (.reg [o 18 (m 1),o 19 (.call 30 [(t 18)]),o 6 (m 19)]),
 (q [(.reg [o 20 (m 6),o 21 (bc .neq 20 (n 0))]),
 (i 21 (q [(.reg [o 22 (m 6),o 4 (.mv (c (u 0))),o 5 (m 22)]),
 .ret]) .skip)]),
 (q [(.reg [o 23 (m 1),o 24 (.call 31 [(t 23)]),o 25 (bc .andNot 24 (n 59)),o 26 (bc .neq 25 (n 0))]),
 (i 26 (q [(.reg [o 4 (.mv (c (u 0))),o 5 (.mv (c (n 10)))]),
 .ret]) .skip)]),
 (q [(.reg [o 27 (m 1),o 28 (f 2 2),o 29 (l 28),o 30 (ln 29),o 31 (f 1 2),o 32 (l 31),o 33 (ln 32),o 34 (.call 32 [(t 27),(t 30),(t 33)]),o 35 (.un .not (t 34))]),
 (i 35 (q [(.reg [o 4 (.mv (c (u 0))),o 5 (.mv (c (n 2)))]),
 .ret]) .skip)]),
 (.reg [o 36 (la 4 2),o 37 (.call 33 [(t 36)]),o 38 (m 1),o 39 (.call 34 [(t 38)]),o 7 (.alloc [(n 0),(.nils 1),(.nils 1)]),w (.store 3 (t 7) (t 37)),o 8 (m 39)]),
 (.reg [o 9 (.mv (c (.nils 1)))]),
 (q [(.reg [o 10 (.mv (c (n 0)))]),
 (.block 0 (.loop (q [(q [(.reg [o 40 (m 10),o 41 (m 8),o 42 (ln 41),o 43 (b .lss 40 42)]),
 (i 43 .skip (.exit 0))]),
 (.block 1 (q [(.reg [o 11 (.mv (c (u 0))),o 12 (.mv (c (u 0)))]),
 (q [(.reg [o 46 (m 8),o 47 (m 10),o 48 (ia 6 46 47),o 49 (f 0 48),o 50 (l 49),o 51 (.call 35 [(t 50)])]),
 (i 51 (.reg [o 52 (m 9),o 53 (m 8),o 54 (m 10),o 55 (ia 6 53 54),o 56 (f 4 55),o 57 (l 56),o 58 (ia 1 52 57),o 59 (l 58),o 11 (m 59)]) .skip)]),
 (q [(.reg [o 60 (m 8),o 61 (m 10),o 62 (ia 6 60 61),o 63 (f 0 62),o 64 (l 63),o 65 (.call 36 [(t 64)])]),
 (i 65 (.reg [o 66 (m 9),o 67 (m 8),o 68 (m 10),o 69 (ia 6 67 68),o 70 (f 5 69),o 71 (l 70),o 72 (ia 1 66 71),o 73 (l 72),o 12 (m 73)]) .skip)]),
 (.reg [o 74 (m 8),o 75 (m 10),o 76 (ia 6 74 75),o 77 (f 0 76),o 78 (l 77),o 79 (bc .eql 78 (n 14))]),
 (i 79 (.regd [o 80 (m 9),o 81 (la 4 2),o 82 (m 8),o 83 (m 10),o 84 (ia 6 82 83),o 85 (f 1 84),o 86 (l 85),o 87 (m 11),o 88 (m 12),o 89 (.call 37 [(t 81),(t 86),(t 87),(t 88)]),o 90 (.bslice 1 1 [(u 0)] [(0,(t 89))]),o 91 (.app 1 8 (t 80) (t 90)),o 9 (m 91)] [0,0,0,0,12,28,60,0,0,510,1022,2047,4095]) (q [(.reg [o 92 (m 8),o 93 (m 10),o 94 (ia 6 92 93),o 95 (f 0 94),o 96 (l 95),o 97 (bc .eql 96 (n 15))]),
 (i 97 (.regd [o 98 (m 9),o 99 (la 4 2),o 100 (m 8),o 101 (m 10),o 102 (ia 6 100 101),o 103 (f 1 102),o 104 (l 103),o 105 (m 11),o 106 (.call 38 [(t 99),(t 104),(t 105)]),o 107 (.bslice 1 1 [(u 0)] [(0,(t 106))]),o 108 (.app 1 8 (t 98) (t 107)),o 9 (m 108)] [0,0,0,0,12,28,60,0,254,510,1023,2047]) (.regd [o 109 (m 9),o 110 (la 3 7),o 111 (m 8),o 112 (m 10),o 113 (ia 6 111 112),o 114 (la 6 113),o 115 (m 11),o 116 (m 12),o 117 (.call 39 [(t 110),(t 114),(t 115),(t 116)]),o 118 (.bslice 1 1 [(u 0)] [(0,(t 117))]),o 119 (.app 1 8 (t 109) (t 118)),o 9 (m 119)] [0,0,0,0,12,28,0,0,254,510,1023,2047]))]))])),
 (.reg [o 44 (m 10),o 45 (bc .add 44 (n 1)),o 10 (m 45)])])))]),
 (.reg [o 120 (m 9),o 121 (m 9),o 122 (ln 121),o 123 (bc .sub 122 (n 1)),o 124 (ia 1 120 123),o 125 (l 124),o 4 (m 125),o 5 (.mv (c (n 0)))]),
 .ret])⟩
def c_doxastic_At:CFn:=⟨32,[.tmp 6,.tmp 7],(q [(.reg [o 3 (.box 4 (t 0)),o 6 (.mv (c .bf)),o 7 (.mv (c (n 0)))]),
 (.reg [o 11 (la 4 3),o 12 (m 2),o 13 (.call 6 [(t 11),(t 12)]),o 10 (m 13),o 14 (e 10 0),o 15 (e 10 1),o 8 (m 14),o 9 (m 15)]),
 (q [(.reg [o 16 (m 9),o 17 (bc .neq 16 (n 0))]),
 (i 17 (q [(.reg [o 18 (m 9),o 6 (.mv (c .bf)),o 7 (m 18)]),
 .ret]) .skip)]),
 (q [(.reg [o 19 (m 1),o 20 (bc .lss 19 (n 0)),o 21 (m 20),g 22 21 false (m 1),g 23 21 false (f 0 3),g 24 21 false (l 23),g 25 21 false (b .geq 22 24),o 26 (pt 21 25)]),
 (i 26 (q [(.reg [o 6 (.mv (c .bf)),o 7 (.mv (c (n 2)))]),
 .ret]) .skip)]),
 (.reg [o 27 (m 8),o 28 (m 1),o 29 (b .shr 27 28),o 30 (bc .and 29 (u 1)),o 31 (bc .eql 30 (u 1)),o 6 (m 31),o 7 (.mv (c (n 0)))]),
 .ret])⟩
def c_wittingref34_At:CFn:=⟨30,[.tmp 6,.tmp 7],(q [(.reg [o 3 (.box 4 (t 0)),o 6 (.mv (c .bf)),o 7 (.mv (c (n 0)))]),
 (.reg [o 11 (la 4 3),o 12 (m 2),o 13 (.call 7 [(t 11),(t 12)]),o 10 (m 13),o 14 (e 10 0),o 15 (e 10 1),o 8 (m 14),o 9 (m 15)]),
 (q [(.reg [o 16 (m 9),o 17 (bc .neq 16 (n 0))]),
 (i 17 (q [(.reg [o 18 (m 9),o 6 (.mv (c .bf)),o 7 (m 18)]),
 .ret]) .skip)]),
 (q [(.reg [o 19 (m 1),o 20 (bc .lss 19 (n 0)),o 21 (m 20),g 22 21 false (m 1),g 23 21 false (f 0 3),g 24 21 false (l 23),g 25 21 false (b .geq 22 24),o 26 (pt 21 25)]),
 (i 26 (q [(.reg [o 6 (.mv (c .bf)),o 7 (.mv (c (n 2)))]),
 .ret]) .skip)]),
 (.reg [o 27 (m 8),o 28 (m 1),o 29 (.call 40 [(t 27),(t 28)]),o 6 (m 29),o 7 (.mv (c (n 0)))]),
 .ret])⟩
def c_formula_Fact:CFn:=⟨6,[.tmp 2],(q [(.reg [o 2 (.mv (c (.nils 6)))]),
 (.reg [o 3 (m 0),o 4 (.build [(n 0),(n 0),(n 0),(n 0),(n 0),(n 0)] [(0,1,(c (n 3))),(1,1,(t 3))]),o 5 (.call 41 [(t 4),(c (.nils 1))]),o 2 (m 5)]),
 .ret])⟩
def c_formula_True:CFn:=⟨3,[.tmp 0],(q [(.reg [o 0 (.mv (c (.nils 6)))]),
 (.reg [o 1 (.build [(n 0),(n 0),(n 0),(n 0),(n 0),(n 0)] [(0,1,(c (n 1)))]),o 2 (.call 41 [(t 1),(c (.nils 1))]),o 0 (m 2)]),
 .ret])⟩
def c_wittinglaw34_holds:CFn:=⟨20,[.tmp 4],(q [(.reg [o 4 (.mv (c .bf))]),
 (.reg [o 8 (.call 19 []),o 9 (m 0),o 10 (.call 6 [(t 8),(t 9)]),o 7 (m 10),o 11 (e 7 0),o 12 (e 7 1),o 5 (m 11),o 6 (m 12)]),
 (.reg [o 13 (m 6),o 14 (bc .eql 13 (n 0)),o 15 (m 14),g 16 15 true (m 5),g 17 15 true (m 1),g 18 15 true (b .eql 16 17),o 19 (pf 15 18),o 4 (m 19)]),
 .ret])⟩
def c_formula_Belief:CFn:=⟨13,[.tmp 6],(q [(.reg [o 6 (.mv (c (.nils 6)))]),
 (.reg [o 7 (m 0),o 8 (.build [(n 0),(n 0),(n 0),(n 0),(n 0),(n 0)] [(0,1,(c (n 14))),(1,1,(t 7))]),o 9 (m 1),o 10 (m 2),o 11 (.bslice 1 2 [(.nils 6)] [(0,(t 9)),(1,(t 10))]),o 12 (.call 41 [(t 8),(t 11)]),o 6 (m 12)]),
 .ret])⟩
def c_formula_Not:CFn:=⟨7,[.tmp 2],(q [(.reg [o 2 (.mv (c (.nils 6)))]),
 (.reg [o 3 (.build [(n 0),(n 0),(n 0),(n 0),(n 0),(n 0)] [(0,1,(c (n 4)))]),o 4 (m 0),o 5 (.bslice 1 1 [(.nils 6)] [(0,(t 4))]),o 6 (.call 41 [(t 3),(t 5)]),o 2 (m 6)]),
 .ret])⟩
def c_formula_Or:CFn:=⟨10,[.tmp 4],(q [(.reg [o 4 (.mv (c (.nils 6)))]),
 (.reg [o 5 (.build [(n 0),(n 0),(n 0),(n 0),(n 0),(n 0)] [(0,1,(c (n 6)))]),o 6 (m 0),o 7 (m 1),o 8 (.bslice 1 2 [(.nils 6)] [(0,(t 6)),(1,(t 7))]),o 9 (.call 41 [(t 5),(t 8)]),o 4 (m 9)]),
 .ret])⟩
def c_formula_Know:CFn:=⟨10,[.tmp 4],(q [(.reg [o 4 (.mv (c (.nils 6)))]),
 (.reg [o 5 (m 0),o 6 (.build [(n 0),(n 0),(n 0),(n 0),(n 0),(n 0)] [(0,1,(c (n 9))),(1,1,(t 5))]),o 7 (m 1),o 8 (.bslice 1 1 [(.nils 6)] [(0,(t 7))]),o 9 (.call 41 [(t 6),(t 8)]),o 4 (m 9)]),
 .ret])⟩
def c_formula_Safe:CFn:=⟨10,[.tmp 4],(q [(.reg [o 4 (.mv (c (.nils 6)))]),
 (.reg [o 5 (m 0),o 6 (.build [(n 0),(n 0),(n 0),(n 0),(n 0),(n 0)] [(0,1,(c (n 15))),(1,1,(t 5))]),o 7 (m 1),o 8 (.bslice 1 1 [(.nils 6)] [(0,(t 7))]),o 9 (.call 41 [(t 6),(t 8)]),o 4 (m 9)]),
 .ret])⟩
def c_doxastic_Strong:CFn:=⟨19,[.tmp 6,.tmp 7],(q [(.reg [o 3 (.box 4 (t 0)),o 4 (.box 1 (t 1)),o 5 (.box 1 (t 2)),o 6 (.mv (c (u 0))),o 7 (.mv (c (n 0)))]),
 (q [(.reg [o 9 (la 4 3),o 10 (l 4),o 11 (l 5),o 12 (.call 42 [(t 9),(t 10),(t 11)]),o 8 (m 12)]),
 (.reg [o 13 (m 8),o 14 (bc .neq 13 (n 0))]),
 (i 14 (q [(.reg [o 15 (m 8),o 6 (.mv (c (u 0))),o 7 (m 15)]),
 .ret]) .skip)]),
 (.reg [o 16 (la 4 3),o 17 (.fnew f_doxastic_Strong_1 [(t 3),(t 4),(t 5)]),o 18 (.call 43 [(t 16),(t 17)]),o 6 (m 18),o 7 (.mv (c (n 0)))]),
 .ret])⟩
def c_wittinglaw34_example:CFn:=⟨7,[.cell 0 (some 4)],(q [(.reg [o 0 (.alloc [(n 0),(.nils 1),(.nils 1),(.nils 1)])]),
 (.reg [o 1 (.bslice 1 2 [(u 0)] [(0,(c (u 1))),(1,(c (u 6)))]),o 2 (.bslice 1 3 [(n 0)] [(0,(c (n 0))),(1,(c (n 0))),(2,(c (n 0)))]),o 3 (.bslice 1 1 [(.nils 1)] [(0,(t 2))]),o 4 (.bslice 1 3 [(n 0)] [(0,(c (n 1))),(1,(c (n 0))),(2,(c (n 2)))]),o 5 (.bslice 1 1 [(.nils 1)] [(0,(t 4))]),o 6 (.build [(n 0),(.nils 1),(.nils 1),(.nils 1)] [(0,1,(c (n 3))),(1,1,(t 1)),(2,1,(t 3)),(3,1,(t 5))]),w (.store 4 (t 0) (t 6))]),
 .ret])⟩
def c_doxastic_Believes:CFn:=⟨25,[.tmp 8,.tmp 9],(q [(.reg [o 4 (.box 4 (t 0)),o 8 (.mv (c (u 0))),o 9 (.mv (c (n 0)))]),
 (q [(.reg [o 11 (la 4 4),o 12 (m 1),o 13 (m 2),o 14 (m 3),o 15 (b .or 13 14),o 16 (.call 42 [(t 11),(t 12),(t 15)]),o 10 (m 16)]),
 (.reg [o 17 (m 10),o 18 (bc .neq 17 (n 0))]),
 (i 18 (q [(.reg [o 19 (m 10),o 8 (.mv (c (u 0))),o 9 (m 19)]),
 .ret]) .skip)]),
 (.reg [o 20 (la 4 4),o 21 (m 1),o 22 (m 2),o 23 (m 3),o 24 (.call 46 [(t 20),(t 21),(t 22),(t 23)]),o 8 (m 24),o 9 (.mv (c (n 0)))]),
 .ret])⟩
def c_formula_Dist:CFn:=⟨10,[.tmp 4],(q [(.reg [o 4 (.mv (c (.nils 6)))]),
 (.reg [o 5 (m 0),o 6 (.build [(n 0),(n 0),(n 0),(n 0),(n 0),(n 0)] [(0,1,(c (n 12))),(3,1,(t 5))]),o 7 (m 1),o 8 (.bslice 1 1 [(.nils 6)] [(0,(t 7))]),o 9 (.call 41 [(t 6),(t 8)]),o 4 (m 9)]),
 .ret])⟩
def c_wittingref34_Few:CFn:=⟨62,[.tmp 4],(q [(.reg [o 2 (.box 4 (t 0)),o 4 (.mv (c .bf))]),
 (q [(.reg [o 7 (f 0 2),o 8 (l 7),o 9 (m 1),o 10 (b .gtr 8 9),o 11 (m 10),g 12 11 true (f 0 2),g 13 11 true (l 12),g 14 11 true (bc .leq 13 (n 64)),o 15 (pf 11 14),o 16 (m 15),g 17 16 false (f 1 2),g 18 16 false (l 17),g 19 16 false (ln 18),g 20 16 false (bc .gtr 19 (n 20)),o 21 (pt 16 20),o 22 (m 21),g 23 22 false (f 2 2),g 24 22 false (l 23),g 25 22 false (ln 24),g 26 22 false (bc .gtr 25 (n 10)),o 27 (pt 22 26),o 28 (m 27),g 29 28 false (f 3 2),g 30 28 false (l 29),g 31 28 false (ln 30),g 32 28 false (bc .gtr 31 (n 10)),o 33 (pt 28 32)]),
 (i 33 (q [(.reg [o 4 (.mv (c .bf))]),
 .ret]) .skip)]),
 (q [(.reg [o 5 (.mv (c (n 0)))]),
 (.block 0 (.loop (q [(q [(.reg [o 34 (m 5),o 35 (f 2 2),o 36 (l 35),o 37 (ln 36),o 38 (b .lss 34 37)]),
 (i 38 .skip (.exit 0))]),
 (.block 1 (q [(.reg [o 41 (f 2 2),o 42 (l 41),o 43 (m 5),o 44 (ia 1 42 43),o 45 (l 44),o 46 (ln 45),o 47 (bc .gtr 46 (n 70))]),
 (i 47 (q [(.reg [o 4 (.mv (c .bf))]),
 .ret]) .skip)])),
 (.reg [o 39 (m 5),o 40 (bc .add 39 (n 1)),o 5 (m 40)])])))]),
 (q [(.reg [o 6 (.mv (c (n 0)))]),
 (.block 2 (.loop (q [(q [(.reg [o 48 (m 6),o 49 (f 3 2),o 50 (l 49),o 51 (ln 50),o 52 (b .lss 48 51)]),
 (i 52 .skip (.exit 2))]),
 (.block 3 (q [(.reg [o 55 (f 3 2),o 56 (l 55),o 57 (m 6),o 58 (ia 1 56 57),o 59 (l 58),o 60 (ln 59),o 61 (bc .gtr 60 (n 70))]),
 (i 61 (q [(.reg [o 4 (.mv (c .bf))]),
 .ret]) .skip)])),
 (.reg [o 53 (m 6),o 54 (bc .add 53 (n 1)),o 6 (m 54)])])))]),
 (.reg [o 4 (.mv (c .bt))]),
 .ret])⟩
def c_plaus_Check:CFn:=⟨123,[.tmp 2],(q [(.reg [o 1 (.box 4 (t 0)),o 2 (.mv (c (n 0)))]),
 (q [(.reg [o 14 (f 0 1),o 15 (l 14),o 16 (f 2 1),o 17 (l 16),o 18 (ln 17),o 19 (f 1 1),o 20 (l 19),o 21 (.call 47 [(t 15),(t 18),(t 20)]),o 3 (m 21)]),
 (.reg [o 22 (m 3),o 23 (bc .neq 22 (n 0))]),
 (i 23 (q [(.reg [o 24 (m 3),o 2 (m 24)]),
 .ret]) .skip)]),
 (q [(.reg [o 25 (f 3 1),o 26 (l 25),o 27 (ln 26),o 28 (f 2 1),o 29 (l 28),o 30 (ln 29),o 31 (b .neq 27 30)]),
 (i 31 (q [(.reg [o 2 (.mv (c (n 3)))]),
 .ret]) .skip)]),
 (q [(.reg [o 32 (f 2 1),o 33 (l 32),o 34 (ln 33),o 35 (.mv (c (n 0)))]),
 (.block 0 (.loop (q [(.reg [o 36 (b .lss 35 34)]),
 (i 36 .skip (.exit 0)),
 (.block 1 (q [(.reg [o 37 (m 35),o 4 (m 37)]),
 (.regd [o 38 (f 2 1),o 39 (l 38),o 40 (m 4),o 41 (ia 1 39 40),o 42 (l 41),o 43 (ln 42),o 44 (f 0 1),o 45 (l 44),o 46 (b .neq 43 45),o 47 (m 46),g 48 47 false (f 3 1),g 49 47 false (l 48),g 50 47 false (m 4),g 51 47 false (ia 1 49 50),g 52 47 false (l 51),g 53 47 false (ln 52),g 54 47 false (f 0 1),g 55 47 false (l 54),g 56 47 false (b .neq 53 55),o 57 (pt 47 56)] [0,1,0,7,15,31,0,64,255,511,1023,2047,1023,8191,16383,32767,1023,66559,262143,524287]),
 (i 57 (q [(.reg [o 2 (.mv (c (n 3)))]),
 .ret]) .skip)])),
 (.reg [o 58 (bc .add 35 (n 1)),o 35 (m 58)])])))]),
 (q [(.reg [o 59 (f 2 1),o 60 (l 59),o 61 (ln 60),o 62 (.mv (c (n 0)))]),
 (.block 2 (.loop (q [(.reg [o 63 (b .lss 62 61)]),
 (i 63 .skip (.exit 2)),
 (.block 3 (q [(.reg [o 64 (ia 1 60 62),o 65 (l 64),o 6 (m 65)]),
 (.reg [o 66 (m 6),o 67 (ln 66),o 68 (.mv (c (n 0)))]),
 (.block 4 (.loop (q [(.reg [o 69 (b .lss 68 67)]),
 (i 69 .skip (.exit 4)),
 (.block 5 (q [(.reg [o 70 (m 68),o 71 (ia 1 66 68),o 72 (l 71),o 7 (m 70),o 8 (m 72)]),
 (.reg [o 73 (m 8),o 74 (bc .lss 73 (n 0)),o 75 (m 74),g 76 75 false (m 8),g 77 75 false (m 7),g 78 75 false (b .gtr 76 77),o 79 (pt 75 78),o 80 (m 79),g 81 80 false (m 6),g 82 80 false (m 8),g 83 80 false (ia 1 81 82),g 84 80 false (l 83),g 85 80 false (m 8),g 86 80 false (b .neq 84 85),o 87 (pt 80 86)]),
 (i 87 (q [(.reg [o 2 (.mv (c (n 1)))]),
 .ret]) .skip)])),
 (.reg [o 88 (bc .add 68 (n 1)),o 68 (m 88)])])))])),
 (.reg [o 89 (bc .add 62 (n 1)),o 62 (m 89)])])))]),
 (q [(.reg [o 90 (f 2 1),o 91 (l 90),o 92 (ln 91),o 93 (.mv (c (n 0)))]),
 (.block 6 (.loop (q [(.reg [o 94 (b .lss 93 92)]),
 (i 94 .skip (.exit 6)),
 (.block 7 (q [(.reg [o 95 (m 93),o 96 (ia 1 91 93),o 97 (l 96),o 9 (m 95),o 10 (m 97)]),
 (.reg [o 98 (m 10),o 99 (f 3 1),o 100 (l 99),o 101 (m 9),o 102 (ia 1 100 101),o 103 (l 102),o 104 (.call 48 [(t 98),(t 103)]),o 105 (.range (t 104))]),
 (.block 8 (.loop (q [(.reg [o 106 (.next (t 105)),o 107 (e 106 0)]),
 (i 107 .skip (.exit 8)),
 (.block 9 (q [(.reg [o 108 (.entry (t 105)),o 109 (e 108 1),o 12 (m 109)]),
 (.reg [o 110 (m 12),o 111 (ln 110),o 112 (.mv (c (n 0)))]),
 (.block 10 (.loop (q [(.reg [o 113 (b .lss 112 111)]),
 (i 113 .skip (.exit 10)),
 (.block 11 (q [(.reg [o 114 (m 112),o 13 (m 114)]),
 (.reg [o 115 (m 12),o 116 (m 13),o 117 (ia 1 115 116),o 118 (l 117),o 119 (m 13),o 120 (b .neq 118 119)]),
 (i 120 (q [(.reg [o 2 (.mv (c (n 9)))]),
 .ret]) .skip)])),
 (.reg [o 121 (bc .add 112 (n 1)),o 112 (m 121)])])))]))])))])),
 (.reg [o 122 (bc .add 93 (n 1)),o 93 (m 122)])])))]),
 (.reg [o 2 (.mv (c (n 0)))]),
 .ret])⟩
def c_formula_Check:CFn:=⟨26,[.tmp 2],(q [(.reg [o 2 (.mv (c (n 0)))]),
 (q [(.reg [o 6 (m 0),o 7 (ln 6),o 8 (bc .eql 7 (n 0))]),
 (i 8 (q [(.reg [o 2 (.mv (c (n 3)))]),
 .ret]) .skip)]),
 (q [(.reg [o 9 (m 0),o 10 (ln 9),o 11 (bc .gtr 10 (n 200))]),
 (i 11 (q [(.reg [o 2 (.mv (c (n 8)))]),
 .ret]) .skip)]),
 (q [(.reg [o 12 (m 0),o 13 (ln 12),o 14 (.mv (c (n 0)))]),
 (.block 0 (.loop (q [(.reg [o 15 (b .lss 14 13)]),
 (i 15 .skip (.exit 0)),
 (.block 1 (q [(.reg [o 16 (m 14),o 17 (ia 6 12 14),o 18 (la 6 17),o 4 (.alloc [(n 0),(n 0),(n 0),(n 0),(n 0),(n 0)]),o 3 (m 16),w (.store 6 (t 4) (t 18))]),
 (.reg [o 19 (la 6 4),o 20 (m 3),o 21 (.call 49 [(t 19),(t 20)]),o 5 (m 21)]),
 (.reg [o 22 (m 5),o 23 (bc .neq 22 (n 0))]),
 (i 23 (q [(.reg [o 24 (m 5),o 2 (m 24)]),
 .ret]) .skip)])),
 (.reg [o 25 (bc .add 14 (n 1)),o 14 (m 25)])])))]),
 (.reg [o 2 (.mv (c (n 0)))]),
 .ret])⟩
def c_formula_Frags:CFn:=⟨5,[.tmp 2],(q [(.reg [o 2 (.mv (c (n 0)))]),
 (.reg [o 3 (m 0),o 4 (.call 50 [(t 3),(c (.fn f_formula_Frags_1 []))]),o 2 (m 4)]),
 .ret])⟩
def c_formula_Fits:CFn:=⟨25,[.tmp 6],(q [(.reg [o 6 (.mv (c .bf))]),
 (.reg [o 7 (.mv (c (.fn f_formula_Fits_1 [])))]),
 (.reg [o 8 (m 0),o 9 (.call 24 [(t 8)]),o 10 (bc .eql 9 (n 0)),o 11 (m 10),g 12 11 true (m 7),g 13 11 true (m 0),g 14 11 true (.call 53 [(t 13)]),g 15 11 true (m 1),g 16 11 true (.callv (t 12) [(t 14),(t 15)]),o 17 (pf 11 16),o 18 (m 17),g 19 18 true (m 7),g 20 18 true (m 0),g 21 18 true (.call 54 [(t 20)]),g 22 18 true (m 2),g 23 18 true (.callv (t 19) [(t 21),(t 22)]),o 24 (pf 18 23),o 6 (m 24)]),
 .ret])⟩
def c_formula_Compact:CFn:=⟨8,[.tmp 2],(q [(.reg [o 2 (.mv (c (.nils 6)))]),
 (.reg [o 3 (m 0),o 4 (m 0),o 5 (ln 4),o 6 (bc .sub 5 (n 1)),o 7 (.call 55 [(t 3),(t 6)]),o 2 (m 7)]),
 .ret])⟩
def c_doxastic_value:CFn:=⟨105,[.tmp 8],(q [(.reg [o 4 (.box 4 (t 0)),o 5 (.box 6 (t 1)),o 8 (.mv (c (u 0)))]),
 (q [(.reg [o 9 (f 0 5),o 10 (l 9)]),
 (.block 0 (q [(.reg [o 12 (bc .eql 10 (n 1)),o 11 (m 12)]),
 (i 11 (q [(.reg [o 13 (la 4 4),o 14 (.call 56 [(t 13)]),o 8 (m 14)]),
 .ret]) (q [(.reg [o 16 (bc .eql 10 (n 3)),o 15 (m 16)]),
 (i 15 (q [(.reg [o 17 (f 1 4),o 18 (l 17),o 19 (f 1 5),o 20 (l 19),o 21 (ia 1 18 20),o 22 (l 21),o 8 (m 22)]),
 .ret]) (q [(.reg [o 24 (bc .eql 10 (n 4)),o 23 (m 24)]),
 (i 23 (q [(.reg [o 25 (la 4 4),o 26 (.call 56 [(t 25)]),o 27 (m 2),o 28 (b .andNot 26 27),o 8 (m 28)]),
 .ret]) (q [(.reg [o 30 (bc .eql 10 (n 5)),o 29 (m 30)]),
 (i 29 (q [(.reg [o 31 (m 2),o 32 (m 3),o 33 (b .and 31 32),o 8 (m 33)]),
 .ret]) (q [(.reg [o 35 (bc .eql 10 (n 6)),o 34 (m 35)]),
 (i 34 (q [(.reg [o 36 (m 2),o 37 (m 3),o 38 (b .or 36 37),o 8 (m 38)]),
 .ret]) (q [(.reg [o 40 (bc .eql 10 (n 7)),o 39 (m 40)]),
 (i 39 (q [(.reg [o 41 (la 4 4),o 42 (.call 56 [(t 41)]),o 43 (m 2),o 44 (b .andNot 42 43),o 45 (m 3),o 46 (b .or 44 45),o 8 (m 46)]),
 .ret]) (q [(.reg [o 48 (bc .eql 10 (n 8)),o 47 (m 48)]),
 (i 47 (q [(.reg [o 49 (la 4 4),o 50 (.call 56 [(t 49)]),o 51 (m 2),o 52 (m 3),o 53 (b .xor 51 52),o 54 (b .andNot 50 53),o 8 (m 54)]),
 .ret]) (q [(.reg [o 56 (bc .eql 10 (n 9)),o 55 (m 56)]),
 (i 55 (q [(.reg [o 57 (la 4 4),o 58 (f 1 5),o 59 (l 58),o 60 (m 2),o 61 (.call 57 [(t 57),(t 59),(t 60)]),o 8 (m 61)]),
 .ret]) (q [(.reg [o 63 (bc .eql 10 (n 10)),o 62 (m 63)]),
 (i 62 (q [(.regd [o 64 (la 4 4),o 65 (.call 56 [(t 64)]),o 66 (la 4 4),o 67 (f 1 5),o 68 (l 67),o 69 (la 4 4),o 70 (.call 56 [(t 69)]),o 71 (m 2),o 72 (b .andNot 70 71),o 73 (.call 57 [(t 66),(t 68),(t 72)]),o 74 (b .andNot 65 73),o 8 (m 74)] [0,1,0,0,8,0,35,0,227,511,1023,2047]),
 .ret]) (q [(.reg [o 76 (bc .eql 10 (n 11)),o 75 (m 76)]),
 (i 75 (q [(.reg [o 77 (la 4 4),o 78 (f 3 5),o 79 (l 78),o 80 (m 2),o 81 (.call 58 [(t 77),(t 79),(t 80)]),o 8 (m 81)]),
 .ret]) (q [(.reg [o 83 (bc .eql 10 (n 13)),o 82 (m 83)]),
 (i 82 (q [(.reg [o 84 (la 4 4),o 85 (f 3 5),o 86 (l 85),o 87 (m 2),o 88 (m 3),o 89 (.call 59 [(t 84),(t 86),(t 87),(t 88)]),o 8 (m 89)]),
 .ret]) (q [(.reg [o 91 (bc .eql 10 (n 14)),o 90 (m 91)]),
 (i 90 (q [(.reg [o 92 (la 4 4),o 93 (f 1 5),o 94 (l 93),o 95 (m 2),o 96 (m 3),o 97 (.call 46 [(t 92),(t 94),(t 95),(t 96)]),o 8 (m 97)]),
 .ret]) (q [(.reg [o 99 (bc .eql 10 (n 15)),o 98 (m 99)]),
 (i 98 (q [(.reg [o 100 (la 4 4),o 101 (f 1 5),o 102 (l 101),o 103 (m 2),o 104 (.call 60 [(t 100),(t 102),(t 103)]),o 8 (m 104)]),
 .ret]) .skip)]))]))]))]))]))]))]))]))]))]))]))]))]))]),
 (.reg [o 8 (.mv (c (u 0)))]),
 .ret])⟩
def c_wittingref33_Check:CFn:=⟨85,[.tmp 2],(q [(.reg [o 1 (.box 4 (t 0)),o 2 (.mv (c (n 0)))]),
 (q [(.reg [o 7 (f 0 1),o 8 (l 7),o 9 (f 2 1),o 10 (l 9),o 11 (ln 10),o 12 (f 1 1),o 13 (l 12),o 14 (.call 61 [(t 8),(t 11),(t 13)]),o 3 (m 14)]),
 (.reg [o 15 (m 3),o 16 (bc .neq 15 (n 0))]),
 (i 16 (q [(.reg [o 17 (m 3),o 2 (m 17)]),
 .ret]) .skip)]),
 (q [(.reg [o 18 (f 3 1),o 19 (l 18),o 20 (ln 19),o 21 (f 2 1),o 22 (l 21),o 23 (ln 22),o 24 (b .neq 20 23)]),
 (i 24 (q [(.reg [o 2 (.mv (c (n 3)))]),
 .ret]) .skip)]),
 (q [(.reg [o 4 (.mv (c (n 0)))]),
 (.block 0 (.loop (q [(q [(.reg [o 25 (m 4),o 26 (f 2 1),o 27 (l 26),o 28 (ln 27),o 29 (b .lss 25 28)]),
 (i 29 .skip (.exit 0))]),
 (.block 1 (q [(.regd [o 32 (f 2 1),o 33 (l 32),o 34 (m 4),o 35 (ia 1 33 34),o 36 (l 35),o 37 (ln 36),o 38 (f 0 1),o 39 (l 38),o 40 (b .neq 37 39),o 41 (m 40),g 42 41 false (f 3 1),g 43 41 false (l 42),g 44 41 false (m 4),g 45 41 false (ia 1 43 44),g 46 41 false (l 45),g 47 41 false (ln 46),g 48 41 false (f 0 1),g 49 41 false (l 48),g 50 41 false (b .neq 47 49),o 51 (pt 41 50)] [0,1,0,7,15,31,0,64,255,511,1023,2047,1023,8191,16383,32767,1023,66559,262143,524287]),
 (i 51 (q [(.reg [o 2 (.mv (c (n 3)))]),
 .ret]) .skip)])),
 (.reg [o 30 (m 4),o 31 (bc .add 30 (n 1)),o 4 (m 31)])])))]),
 (q [(.reg [o 5 (.mv (c (n 0)))]),
 (.block 2 (.loop (q [(q [(.reg [o 52 (m 5),o 53 (f 2 1),o 54 (l 53),o 55 (ln 54),o 56 (b .lss 52 55)]),
 (i 56 .skip (.exit 2))]),
 (.block 3 (q [(.reg [o 59 (f 2 1),o 60 (l 59),o 61 (m 5),o 62 (ia 1 60 61),o 63 (l 62),o 64 (.call 62 [(t 63)]),o 65 (.un .not (t 64))]),
 (i 65 (q [(.reg [o 2 (.mv (c (n 1)))]),
 .ret]) .skip)])),
 (.reg [o 57 (m 5),o 58 (bc .add 57 (n 1)),o 5 (m 58)])])))]),
 (q [(.reg [o 6 (.mv (c (n 0)))]),
 (.block 4 (.loop (q [(q [(.reg [o 66 (m 6),o 67 (f 2 1),o 68 (l 67),o 69 (ln 68),o 70 (b .lss 66 69)]),
 (i 70 .skip (.exit 4))]),
 (.block 5 (q [(.regd [o 73 (f 2 1),o 74 (l 73),o 75 (m 6),o 76 (ia 1 74 75),o 77 (l 76),o 78 (f 3 1),o 79 (l 78),o 80 (m 6),o 81 (ia 1 79 80),o 82 (l 81),o 83 (.call 63 [(t 77),(t 82)]),o 84 (.un .not (t 83))] [0,1,0,7,15,0,32,0,224,480,1023,2047]),
 (i 84 (q [(.reg [o 2 (.mv (c (n 9)))]),
 .ret]) .skip)])),
 (.reg [o 71 (m 6),o 72 (bc .add 71 (n 1)),o 6 (m 72)])])))]),
 (.reg [o 2 (.mv (c (n 0)))]),
 .ret])⟩
def c_wittingref05_Check:CFn:=⟨26,[.tmp 2],(q [(.reg [o 2 (.mv (c (n 0)))]),
 (q [(.reg [o 5 (m 0),o 6 (ln 5),o 7 (bc .eql 6 (n 0))]),
 (i 7 (q [(.reg [o 2 (.mv (c (n 3)))]),
 .ret]) .skip)]),
 (q [(.reg [o 8 (m 0),o 9 (ln 8),o 10 (bc .gtr 9 (n 200))]),
 (i 10 (q [(.reg [o 2 (.mv (c (n 8)))]),
 .ret]) .skip)]),
 (q [(.reg [o 3 (.mv (c (n 0)))]),
 (.block 0 (.loop (q [(q [(.reg [o 11 (m 3),o 12 (m 0),o 13 (ln 12),o 14 (b .lss 11 13)]),
 (i 14 .skip (.exit 0))]),
 (.block 1 (q [(.reg [o 17 (m 0),o 18 (m 3),o 19 (ia 6 17 18),o 20 (la 6 19),o 21 (m 3),o 22 (.call 64 [(t 20),(t 21)]),o 4 (m 22)]),
 (.reg [o 23 (m 4),o 24 (bc .neq 23 (n 0))]),
 (i 24 (q [(.reg [o 25 (m 4),o 2 (m 25)]),
 .ret]) .skip)])),
 (.reg [o 15 (m 3),o 16 (bc .add 15 (n 1)),o 3 (m 16)])])))]),
 (.reg [o 2 (.mv (c (n 0)))]),
 .ret])⟩
def c_wittingref05_Frags:CFn:=⟨23,[.tmp 2],(q [(.reg [o 2 (.mv (c (n 0)))]),
 (.reg [o 6 (m 0),o 7 (.call 34 [(t 6)]),o 3 (m 7)]),
 (.reg [o 4 (.mv (c (n 0)))]),
 (q [(.reg [o 5 (.mv (c (n 0)))]),
 (.block 0 (.loop (q [(q [(.reg [o 8 (m 5),o 9 (m 3),o 10 (ln 9),o 11 (b .lss 8 10)]),
 (i 11 .skip (.exit 0))]),
 (.block 1 (.reg [o 14 (m 4),o 15 (m 3),o 16 (m 5),o 17 (ia 6 15 16),o 18 (f 0 17),o 19 (l 18),o 20 (.call 65 [(t 19)]),o 21 (b .or 14 20),o 4 (m 21)])),
 (.reg [o 12 (m 5),o 13 (bc .add 12 (n 1)),o 5 (m 13)])])))]),
 (.reg [o 22 (m 4),o 2 (m 22)]),
 .ret])⟩
def c_wittingref05_Fits:CFn:=⟨42,[.tmp 6],(q [(.reg [o 6 (.mv (c .bf))]),
 (q [(.reg [o 9 (m 0),o 10 (.call 30 [(t 9)]),o 11 (bc .neq 10 (n 0))]),
 (i 11 (q [(.reg [o 6 (.mv (c .bf))]),
 .ret]) .skip)]),
 (q [(.reg [o 7 (.mv (c (n 0)))]),
 (.block 0 (.loop (q [(q [(.reg [o 12 (m 7),o 13 (bc .lss 12 (n 4))]),
 (i 13 .skip (.exit 0))]),
 (.block 1 (q [(.reg [o 16 (m 0),o 17 (.call 66 [(t 16)]),o 18 (m 7),o 19 (b .shr 17 18),o 20 (bc .rem 19 (n 2)),o 21 (bc .eql 20 (n 1)),o 22 (m 21),g 23 22 true (m 7),g 24 22 true (m 1),g 25 22 true (b .geq 23 24),o 26 (pf 22 25)]),
 (i 26 (q [(.reg [o 6 (.mv (c .bf))]),
 .ret]) .skip)])),
 (.reg [o 14 (m 7),o 15 (bc .add 14 (n 1)),o 7 (m 15)])])))]),
 (q [(.reg [o 8 (.mv (c (n 0)))]),
 (.block 2 (.loop (q [(q [(.reg [o 27 (m 8),o 28 (bc .lss 27 (n 8))]),
 (i 28 .skip (.exit 2))]),
 (.block 3 (q [(.reg [o 31 (m 0),o 32 (.call 67 [(t 31)]),o 33 (m 8),o 34 (b .shr 32 33),o 35 (bc .rem 34 (n 2)),o 36 (bc .eql 35 (n 1)),o 37 (m 36),g 38 37 true (m 8),g 39 37 true (m 2),g 40 37 true (b .geq 38 39),o 41 (pf 37 40)]),
 (i 41 (q [(.reg [o 6 (.mv (c .bf))]),
 .ret]) .skip)])),
 (.reg [o 29 (m 8),o 30 (bc .add 29 (n 1)),o 8 (m 30)])])))]),
 (.reg [o 6 (.mv (c .bt))]),
 .ret])⟩
def c_wittingref34_knowledge:CFn:=⟨55,[.cell 2 (some 3)],(q [(.reg [o 1 (.box 4 (t 0)),o 2 (.alloc [(n 0),(.nils 1),(.nils 1)])]),
 (.reg [o 8 (f 0 1),o 9 (l 8),o 10 (.build [(n 0),(.nils 1),(.nils 1)] [(0,1,(t 9))]),o 3 (.alloc [(n 0),(.nils 1),(.nils 1)]),w (.store 3 (t 3) (t 10))]),
 (q [(.reg [o 4 (.mv (c (n 0)))]),
 (.block 0 (.loop (q [(q [(.reg [o 11 (m 4),o 12 (f 1 1),o 13 (l 12),o 14 (ln 13),o 15 (b .lss 11 14)]),
 (i 15 .skip (.exit 0))]),
 (.block 1 (.regd [o 18 (f 1 3),o 19 (l 18),o 20 (f 1 1),o 21 (l 20),o 22 (m 4),o 23 (ia 1 21 22),o 24 (l 23),o 25 (.bslice 1 1 [(u 0)] [(0,(t 24))]),o 26 (.app 1 8 (t 19) (t 25)),o 27 (f 1 3),w (.store 1 (t 27) (t 26))] [0,1,0,4,0,28,60,124,255,511,1023])),
 (.reg [o 16 (m 4),o 17 (bc .add 16 (n 1)),o 4 (m 17)])])))]),
 (q [(.reg [o 5 (.mv (c (n 0)))]),
 (.block 2 (.loop (q [(q [(.reg [o 28 (m 5),o 29 (f 2 1),o 30 (l 29),o 31 (ln 30),o 32 (b .lss 28 31)]),
 (i 32 .skip (.exit 2))]),
 (.block 3 (q [(.reg [o 6 (.mv (c (.nils 1)))]),
 (q [(.reg [o 7 (.mv (c (n 0)))]),
 (.block 4 (.loop (q [(q [(.reg [o 35 (m 7),o 36 (f 0 1),o 37 (l 36),o 38 (b .lss 35 37)]),
 (i 38 .skip (.exit 4))]),
 (.block 5 (.reg [o 41 (m 6),o 42 (la 4 1),o 43 (m 5),o 44 (m 7),o 45 (.call 68 [(t 42),(t 43),(t 44)]),o 46 (.bslice 1 1 [(u 0)] [(0,(t 45))]),o 47 (.app 1 8 (t 41) (t 46)),o 6 (m 47)])),
 (.reg [o 39 (m 7),o 40 (bc .add 39 (n 1)),o 7 (m 40)])])))]),
 (.reg [o 48 (f 2 3),o 49 (l 48),o 50 (m 6),o 51 (.bslice 1 1 [(.nils 1)] [(0,(t 50))]),o 52 (.app 1 24 (t 49) (t 51)),o 53 (f 2 3),w (.store 1 (t 53) (t 52))])])),
 (.reg [o 33 (m 5),o 34 (bc .add 33 (n 1)),o 5 (m 34)])])))]),
 (.reg [o 54 (la 3 3),w (.store 3 (t 2) (t 54))]),
 .ret])⟩
def c_wittingref05_Compact:CFn:=⟨8,[.tmp 2],(q [(.reg [o 2 (.mv (c (.nils 6)))]),
 (.reg [o 3 (m 0),o 4 (m 0),o 5 (ln 4),o 6 (bc .sub 5 (n 1)),o 7 (.call 69 [(t 3),(t 6)]),o 2 (m 7)]),
 .ret])⟩
def c_wittingref05_UsesX:CFn:=⟨9,[.tmp 2],(q [(.reg [o 2 (.mv (c .bf))]),
 (.reg [o 3 (m 0),o 4 (bc .geq 3 (n 4)),o 5 (m 4),g 6 5 true (m 0),g 7 5 true (bc .leq 6 (n 21)),o 8 (pf 5 7),o 2 (m 8)]),
 .ret])⟩
def c_wittingref05_UsesY:CFn:=⟨29,[.tmp 2],(q [(.reg [o 2 (.mv (c .bf))]),
 (.reg [o 3 (m 0),o 4 (bc .geq 3 (n 5)),o 5 (m 4),g 6 5 true (m 0),g 7 5 true (bc .leq 6 (n 8)),o 8 (pf 5 7),o 9 (m 8),g 10 9 false (m 0),g 11 9 false (bc .eql 10 (n 13)),o 12 (pt 9 11),o 13 (m 12),g 14 13 false (m 0),g 15 13 false (bc .eql 14 (n 14)),o 16 (pt 13 15),o 17 (m 16),g 18 17 false (m 0),g 19 17 false (bc .eql 18 (n 16)),o 20 (pt 17 19),o 21 (m 20),g 22 21 false (m 0),g 23 21 false (bc .eql 22 (n 19)),o 24 (pt 21 23),o 25 (m 24),g 26 25 false (m 0),g 27 25 false (bc .eql 26 (n 21)),o 28 (pt 25 27),o 2 (m 28)]),
 .ret])⟩
def c_wittingref34_believes:CFn:=⟨30,[.tmp 8],(q [(.reg [o 4 (.box 4 (t 0)),o 8 (.mv (c (u 0)))]),
 (.reg [o 9 (.mv (c (u 0)))]),
 (q [(.reg [o 10 (.mv (c (n 0)))]),
 (.block 0 (.loop (q [(q [(.reg [o 11 (m 10),o 12 (f 0 4),o 13 (l 12),o 14 (b .lss 11 13)]),
 (i 14 .skip (.exit 0))]),
 (.block 1 (q [(.reg [o 17 (la 4 4),o 18 (m 1),o 19 (m 10),o 20 (m 2),o 21 (.call 70 [(t 17),(t 18),(t 19),(t 20)]),o 22 (m 3),o 23 (b .andNot 21 22),o 24 (bc .eql 23 (u 0))]),
 (i 24 (.reg [o 25 (m 9),o 26 (m 10),o 27 (.bin .shl (c (u 1)) (t 26)),o 28 (b .or 25 27),o 9 (m 28)]) .skip)])),
 (.reg [o 15 (m 10),o 16 (bc .add 15 (n 1)),o 10 (m 16)])])))]),
 (.reg [o 29 (m 9),o 8 (m 29)]),
 .ret])⟩
def c_wittingref34_safely:CFn:=⟨27,[.tmp 6],(q [(.reg [o 3 (.box 4 (t 0)),o 6 (.mv (c (u 0)))]),
 (.reg [o 7 (.mv (c (u 0)))]),
 (q [(.reg [o 8 (.mv (c (n 0)))]),
 (.block 0 (.loop (q [(q [(.reg [o 9 (m 8),o 10 (f 0 3),o 11 (l 10),o 12 (b .lss 9 11)]),
 (i 12 .skip (.exit 0))]),
 (.block 1 (q [(.reg [o 15 (la 4 3),o 16 (m 1),o 17 (m 8),o 18 (.call 71 [(t 15),(t 16),(t 17)]),o 19 (m 2),o 20 (b .andNot 18 19),o 21 (bc .eql 20 (u 0))]),
 (i 21 (.reg [o 22 (m 7),o 23 (m 8),o 24 (.bin .shl (c (u 1)) (t 23)),o 25 (b .or 22 24),o 7 (m 25)]) .skip)])),
 (.reg [o 13 (m 8),o 14 (bc .add 13 (n 1)),o 8 (m 14)])])))]),
 (.reg [o 26 (m 7),o 6 (m 26)]),
 .ret])⟩
def c_wittingref17_One:CFn:=⟨92,[.tmp 8],(q [(.reg [o 4 (.box 3 (t 0)),o 5 (.box 6 (t 1)),o 8 (.mv (c (u 0)))]),
 (.reg [o 10 (f 0 4),o 11 (l 10),o 12 (.call 72 [(t 11)]),o 9 (m 12)]),
 (q [(.reg [o 13 (f 0 5),o 14 (l 13),o 15 (bc .eql 14 (n 3))]),
 (i 15 (q [(.reg [o 16 (f 1 4),o 17 (l 16),o 18 (f 1 5),o 19 (l 18),o 20 (ia 1 17 19),o 21 (l 20),o 8 (m 21)]),
 .ret]) .skip)]),
 (q [(.reg [o 22 (f 0 5),o 23 (l 22),o 24 (bc .leq 23 (n 8))]),
 (i 24 (q [(.reg [o 25 (f 0 5),o 26 (l 25),o 27 (m 2),o 28 (m 3),o 29 (m 9),o 30 (.call 73 [(t 26),(t 27),(t 28),(t 29)]),o 8 (m 30)]),
 .ret]) .skip)]),
 (q [(.reg [o 31 (f 0 5),o 32 (l 31),o 33 (bc .eql 32 (n 9))]),
 (i 33 (q [(.regd [o 34 (f 2 4),o 35 (l 34),o 36 (f 1 5),o 37 (l 36),o 38 (ia 1 35 37),o 39 (l 38),o 40 (f 0 4),o 41 (l 40),o 42 (m 2),o 43 (.call 74 [(t 39),(t 41),(t 42)]),o 8 (m 43)] [0,1,0,4,15,31,0,64,0,511,1023]),
 .ret]) .skip)]),
 (q [(.reg [o 44 (f 0 5),o 45 (l 44),o 46 (bc .eql 45 (n 10))]),
 (i 46 (q [(.regd [o 47 (m 9),o 48 (f 2 4),o 49 (l 48),o 50 (f 1 5),o 51 (l 50),o 52 (ia 1 49 51),o 53 (l 52),o 54 (f 0 4),o 55 (l 54),o 56 (m 9),o 57 (m 2),o 58 (b .andNot 56 57),o 59 (.call 74 [(t 53),(t 55),(t 58)]),o 60 (b .andNot 47 59),o 8 (m 60)] [0,0,2,0,8,30,62,0,128,0,0,1536,4094,8191,16383]),
 .ret]) .skip)]),
 (q [(.reg [o 61 (f 0 5),o 62 (l 61),o 63 (bc .eql 62 (n 11))]),
 (i 63 (q [(.regd [o 64 (la 3 4),o 65 (f 3 5),o 66 (l 65),o 67 (.call 75 [(t 64),(t 66)]),o 68 (f 0 4),o 69 (l 68),o 70 (m 2),o 71 (.call 74 [(t 67),(t 69),(t 70)]),o 8 (m 71)] [0,0,2,7,0,16,0,127,255]),
 .ret]) .skip)]),
 (q [(.reg [o 72 (f 0 5),o 73 (l 72),o 74 (bc .eql 73 (n 12))]),
 (i 74 (q [(.regd [o 75 (la 3 4),o 76 (f 3 5),o 77 (l 76),o 78 (.call 76 [(t 75),(t 77)]),o 79 (f 0 4),o 80 (l 79),o 81 (m 2),o 82 (.call 74 [(t 78),(t 80),(t 81)]),o 8 (m 82)] [0,0,2,7,0,16,0,127,255]),
 .ret]) .skip)]),
 (.regd [o 83 (la 3 4),o 84 (f 3 5),o 85 (l 84),o 86 (.call 75 [(t 83),(t 85)]),o 87 (f 0 4),o 88 (l 87),o 89 (m 2),o 90 (m 3),o 91 (.call 77 [(t 86),(t 88),(t 89),(t 90)]),o 8 (m 91)] [0,0,2,7,0,16,0,0,255,511]),
 .ret])⟩
def c_wittingref13_Has:CFn:=⟨18,[.tmp 4],(q [(.reg [o 4 (.mv (c .bf))]),
 (.reg [o 5 (m 1),o 6 (bc .geq 5 (n 0)),o 7 (m 6),g 8 7 true (m 1),g 9 7 true (bc .lss 8 (n 64)),o 10 (pf 7 9),o 11 (m 10),g 12 11 true (m 0),g 13 11 true (m 1),g 14 11 true (b .shr 12 13),g 15 11 true (bc .rem 14 (u 2)),g 16 11 true (bc .eql 15 (u 1)),o 17 (pf 11 16),o 4 (m 17)]),
 .ret])⟩
def c_formula_build:CFn:=⟨85,[.tmp 4],(q [(.reg [o 2 (.box 6 (t 0)),o 4 (.mv (c (.nils 6)))]),
 (.reg [o 5 (.mv (c (.nils 6)))]),
 (q [(.reg [o 14 (m 1),o 15 (ln 14),o 16 (.mv (c (n 0)))]),
 (.block 0 (.loop (q [(.reg [o 17 (b .lss 16 15)]),
 (i 17 .skip (.exit 0)),
 (.block 1 (q [(.reg [o 18 (m 16),o 19 (ia 1 14 16),o 20 (l 19),o 6 (m 18),o 7 (m 20)]),
 (q [(.reg [o 21 (m 7),o 22 (.call 24 [(t 21)]),o 23 (bc .neq 22 (n 0))]),
 (i 23 (q [(.reg [o 4 (.mv (c (.nils 6)))]),
 .ret]) .skip)]),
 (.reg [o 24 (m 5),o 25 (ln 24),o 8 (m 25)]),
 (q [(.reg [o 26 (m 7),o 27 (.call 27 [(t 26)]),o 28 (ln 27),o 29 (.mv (c (n 0)))]),
 (.block 2 (.loop (q [(.reg [o 30 (b .lss 29 28)]),
 (i 30 .skip (.exit 2)),
 (.block 3 (q [(.reg [o 31 (ia 6 27 29),o 32 (la 6 31),o 10 (.alloc [(n 0),(n 0),(n 0),(n 0),(n 0),(n 0)]),w (.store 6 (t 10) (t 32))]),
 (.reg [o 34 (f 0 10),o 35 (l 34),o 36 (.call 78 [(t 35)]),o 33 (m 36),o 37 (e 33 0),o 38 (e 33 1),o 11 (.alloc [.bf,.bf,.bf,.bf,.bf,.bf,(n 0)]),w (.store 7 (t 11) (t 37)),o 12 (m 38)]),
 (q [(.reg [o 39 (f 0 11),o 40 (l 39)]),
 (i 40 (.reg [o 41 (f 4 10),o 42 (l 41),o 43 (m 8),o 44 (b .add 42 43),o 45 (f 4 10),w (.store 1 (t 45) (t 44))]) .skip)]),
 (q [(.reg [o 46 (f 1 11),o 47 (l 46)]),
 (i 47 (.reg [o 48 (f 5 10),o 49 (l 48),o 50 (m 8),o 51 (b .add 49 50),o 52 (f 5 10),w (.store 1 (t 52) (t 51))]) .skip)]),
 (.reg [o 53 (m 5),o 54 (la 6 10),o 55 (.bslice 6 1 [(n 0),(n 0),(n 0),(n 0),(n 0),(n 0)] [(0,(t 54))]),o 56 (.app 6 48 (t 53) (t 55)),o 5 (m 56)])])),
 (.reg [o 57 (bc .add 29 (n 1)),o 29 (m 57)])])))]),
 (.reg [o 58 (m 6),o 59 (bc .eql 58 (n 0))]),
 (i 59 (.reg [o 60 (m 5),o 61 (ln 60),o 62 (bc .sub 61 (n 1)),o 63 (f 4 2),w (.store 1 (t 63) (t 62))]) (.reg [o 64 (m 5),o 65 (ln 64),o 66 (bc .sub 65 (n 1)),o 67 (f 5 2),w (.store 1 (t 67) (t 66))]))])),
 (.reg [o 68 (bc .add 16 (n 1)),o 16 (m 68)])])))]),
 (q [(.reg [o 69 (la 6 2),o 70 (m 5),o 71 (ln 70),o 72 (.call 49 [(t 69),(t 71)]),o 73 (bc .neq 72 (n 0))]),
 (i 73 (q [(.reg [o 4 (.mv (c (.nils 6)))]),
 .ret]) .skip)]),
 (.reg [o 74 (m 5),o 75 (la 6 2),o 76 (.bslice 6 1 [(n 0),(n 0),(n 0),(n 0),(n 0),(n 0)] [(0,(t 75))]),o 77 (.app 6 48 (t 74) (t 76)),o 78 (m 5),o 79 (ln 78),o 80 (.call 79 [(t 77),(t 79)]),o 13 (m 80)]),
 (q [(.reg [o 81 (m 13),o 82 (ln 81),o 83 (bc .gtr 82 (n 200))]),
 (i 83 (q [(.reg [o 4 (.mv (c (.nils 6)))]),
 .ret]) .skip)]),
 (.reg [o 84 (m 13),o 4 (m 84)]),
 .ret])⟩
def c_doxastic_request:CFn:=⟨29,[.tmp 6],(q [(.reg [o 3 (.box 4 (t 0)),o 6 (.mv (c (n 0)))]),
 (q [(.reg [o 8 (la 4 3),o 9 (.call 23 [(t 8)]),o 7 (m 9)]),
 (.reg [o 10 (m 7),o 11 (bc .neq 10 (n 0))]),
 (i 11 (q [(.reg [o 12 (m 7),o 6 (m 12)]),
 .ret]) .skip)]),
 (q [(.reg [o 13 (m 1),o 14 (bc .lss 13 (n 0)),o 15 (m 14),g 16 15 false (m 1),g 17 15 false (f 2 3),g 18 15 false (l 17),g 19 15 false (ln 18),g 20 15 false (b .geq 16 19),o 21 (pt 15 20),o 22 (m 21),g 23 22 false (m 2),g 24 22 false (la 4 3),g 25 22 false (.call 56 [(t 24)]),g 26 22 false (b .andNot 23 25),g 27 22 false (bc .neq 26 (u 0)),o 28 (pt 22 27)]),
 (i 28 (q [(.reg [o 6 (.mv (c (n 2)))]),
 .ret]) .skip)]),
 (.reg [o 6 (.mv (c (n 0)))]),
 .ret])⟩
def c_doxastic_where:CFn:=⟨21,[.tmp 4],(q [(.reg [o 2 (.box 4 (t 0)),o 4 (.mv (c (u 0)))]),
 (.reg [o 5 (.mv (c (u 0)))]),
 (q [(.reg [o 7 (f 0 2),o 8 (l 7),o 9 (.mv (c (n 0)))]),
 (.block 0 (.loop (q [(.reg [o 10 (b .lss 9 8)]),
 (i 10 .skip (.exit 0)),
 (.block 1 (q [(.reg [o 11 (m 9),o 6 (m 11)]),
 (.reg [o 12 (m 1),o 13 (m 6),o 14 (.callv (t 12) [(t 13)])]),
 (i 14 (.reg [o 15 (m 5),o 16 (m 6),o 17 (.bin .shl (c (u 1)) (t 16)),o 18 (b .or 15 17),o 5 (m 18)]) .skip)])),
 (.reg [o 19 (bc .add 9 (n 1)),o 9 (m 19)])])))]),
 (.reg [o 20 (m 5),o 4 (m 20)]),
 .ret])⟩
def c_doxastic_Strong_1:CFn:=⟨62,[.tmp 5],(q [(.reg [o 5 (.mv (c .bf))]),
 (.reg [o 10 (la 4 1),o 11 (l 2),o 12 (m 0),o 13 (.call 45 [(t 10),(t 11),(t 12)]),o 6 (m 13)]),
 (.reg [o 14 (f 3 1),o 15 (l 14),o 16 (l 2),o 17 (ia 1 15 16),o 18 (l 17),o 7 (m 18)]),
 (q [(.reg [o 19 (f 0 1),o 20 (l 19),o 21 (.mv (c (n 0)))]),
 (.block 0 (.loop (q [(.reg [o 22 (b .lss 21 20)]),
 (i 22 .skip (.exit 0)),
 (.block 1 (q [(.reg [o 23 (m 21),o 8 (m 23)]),
 (.reg [o 24 (f 0 1),o 25 (l 24),o 26 (.mv (c (n 0)))]),
 (.block 2 (.loop (q [(.reg [o 27 (b .lss 26 25)]),
 (i 27 .skip (.exit 2)),
 (.block 3 (q [(.reg [o 28 (m 26),o 9 (m 28)]),
 (.regd [o 29 (m 6),o 30 (l 3),o 31 (b .and 29 30),o 32 (m 8),o 33 (b .shr 31 32),o 34 (bc .and 33 (u 1)),o 35 (bc .eql 34 (u 1)),o 36 (m 35),g 37 36 true (m 6),g 38 36 true (l 3),g 39 36 true (b .andNot 37 38),g 40 36 true (m 9),g 41 36 true (b .shr 39 40),g 42 36 true (bc .and 41 (u 1)),g 43 36 true (bc .eql 42 (u 1)),o 44 (pf 36 43),o 45 (m 44),g 46 45 true (m 7),g 47 45 true (m 8),g 48 45 true (ia 1 46 47),g 49 45 true (l 48),g 50 45 true (m 7),g 51 45 true (m 9),g 52 45 true (ia 1 50 51),g 53 45 true (l 52),g 54 45 true (b .geq 49 53),o 55 (pf 45 54)] [0,0,3,0,15,31,63,127,255,255,1023,255,4095,8191,16383,32767,65535,131071,131071,524287,1048575,131071,131071,6422527,14811135,33554431,67108863]),
 (i 55 (q [(.reg [o 5 (.mv (c .bf))]),
 .ret]) .skip)])),
 (.reg [o 56 (bc .add 26 (n 1)),o 26 (m 56)])])))])),
 (.reg [o 57 (bc .add 21 (n 1)),o 21 (m 57)])])))]),
 (.reg [o 58 (m 6),o 59 (l 3),o 60 (b .and 58 59),o 61 (bc .neq 60 (u 0)),o 5 (m 61)]),
 .ret])⟩
def c_plaus_Cell:CFn:=⟨16,[.tmp 6],(q [(.reg [o 3 (.box 4 (t 0)),o 6 (.mv (c (u 0)))]),
 (q [(.reg [o 7 (la 4 3),o 8 (m 1),o 9 (m 2),o 10 (.call 80 [(t 7),(t 8),(t 9)]),o 11 (.un .not (t 10))]),
 (i 11 (q [(.reg [o 6 (.mv (c (u 0)))]),
 .ret]) .skip)]),
 (.reg [o 12 (la 4 3),o 13 (m 1),o 14 (m 2),o 15 (.call 81 [(t 12),(t 13),(t 14)]),o 6 (m 15)]),
 .ret])⟩
def c_doxastic_believes:CFn:=⟨12,[.tmp 8],(q [(.reg [o 4 (.box 4 (t 0)),o 5 (.box 1 (t 1)),o 6 (.box 1 (t 2)),o 7 (.box 1 (t 3)),o 8 (.mv (c (u 0)))]),
 (.reg [o 9 (la 4 4),o 10 (.fnew f_doxastic_believes_1 [(t 4),(t 5),(t 6),(t 7)]),o 11 (.call 43 [(t 9),(t 10)]),o 8 (m 11)]),
 .ret])⟩
def c_plaus_shape:CFn:=⟨34,[.tmp 6],(q [(.reg [o 6 (.mv (c (n 0)))]),
 (q [(.reg [o 9 (m 0),o 10 (bc .lss 9 (n 1)),o 11 (m 10),g 12 11 false (m 0),g 13 11 false (bc .gtr 12 (n 64)),o 14 (pt 11 13)]),
 (i 14 (q [(.reg [o 6 (.mv (c (n 2)))]),
 .ret]) .skip)]),
 (q [(.reg [o 15 (m 2),o 16 (ln 15),o 17 (bc .gtr 16 (n 8)),o 18 (m 17),g 19 18 false (m 1),g 20 18 false (bc .gtr 19 (n 4)),o 21 (pt 18 20)]),
 (i 21 (q [(.reg [o 6 (.mv (c (n 8)))]),
 .ret]) .skip)]),
 (q [(.reg [o 22 (m 2),o 23 (ln 22),o 24 (.mv (c (n 0)))]),
 (.block 0 (.loop (q [(.reg [o 25 (b .lss 24 23)]),
 (i 25 .skip (.exit 0)),
 (.block 1 (q [(.reg [o 26 (ia 1 22 24),o 27 (l 26),o 8 (m 27)]),
 (.reg [o 28 (m 8),o 29 (m 0),o 30 (.call 84 [(t 29)]),o 31 (b .andNot 28 30),o 32 (bc .neq 31 (u 0))]),
 (i 32 (q [(.reg [o 6 (.mv (c (n 3)))]),
 .ret]) .skip)])),
 (.reg [o 33 (bc .add 24 (n 1)),o 24 (m 33)])])))]),
 (.reg [o 6 (.mv (c (n 0)))]),
 .ret])⟩
def c_formula_nodeError:CFn:=⟨106,[.tmp 4],(q [(.reg [o 2 (.box 6 (t 0)),o 4 (.mv (c (n 0)))]),
 (.reg [o 9 (f 0 2),o 10 (l 9),o 11 (.call 78 [(t 10)]),o 8 (m 11),o 12 (e 8 0),o 13 (e 8 1),o 5 (.alloc [.bf,.bf,.bf,.bf,.bf,.bf,(n 0)]),w (.store 7 (t 5) (t 12)),o 6 (m 13)]),
 (q [(.reg [o 14 (m 6),o 15 (.un .not (t 14))]),
 (i 15 (q [(.reg [o 4 (.mv (c (n 10)))]),
 .ret]) .skip)]),
 (q [(.reg [o 16 (f 0 5),o 17 (l 16),o 18 (f 4 2),o 19 (l 18),o 20 (m 1),o 21 (.call 87 [(t 17),(t 19),(t 20)]),o 22 (.un .not (t 21)),o 23 (m 22),g 24 23 false (f 1 5),g 25 23 false (l 24),g 26 23 false (f 5 2),g 27 23 false (l 26),g 28 23 false (m 1),g 29 23 false (.call 87 [(t 25),(t 27),(t 28)]),g 30 23 false (.un .not (t 29)),o 31 (pt 23 30)]),
 (i 31 (q [(.reg [o 4 (.mv (c (n 3)))]),
 .ret]) .skip)]),
 (q [(.reg [o 32 (f 2 5),o 33 (l 32),o 34 (m 33),g 35 34 false (f 3 5),g 36 34 false (l 35),o 37 (pt 34 36),o 38 (m 37),g 39 38 false (f 5 5),g 40 38 false (l 39),o 41 (pt 38 40),o 42 (.un .not (t 41)),o 43 (m 42),g 44 43 true (f 1 2),g 45 43 true (l 44),g 46 43 true (bc .neq 45 (n 0)),o 47 (pf 43 46),o 48 (m 47),g 49 48 false (f 5 5),g 50 48 false (l 49),g 51 48 false (.un .not (t 50)),g 52 48 false (m 51),g 53 52 true (f 2 2),g 54 52 true (l 53),g 55 52 true (bc .neq 54 (n 0)),g 56 48 false (pf 52 55),o 57 (pt 48 56),o 58 (m 57),g 59 58 false (f 4 5),g 60 58 false (l 59),g 61 58 false (.un .not (t 60)),g 62 58 false (m 61),g 63 62 true (f 3 2),g 64 62 true (l 63),g 65 62 true (bc .neq 64 (n 0)),g 66 58 false (pf 62 65),o 67 (pt 58 66)]),
 (i 67 (q [(.reg [o 4 (.mv (c (n 3)))]),
 .ret]) .skip)]),
 (.reg [o 7 (.mv (c (.fn f_formula_nodeError_1 [])))]),
 (q [(.reg [o 68 (m 7),o 69 (f 2 5),o 70 (l 69),o 71 (f 1 2),o 72 (l 71),o 73 (.callv (t 68) [(t 70),(t 72),(c (n 0)),(c (n 7))]),o 74 (m 73),g 75 74 false (m 7),g 76 74 false (f 3 5),g 77 74 false (l 76),g 78 74 false (f 1 2),g 79 74 false (l 78),g 80 74 false (.callv (t 75) [(t 77),(t 79),(c (n 0)),(c (n 3))]),o 81 (pt 74 80),o 82 (m 81),g 83 82 false (m 7),g 84 82 false (f 5 5),g 85 82 false (l 84),g 86 82 false (f 1 2),g 87 82 false (l 86),g 88 82 false (.callv (t 83) [(t 85),(t 87),(c (n 0)),(c (n 7))]),o 89 (pt 82 88),o 90 (m 89),g 91 90 false (m 7),g 92 90 false (f 5 5),g 93 90 false (l 92),g 94 90 false (f 2 2),g 95 90 false (l 94),g 96 90 false (.callv (t 91) [(t 93),(t 95),(c (n 0)),(c (n 7))]),o 97 (pt 90 96),o 98 (m 97),g 99 98 false (m 7),g 100 98 false (f 4 5),g 101 98 false (l 100),g 102 98 false (f 3 2),g 103 98 false (l 102),g 104 98 false (.callv (t 99) [(t 101),(t 103),(c (n 1)),(c (n 15))]),o 105 (pt 98 104)]),
 (i 105 (q [(.reg [o 4 (.mv (c (n 2)))]),
 .ret]) .skip)]),
 (.reg [o 4 (.mv (c (n 0)))]),
 .ret])⟩
def c_formula_union:CFn:=⟨31,[.tmp 4],(q [(.reg [o 4 (.mv (c (n 0)))]),
 (.reg [o 5 (.mv (c (n 0)))]),
 (q [(.reg [o 10 (m 0),o 11 (.call 27 [(t 10)]),o 12 (ln 11),o 13 (.mv (c (n 0)))]),
 (.block 0 (.loop (q [(.reg [o 14 (b .lss 13 12)]),
 (i 14 .skip (.exit 0)),
 (.block 1 (q [(.reg [o 15 (ia 6 11 13),o 16 (la 6 15),o 7 (.alloc [(n 0),(n 0),(n 0),(n 0),(n 0),(n 0)]),w (.store 6 (t 7) (t 16))]),
 (.reg [o 18 (f 0 7),o 19 (l 18),o 20 (.call 78 [(t 19)]),o 17 (m 20),o 21 (e 17 0),o 22 (e 17 1),o 8 (.alloc [.bf,.bf,.bf,.bf,.bf,.bf,(n 0)]),w (.store 7 (t 8) (t 21)),o 9 (m 22)]),
 (.reg [o 23 (m 5),o 24 (m 1),o 25 (la 6 7),o 26 (la 7 8),o 27 (.callv (t 24) [(t 25),(t 26)]),o 28 (b .or 23 27),o 5 (m 28)])])),
 (.reg [o 29 (bc .add 13 (n 1)),o 13 (m 29)])])))]),
 (.reg [o 30 (m 5),o 4 (m 30)]),
 .ret])⟩
def c_formula_Frags_1:CFn:=⟨7,[.tmp 4],(q [(.reg [o 2 (.box 6 (t 0)),o 3 (.box 7 (t 1)),o 4 (.mv (c (n 0)))]),
 (.reg [o 5 (f 6 3),o 6 (l 5),o 4 (m 6)]),
 .ret])⟩
def c_formula_Fits_1:CFn:=⟨14,[.tmp 4],(q [(.reg [o 4 (.mv (c .bf))]),
 (.reg [o 5 (m 1),o 6 (bc .geq 5 (n 31)),o 7 (m 6),g 8 7 false (m 0),g 9 7 false (m 1),g 10 7 false (.mm true (t 9) (c (n 0))),g 11 7 false (b .shr 8 10),g 12 7 false (bc .eql 11 (n 0)),o 13 (pt 7 12),o 4 (m 13)]),
 .ret])⟩
def c_formula_Agents:CFn:=⟨5,[.tmp 2],(q [(.reg [o 2 (.mv (c (n 0)))]),
 (.reg [o 3 (m 0),o 4 (.call 50 [(t 3),(c (.fn f_formula_Agents_1 []))]),o 2 (m 4)]),
 .ret])⟩
def c_formula_Facts:CFn:=⟨5,[.tmp 2],(q [(.reg [o 2 (.mv (c (n 0)))]),
 (.reg [o 3 (m 0),o 4 (.call 50 [(t 3),(c (.fn f_formula_Facts_1 []))]),o 2 (m 4)]),
 .ret])⟩
def c_formula_Sub:CFn:=⟨21,[.tmp 4],(q [(.reg [o 4 (.mv (c (.nils 6)))]),
 (q [(.reg [o 5 (m 0),o 6 (.call 24 [(t 5)]),o 7 (bc .neq 6 (n 0)),o 8 (m 7),g 9 8 false (m 1),g 10 8 false (bc .lss 9 (n 0)),o 11 (pt 8 10),o 12 (m 11),g 13 12 false (m 1),g 14 12 false (m 0),g 15 12 false (ln 14),g 16 12 false (b .geq 13 15),o 17 (pt 12 16)]),
 (i 17 (q [(.reg [o 4 (.mv (c (.nils 6)))]),
 .ret]) .skip)]),
 (.reg [o 18 (m 0),o 19 (m 1),o 20 (.call 79 [(t 18),(t 19)]),o 4 (m 20)]),
 .ret])⟩
def c_doxastic_all:CFn:=⟨7,[.tmp 2],(q [(.reg [o 1 (.box 4 (t 0)),o 2 (.mv (c (u 0)))]),
 (.reg [o 3 (f 0 1),o 4 (l 3),o 5 (.bin .sub (c (n 64)) (t 4)),o 6 (.bin .shr (c (u 18446744073709551615)) (t 5)),o 2 (m 6)]),
 .ret])⟩
def c_doxastic_knows:CFn:=⟨10,[.tmp 6],(q [(.reg [o 3 (.box 4 (t 0)),o 4 (.box 1 (t 1)),o 5 (.box 1 (t 2)),o 6 (.mv (c (u 0)))]),
 (.reg [o 7 (la 4 3),o 8 (.fnew f_doxastic_knows_1 [(t 3),(t 4),(t 5)]),o 9 (.call 43 [(t 7),(t 8)]),o 6 (m 9)]),
 .ret])⟩
def c_doxastic_every:CFn:=⟨30,[.tmp 6],(q [(.reg [o 3 (.box 4 (t 0)),o 6 (.mv (c (u 0)))]),
 (.reg [o 9 (la 4 3),o 10 (.call 56 [(t 9)]),o 7 (m 10)]),
 (q [(.reg [o 11 (f 2 3),o 12 (l 11),o 13 (ln 12),o 14 (.mv (c (n 0)))]),
 (.block 0 (.loop (q [(.reg [o 15 (b .lss 14 13)]),
 (i 15 .skip (.exit 0)),
 (.block 1 (q [(.reg [o 16 (m 14),o 8 (m 16)]),
 (.reg [o 17 (m 1),o 18 (m 8),o 19 (b .shr 17 18),o 20 (bc .and 19 (n 1)),o 21 (bc .eql 20 (n 1))]),
 (i 21 (.reg [o 22 (m 7),o 23 (la 4 3),o 24 (m 8),o 25 (m 2),o 26 (.call 57 [(t 23),(t 24),(t 25)]),o 27 (b .and 22 26),o 7 (m 27)]) .skip)])),
 (.reg [o 28 (bc .add 14 (n 1)),o 14 (m 28)])])))]),
 (.reg [o 29 (m 7),o 6 (m 29)]),
 .ret])⟩
def c_doxastic_common:CFn:=⟨29,[.tmp 8],(q [(.reg [o 4 (.box 4 (t 0)),o 8 (.mv (c (u 0)))]),
 (.reg [o 11 (la 4 4),o 12 (.call 56 [(t 11)]),o 9 (m 12)]),
 (.block 0 (.loop (.block 1 (q [(.regd [o 13 (la 4 4),o 14 (m 1),o 15 (la 4 4),o 16 (.call 56 [(t 15)]),o 17 (m 2),o 18 (b .andNot 16 17),o 19 (m 3),o 20 (m 9),o 21 (b .and 19 20),o 22 (b .or 18 21),o 23 (.call 58 [(t 13),(t 14),(t 22)]),o 10 (m 23)] [0,0,0,4,0,28,0,0,192,508,1023,2047]),
 (q [(.reg [o 24 (m 10),o 25 (m 9),o 26 (b .eql 24 25)]),
 (i 26 (q [(.reg [o 27 (m 9),o 8 (m 27)]),
 .ret]) .skip)]),
 (.reg [o 28 (m 10),o 9 (m 28)])]))))])⟩
def c_doxastic_safely:CFn:=⟨18,[.tmp 6],(q [(.reg [o 3 (.box 4 (t 0)),o 5 (.box 1 (t 2)),o 6 (.mv (c (u 0)))]),
 (.reg [o 10 (la 4 3),o 11 (m 1),o 12 (.call 92 [(t 10),(t 11)]),o 9 (m 12),o 13 (e 9 0),o 14 (e 9 1),o 7 (.alloc [(.nils 1)]),w (.store 1 (t 7) (t 13)),o 8 (m 14)]),
 (.reg [o 15 (la 4 3),o 16 (.fnew f_doxastic_safely_1 [(t 7),(t 5)]),o 17 (.call 43 [(t 15),(t 16)]),o 6 (m 17)]),
 .ret])⟩
def c_wittingref33_sizes:CFn:=⟨35,[.tmp 6],(q [(.reg [o 6 (.mv (c (n 0)))]),
 (q [(.reg [o 8 (m 0),o 9 (bc .lss 8 (n 1)),o 10 (m 9),g 11 10 false (m 0),g 12 10 false (bc .gtr 11 (n 64)),o 13 (pt 10 12)]),
 (i 13 (q [(.reg [o 6 (.mv (c (n 2)))]),
 .ret]) .skip)]),
 (q [(.reg [o 14 (m 2),o 15 (ln 14),o 16 (bc .gtr 15 (n 8)),o 17 (m 16),g 18 17 false (m 1),g 19 17 false (bc .gtr 18 (n 4)),o 20 (pt 17 19)]),
 (i 20 (q [(.reg [o 6 (.mv (c (n 8)))]),
 .ret]) .skip)]),
 (q [(.reg [o 7 (.mv (c (n 0)))]),
 (.block 0 (.loop (q [(q [(.reg [o 21 (m 7),o 22 (m 2),o 23 (ln 22),o 24 (b .lss 21 23)]),
 (i 24 .skip (.exit 0))]),
 (.block 1 (q [(.regd [o 27 (m 2),o 28 (m 7),o 29 (ia 1 27 28),o 30 (l 29),o 31 (m 0),o 32 (.call 94 [(t 31)]),o 33 (b .andNot 30 32),o 34 (bc .neq 33 (u 0))] [0,0,3,7,0,16,63,127]),
 (i 34 (q [(.reg [o 6 (.mv (c (n 3)))]),
 .ret]) .skip)])),
 (.reg [o 25 (m 7),o 26 (bc .add 25 (n 1)),o 7 (m 26)])])))]),
 (.reg [o 6 (.mv (c (n 0)))]),
 .ret])⟩
def c_wittingref33_cells:CFn:=⟨30,[.tmp 2],(q [(.reg [o 2 (.mv (c .bf))]),
 (q [(.reg [o 3 (.mv (c (n 0)))]),
 (.block 0 (.loop (q [(q [(.reg [o 5 (m 3),o 6 (m 0),o 7 (ln 6),o 8 (b .lss 5 7)]),
 (i 8 .skip (.exit 0))]),
 (.block 1 (q [(.reg [o 11 (m 0),o 12 (m 3),o 13 (ia 1 11 12),o 14 (l 13),o 4 (m 14)]),
 (.reg [o 15 (m 4),o 16 (bc .lss 15 (n 0)),o 17 (m 16),g 18 17 false (m 4),g 19 17 false (m 3),g 20 17 false (b .gtr 18 19),o 21 (pt 17 20),o 22 (m 21),g 23 22 false (m 0),g 24 22 false (m 4),g 25 22 false (ia 1 23 24),g 26 22 false (l 25),g 27 22 false (m 4),g 28 22 false (b .neq 26 27),o 29 (pt 22 28)]),
 (i 29 (q [(.reg [o 2 (.mv (c .bf))]),
 .ret]) .skip)])),
 (.reg [o 9 (m 3),o 10 (bc .add 9 (n 1)),o 3 (m 10)])])))]),
 (.reg [o 2 (.mv (c .bt))]),
 .ret])⟩
def c_wittingref33_ranked:CFn:=⟨56,[.tmp 4],(q [(.reg [o 4 (.mv (c .bf))]),
 (q [(.reg [o 5 (.mv (c (n 0)))]),
 (.block 0 (.loop (q [(q [(.reg [o 8 (m 5),o 9 (m 0),o 10 (ln 9),o 11 (b .lss 8 10)]),
 (i 11 .skip (.exit 0))]),
 (.block 1 (q [(q [(.reg [o 14 (m 1),o 15 (m 5),o 16 (ia 1 14 15),o 17 (l 16),o 18 (bc .lss 17 (n 0))]),
 (i 18 (q [(.reg [o 4 (.mv (c .bf))]),
 .ret]) .skip)]),
 (.reg [o 19 (m 1),o 20 (m 5),o 21 (ia 1 19 20),o 22 (l 21),o 23 (bc .eql 22 (n 0)),o 6 (m 23)]),
 (q [(.reg [o 7 (.mv (c (n 0)))]),
 (.block 2 (.loop (q [(q [(.reg [o 24 (m 7),o 25 (m 0),o 26 (ln 25),o 27 (b .lss 24 26)]),
 (i 27 .skip (.exit 2))]),
 (.block 3 (.regd [o 30 (m 6),o 31 (m 30),g 32 31 false (m 0),g 33 31 false (m 7),g 34 31 false (ia 1 32 33),g 35 31 false (l 34),g 36 31 false (m 0),g 37 31 false (m 5),g 38 31 false (ia 1 36 37),g 39 31 false (l 38),g 40 31 false (b .eql 35 39),g 41 31 false (m 40),g 42 41 true (m 1),g 43 41 true (m 7),g 44 41 true (ia 1 42 43),g 45 41 true (l 44),g 46 41 true (m 1),g 47 41 true (m 5),g 48 41 true (ia 1 46 47),g 49 41 true (l 48),g 50 41 true (bc .sub 49 (n 1)),g 51 41 true (b .eql 45 50),g 52 31 false (pf 41 51),o 53 (pt 31 52),o 6 (m 53)] [0,1,3,3,15,31,3,3,195,451,1023,2047,4095,4095,16383,32767,4095,4095,200703,462847,987135,2097151,4194303,8388607,16777215])),
 (.reg [o 28 (m 7),o 29 (bc .add 28 (n 1)),o 7 (m 29)])])))]),
 (.reg [o 54 (m 6),o 55 (.un .not (t 54))]),
 (i 55 (q [(.reg [o 4 (.mv (c .bf))]),
 .ret]) .skip)])),
 (.reg [o 12 (m 5),o 13 (bc .add 12 (n 1)),o 5 (m 13)])])))]),
 (.reg [o 4 (.mv (c .bt))]),
 .ret])⟩
def c_wittingref05_node:CFn:=⟨169,[.tmp 4],(q [(.reg [o 2 (.box 6 (t 0)),o 4 (.mv (c (n 0)))]),
 (q [(.reg [o 6 (f 0 2),o 7 (l 6),o 8 (bc .lss 7 (n 1)),o 9 (m 8),g 10 9 false (f 0 2),g 11 9 false (l 10),g 12 9 false (bc .gtr 11 (n 21)),o 13 (pt 9 12)]),
 (i 13 (q [(.reg [o 4 (.mv (c (n 10)))]),
 .ret]) .skip)]),
 (q [(.reg [o 14 (f 0 2),o 15 (l 14),o 16 (.call 35 [(t 15)]),o 17 (m 16),g 18 17 true (f 4 2),g 19 17 true (l 18),g 20 17 true (bc .lss 19 (n 0)),g 21 17 true (m 20),g 22 21 false (f 4 2),g 23 21 false (l 22),g 24 21 false (m 1),g 25 21 false (b .geq 23 24),g 26 17 true (pt 21 25),o 27 (pf 17 26),o 28 (m 27),g 29 28 false (f 0 2),g 30 28 false (l 29),g 31 28 false (.call 35 [(t 30)]),g 32 28 false (.un .not (t 31)),g 33 28 false (m 32),g 34 33 true (f 4 2),g 35 33 true (l 34),g 36 33 true (bc .neq 35 (n 0)),g 37 28 false (pf 33 36),o 38 (pt 28 37)]),
 (i 38 (q [(.reg [o 4 (.mv (c (n 3)))]),
 .ret]) .skip)]),
 (q [(.reg [o 39 (f 0 2),o 40 (l 39),o 41 (.call 36 [(t 40)]),o 42 (m 41),g 43 42 true (f 5 2),g 44 42 true (l 43),g 45 42 true (bc .lss 44 (n 0)),g 46 42 true (m 45),g 47 46 false (f 5 2),g 48 46 false (l 47),g 49 46 false (m 1),g 50 46 false (b .geq 48 49),g 51 42 true (pt 46 50),o 52 (pf 42 51),o 53 (m 52),g 54 53 false (f 0 2),g 55 53 false (l 54),g 56 53 false (.call 36 [(t 55)]),g 57 53 false (.un .not (t 56)),g 58 53 false (m 57),g 59 58 true (f 5 2),g 60 58 true (l 59),g 61 58 true (bc .neq 60 (n 0)),g 62 53 false (pf 58 61),o 63 (pt 53 62)]),
 (i 63 (q [(.reg [o 4 (.mv (c (n 3)))]),
 .ret]) .skip)]),
 (.reg [o 64 (f 0 2),o 65 (l 64),o 66 (bc .eql 65 (n 3)),o 67 (m 66),g 68 67 false (f 0 2),g 69 67 false (l 68),g 70 67 false (.call 95 [(t 69)]),o 71 (pt 67 70),o 72 (m 71),g 73 72 false (f 0 2),g 74 72 false (l 73),g 75 72 false (bc .eql 74 (n 17)),o 76 (pt 72 75),o 5 (m 76)]),
 (q [(.reg [o 77 (m 5),o 78 (.un .not (t 77)),o 79 (m 78),g 80 79 true (f 1 2),g 81 79 true (l 80),g 82 79 true (bc .neq 81 (n 0)),o 83 (pf 79 82),o 84 (m 83),g 85 84 false (f 0 2),g 86 84 false (l 85),g 87 84 false (bc .neq 86 (n 17)),g 88 84 false (m 87),g 89 88 true (f 2 2),g 90 88 true (l 89),g 91 88 true (bc .neq 90 (n 0)),g 92 84 false (pf 88 91),o 93 (pt 84 92),o 94 (m 93),g 95 94 false (f 0 2),g 96 94 false (l 95),g 97 94 false (.call 96 [(t 96)]),g 98 94 false (.un .not (t 97)),g 99 94 false (m 98),g 100 99 true (f 3 2),g 101 99 true (l 100),g 102 99 true (bc .neq 101 (n 0)),g 103 94 false (pf 99 102),o 104 (pt 94 103)]),
 (i 104 (q [(.reg [o 4 (.mv (c (n 3)))]),
 .ret]) .skip)]),
 (q [(.reg [o 105 (f 0 2),o 106 (l 105),o 107 (bc .eql 106 (n 3)),o 108 (m 107),g 109 108 true (f 1 2),g 110 108 true (l 109),g 111 108 true (bc .lss 110 (n 0)),g 112 108 true (m 111),g 113 112 false (f 1 2),g 114 112 false (l 113),g 115 112 false (bc .geq 114 (n 8)),g 116 108 true (pt 112 115),o 117 (pf 108 116),o 118 (m 117),g 119 118 false (f 0 2),g 120 118 false (l 119),g 121 118 false (.call 95 [(t 120)]),g 122 118 false (m 121),g 123 122 true (f 1 2),g 124 122 true (l 123),g 125 122 true (bc .lss 124 (n 0)),g 126 122 true (m 125),g 127 126 false (f 1 2),g 128 126 false (l 127),g 129 126 false (bc .geq 128 (n 4)),g 130 122 true (pt 126 129),g 131 118 false (pf 122 130),o 132 (pt 118 131)]),
 (i 132 (q [(.reg [o 4 (.mv (c (n 2)))]),
 .ret]) .skip)]),
 (q [(.reg [o 133 (f 0 2),o 134 (l 133),o 135 (bc .eql 134 (n 17)),o 136 (m 135),g 137 136 true (f 1 2),g 138 136 true (l 137),g 139 136 true (bc .lss 138 (n 0)),g 140 136 true (m 139),g 141 140 false (f 1 2),g 142 140 false (l 141),g 143 140 false (bc .geq 142 (n 8)),g 144 136 true (pt 140 143),g 145 136 true (m 144),g 146 145 false (f 2 2),g 147 145 false (l 146),g 148 145 false (bc .lss 147 (n 0)),g 149 136 true (pt 145 148),g 150 136 true (m 149),g 151 150 false (f 2 2),g 152 150 false (l 151),g 153 150 false (bc .geq 152 (n 8)),g 154 136 true (pt 150 153),o 155 (pf 136 154)]),
 (i 155 (q [(.reg [o 4 (.mv (c (n 2)))]),
 .ret]) .skip)]),
 (q [(.reg [o 156 (f 0 2),o 157 (l 156),o 158 (.call 96 [(t 157)]),o 159 (m 158),g 160 159 true (f 3 2),g 161 159 true (l 160),g 162 159 true (bc .lss 161 (n 1)),g 163 159 true (m 162),g 164 163 false (f 3 2),g 165 163 false (l 164),g 166 163 false (bc .geq 165 (n 16)),g 167 159 true (pt 163 166),o 168 (pf 159 167)]),
 (i 168 (q [(.reg [o 4 (.mv (c (n 2)))]),
 .ret]) .skip)]),
 (.reg [o 4 (.mv (c (n 0)))]),
 .ret])⟩
def c_wittingref05_Frag:CFn:=⟨21,[.tmp 2],(q [(.reg [o 2 (.mv (c (n 0)))]),
 (q [(.reg [o 3 (m 0),o 4 (bc .eql 3 (n 9)),o 5 (m 4),g 6 5 false (m 0),g 7 5 false (bc .eql 6 (n 10)),o 8 (pt 5 7)]),
 (i 8 (q [(.reg [o 2 (.mv (c (n 1)))]),
 .ret]) .skip)]),
 (q [(.reg [o 9 (m 0),o 10 (bc .geq 9 (n 11)),o 11 (m 10),g 12 11 true (m 0),g 13 11 true (bc .leq 12 (n 17)),o 14 (pf 11 13)]),
 (i 14 (q [(.reg [o 15 (m 0),o 16 (bc .sub 15 (n 11)),o 17 (bc .add 16 (n 1)),o 18 (.bin .shl (c (n 1)) (t 17)),o 2 (m 18)]),
 .ret]) .skip)]),
 (q [(.reg [o 19 (m 0),o 20 (bc .geq 19 (n 18))]),
 (i 20 (q [(.reg [o 2 (.mv (c (n 256)))]),
 .ret]) .skip)]),
 (.reg [o 2 (.mv (c (n 0)))]),
 .ret])⟩
def c_wittingref05_Agents:CFn:=⟨36,[.tmp 2],(q [(.reg [o 2 (.mv (c (n 0)))]),
 (.reg [o 6 (m 0),o 7 (.call 34 [(t 6)]),o 3 (m 7)]),
 (.reg [o 4 (.mv (c (n 0)))]),
 (q [(.reg [o 5 (.mv (c (n 0)))]),
 (.block 0 (.loop (q [(q [(.reg [o 8 (m 5),o 9 (m 3),o 10 (ln 9),o 11 (b .lss 8 10)]),
 (i 11 .skip (.exit 0))]),
 (.block 1 (q [(q [(.reg [o 14 (m 3),o 15 (m 5),o 16 (ia 6 14 15),o 17 (f 0 16),o 18 (l 17),o 19 (.call 95 [(t 18)])]),
 (i 19 (.reg [o 20 (m 4),o 21 (m 3),o 22 (m 5),o 23 (ia 6 21 22),o 24 (f 1 23),o 25 (l 24),o 26 (.bin .shl (c (n 1)) (t 25)),o 27 (b .or 20 26),o 4 (m 27)]) .skip)]),
 (.reg [o 28 (m 4),o 29 (m 3),o 30 (m 5),o 31 (ia 6 29 30),o 32 (f 3 31),o 33 (l 32),o 34 (b .or 28 33),o 4 (m 34)])])),
 (.reg [o 12 (m 5),o 13 (bc .add 12 (n 1)),o 5 (m 13)])])))]),
 (.reg [o 35 (m 4),o 2 (m 35)]),
 .ret])⟩
def c_wittingref05_Facts:CFn:=⟨29,[.tmp 2],(q [(.reg [o 2 (.mv (c (n 0)))]),
 (.reg [o 6 (m 0),o 7 (.call 34 [(t 6)]),o 3 (m 7)]),
 (.reg [o 4 (.mv (c (n 0)))]),
 (q [(.reg [o 5 (.mv (c (n 0)))]),
 (.block 0 (.loop (q [(q [(.reg [o 8 (m 5),o 9 (m 3),o 10 (ln 9),o 11 (b .lss 8 10)]),
 (i 11 .skip (.exit 0))]),
 (.block 1 (q [(.reg [o 14 (m 3),o 15 (m 5),o 16 (ia 6 14 15),o 17 (f 0 16),o 18 (l 17),o 19 (bc .eql 18 (n 3))]),
 (i 19 (.reg [o 20 (m 4),o 21 (m 3),o 22 (m 5),o 23 (ia 6 21 22),o 24 (f 1 23),o 25 (l 24),o 26 (.bin .shl (c (n 1)) (t 25)),o 27 (b .or 20 26),o 4 (m 27)]) .skip)])),
 (.reg [o 12 (m 5),o 13 (bc .add 12 (n 1)),o 5 (m 13)])])))]),
 (.reg [o 28 (m 4),o 2 (m 28)]),
 .ret])⟩
def c_wittingref34_Cell:CFn:=⟨37,[.tmp 6],(q [(.reg [o 3 (.box 4 (t 0)),o 6 (.mv (c (u 0)))]),
 (.reg [o 7 (.mv (c (u 0)))]),
 (q [(.reg [o 8 (.mv (c (n 0)))]),
 (.block 0 (.loop (q [(q [(.reg [o 9 (m 8),o 10 (f 0 3),o 11 (l 10),o 12 (b .lss 9 11)]),
 (i 12 .skip (.exit 0))]),
 (.block 1 (q [(.regd [o 15 (f 2 3),o 16 (l 15),o 17 (m 1),o 18 (ia 1 16 17),o 19 (l 18),o 20 (m 8),o 21 (ia 1 19 20),o 22 (l 21),o 23 (f 2 3),o 24 (l 23),o 25 (m 1),o 26 (ia 1 24 25),o 27 (l 26),o 28 (m 2),o 29 (ia 1 27 28),o 30 (l 29),o 31 (b .eql 22 30)] [0,1,0,7,15,0,63,127,0,256,0,1792,3840,0,16128,32512,65535]),
 (i 31 (.reg [o 32 (m 7),o 33 (m 8),o 34 (.bin .shl (c (u 1)) (t 33)),o 35 (b .or 32 34),o 7 (m 35)]) .skip)])),
 (.reg [o 13 (m 8),o 14 (bc .add 13 (n 1)),o 8 (m 14)])])))]),
 (.reg [o 36 (m 7),o 6 (m 36)]),
 .ret])⟩
def c_wittingref05_Sub:CFn:=⟨45,[.tmp 4],(q [(.reg [o 4 (.mv (c (.nils 6)))]),
 (q [(.reg [o 7 (m 0),o 8 (.call 30 [(t 7)]),o 9 (bc .neq 8 (n 0)),o 10 (m 9),g 11 10 false (m 1),g 12 10 false (bc .lss 11 (n 0)),o 13 (pt 10 12),o 14 (m 13),g 15 14 false (m 1),g 16 14 false (m 0),g 17 14 false (ln 16),g 18 14 false (b .geq 15 17),o 19 (pt 14 18)]),
 (i 19 (q [(.reg [o 4 (.mv (c (.nils 6)))]),
 .ret]) .skip)]),
 (.reg [o 20 (.build [(.nils 6),(.nils 1)] []),o 21 (.box 2 (t 20)),o 5 (m 21)]),
 (q [(.reg [o 6 (.mv (c (n 0)))]),
 (.block 0 (.loop (q [(q [(.reg [o 22 (m 6),o 23 (m 0),o 24 (ln 23),o 25 (b .lss 22 24)]),
 (i 25 .skip (.exit 0))]),
 (.block 1 (.reg [o 28 (m 5),o 29 (m 5),o 30 (.nilck (t 29)),o 31 (f 1 30),o 32 (l 31),o 33 (.bslice 1 1 [(n 0)] [(0,(c (n (-1))))]),o 34 (.app 1 8 (t 32) (t 33)),o 35 (.nilck (t 28)),o 36 (f 1 35),w (.store 1 (t 36) (t 34))])),
 (.reg [o 26 (m 6),o 27 (bc .add 26 (n 1)),o 6 (m 27)])])))]),
 (.reg [o 37 (m 0),o 38 (m 1),o 39 (m 5),o 40 (.call 97 [(t 37),(t 38),(t 39)])]),
 (.reg [o 41 (m 5),o 42 (.nilck (t 41)),o 43 (f 0 42),o 44 (l 43),o 4 (m 44)]),
 .ret])⟩
def c_wittingref34_best:CFn:=⟨79,[.tmp 8],(q [(.reg [o 4 (.box 4 (t 0)),o 8 (.mv (c (u 0)))]),
 (.reg [o 14 (la 4 4),o 15 (m 1),o 16 (m 2),o 17 (.call 68 [(t 14),(t 15),(t 16)]),o 18 (m 3),o 19 (b .and 17 18),o 9 (m 19)]),
 (.reg [o 10 (.mv (c (n (-1)))),o 11 (.mv (c (u 0)))]),
 (q [(.reg [o 12 (.mv (c (n 0)))]),
 (.block 0 (.loop (q [(q [(.reg [o 20 (m 12),o 21 (f 0 4),o 22 (l 21),o 23 (b .lss 20 22)]),
 (i 23 .skip (.exit 0))]),
 (.block 1 (q [(.reg [o 26 (m 9),o 27 (m 12),o 28 (.call 40 [(t 26),(t 27)]),o 29 (m 28),g 30 29 true (m 10),g 31 29 true (bc .lss 30 (n 0)),g 32 29 true (m 31),g 33 32 false (f 3 4),g 34 32 false (l 33),g 35 32 false (m 1),g 36 32 false (ia 1 34 35),g 37 32 false (l 36),g 38 32 false (m 12),g 39 32 false (ia 1 37 38),g 40 32 false (l 39),g 41 32 false (m 10),g 42 32 false (b .lss 40 41),g 43 29 true (pt 32 42),o 44 (pf 29 43)]),
 (i 44 (.reg [o 45 (f 3 4),o 46 (l 45),o 47 (m 1),o 48 (ia 1 46 47),o 49 (l 48),o 50 (m 12),o 51 (ia 1 49 50),o 52 (l 51),o 10 (m 52)]) .skip)])),
 (.reg [o 24 (m 12),o 25 (bc .add 24 (n 1)),o 12 (m 25)])])))]),
 (q [(.reg [o 13 (.mv (c (n 0)))]),
 (.block 2 (.loop (q [(q [(.reg [o 53 (m 13),o 54 (f 0 4),o 55 (l 54),o 56 (b .lss 53 55)]),
 (i 56 .skip (.exit 2))]),
 (.block 3 (q [(.reg [o 59 (m 9),o 60 (m 13),o 61 (.call 40 [(t 59),(t 60)]),o 62 (m 61),g 63 62 true (f 3 4),g 64 62 true (l 63),g 65 62 true (m 1),g 66 62 true (ia 1 64 65),g 67 62 true (l 66),g 68 62 true (m 13),g 69 62 true (ia 1 67 68),g 70 62 true (l 69),g 71 62 true (m 10),g 72 62 true (b .eql 70 71),o 73 (pf 62 72)]),
 (i 73 (.reg [o 74 (m 11),o 75 (m 13),o 76 (.bin .shl (c (u 1)) (t 75)),o 77 (b .or 74 76),o 11 (m 77)]) .skip)])),
 (.reg [o 57 (m 13),o 58 (bc .add 57 (n 1)),o 13 (m 58)])])))]),
 (.reg [o 78 (m 11),o 8 (m 78)]),
 .ret])⟩
def c_wittingref34_safer:CFn:=⟨56,[.tmp 6],(q [(.reg [o 3 (.box 4 (t 0)),o 6 (.mv (c (u 0)))]),
 (.reg [o 7 (.mv (c (u 0)))]),
 (q [(.reg [o 8 (.mv (c (n 0)))]),
 (.block 0 (.loop (q [(q [(.reg [o 9 (m 8),o 10 (f 0 3),o 11 (l 10),o 12 (b .lss 9 11)]),
 (i 12 .skip (.exit 0))]),
 (.block 1 (q [(.regd [o 15 (f 2 3),o 16 (l 15),o 17 (m 1),o 18 (ia 1 16 17),o 19 (l 18),o 20 (m 8),o 21 (ia 1 19 20),o 22 (l 21),o 23 (f 2 3),o 24 (l 23),o 25 (m 1),o 26 (ia 1 24 25),o 27 (l 26),o 28 (m 2),o 29 (ia 1 27 28),o 30 (l 29),o 31 (b .eql 22 30),o 32 (m 31),g 33 32 true (f 3 3),g 34 32 true (l 33),g 35 32 true (m 1),g 36 32 true (ia 1 34 35),g 37 32 true (l 36),g 38 32 true (m 8),g 39 32 true (ia 1 37 38),g 40 32 true (l 39),g 41 32 true (f 3 3),g 42 32 true (l 41),g 43 32 true (m 1),g 44 32 true (ia 1 42 43),g 45 32 true (l 44),g 46 32 true (m 2),g 47 32 true (ia 1 45 46),g 48 32 true (l 47),g 49 32 true (b .leq 40 48),o 50 (pf 32 49)] [0,1,0,7,15,0,63,127,0,256,0,1792,3840,0,16128,32512,65535,131071,262143,524287,262143,2097151,4194303,262143,16777215,33554431,262143,67371007,262143,470024191,1006895103,262143,4228120575,8523087871,17179869183,34359738367]),
 (i 50 (.reg [o 51 (m 7),o 52 (m 8),o 53 (.bin .shl (c (u 1)) (t 52)),o 54 (b .or 51 53),o 7 (m 54)]) .skip)])),
 (.reg [o 13 (m 8),o 14 (bc .add 13 (n 1)),o 8 (m 14)])])))]),
 (.reg [o 55 (m 7),o 6 (m 55)]),
 .ret])⟩
def c_wittingref13_All:CFn:=⟨8,[.tmp 2],(q [(.reg [o 2 (.mv (c (u 0)))]),
 (q [(.reg [o 3 (m 0),o 4 (bc .geq 3 (n 64))]),
 (i 4 (q [(.reg [o 2 (.mv (c (u 18446744073709551615)))]),
 .ret]) .skip)]),
 (.reg [o 5 (m 0),o 6 (.bin .shl (c (u 1)) (t 5)),o 7 (bc .sub 6 (u 1)),o 2 (m 7)]),
 .ret])⟩
def c_wittingref17_Boolean:CFn:=⟨41,[.tmp 8],(q [(.reg [o 8 (.mv (c (u 0)))]),
 (q [(.reg [o 9 (m 0),o 10 (bc .eql 9 (n 1))]),
 (i 10 (q [(.reg [o 11 (m 3),o 8 (m 11)]),
 .ret]) .skip)]),
 (q [(.reg [o 12 (m 0),o 13 (bc .eql 12 (n 4))]),
 (i 13 (q [(.reg [o 14 (m 3),o 15 (m 1),o 16 (b .andNot 14 15),o 8 (m 16)]),
 .ret]) .skip)]),
 (q [(.reg [o 17 (m 0),o 18 (bc .eql 17 (n 5))]),
 (i 18 (q [(.reg [o 19 (m 1),o 20 (m 2),o 21 (b .and 19 20),o 8 (m 21)]),
 .ret]) .skip)]),
 (q [(.reg [o 22 (m 0),o 23 (bc .eql 22 (n 6))]),
 (i 23 (q [(.reg [o 24 (m 1),o 25 (m 2),o 26 (b .or 24 25),o 8 (m 26)]),
 .ret]) .skip)]),
 (q [(.reg [o 27 (m 0),o 28 (bc .eql 27 (n 7))]),
 (i 28 (q [(.reg [o 29 (m 3),o 30 (m 1),o 31 (b .andNot 29 30),o 32 (m 2),o 33 (b .or 31 32),o 8 (m 33)]),
 .ret]) .skip)]),
 (q [(.reg [o 34 (m 0),o 35 (bc .eql 34 (n 8))]),
 (i 35 (q [(.reg [o 36 (m 3),o 37 (m 1),o 38 (m 2),o 39 (b .xor 37 38),o 40 (b .andNot 36 39),o 8 (m 40)]),
 .ret]) .skip)]),
 (.reg [o 8 (.mv (c (u 0)))]),
 .ret])⟩
def c_wittingref17_Box:CFn:=⟨26,[.tmp 6],(q [(.reg [o 6 (.mv (c (u 0)))]),
 (.reg [o 7 (.mv (c (u 0)))]),
 (q [(.reg [o 8 (.mv (c (n 0)))]),
 (.block 0 (.loop (q [(q [(.reg [o 9 (m 8),o 10 (m 1),o 11 (b .lss 9 10)]),
 (i 11 .skip (.exit 0))]),
 (.block 1 (q [(.reg [o 14 (m 0),o 15 (m 8),o 16 (ia 1 14 15),o 17 (l 16),o 18 (m 2),o 19 (b .andNot 17 18),o 20 (bc .eql 19 (u 0))]),
 (i 20 (.reg [o 21 (m 7),o 22 (m 8),o 23 (.bin .shl (c (u 1)) (t 22)),o 24 (b .or 21 23),o 7 (m 24)]) .skip)])),
 (.reg [o 12 (m 8),o 13 (bc .add 12 (n 1)),o 8 (m 13)])])))]),
 (.reg [o 25 (m 7),o 6 (m 25)]),
 .ret])⟩
def c_wittingref13_Group:CFn:=⟨8,[.tmp 4],(q [(.reg [o 2 (.box 3 (t 0)),o 4 (.mv (c (.nils 1)))]),
 (.reg [o 5 (la 3 2),o 6 (m 1),o 7 (.call 98 [(t 5),(t 6),(c .bf)]),o 4 (m 7)]),
 .ret])⟩
def c_wittingref17_common:CFn:=⟨29,[.tmp 8],(q [(.reg [o 8 (.mv (c (u 0)))]),
 (.reg [o 9 (.mv (c (u 0)))]),
 (q [(.reg [o 10 (.mv (c (n 0)))]),
 (.block 0 (.loop (q [(q [(.reg [o 11 (m 10),o 12 (m 1),o 13 (b .lss 11 12)]),
 (i 13 .skip (.exit 0))]),
 (.block 1 (q [(.reg [o 16 (m 0),o 17 (m 1),o 18 (m 10),o 19 (m 2),o 20 (.call 99 [(t 16),(t 17),(t 18),(t 19)]),o 21 (m 3),o 22 (b .andNot 20 21),o 23 (bc .eql 22 (u 0))]),
 (i 23 (.reg [o 24 (m 9),o 25 (m 10),o 26 (.bin .shl (c (u 1)) (t 25)),o 27 (b .or 24 26),o 9 (m 27)]) .skip)])),
 (.reg [o 14 (m 10),o 15 (bc .add 14 (n 1)),o 10 (m 15)])])))]),
 (.reg [o 28 (m 9),o 8 (m 28)]),
 .ret])⟩
def c_formula_uses:CFn:=⟨55,[.cell 2 (some 7),.tmp 3],(q [(.reg [o 2 (.alloc [.bf,.bf,.bf,.bf,.bf,.bf,(n 0)]),o 3 (.mv (c .bf))]),
 (q [(.reg [o 4 (m 0)]),
 (.block 0 (q [(q [(.reg [o 6 (bc .eql 4 (n 1)),o 5 (m 6)]),
 (i 5 .skip (.reg [o 7 (bc .eql 4 (n 2)),o 5 (m 7)]))]),
 (i 5 (q [(.reg [o 8 (.build [.bf,.bf,.bf,.bf,.bf,.bf,(n 0)] []),w (.store 7 (t 2) (t 8)),o 3 (.mv (c .bt))]),
 .ret]) (q [(.reg [o 10 (bc .eql 4 (n 3)),o 9 (m 10)]),
 (i 9 (q [(.reg [o 11 (.build [.bf,.bf,.bf,.bf,.bf,.bf,(n 0)] [(2,1,(c .bt))]),w (.store 7 (t 2) (t 11)),o 3 (.mv (c .bt))]),
 .ret]) (q [(.reg [o 13 (bc .eql 4 (n 4)),o 12 (m 13)]),
 (i 12 (q [(.reg [o 14 (.build [.bf,.bf,.bf,.bf,.bf,.bf,(n 0)] [(0,1,(c .bt))]),w (.store 7 (t 2) (t 14)),o 3 (.mv (c .bt))]),
 .ret]) (q [(q [(.reg [o 16 (bc .eql 4 (n 5)),o 15 (m 16)]),
 (i 15 .skip (q [(.reg [o 17 (bc .eql 4 (n 6)),o 15 (m 17)]),
 (i 15 .skip (q [(.reg [o 18 (bc .eql 4 (n 7)),o 15 (m 18)]),
 (i 15 .skip (.reg [o 19 (bc .eql 4 (n 8)),o 15 (m 19)]))]))]))]),
 (i 15 (q [(.reg [o 20 (.build [.bf,.bf,.bf,.bf,.bf,.bf,(n 0)] [(0,1,(c .bt)),(1,1,(c .bt))]),w (.store 7 (t 2) (t 20)),o 3 (.mv (c .bt))]),
 .ret]) (q [(q [(.reg [o 22 (bc .eql 4 (n 9)),o 21 (m 22)]),
 (i 21 .skip (.reg [o 23 (bc .eql 4 (n 10)),o 21 (m 23)]))]),
 (i 21 (q [(.reg [o 24 (.build [.bf,.bf,.bf,.bf,.bf,.bf,(n 0)] [(0,1,(c .bt)),(3,1,(c .bt)),(6,1,(c (n 1)))]),w (.store 7 (t 2) (t 24)),o 3 (.mv (c .bt))]),
 .ret]) (q [(.reg [o 26 (bc .eql 4 (n 11)),o 25 (m 26)]),
 (i 25 (q [(.reg [o 27 (.build [.bf,.bf,.bf,.bf,.bf,.bf,(n 0)] [(0,1,(c .bt)),(4,1,(c .bt)),(6,1,(c (n 2)))]),w (.store 7 (t 2) (t 27)),o 3 (.mv (c .bt))]),
 .ret]) (q [(.reg [o 29 (bc .eql 4 (n 12)),o 28 (m 29)]),
 (i 28 (q [(.reg [o 30 (.build [.bf,.bf,.bf,.bf,.bf,.bf,(n 0)] [(0,1,(c .bt)),(4,1,(c .bt)),(6,1,(c (n 4)))]),w (.store 7 (t 2) (t 30)),o 3 (.mv (c .bt))]),
 .ret]) (q [(.reg [o 32 (bc .eql 4 (n 13)),o 31 (m 32)]),
 (i 31 (q [(.reg [o 33 (.build [.bf,.bf,.bf,.bf,.bf,.bf,(n 0)] [(0,1,(c .bt)),(1,1,(c .bt)),(4,1,(c .bt)),(6,1,(c (n 8)))]),w (.store 7 (t 2) (t 33)),o 3 (.mv (c .bt))]),
 .ret]) (q [(.reg [o 35 (bc .eql 4 (n 14)),o 34 (m 35)]),
 (i 34 (q [(.reg [o 36 (.build [.bf,.bf,.bf,.bf,.bf,.bf,(n 0)] [(0,1,(c .bt)),(1,1,(c .bt)),(3,1,(c .bt)),(6,1,(c (n 16)))]),w (.store 7 (t 2) (t 36)),o 3 (.mv (c .bt))]),
 .ret]) (q [(.reg [o 38 (bc .eql 4 (n 15)),o 37 (m 38)]),
 (i 37 (q [(.reg [o 39 (.build [.bf,.bf,.bf,.bf,.bf,.bf,(n 0)] [(0,1,(c .bt)),(3,1,(c .bt)),(6,1,(c (n 32)))]),w (.store 7 (t 2) (t 39)),o 3 (.mv (c .bt))]),
 .ret]) (q [(.reg [o 41 (bc .eql 4 (n 16)),o 40 (m 41)]),
 (i 40 (q [(.reg [o 42 (.build [.bf,.bf,.bf,.bf,.bf,.bf,(n 0)] [(0,1,(c .bt)),(1,1,(c .bt)),(6,1,(c (n 64)))]),w (.store 7 (t 2) (t 42)),o 3 (.mv (c .bt))]),
 .ret]) (q [(.reg [o 44 (bc .eql 4 (n 17)),o 43 (m 44)]),
 (i 43 (q [(.reg [o 45 (.build [.bf,.bf,.bf,.bf,.bf,.bf,(n 0)] [(0,1,(c .bt)),(5,1,(c .bt)),(6,1,(c (n 128)))]),w (.store 7 (t 2) (t 45)),o 3 (.mv (c .bt))]),
 .ret]) (q [(q [(.reg [o 47 (bc .eql 4 (n 18)),o 46 (m 47)]),
 (i 46 .skip (.reg [o 48 (bc .eql 4 (n 20)),o 46 (m 48)]))]),
 (i 46 (q [(.reg [o 49 (.build [.bf,.bf,.bf,.bf,.bf,.bf,(n 0)] [(0,1,(c .bt)),(6,1,(c (n 256)))]),w (.store 7 (t 2) (t 49)),o 3 (.mv (c .bt))]),
 .ret]) (q [(q [(.reg [o 51 (bc .eql 4 (n 19)),o 50 (m 51)]),
 (i 50 .skip (.reg [o 52 (bc .eql 4 (n 21)),o 50 (m 52)]))]),
 (i 50 (q [(.reg [o 53 (.build [.bf,.bf,.bf,.bf,.bf,.bf,(n 0)] [(0,1,(c .bt)),(1,1,(c .bt)),(6,1,(c (n 256)))]),w (.store 7 (t 2) (t 53)),o 3 (.mv (c .bt))]),
 .ret]) .skip)]))]))]))]))]))]))]))]))]))]))]))]))]))]))]),
 (.reg [o 54 (.build [.bf,.bf,.bf,.bf,.bf,.bf,(n 0)] []),w (.store 7 (t 2) (t 54)),o 3 (.mv (c .bf))]),
 .ret])⟩
def c_formula_compact:CFn:=⟨16,[.tmp 4],(q [(.reg [o 2 (.box 1 (t 0)),o 4 (.mv (c (.nils 6)))]),
 (.reg [o 5 (.alloc [(.nils 6)])]),
 (.reg [o 9 .mkmap,o 6 (.alloc [(.d .nil)]),w (.store 1 (t 6) (t 9))]),
 (.reg [o 10 .mkmap,o 7 (.alloc [(.d .nil)]),w (.store 1 (t 7) (t 10))]),
 (.reg [o 8 (.alloc [(.d .nil)])]),
 (.reg [o 11 (.fnew f_formula_compact_1 [(t 7),(t 2),(t 8),(t 6),(t 5)]),w (.store 1 (t 8) (t 11))]),
 (.reg [o 12 (l 8),o 13 (m 1),o 14 (.callv (t 12) [(t 13)])]),
 (.reg [o 15 (l 5),o 4 (m 15)]),
 .ret])⟩
def c_plaus_known:CFn:=⟨31,[.tmp 6],(q [(.reg [o 3 (.box 4 (t 0)),o 6 (.mv (c .bf))]),
 (.reg [o 7 (la 4 3),o 8 (.call 23 [(t 7)]),o 9 (bc .eql 8 (n 0)),o 10 (m 9),g 11 10 true (m 1),g 12 10 true (bc .geq 11 (n 0)),o 13 (pf 10 12),o 14 (m 13),g 15 14 true (m 1),g 16 14 true (f 2 3),g 17 14 true (l 16),g 18 14 true (ln 17),g 19 14 true (b .lss 15 18),o 20 (pf 14 19),o 21 (m 20),g 22 21 true (m 2),g 23 21 true (bc .geq 22 (n 0)),o 24 (pf 21 23),o 25 (m 24),g 26 25 true (m 2),g 27 25 true (f 0 3),g 28 25 true (l 27),g 29 25 true (b .lss 26 28),o 30 (pf 25 29),o 6 (m 30)]),
 .ret])⟩
def c_plaus_cellOf:CFn:=⟨37,[.tmp 6],(q [(.reg [o 3 (.box 4 (t 0)),o 6 (.mv (c (u 0)))]),
 (.reg [o 7 (.mv (c (u 0)))]),
 (q [(.reg [o 10 (f 2 3),o 11 (l 10),o 12 (m 1),o 13 (ia 1 11 12),o 14 (l 13),o 15 (ln 14),o 16 (.mv (c (n 0)))]),
 (.block 0 (.loop (q [(.reg [o 17 (b .lss 16 15)]),
 (i 17 .skip (.exit 0)),
 (.block 1 (q [(.reg [o 18 (m 16),o 19 (ia 1 14 16),o 20 (l 19),o 8 (m 18),o 9 (m 20)]),
 (.reg [o 21 (m 9),o 22 (f 2 3),o 23 (l 22),o 24 (m 1),o 25 (ia 1 23 24),o 26 (l 25),o 27 (m 2),o 28 (ia 1 26 27),o 29 (l 28),o 30 (b .eql 21 29)]),
 (i 30 (.reg [o 31 (m 7),o 32 (m 8),o 33 (.bin .shl (c (u 1)) (t 32)),o 34 (b .or 31 33),o 7 (m 34)]) .skip)])),
 (.reg [o 35 (bc .add 16 (n 1)),o 16 (m 35)])])))]),
 (.reg [o 36 (m 7),o 6 (m 36)]),
 .ret])⟩
def c_doxastic_believes_1:CFn:=⟨15,[.tmp 6],(q [(.reg [o 6 (.mv (c .bf))]),
 (.regd [o 7 (la 4 1),o 8 (l 2),o 9 (m 0),o 10 (l 3),o 11 (.call 83 [(t 7),(t 8),(t 9),(t 10)]),o 12 (l 4),o 13 (b .andNot 11 12),o 14 (bc .eql 13 (u 0)),o 6 (m 14)] [0,0,0,0,15,0,63,127,255]),
 .ret])⟩
def c_plaus_Best:CFn:=⟨26,[.tmp 8],(q [(.reg [o 4 (.box 4 (t 0)),o 8 (.mv (c (u 0)))]),
 (q [(.reg [o 9 (la 4 4),o 10 (m 1),o 11 (m 2),o 12 (.call 80 [(t 9),(t 10),(t 11)]),o 13 (.un .not (t 12))]),
 (i 13 (q [(.reg [o 8 (.mv (c (u 0)))]),
 .ret]) .skip)]),
 (.regd [o 14 (f 3 4),o 15 (l 14),o 16 (m 1),o 17 (ia 1 15 16),o 18 (l 17),o 19 (m 3),o 20 (la 4 4),o 21 (m 1),o 22 (m 2),o 23 (.call 81 [(t 20),(t 21),(t 22)]),o 24 (b .and 19 23),o 25 (.call 101 [(t 18),(t 24)]),o 8 (m 25)] [0,1,0,7,15,0,0,0,0,448,992,2047,4095]),
 .ret])⟩
def c_plaus_all:CFn:=⟨8,[.tmp 2],(q [(.reg [o 2 (.mv (c (u 0)))]),
 (q [(.reg [o 3 (m 0),o 4 (bc .geq 3 (n 64))]),
 (i 4 (q [(.reg [o 2 (.mv (c (u 18446744073709551615)))]),
 .ret]) .skip)]),
 (.reg [o 5 (m 0),o 6 (.bin .shl (c (u 1)) (t 5)),o 7 (bc .sub 6 (u 1)),o 2 (m 7)]),
 .ret])⟩
def c_slices_Sort_Lint_int_:CFn:=⟨11,[],(q [(.reg [o 3 (m 0),o 4 (ln 3),o 2 (m 4)]),
 (.reg [o 5 (m 0),o 6 (m 2),o 7 (m 2),o 8 (.conv .u64 (t 7)),o 9 (.call 103 [(t 8)]),o 10 (.call 102 [(t 5),(c (n 0)),(t 6),(t 9)])])])⟩
def c_slices_Compact_Lint_int_:CFn:=⟨61,[.tmp 2],(q [(.reg [o 2 (.mv (c (.nils 1)))]),
 (q [(.reg [o 6 (m 0),o 7 (ln 6),o 8 (bc .lss 7 (n 2))]),
 (i 8 (q [(.reg [o 9 (m 0),o 2 (m 9)]),
 .ret]) .skip)]),
 (q [(.reg [o 3 (.mv (c (n 1)))]),
 (.block 0 (.loop (q [(q [(.reg [o 10 (m 3),o 11 (m 0),o 12 (ln 11),o 13 (b .lss 10 12)]),
 (i 13 .skip (.exit 0))]),
 (.block 1 (q [(.regd [o 16 (m 0),o 17 (m 3),o 18 (ia 1 16 17),o 19 (l 18),o 20 (m 0),o 21 (m 3),o 22 (bc .sub 21 (n 1)),o 23 (ia 1 20 22),o 24 (l 23),o 25 (b .eql 19 24)] [0,0,3,7,0,0,32,112,240,511]),
 (i 25 (q [(.reg [o 26 (m 0),o 27 (m 3),o 28 (.slice 1 (t 26) (some (t 27)) none),o 4 (m 28)]),
 (q [(.reg [o 5 (.mv (c (n 1)))]),
 (.block 2 (.loop (q [(q [(.reg [o 29 (m 5),o 30 (m 4),o 31 (ln 30),o 32 (b .lss 29 31)]),
 (i 32 .skip (.exit 2))]),
 (.block 3 (q [(.regd [o 35 (m 4),o 36 (m 5),o 37 (ia 1 35 36),o 38 (l 37),o 39 (m 4),o 40 (m 5),o 41 (bc .sub 40 (n 1)),o 42 (ia 1 39 41),o 43 (l 42),o 44 (b .neq 38 43)] [0,0,3,7,0,0,32,112,240,511]),
 (i 44 (q [(.reg [o 45 (m 0),o 46 (m 3),o 47 (m 4),o 48 (m 5),o 49 (ia 1 47 48),o 50 (l 49),o 51 (ia 1 45 46),w (.store 1 (t 51) (t 50))]),
 (.reg [o 52 (m 3),o 53 (bc .add 52 (n 1)),o 3 (m 53)])]) .skip)])),
 (.reg [o 33 (m 5),o 34 (bc .add 33 (n 1)),o 5 (m 34)])])))]),
 (.reg [o 54 (m 0),o 55 (m 3),o 56 (.slice 1 (t 54) (some (t 55)) none),w (.clear 1 [(n 0)] (t 56))]),
 (.reg [o 57 (m 0),o 58 (m 3),o 59 (.slice 1 (t 57) none (some (t 58))),o 2 (m 59)]),
 .ret]) .skip)])),
 (.reg [o 14 (m 3),o 15 (bc .add 14 (n 1)),o 3 (m 15)])])))]),
 (.reg [o 60 (m 0),o 2 (m 60)]),
 .ret])⟩
def c_formula_operand:CFn:=⟨25,[.tmp 6],(q [(.reg [o 6 (.mv (c .bf))]),
 (.reg [o 7 (m 0),o 8 (m 7),g 9 8 true (m 1),g 10 8 true (bc .geq 9 (n 0)),o 11 (pf 8 10),o 12 (m 11),g 13 12 true (m 1),g 14 12 true (m 2),g 15 12 true (b .lss 13 14),o 16 (pf 12 15),o 17 (m 16),g 18 17 false (m 0),g 19 17 false (.un .not (t 18)),g 20 17 false (m 19),g 21 20 true (m 1),g 22 20 true (bc .eql 21 (n 0)),g 23 17 false (pf 20 22),o 24 (pt 17 23),o 6 (m 24)]),
 .ret])⟩
def c_formula_nodeError_1:CFn:=⟨20,[.tmp 8],(q [(.reg [o 8 (.mv (c .bf))]),
 (.reg [o 9 (m 0),o 10 (m 9),g 11 10 true (m 1),g 12 10 true (m 2),g 13 10 true (b .lss 11 12),g 14 10 true (m 13),g 15 14 false (m 1),g 16 14 false (m 3),g 17 14 false (b .gtr 15 16),g 18 10 true (pt 14 17),o 19 (pf 10 18),o 8 (m 19)]),
 .ret])⟩
def c_formula_Agents_1:CFn:=⟨12,[.tmp 4],(q [(.reg [o 2 (.box 6 (t 0)),o 3 (.box 7 (t 1)),o 4 (.mv (c (n 0)))]),
 (q [(.reg [o 5 (f 3 3),o 6 (l 5)]),
 (i 6 (q [(.reg [o 7 (f 1 2),o 8 (l 7),o 9 (.bin .shl (c (n 1)) (t 8)),o 4 (m 9)]),
 .ret]) .skip)]),
 (.reg [o 10 (f 3 2),o 11 (l 10),o 4 (m 11)]),
 .ret])⟩
def c_formula_Facts_1:CFn:=⟨10,[.tmp 4],(q [(.reg [o 2 (.box 6 (t 0)),o 3 (.box 7 (t 1)),o 4 (.mv (c (n 0)))]),
 (q [(.reg [o 5 (f 2 3),o 6 (l 5)]),
 (i 6 (q [(.reg [o 7 (f 1 2),o 8 (l 7),o 9 (.bin .shl (c (n 1)) (t 8)),o 4 (m 9)]),
 .ret]) .skip)]),
 (.reg [o 4 (.mv (c (n 0)))]),
 .ret])⟩
def c_doxastic_knows_1:CFn:=⟨13,[.tmp 5],(q [(.reg [o 5 (.mv (c .bf))]),
 (.regd [o 6 (la 4 1),o 7 (l 2),o 8 (m 0),o 9 (.call 45 [(t 6),(t 7),(t 8)]),o 10 (l 3),o 11 (b .andNot 9 10),o 12 (bc .eql 11 (u 0)),o 5 (m 12)] [0,0,0,7,0,31,63,127]),
 .ret])⟩
def c_plaus_Weaker:CFn:=⟨84,[.tmp 4,.tmp 5],(q [(.reg [o 2 (.box 4 (t 0)),o 4 (.mv (c (.nils 1))),o 5 (.mv (c (n 0)))]),
 (q [(.reg [o 10 (la 4 2),o 11 (.call 23 [(t 10)]),o 6 (m 11)]),
 (.reg [o 12 (m 6),o 13 (bc .neq 12 (n 0))]),
 (i 13 (q [(.reg [o 14 (m 6),o 4 (.mv (c (.nils 1))),o 5 (m 14)]),
 .ret]) .skip)]),
 (q [(.reg [o 15 (m 1),o 16 (bc .lss 15 (n 0)),o 17 (m 16),g 18 17 false (m 1),g 19 17 false (f 2 2),g 20 17 false (l 19),g 21 17 false (ln 20),g 22 17 false (b .geq 18 21),o 23 (pt 17 22)]),
 (i 23 (q [(.reg [o 4 (.mv (c (.nils 1))),o 5 (.mv (c (n 2)))]),
 .ret]) .skip)]),
 (.reg [o 24 (f 0 2),o 25 (l 24),o 26 (.mkslice 1 8 [(u 0)] (t 25) (t 25)),o 7 (m 26)]),
 (q [(.reg [o 27 (m 7),o 28 (ln 27),o 29 (.mv (c (n 0)))]),
 (.block 0 (.loop (q [(.reg [o 30 (b .lss 29 28)]),
 (i 30 .skip (.exit 0)),
 (.block 1 (q [(.reg [o 31 (m 29),o 8 (m 31)]),
 (.reg [o 32 (m 7),o 33 (ln 32),o 34 (.mv (c (n 0)))]),
 (.block 2 (.loop (q [(.reg [o 35 (b .lss 34 33)]),
 (i 35 .skip (.exit 2)),
 (.block 3 (q [(.reg [o 36 (m 34),o 9 (m 36)]),
 (.regd [o 37 (f 2 2),o 38 (l 37),o 39 (m 1),o 40 (ia 1 38 39),o 41 (l 40),o 42 (m 9),o 43 (ia 1 41 42),o 44 (l 43),o 45 (f 2 2),o 46 (l 45),o 47 (m 1),o 48 (ia 1 46 47),o 49 (l 48),o 50 (m 8),o 51 (ia 1 49 50),o 52 (l 51),o 53 (b .eql 44 52),o 54 (m 53),g 55 54 true (f 3 2),g 56 54 true (l 55),g 57 54 true (m 1),g 58 54 true (ia 1 56 57),g 59 54 true (l 58),g 60 54 true (m 9),g 61 54 true (ia 1 59 60),g 62 54 true (l 61),g 63 54 true (f 3 2),g 64 54 true (l 63),g 65 54 true (m 1),g 66 54 true (ia 1 64 65),g 67 54 true (l 66),g 68 54 true (m 8),g 69 54 true (ia 1 67 68),g 70 54 true (l 69),g 71 54 true (b .leq 62 70),o 72 (pf 54 71)] [0,1,0,7,15,0,63,127,0,256,0,1792,3840,0,16128,32512,65535,131071,262143,524287,262143,2097151,4194303,262143,16777215,33554431,262143,67371007,262143,470024191,1006895103,262143,4228120575,8523087871,17179869183,34359738367]),
 (i 72 (.regd [o 73 (m 7),o 74 (m 8),o 75 (ia 1 73 74),o 76 (l 75),o 77 (m 9),o 78 (.bin .shl (c (u 1)) (t 77)),o 79 (b .or 76 78),o 80 (ia 1 73 74),w (.store 1 (t 80) (t 79))] [0,0,3,7,0,16,63,127,255]) .skip)])),
 (.reg [o 81 (bc .add 34 (n 1)),o 34 (m 81)])])))])),
 (.reg [o 82 (bc .add 29 (n 1)),o 29 (m 82)])])))]),
 (.reg [o 83 (m 7),o 4 (m 83),o 5 (.mv (c (n 0)))]),
 .ret])⟩
def c_doxastic_safely_1:CFn:=⟨12,[.tmp 4],(q [(.reg [o 4 (.mv (c .bf))]),
 (.regd [o 5 (l 1),o 6 (m 0),o 7 (ia 1 5 6),o 8 (l 7),o 9 (l 2),o 10 (b .andNot 8 9),o 11 (bc .eql 10 (u 0)),o 4 (m 11)] [0,0,3,7,0,31,63,127]),
 .ret])⟩
def c_wittingref02_All:CFn:=⟨9,[.tmp 2],(q [(.reg [o 2 (.mv (c (u 0)))]),
 (q [(.reg [o 3 (m 0),o 4 (bc .geq 3 (n 64))]),
 (i 4 (q [(.reg [o 2 (.mv (c (u 18446744073709551615)))]),
 .ret]) .skip)]),
 (.reg [o 5 (m 0),o 6 (.conv .u64 (t 5)),o 7 (.bin .shl (c (u 1)) (t 6)),o 8 (bc .sub 7 (u 1)),o 2 (m 8)]),
 .ret])⟩
def c_wittingref05_agent:CFn:=⟨17,[.tmp 2],(q [(.reg [o 2 (.mv (c .bf))]),
 (.reg [o 3 (m 0),o 4 (bc .eql 3 (n 9)),o 5 (m 4),g 6 5 false (m 0),g 7 5 false (bc .eql 6 (n 10)),o 8 (pt 5 7),o 9 (m 8),g 10 9 false (m 0),g 11 9 false (bc .eql 10 (n 14)),o 12 (pt 9 11),o 13 (m 12),g 14 13 false (m 0),g 15 13 false (bc .eql 14 (n 15)),o 16 (pt 13 15),o 2 (m 16)]),
 .ret])⟩
def c_wittingref05_group:CFn:=⟨9,[.tmp 2],(q [(.reg [o 2 (.mv (c .bf))]),
 (.reg [o 3 (m 0),o 4 (bc .geq 3 (n 11)),o 5 (m 4),g 6 5 true (m 0),g 7 5 true (bc .leq 6 (n 13)),o 8 (pf 5 7),o 2 (m 8)]),
 .ret])⟩
def c_wittingref05_finish:CFn:=⟨67,[.tmp 6],(q [(.reg [o 6 (.mv (c (n 0)))]),
 (q [(.reg [o 8 (m 2),o 9 (.nilck (t 8)),o 10 (f 1 9),o 11 (l 10),o 12 (m 1),o 13 (ia 1 11 12),o 14 (l 13),o 15 (bc .geq 14 (n 0))]),
 (i 15 (q [(.reg [o 16 (m 2),o 17 (.nilck (t 16)),o 18 (f 1 17),o 19 (l 18),o 20 (m 1),o 21 (ia 1 19 20),o 22 (l 21),o 6 (m 22)]),
 .ret]) .skip)]),
 (.reg [o 23 (m 0),o 24 (m 1),o 25 (ia 6 23 24),o 26 (la 6 25),o 7 (.alloc [(n 0),(n 0),(n 0),(n 0),(n 0),(n 0)]),w (.store 6 (t 7) (t 26))]),
 (q [(.reg [o 27 (f 0 7),o 28 (l 27),o 29 (.call 35 [(t 28)])]),
 (i 29 (.reg [o 30 (m 0),o 31 (m 0),o 32 (m 1),o 33 (ia 6 31 32),o 34 (f 4 33),o 35 (l 34),o 36 (m 2),o 37 (.call 97 [(t 30),(t 35),(t 36)]),o 38 (f 4 7),w (.store 1 (t 38) (t 37))]) .skip)]),
 (q [(.reg [o 39 (f 0 7),o 40 (l 39),o 41 (.call 36 [(t 40)])]),
 (i 41 (.reg [o 42 (m 0),o 43 (m 0),o 44 (m 1),o 45 (ia 6 43 44),o 46 (f 5 45),o 47 (l 46),o 48 (m 2),o 49 (.call 97 [(t 42),(t 47),(t 48)]),o 50 (f 5 7),w (.store 1 (t 50) (t 49))]) .skip)]),
 (.regd [o 51 (m 2),o 52 (.nilck (t 51)),o 53 (f 1 52),o 54 (l 53),o 55 (m 1),o 56 (m 2),o 57 (la 6 7),o 58 (.call 104 [(t 56),(t 57)]),o 59 (ia 1 54 55),w (.store 1 (t 59) (t 58))] [0,1,3,7,0,0,0,96,255,511]),
 (.reg [o 60 (m 2),o 61 (.nilck (t 60)),o 62 (f 1 61),o 63 (l 62),o 64 (m 1),o 65 (ia 1 63 64),o 66 (l 65),o 6 (m 66)]),
 .ret])⟩
def c_wittingref13_group:CFn:=⟨85,[.tmp 6],(q [(.reg [o 3 (.box 3 (t 0)),o 6 (.mv (c (.nils 1)))]),
 (q [(.reg [o 11 (la 3 3),o 12 (.call 105 [(t 11)]),o 13 (bc .neq 12 (n 0)),o 14 (m 13),g 15 14 false (m 1),g 16 14 false (bc .lss 15 (n 1)),o 17 (pt 14 16),o 18 (m 17),g 19 18 false (m 1),g 20 18 false (f 2 3),g 21 18 false (l 20),g 22 18 false (ln 21),g 23 18 false (.bin .shl (c (n 1)) (t 22)),g 24 18 false (b .geq 19 23),o 25 (pt 18 24)]),
 (i 25 (q [(.reg [o 6 (.mv (c (.nils 1)))]),
 .ret]) .skip)]),
 (.reg [o 7 (.mv (c (.nils 1)))]),
 (q [(.reg [o 8 (.mv (c (n 0)))]),
 (.block 0 (.loop (q [(q [(.reg [o 26 (m 8),o 27 (f 0 3),o 28 (l 27),o 29 (b .lss 26 28)]),
 (i 29 .skip (.exit 0))]),
 (.block 1 (q [(.reg [o 9 (.mv (c (u 0)))]),
 (q [(.reg [o 32 (m 2)]),
 (i 32 (.reg [o 33 (f 0 3),o 34 (l 33),o 35 (.call 72 [(t 34)]),o 9 (m 35)]) .skip)]),
 (q [(.reg [o 10 (.mv (c (n 0)))]),
 (.block 2 (.loop (q [(q [(.reg [o 36 (m 10),o 37 (f 2 3),o 38 (l 37),o 39 (ln 38),o 40 (b .lss 36 39)]),
 (i 40 .skip (.exit 2))]),
 (.block 3 (q [(q [(.reg [o 43 (m 1),o 44 (m 10),o 45 (b .shr 43 44),o 46 (bc .rem 45 (n 2)),o 47 (bc .eql 46 (n 1)),o 48 (m 47),g 49 48 true (m 2),o 50 (pf 48 49)]),
 (i 50 (.reg [o 51 (m 9),o 52 (f 2 3),o 53 (l 52),o 54 (m 10),o 55 (ia 1 53 54),o 56 (l 55),o 57 (m 8),o 58 (ia 1 56 57),o 59 (l 58),o 60 (b .and 51 59),o 9 (m 60)]) .skip)]),
 (.reg [o 61 (m 1),o 62 (m 10),o 63 (b .shr 61 62),o 64 (bc .rem 63 (n 2)),o 65 (bc .eql 64 (n 1)),o 66 (m 65),g 67 66 true (m 2),g 68 66 true (.un .not (t 67)),o 69 (pf 66 68)]),
 (i 69 (.reg [o 70 (m 9),o 71 (f 2 3),o 72 (l 71),o 73 (m 10),o 74 (ia 1 72 73),o 75 (l 74),o 76 (m 8),o 77 (ia 1 75 76),o 78 (l 77),o 79 (b .or 70 78),o 9 (m 79)]) .skip)])),
 (.reg [o 41 (m 10),o 42 (bc .add 41 (n 1)),o 10 (m 42)])])))]),
 (.reg [o 80 (m 7),o 81 (m 9),o 82 (.bslice 1 1 [(u 0)] [(0,(t 81))]),o 83 (.app 1 8 (t 80) (t 82)),o 7 (m 83)])])),
 (.reg [o 30 (m 8),o 31 (bc .add 30 (n 1)),o 8 (m 31)])])))]),
 (.reg [o 84 (m 7),o 6 (m 84)]),
 .ret])⟩
def c_wittingref17_Paths:CFn:=⟨40,[.tmp 8],(q [(.reg [o 8 (.mv (c (u 0)))]),
 (.reg [o 12 (m 0),o 13 (m 2),o 14 (ia 1 12 13),o 15 (l 14),o 16 (m 3),o 17 (b .and 15 16),o 9 (m 17)]),
 (q [(.reg [o 10 (.mv (c (n 0)))]),
 (.block 0 (.loop (q [(q [(.reg [o 18 (m 10),o 19 (m 1),o 20 (b .lss 18 19)]),
 (i 20 .skip (.exit 0))]),
 (.block 1 (q [(.reg [o 11 (.mv (c (n 0)))]),
 (.block 2 (.loop (q [(q [(.reg [o 23 (m 11),o 24 (m 1),o 25 (b .lss 23 24)]),
 (i 25 .skip (.exit 2))]),
 (.block 3 (q [(.reg [o 28 (m 9),o 29 (m 11),o 30 (.call 40 [(t 28),(t 29)])]),
 (i 30 (.reg [o 31 (m 9),o 32 (m 0),o 33 (m 11),o 34 (ia 1 32 33),o 35 (l 34),o 36 (m 3),o 37 (b .and 35 36),o 38 (b .or 31 37),o 9 (m 38)]) .skip)])),
 (.reg [o 26 (m 11),o 27 (bc .add 26 (n 1)),o 11 (m 27)])])))])),
 (.reg [o 21 (m 10),o 22 (bc .add 21 (n 1)),o 10 (m 22)])])))]),
 (.reg [o 39 (m 9),o 8 (m 39)]),
 .ret])⟩
def c_formula_compact_1:CFn:=⟨68,[.tmp 7],(q [(.reg [o 7 (.mv (c (n 0)))]),
 (q [(.reg [o 16 (l 1),o 17 (m 0),o 18 (.look (.int .i64) [(n 0)] (t 16) (t 17) true),o 15 (m 18),o 19 (e 15 0),o 20 (e 15 1),o 8 (m 19),o 9 (m 20)]),
 (.reg [o 21 (m 9)]),
 (i 21 (q [(.reg [o 22 (m 8),o 7 (m 22)]),
 .ret]) .skip)]),
 (.reg [o 23 (l 2),o 24 (m 0),o 25 (ia 6 23 24),o 26 (la 6 25),o 10 (.alloc [(n 0),(n 0),(n 0),(n 0),(n 0),(n 0)]),w (.store 6 (t 10) (t 26))]),
 (.reg [o 28 (f 0 10),o 29 (l 28),o 30 (.call 78 [(t 29)]),o 27 (m 30),o 31 (e 27 0),o 32 (e 27 1),o 11 (.alloc [.bf,.bf,.bf,.bf,.bf,.bf,(n 0)]),w (.store 7 (t 11) (t 31)),o 12 (m 32)]),
 (q [(.reg [o 33 (f 0 11),o 34 (l 33)]),
 (i 34 (.reg [o 35 (l 3),o 36 (f 4 10),o 37 (l 36),o 38 (.callv (t 35) [(t 37)]),o 39 (f 4 10),w (.store 1 (t 39) (t 38))]) .skip)]),
 (q [(.reg [o 40 (f 1 11),o 41 (l 40)]),
 (i 41 (.reg [o 42 (l 3),o 43 (f 5 10),o 44 (l 43),o 45 (.callv (t 42) [(t 44)]),o 46 (f 5 10),w (.store 1 (t 46) (t 45))]) .skip)]),
 (.reg [o 48 (l 4),o 49 (la 6 10),o 50 (.look (.agg [(.int .i64),(.int .i64),(.int .i64),(.int .i64),(.int .i64),(.int .i64)]) [(n 0)] (t 48) (t 49) true),o 47 (m 50),o 51 (e 47 0),o 52 (e 47 1),o 13 (m 51),o 14 (m 52)]),
 (q [(.reg [o 53 (m 14),o 54 (.un .not (t 53))]),
 (i 54 (q [(.reg [o 55 (l 5),o 56 (ln 55),o 13 (m 56)]),
 (.reg [o 57 (l 5),o 58 (la 6 10),o 59 (.bslice 6 1 [(n 0),(n 0),(n 0),(n 0),(n 0),(n 0)] [(0,(t 58))]),o 60 (.app 6 48 (t 57) (t 59)),w (.store 1 (t 5) (t 60))]),
 (.reg [o 61 (l 4),o 62 (la 6 10),o 63 (m 13),w (.mupd (.agg [(.int .i64),(.int .i64),(.int .i64),(.int .i64),(.int .i64),(.int .i64)]) (t 61) (t 62) (t 63))])]) .skip)]),
 (.reg [o 64 (l 1),o 65 (m 0),o 66 (m 13),w (.mupd (.int .i64) (t 64) (t 65) (t 66))]),
 (.reg [o 67 (m 13),o 7 (m 67)]),
 .ret])⟩
def c_plaus_bestOf:CFn:=⟨43,[.tmp 4],(q [(.reg [o 4 (.mv (c (u 0)))]),
 (.reg [o 5 (.mv (c (u 0))),o 6 (.mv (c (n 0)))]),
 (q [(.reg [o 9 (m 0),o 10 (ln 9),o 11 (.mv (c (n 0)))]),
 (.block 0 (.loop (q [(.reg [o 12 (b .lss 11 10)]),
 (i 12 .skip (.exit 0)),
 (.block 1 (q [(.reg [o 13 (m 11),o 14 (ia 1 9 11),o 15 (l 14),o 7 (m 13),o 8 (m 15)]),
 (.block 2 (q [(.reg [o 17 (m 1),o 18 (m 7),o 19 (b .shr 17 18),o 20 (bc .and 19 (u 1)),o 21 (bc .eql 20 (u 0)),o 16 (m 21)]),
 (i 16 .skip (q [(.reg [o 23 (m 5),o 24 (bc .eql 23 (u 0)),o 25 (m 24),g 26 25 false (m 8),g 27 25 false (m 6),g 28 25 false (b .lss 26 27),o 29 (pt 25 28),o 22 (m 29)]),
 (i 22 (.reg [o 30 (m 7),o 31 (.bin .shl (c (u 1)) (t 30)),o 32 (m 8),o 5 (m 31),o 6 (m 32)]) (q [(.reg [o 34 (m 8),o 35 (m 6),o 36 (b .eql 34 35),o 33 (m 36)]),
 (i 33 (.reg [o 37 (m 5),o 38 (m 7),o 39 (.bin .shl (c (u 1)) (t 38)),o 40 (b .or 37 39),o 5 (m 40)]) .skip)]))]))]))])),
 (.reg [o 41 (bc .add 11 (n 1)),o 11 (m 41)])])))]),
 (.reg [o 42 (m 5),o 4 (m 42)]),
 .ret])⟩
def c_slices_pdqsortOrdered_int_:CFn:=⟨134,[],(q [(.reg [o 8 (.mv (c .bt))]),
 (.reg [o 9 (.mv (c .bt))]),
 (.block 0 (.loop (.block 1 (q [(.reg [o 19 (m 2),o 20 (m 1),o 21 (b .sub 19 20),o 10 (m 21)]),
 (q [(.reg [o 22 (m 10),o 23 (bc .leq 22 (n 12))]),
 (i 23 (q [(.reg [o 24 (m 0),o 25 (m 1),o 26 (m 2),o 27 (.call 106 [(t 24),(t 25),(t 26)])]),
 .ret]) .skip)]),
 (q [(.reg [o 28 (m 3),o 29 (bc .eql 28 (n 0))]),
 (i 29 (q [(.reg [o 30 (m 0),o 31 (m 1),o 32 (m 2),o 33 (.call 107 [(t 30),(t 31),(t 32)])]),
 .ret]) .skip)]),
 (q [(.reg [o 34 (m 8),o 35 (.un .not (t 34))]),
 (i 35 (q [(.reg [o 36 (m 0),o 37 (m 1),o 38 (m 2),o 39 (.call 108 [(t 36),(t 37),(t 38)])]),
 (.reg [o 40 (m 3),o 41 (bc .sub 40 (n 1)),o 3 (m 41)])]) .skip)]),
 (.reg [o 43 (m 0),o 44 (m 1),o 45 (m 2),o 46 (.call 109 [(t 43),(t 44),(t 45)]),o 42 (m 46),o 47 (e 42 0),o 48 (e 42 1),o 11 (m 47),o 12 (m 48)]),
 (q [(.reg [o 49 (m 12),o 50 (bc .eql 49 (n 2))]),
 (i 50 (q [(.reg [o 51 (m 0),o 52 (m 1),o 53 (m 2),o 54 (.call 110 [(t 51),(t 52),(t 53)])]),
 (.reg [o 55 (m 2),o 56 (bc .sub 55 (n 1)),o 57 (m 11),o 58 (m 1),o 59 (b .sub 57 58),o 60 (b .sub 56 59),o 11 (m 60)]),
 (.reg [o 12 (.mv (c (n 1)))])]) .skip)]),
 (q [(.reg [o 61 (m 8),o 62 (m 61),g 63 62 true (m 9),o 64 (pf 62 63),o 65 (m 64),g 66 65 true (m 12),g 67 65 true (bc .eql 66 (n 1)),o 68 (pf 65 67)]),
 (i 68 (q [(.reg [o 69 (m 0),o 70 (m 1),o 71 (m 2),o 72 (.call 111 [(t 69),(t 70),(t 71)])]),
 (i 72 .ret .skip)]) .skip)]),
 (q [(.regd [o 73 (m 1),o 74 (bc .gtr 73 (n 0)),o 75 (m 74),g 76 75 true (m 0),g 77 75 true (m 1),g 78 75 true (bc .sub 77 (n 1)),g 79 75 true (ia 1 76 78),g 80 75 true (l 79),g 81 75 true (m 0),g 82 75 true (m 11),g 83 75 true (ia 1 81 82),g 84 75 true (l 83),g 85 75 true (.call 112 [(t 80),(t 84)]),g 86 75 true (.un .not (t 85)),o 87 (pf 75 86)] [0,1,3,7,7,23,63,127,7,7,775,1799,4095,8191,16383]),
 (i 87 (q [(.reg [o 88 (m 0),o 89 (m 1),o 90 (m 2),o 91 (m 11),o 92 (.call 113 [(t 88),(t 89),(t 90),(t 91)]),o 13 (m 92)]),
 (.reg [o 93 (m 13),o 1 (m 93)]),
 (.exit 1)]) .skip)]),
 (.reg [o 95 (m 0),o 96 (m 1),o 97 (m 2),o 98 (m 11),o 99 (.call 114 [(t 95),(t 96),(t 97),(t 98)]),o 94 (m 99),o 100 (e 94 0),o 101 (e 94 1),o 14 (m 100),o 15 (m 101)]),
 (.reg [o 102 (m 15),o 9 (m 102)]),
 (.reg [o 103 (m 14),o 104 (m 1),o 105 (b .sub 103 104),o 106 (m 2),o 107 (m 14),o 108 (b .sub 106 107),o 16 (m 105),o 17 (m 108)]),
 (.reg [o 109 (m 10),o 110 (bc .quo 109 (n 8)),o 18 (m 110)]),
 (.reg [o 111 (m 16),o 112 (m 17),o 113 (b .lss 111 112)]),
 (i 113 (q [(.reg [o 114 (m 16),o 115 (m 18),o 116 (b .geq 114 115),o 8 (m 116)]),
 (.reg [o 117 (m 0),o 118 (m 1),o 119 (m 14),o 120 (m 3),o 121 (.call 102 [(t 117),(t 118),(t 119),(t 120)])]),
 (.reg [o 122 (m 14),o 123 (bc .add 122 (n 1)),o 1 (m 123)])]) (q [(.reg [o 124 (m 17),o 125 (m 18),o 126 (b .geq 124 125),o 8 (m 126)]),
 (.reg [o 127 (m 0),o 128 (m 14),o 129 (bc .add 128 (n 1)),o 130 (m 2),o 131 (m 3),o 132 (.call 102 [(t 127),(t 129),(t 130),(t 131)])]),
 (.reg [o 133 (m 14),o 2 (m 133)])]))]))))])⟩
def c_math_bits_Len:CFn:=⟨8,[.tmp 2],(q [(.reg [o 2 (.mv (c (n 0)))]),
 (.cond (c .bf) (q [(.reg [o 3 (m 0),o 4 (.conv .u32 (t 3)),o 5 (.call 115 [(t 4)]),o 2 (m 5)]),
 .ret]) .skip),
 (.reg [o 6 (m 0),o 7 (.call 116 [(t 6)]),o 2 (m 7)]),
 .ret])⟩
def c_wittingref05_put:CFn:=⟨41,[.tmp 4],(q [(.reg [o 3 (.box 6 (t 1)),o 4 (.mv (c (n 0)))]),
 (q [(.reg [o 5 (.mv (c (n 0)))]),
 (.block 0 (.loop (q [(q [(.reg [o 6 (m 5),o 7 (m 0),o 8 (.nilck (t 7)),o 9 (f 0 8),o 10 (l 9),o 11 (ln 10),o 12 (b .lss 6 11)]),
 (i 12 .skip (.exit 0))]),
 (.block 1 (q [(.regd [o 15 (m 0),o 16 (.nilck (t 15)),o 17 (f 0 16),o 18 (l 17),o 19 (m 5),o 20 (ia 6 18 19),o 21 (la 6 20),o 22 (la 6 3),o 23 (.eqS false [(.int .i64),(.int .i64),(.int .i64),(.int .i64),(.int .i64),(.int .i64)] (t 21) (t 22))] [0,1,3,7,0,31,63,0,255]),
 (i 23 (q [(.reg [o 24 (m 5),o 4 (m 24)]),
 .ret]) .skip)])),
 (.reg [o 13 (m 5),o 14 (bc .add 13 (n 1)),o 5 (m 14)])])))]),
 (.regd [o 25 (m 0),o 26 (m 0),o 27 (.nilck (t 26)),o 28 (f 0 27),o 29 (l 28),o 30 (la 6 3),o 31 (.bslice 6 1 [(n 0),(n 0),(n 0),(n 0),(n 0),(n 0)] [(0,(t 30))]),o 32 (.app 6 48 (t 29) (t 31)),o 33 (.nilck (t 25)),o 34 (f 0 33),w (.store 1 (t 34) (t 32))] [0,0,2,6,14,0,32,126,255,511,1023]),
 (.reg [o 35 (m 0),o 36 (.nilck (t 35)),o 37 (f 0 36),o 38 (l 37),o 39 (ln 38),o 40 (bc .sub 39 (n 1)),o 4 (m 40)]),
 .ret])⟩
def c_wittingref13_Check:CFn:=⟨59,[.tmp 2],(q [(.reg [o 1 (.box 3 (t 0)),o 2 (.mv (c (n 0)))]),
 (q [(.reg [o 5 (f 0 1),o 6 (l 5),o 7 (bc .lss 6 (n 1)),o 8 (m 7),g 9 8 false (f 0 1),g 10 8 false (l 9),g 11 8 false (bc .gtr 10 (n 64)),o 12 (pt 8 11)]),
 (i 12 (q [(.reg [o 2 (.mv (c (n 2)))]),
 .ret]) .skip)]),
 (q [(.reg [o 13 (f 2 1),o 14 (l 13),o 15 (ln 14),o 16 (bc .gtr 15 (n 4)),o 17 (m 16),g 18 17 false (f 1 1),g 19 17 false (l 18),g 20 17 false (ln 19),g 21 17 false (bc .gtr 20 (n 8)),o 22 (pt 17 21)]),
 (i 22 (q [(.reg [o 2 (.mv (c (n 8)))]),
 .ret]) .skip)]),
 (q [(.reg [o 3 (.mv (c (n 0)))]),
 (.block 0 (.loop (q [(q [(.reg [o 23 (m 3),o 24 (f 2 1),o 25 (l 24),o 26 (ln 25),o 27 (b .lss 23 26)]),
 (i 27 .skip (.exit 0))]),
 (.block 1 (q [(.regd [o 30 (f 2 1),o 31 (l 30),o 32 (m 3),o 33 (ia 1 31 32),o 34 (l 33),o 35 (ln 34),o 36 (f 0 1),o 37 (l 36),o 38 (b .neq 35 37)] [0,1,0,7,15,31,0,64,255]),
 (i 38 (q [(.reg [o 2 (.mv (c (n 3)))]),
 .ret]) .skip)])),
 (.reg [o 28 (m 3),o 29 (bc .add 28 (n 1)),o 3 (m 29)])])))]),
 (q [(.reg [o 39 (f 1 1),o 40 (l 39),o 41 (f 0 1),o 42 (l 41),o 43 (.call 117 [(t 40),(t 42)])]),
 (i 43 (q [(.reg [o 2 (.mv (c (n 2)))]),
 .ret]) .skip)]),
 (q [(.reg [o 4 (.mv (c (n 0)))]),
 (.block 2 (.loop (q [(q [(.reg [o 44 (m 4),o 45 (f 2 1),o 46 (l 45),o 47 (ln 46),o 48 (b .lss 44 47)]),
 (i 48 .skip (.exit 2))]),
 (.block 3 (q [(.regd [o 51 (f 2 1),o 52 (l 51),o 53 (m 4),o 54 (ia 1 52 53),o 55 (l 54),o 56 (f 0 1),o 57 (l 56),o 58 (.call 117 [(t 55),(t 57)])] [0,1,0,7,15,0,32,127]),
 (i 58 (q [(.reg [o 2 (.mv (c (n 2)))]),
 .ret]) .skip)])),
 (.reg [o 49 (m 4),o 50 (bc .add 49 (n 1)),o 4 (m 50)])])))]),
 (.reg [o 2 (.mv (c (n 0)))]),
 .ret])⟩
def c_slices_insertionSortOrdered_int_:CFn:=⟨49,[],(q [(.reg [o 8 (m 1),o 9 (bc .add 8 (n 1)),o 6 (m 9)]),
 (.block 0 (.loop (q [(q [(.reg [o 10 (m 6),o 11 (m 2),o 12 (b .lss 10 11)]),
 (i 12 .skip (.exit 0))]),
 (.block 1 (q [(.reg [o 15 (m 6),o 7 (m 15)]),
 (.block 2 (.loop (q [(q [(.regd [o 16 (m 7),o 17 (m 1),o 18 (b .gtr 16 17),o 19 (m 18),g 20 19 true (m 0),g 21 19 true (m 7),g 22 19 true (ia 1 20 21),g 23 19 true (l 22),g 24 19 true (m 0),g 25 19 true (m 7),g 26 19 true (bc .sub 25 (n 1)),g 27 19 true (ia 1 24 26),g 28 19 true (l 27),g 29 19 true (.call 112 [(t 23),(t 28)]),o 30 (pf 19 29)] [0,0,3,7,15,15,63,127,15,15,527,1807,3855,8191,16383]),
 (i 30 .skip (.exit 2))]),
 (.block 3 (.regd [o 33 (m 0),o 34 (m 7),o 35 (m 0),o 36 (m 7),o 37 (bc .sub 36 (n 1)),o 38 (m 0),o 39 (m 7),o 40 (bc .sub 39 (n 1)),o 41 (ia 1 38 40),o 42 (l 41),o 43 (m 0),o 44 (m 7),o 45 (ia 1 43 44),o 46 (l 45),o 47 (ia 1 33 34),w (.store 1 (t 47) (t 42)),o 48 (ia 1 35 37),w (.store 1 (t 48) (t 46))] [0,0,0,0,8,0,0,64,224,480,0,0,3072,7168,16355,32739,65535,131071])),
 (.reg [o 31 (m 7),o 32 (bc .sub 31 (n 1)),o 7 (m 32)])])))])),
 (.reg [o 13 (m 6),o 14 (bc .add 13 (n 1)),o 6 (m 14)])])))])⟩
def c_slices_heapSortOrdered_int_:CFn:=⟨56,[],(q [(.reg [o 11 (m 1),o 6 (m 11)]),
 (.reg [o 7 (.mv (c (n 0)))]),
 (.reg [o 12 (m 2),o 13 (m 1),o 14 (b .sub 12 13),o 8 (m 14)]),
 (q [(.reg [o 15 (m 8),o 16 (bc .sub 15 (n 1)),o 17 (bc .quo 16 (n 2)),o 9 (m 17)]),
 (.block 0 (.loop (q [(q [(.reg [o 18 (m 9),o 19 (bc .geq 18 (n 0))]),
 (i 19 .skip (.exit 0))]),
 (.block 1 (.reg [o 22 (m 0),o 23 (m 9),o 24 (m 8),o 25 (m 6),o 26 (.call 118 [(t 22),(t 23),(t 24),(t 25)])])),
 (.reg [o 20 (m 9),o 21 (bc .sub 20 (n 1)),o 9 (m 21)])])))]),
 (.reg [o 27 (m 8),o 28 (bc .sub 27 (n 1)),o 10 (m 28)]),
 (.block 2 (.loop (q [(q [(.reg [o 29 (m 10),o 30 (bc .geq 29 (n 0))]),
 (i 30 .skip (.exit 2))]),
 (.block 3 (q [(.regd [o 33 (m 0),o 34 (m 6),o 35 (m 0),o 36 (m 6),o 37 (m 10),o 38 (b .add 36 37),o 39 (m 0),o 40 (m 6),o 41 (m 10),o 42 (b .add 40 41),o 43 (ia 1 39 42),o 44 (l 43),o 45 (m 0),o 46 (m 6),o 47 (ia 1 45 46),o 48 (l 47),o 49 (ia 1 33 34),w (.store 1 (t 49) (t 44)),o 50 (ia 1 35 38),w (.store 1 (t 50) (t 48))] [0,0,0,0,0,24,0,0,0,384,960,1984,0,0,12288,28672,65475,131011,262143,524287]),
 (.reg [o 51 (m 0),o 52 (m 7),o 53 (m 10),o 54 (m 6),o 55 (.call 118 [(t 51),(t 52),(t 53),(t 54)])])])),
 (.reg [o 31 (m 10),o 32 (bc .sub 31 (n 1)),o 10 (m 32)])])))])⟩
def c_slices_breakPatternsOrdered_int_:CFn:=⟨65,[],(q [(.reg [o 11 (m 2),o 12 (m 1),o 13 (b .sub 11 12),o 6 (m 13)]),
 (.reg [o 14 (m 6),o 15 (bc .geq 14 (n 8))]),
 (i 15 (q [(.reg [o 16 (m 6),o 17 (.conv .u64 (t 16)),o 7 (.alloc [(u 0)]),w (.store 1 (t 7) (t 17))]),
 (.reg [o 18 (m 6),o 19 (.call 119 [(t 18)]),o 8 (m 19)]),
 (.reg [o 20 (m 1),o 21 (m 6),o 22 (bc .quo 21 (n 4)),o 23 (bc .mul 22 (n 2)),o 24 (b .add 20 23),o 25 (bc .sub 24 (n 1)),o 9 (m 25)]),
 (.block 0 (.loop (q [(q [(.reg [o 26 (m 9),o 27 (m 1),o 28 (m 6),o 29 (bc .quo 28 (n 4)),o 30 (bc .mul 29 (n 2)),o 31 (b .add 27 30),o 32 (bc .add 31 (n 1)),o 33 (b .leq 26 32)]),
 (i 33 .skip (.exit 0))]),
 (.block 1 (q [(.reg [o 36 (.call 120 [(t 7)]),o 37 (m 8),o 38 (bc .sub 37 (u 1)),o 39 (b .and 36 38),o 40 (.conv .i64 (t 39)),o 10 (m 40)]),
 (q [(.reg [o 41 (m 10),o 42 (m 6),o 43 (b .geq 41 42)]),
 (i 43 (.reg [o 44 (m 10),o 45 (m 6),o 46 (b .sub 44 45),o 10 (m 46)]) .skip)]),
 (.regd [o 47 (m 0),o 48 (m 9),o 49 (m 0),o 50 (m 1),o 51 (m 10),o 52 (b .add 50 51),o 53 (m 0),o 54 (m 1),o 55 (m 10),o 56 (b .add 54 55),o 57 (ia 1 53 56),o 58 (l 57),o 59 (m 0),o 60 (m 9),o 61 (ia 1 59 60),o 62 (l 61),o 63 (ia 1 47 48),w (.store 1 (t 63) (t 58)),o 64 (ia 1 49 52),w (.store 1 (t 64) (t 62))] [0,0,0,0,0,24,0,0,0,384,960,1984,0,0,12288,28672,65475,131011,262143,524287])])),
 (.reg [o 34 (m 9),o 35 (bc .add 34 (n 1)),o 9 (m 35)])])))]) .skip)])⟩
def c_slices_choosePivotOrdered_int_:CFn:=⟨57,[.tmp 6,.tmp 7],(q [(.reg [o 6 (.mv (c (n 0))),o 7 (.mv (c (n 0)))]),
 (.reg [o 13 (m 2),o 14 (m 1),o 15 (b .sub 13 14),o 8 (m 15)]),
 (.reg [o 9 (.alloc [(n 0)])]),
 (.reg [o 16 (m 1),o 17 (m 8),o 18 (bc .quo 17 (n 4)),o 19 (bc .mul 18 (n 1)),o 20 (b .add 16 19),o 10 (m 20)]),
 (.reg [o 21 (m 1),o 22 (m 8),o 23 (bc .quo 22 (n 4)),o 24 (bc .mul 23 (n 2)),o 25 (b .add 21 24),o 11 (m 25)]),
 (.reg [o 26 (m 1),o 27 (m 8),o 28 (bc .quo 27 (n 4)),o 29 (bc .mul 28 (n 3)),o 30 (b .add 26 29),o 12 (m 30)]),
 (q [(.reg [o 31 (m 8),o 32 (bc .geq 31 (n 8))]),
 (i 32 (q [(q [(.reg [o 33 (m 8),o 34 (bc .geq 33 (n 50))]),
 (i 34 (q [(.reg [o 35 (m 0),o 36 (m 10),o 37 (.call 121 [(t 35),(t 36),(t 9)]),o 10 (m 37)]),
 (.reg [o 38 (m 0),o 39 (m 11),o 40 (.call 121 [(t 38),(t 39),(t 9)]),o 11 (m 40)]),
 (.reg [o 41 (m 0),o 42 (m 12),o 43 (.call 121 [(t 41),(t 42),(t 9)]),o 12 (m 43)])]) .skip)]),
 (.reg [o 44 (m 0),o 45 (m 10),o 46 (m 11),o 47 (m 12),o 48 (.call 122 [(t 44),(t 45),(t 46),(t 47),(t 9)]),o 11 (m 48)])]) .skip)]),
 (.reg [o 49 (l 9)]),
 (.block 0 (q [(.reg [o 52 (bc .eql 49 (n 0)),o 51 (m 52)]),
 (i 51 (q [(.reg [o 53 (m 11),o 6 (m 53),o 7 (.mv (c (n 1)))]),
 .ret]) (q [(.reg [o 55 (bc .eql 49 (n 12)),o 54 (m 55)]),
 (i 54 (q [(.reg [o 56 (m 11),o 6 (m 56),o 7 (.mv (c (n 2)))]),
 .ret]) (q [(.reg [o 50 (m 11),o 6 (m 50),o 7 (.mv (c (n 0)))]),
 .ret]))]))]))])⟩
def c_slices_reverseRangeOrdered_int_:CFn:=⟨32,[],(q [(.reg [o 8 (m 1),o 6 (m 8)]),
 (.reg [o 9 (m 2),o 10 (bc .sub 9 (n 1)),o 7 (m 10)]),
 (.block 0 (.loop (q [(q [(.reg [o 11 (m 6),o 12 (m 7),o 13 (b .lss 11 12)]),
 (i 13 .skip (.exit 0))]),
 (.block 1 (q [(.regd [o 14 (m 0),o 15 (m 6),o 16 (m 0),o 17 (m 7),o 18 (m 0),o 19 (m 7),o 20 (ia 1 18 19),o 21 (l 20),o 22 (m 0),o 23 (m 6),o 24 (ia 1 22 23),o 25 (l 24),o 26 (ia 1 14 15),w (.store 1 (t 26) (t 21)),o 27 (ia 1 16 17),w (.store 1 (t 27) (t 25))] [0,0,0,0,0,0,48,112,0,0,768,1792,4083,8179,16383,32767]),
 (.reg [o 28 (m 6),o 29 (bc .add 28 (n 1)),o 6 (m 29)]),
 (.reg [o 30 (m 7),o 31 (bc .sub 30 (n 1)),o 7 (m 31)])]))])))])⟩
def c_slices_partialInsertionSortOrdered_int_:CFn:=⟨133,[.tmp 6],(q [(.reg [o 6 (.mv (c .bf))]),
 (.reg [o 11 (m 1),o 12 (bc .add 11 (n 1)),o 7 (m 12)]),
 (q [(.reg [o 8 (.mv (c (n 0)))]),
 (.block 0 (.loop (q [(q [(.reg [o 13 (m 8),o 14 (bc .lss 13 (n 5))]),
 (i 14 .skip (.exit 0))]),
 (.block 1 (q [(.block 2 (.loop (q [(q [(.regd [o 17 (m 7),o 18 (m 2),o 19 (b .lss 17 18),o 20 (m 19),g 21 20 true (m 0),g 22 20 true (m 7),g 23 20 true (ia 1 21 22),g 24 20 true (l 23),g 25 20 true (m 0),g 26 20 true (m 7),g 27 20 true (bc .sub 26 (n 1)),g 28 20 true (ia 1 25 27),g 29 20 true (l 28),g 30 20 true (.call 112 [(t 24),(t 29)]),g 31 20 true (.un .not (t 30)),o 32 (pf 20 31)] [0,0,3,7,15,15,63,127,15,15,527,1807,3855,8191,16383,32767]),
 (i 32 .skip (.exit 2))]),
 (.block 3 (.reg [o 33 (m 7),o 34 (bc .add 33 (n 1)),o 7 (m 34)]))]))),
 (q [(.reg [o 35 (m 7),o 36 (m 2),o 37 (b .eql 35 36)]),
 (i 37 (q [(.reg [o 6 (.mv (c .bt))]),
 .ret]) .skip)]),
 (q [(.reg [o 38 (m 2),o 39 (m 1),o 40 (b .sub 38 39),o 41 (bc .lss 40 (n 50))]),
 (i 41 (q [(.reg [o 6 (.mv (c .bf))]),
 .ret]) .skip)]),
 (.regd [o 42 (m 0),o 43 (m 7),o 44 (m 0),o 45 (m 7),o 46 (bc .sub 45 (n 1)),o 47 (m 0),o 48 (m 7),o 49 (bc .sub 48 (n 1)),o 50 (ia 1 47 49),o 51 (l 50),o 52 (m 0),o 53 (m 7),o 54 (ia 1 52 53),o 55 (l 54),o 56 (ia 1 42 43),w (.store 1 (t 56) (t 51)),o 57 (ia 1 44 46),w (.store 1 (t 57) (t 55))] [0,0,0,0,8,0,0,64,224,480,0,0,3072,7168,16355,32739,65535,131071]),
 (q [(.reg [o 58 (m 7),o 59 (m 1),o 60 (b .sub 58 59),o 61 (bc .geq 60 (n 2))]),
 (i 61 (q [(.reg [o 62 (m 7),o 63 (bc .sub 62 (n 1)),o 9 (m 63)]),
 (.block 4 (.loop (q [(q [(.reg [o 64 (m 9),o 65 (bc .geq 64 (n 1))]),
 (i 65 .skip (.exit 4))]),
 (.block 5 (q [(q [(.regd [o 68 (m 0),o 69 (m 9),o 70 (ia 1 68 69),o 71 (l 70),o 72 (m 0),o 73 (m 9),o 74 (bc .sub 73 (n 1)),o 75 (ia 1 72 74),o 76 (l 75),o 77 (.call 112 [(t 71),(t 76)]),o 78 (.un .not (t 77))] [0,0,3,7,0,0,32,112,240,511,1023]),
 (i 78 (.exit 4) .skip)]),
 (.regd [o 79 (m 0),o 80 (m 9),o 81 (m 0),o 82 (m 9),o 83 (bc .sub 82 (n 1)),o 84 (m 0),o 85 (m 9),o 86 (bc .sub 85 (n 1)),o 87 (ia 1 84 86),o 88 (l 87),o 89 (m 0),o 90 (m 9),o 91 (ia 1 89 90),o 92 (l 91),o 93 (ia 1 79 80),w (.store 1 (t 93) (t 88)),o 94 (ia 1 81 83),w (.store 1 (t 94) (t 92))] [0,0,0,0,8,0,0,64,224,480,0,0,3072,7168,16355,32739,65535,131071])])),
 (.reg [o 66 (m 9),o 67 (bc .sub 66 (n 1)),o 9 (m 67)])])))]) .skip)]),
 (.reg [o 95 (m 2),o 96 (m 7),o 97 (b .sub 95 96),o 98 (bc .geq 97 (n 2))]),
 (i 98 (q [(.reg [o 99 (m 7),o 100 (bc .add 99 (n 1)),o 10 (m 100)]),
 (.block 6 (.loop (q [(q [(.reg [o 101 (m 10),o 102 (m 2),o 103 (b .lss 101 102)]),
 (i 103 .skip (.exit 6))]),
 (.block 7 (q [(q [(.regd [o 106 (m 0),o 107 (m 10),o 108 (ia 1 106 107),o 109 (l 108),o 110 (m 0),o 111 (m 10),o 112 (bc .sub 111 (n 1)),o 113 (ia 1 110 112),o 114 (l 113),o 115 (.call 112 [(t 109),(t 114)]),o 116 (.un .not (t 115))] [0,0,3,7,0,0,32,112,240,511,1023]),
 (i 116 (.exit 6) .skip)]),
 (.regd [o 117 (m 0),o 118 (m 10),o 119 (m 0),o 120 (m 10),o 121 (bc .sub 120 (n 1)),o 122 (m 0),o 123 (m 10),o 124 (bc .sub 123 (n 1)),o 125 (ia 1 122 124),o 126 (l 125),o 127 (m 0),o 128 (m 10),o 129 (ia 1 127 128),o 130 (l 129),o 131 (ia 1 117 118),w (.store 1 (t 131) (t 126)),o 132 (ia 1 119 121),w (.store 1 (t 132) (t 130))] [0,0,0,0,8,0,0,64,224,480,0,0,3072,7168,16355,32739,65535,131071])])),
 (.reg [o 104 (m 10),o 105 (bc .add 104 (n 1)),o 10 (m 105)])])))]) .skip)])),
 (.reg [o 15 (m 8),o 16 (bc .add 15 (n 1)),o 8 (m 16)])])))]),
 (.reg [o 6 (.mv (c .bf))]),
 .ret])⟩
def c_cmp_Less_int_:CFn:=⟨17,[.tmp 4],(q [(.reg [o 4 (.mv (c .bf))]),
 (.reg [o 5 (m 0),o 6 (.call 123 [(t 5)]),o 7 (m 6),g 8 7 true (m 1),g 9 7 true (.call 123 [(t 8)]),g 10 7 true (.un .not (t 9)),o 11 (pf 7 10),o 12 (m 11),g 13 12 false (m 0),g 14 12 false (m 1),g 15 12 false (b .lss 13 14),o 16 (pt 12 15),o 4 (m 16)]),
 .ret])⟩
def c_slices_partitionEqualOrdered_int_:CFn:=⟨84,[.tmp 8],(q [(.reg [o 8 (.mv (c (n 0)))]),
 (.regd [o 11 (m 0),o 12 (m 1),o 13 (m 0),o 14 (m 3),o 15 (m 0),o 16 (m 3),o 17 (ia 1 15 16),o 18 (l 17),o 19 (m 0),o 20 (m 1),o 21 (ia 1 19 20),o 22 (l 21),o 23 (ia 1 11 12),w (.store 1 (t 23) (t 18)),o 24 (ia 1 13 14),w (.store 1 (t 24) (t 22))] [0,0,0,0,0,0,48,112,0,0,768,1792,4083,8179,16383,32767]),
 (.reg [o 25 (m 1),o 26 (bc .add 25 (n 1)),o 27 (m 2),o 28 (bc .sub 27 (n 1)),o 9 (m 26),o 10 (m 28)]),
 (.block 0 (.loop (.block 1 (q [(.block 2 (.loop (q [(q [(.regd [o 29 (m 9),o 30 (m 10),o 31 (b .leq 29 30),o 32 (m 31),g 33 32 true (m 0),g 34 32 true (m 1),g 35 32 true (ia 1 33 34),g 36 32 true (l 35),g 37 32 true (m 0),g 38 32 true (m 9),g 39 32 true (ia 1 37 38),g 40 32 true (l 39),g 41 32 true (.call 112 [(t 36),(t 40)]),g 42 32 true (.un .not (t 41)),o 43 (pf 32 42)] [0,0,3,7,15,15,63,127,15,15,783,1807,4095,8191,16383]),
 (i 43 .skip (.exit 2))]),
 (.block 3 (.reg [o 44 (m 9),o 45 (bc .add 44 (n 1)),o 9 (m 45)]))]))),
 (.block 4 (.loop (q [(q [(.regd [o 46 (m 9),o 47 (m 10),o 48 (b .leq 46 47),o 49 (m 48),g 50 49 true (m 0),g 51 49 true (m 1),g 52 49 true (ia 1 50 51),g 53 49 true (l 52),g 54 49 true (m 0),g 55 49 true (m 10),g 56 49 true (ia 1 54 55),g 57 49 true (l 56),g 58 49 true (.call 112 [(t 53),(t 57)]),o 59 (pf 49 58)] [0,0,3,7,15,15,63,127,15,15,783,1807,4095,8191]),
 (i 59 .skip (.exit 4))]),
 (.block 5 (.reg [o 60 (m 10),o 61 (bc .sub 60 (n 1)),o 10 (m 61)]))]))),
 (q [(.reg [o 62 (m 9),o 63 (m 10),o 64 (b .gtr 62 63)]),
 (i 64 (.exit 0) .skip)]),
 (.regd [o 65 (m 0),o 66 (m 9),o 67 (m 0),o 68 (m 10),o 69 (m 0),o 70 (m 10),o 71 (ia 1 69 70),o 72 (l 71),o 73 (m 0),o 74 (m 9),o 75 (ia 1 73 74),o 76 (l 75),o 77 (ia 1 65 66),w (.store 1 (t 77) (t 72)),o 78 (ia 1 67 68),w (.store 1 (t 78) (t 76))] [0,0,0,0,0,0,48,112,0,0,768,1792,4083,8179,16383,32767]),
 (.reg [o 79 (m 9),o 80 (bc .add 79 (n 1)),o 9 (m 80)]),
 (.reg [o 81 (m 10),o 82 (bc .sub 81 (n 1)),o 10 (m 82)])])))),
 (.reg [o 83 (m 9),o 8 (m 83)]),
 .ret])⟩
def c_slices_partitionOrdered_int_:CFn:=⟨168,[.tmp 8,.tmp 9],(q [(.reg [o 8 (.mv (c (n 0))),o 9 (.mv (c .bf))]),
 (.regd [o 12 (m 0),o 13 (m 1),o 14 (m 0),o 15 (m 3),o 16 (m 0),o 17 (m 3),o 18 (ia 1 16 17),o 19 (l 18),o 20 (m 0),o 21 (m 1),o 22 (ia 1 20 21),o 23 (l 22),o 24 (ia 1 12 13),w (.store 1 (t 24) (t 19)),o 25 (ia 1 14 15),w (.store 1 (t 25) (t 23))] [0,0,0,0,0,0,48,112,0,0,768,1792,4083,8179,16383,32767]),
 (.reg [o 26 (m 1),o 27 (bc .add 26 (n 1)),o 28 (m 2),o 29 (bc .sub 28 (n 1)),o 10 (m 27),o 11 (m 29)]),
 (.block 0 (.loop (q [(q [(.regd [o 30 (m 10),o 31 (m 11),o 32 (b .leq 30 31),o 33 (m 32),g 34 33 true (m 0),g 35 33 true (m 10),g 36 33 true (ia 1 34 35),g 37 33 true (l 36),g 38 33 true (m 0),g 39 33 true (m 1),g 40 33 true (ia 1 38 39),g 41 33 true (l 40),g 42 33 true (.call 112 [(t 37),(t 41)]),o 43 (pf 33 42)] [0,0,3,7,15,15,63,127,15,15,783,1807,4095,8191]),
 (i 43 .skip (.exit 0))]),
 (.block 1 (.reg [o 44 (m 10),o 45 (bc .add 44 (n 1)),o 10 (m 45)]))]))),
 (.block 2 (.loop (q [(q [(.regd [o 46 (m 10),o 47 (m 11),o 48 (b .leq 46 47),o 49 (m 48),g 50 49 true (m 0),g 51 49 true (m 11),g 52 49 true (ia 1 50 51),g 53 49 true (l 52),g 54 49 true (m 0),g 55 49 true (m 1),g 56 49 true (ia 1 54 55),g 57 49 true (l 56),g 58 49 true (.call 112 [(t 53),(t 57)]),g 59 49 true (.un .not (t 58)),o 60 (pf 49 59)] [0,0,3,7,15,15,63,127,15,15,783,1807,4095,8191,16383]),
 (i 60 .skip (.exit 2))]),
 (.block 3 (.reg [o 61 (m 11),o 62 (bc .sub 61 (n 1)),o 11 (m 62)]))]))),
 (q [(.reg [o 63 (m 10),o 64 (m 11),o 65 (b .gtr 63 64)]),
 (i 65 (q [(.regd [o 66 (m 0),o 67 (m 11),o 68 (m 0),o 69 (m 1),o 70 (m 0),o 71 (m 1),o 72 (ia 1 70 71),o 73 (l 72),o 74 (m 0),o 75 (m 11),o 76 (ia 1 74 75),o 77 (l 76),o 78 (ia 1 66 67),w (.store 1 (t 78) (t 73)),o 79 (ia 1 68 69),w (.store 1 (t 79) (t 77))] [0,0,0,0,0,0,48,112,0,0,768,1792,4083,8179,16383,32767]),
 (.reg [o 80 (m 11),o 8 (m 80),o 9 (.mv (c .bt))]),
 .ret]) .skip)]),
 (.regd [o 81 (m 0),o 82 (m 10),o 83 (m 0),o 84 (m 11),o 85 (m 0),o 86 (m 11),o 87 (ia 1 85 86),o 88 (l 87),o 89 (m 0),o 90 (m 10),o 91 (ia 1 89 90),o 92 (l 91),o 93 (ia 1 81 82),w (.store 1 (t 93) (t 88)),o 94 (ia 1 83 84),w (.store 1 (t 94) (t 92))] [0,0,0,0,0,0,48,112,0,0,768,1792,4083,8179,16383,32767]),
 (.reg [o 95 (m 10),o 96 (bc .add 95 (n 1)),o 10 (m 96)]),
 (.reg [o 97 (m 11),o 98 (bc .sub 97 (n 1)),o 11 (m 98)]),
 (.block 4 (.loop (.block 5 (q [(.block 6 (.loop (q [(q [(.regd [o 99 (m 10),o 100 (m 11),o 101 (b .leq 99 100),o 102 (m 101),g 103 102 true (m 0),g 104 102 true (m 10),g 105 102 true (ia 1 103 104),g 106 102 true (l 105),g 107 102 true (m 0),g 108 102 true (m 1),g 109 102 true (ia 1 107 108),g 110 102 true (l 109),g 111 102 true (.call 112 [(t 106),(t 110)]),o 112 (pf 102 111)] [0,0,3,7,15,15,63,127,15,15,783,1807,4095,8191]),
 (i 112 .skip (.exit 6))]),
 (.block 7 (.reg [o 113 (m 10),o 114 (bc .add 113 (n 1)),o 10 (m 114)]))]))),
 (.block 8 (.loop (q [(q [(.regd [o 115 (m 10),o 116 (m 11),o 117 (b .leq 115 116),o 118 (m 117),g 119 118 true (m 0),g 120 118 true (m 11),g 121 118 true (ia 1 119 120),g 122 118 true (l 121),g 123 118 true (m 0),g 124 118 true (m 1),g 125 118 true (ia 1 123 124),g 126 118 true (l 125),g 127 118 true (.call 112 [(t 122),(t 126)]),g 128 118 true (.un .not (t 127)),o 129 (pf 118 128)] [0,0,3,7,15,15,63,127,15,15,783,1807,4095,8191,16383]),
 (i 129 .skip (.exit 8))]),
 (.block 9 (.reg [o 130 (m 11),o 131 (bc .sub 130 (n 1)),o 11 (m 131)]))]))),
 (q [(.reg [o 132 (m 10),o 133 (m 11),o 134 (b .gtr 132 133)]),
 (i 134 (.exit 4) .skip)]),
 (.regd [o 135 (m 0),o 136 (m 10),o 137 (m 0),o 138 (m 11),o 139 (m 0),o 140 (m 11),o 141 (ia 1 139 140),o 142 (l 141),o 143 (m 0),o 144 (m 10),o 145 (ia 1 143 144),o 146 (l 145),o 147 (ia 1 135 136),w (.store 1 (t 147) (t 142)),o 148 (ia 1 137 138),w (.store 1 (t 148) (t 146))] [0,0,0,0,0,0,48,112,0,0,768,1792,4083,8179,16383,32767]),
 (.reg [o 149 (m 10),o 150 (bc .add 149 (n 1)),o 10 (m 150)]),
 (.reg [o 151 (m 11),o 152 (bc .sub 151 (n 1)),o 11 (m 152)])])))),
 (.regd [o 153 (m 0),o 154 (m 11),o 155 (m 0),o 156 (m 1),o 157 (m 0),o 158 (m 1),o 159 (ia 1 157 158),o 160 (l 159),o 161 (m 0),o 162 (m 11),o 163 (ia 1 161 162),o 164 (l 163),o 165 (ia 1 153 154),w (.store 1 (t 165) (t 160)),o 166 (ia 1 155 156),w (.store 1 (t 166) (t 164))] [0,0,0,0,0,0,48,112,0,0,768,1792,4083,8179,16383,32767]),
 (.reg [o 167 (m 11),o 8 (m 167),o 9 (.mv (c .bf))]),
 .ret])⟩
def c_wittingref13_beyond:CFn:=⟨20,[.tmp 4],(q [(.reg [o 4 (.mv (c .bf))]),
 (q [(.reg [o 5 (.mv (c (n 0)))]),
 (.block 0 (.loop (q [(q [(.reg [o 6 (m 5),o 7 (m 0),o 8 (ln 7),o 9 (b .lss 6 8)]),
 (i 9 .skip (.exit 0))]),
 (.block 1 (q [(.regd [o 12 (m 0),o 13 (m 5),o 14 (ia 1 12 13),o 15 (l 14),o 16 (m 1),o 17 (.call 72 [(t 16)]),o 18 (b .andNot 15 17),o 19 (bc .neq 18 (u 0))] [0,0,3,7,0,16,63,127]),
 (i 19 (q [(.reg [o 4 (.mv (c .bt))]),
 .ret]) .skip)])),
 (.reg [o 10 (m 5),o 11 (bc .add 10 (n 1)),o 5 (m 11)])])))]),
 (.reg [o 4 (.mv (c .bf))]),
 .ret])⟩
def c_slices_siftDownOrdered_int_:CFn:=⟨76,[],(q [(.reg [o 10 (m 1),o 8 (m 10)]),
 (.block 0 (.loop (.block 1 (q [(.reg [o 11 (m 8),o 12 (.bin .mul (c (n 2)) (t 11)),o 13 (bc .add 12 (n 1)),o 9 (m 13)]),
 (q [(.reg [o 14 (m 9),o 15 (m 2),o 16 (b .geq 14 15)]),
 (i 16 (.exit 0) .skip)]),
 (q [(.regd [o 17 (m 9),o 18 (bc .add 17 (n 1)),o 19 (m 2),o 20 (b .lss 18 19),o 21 (m 20),g 22 21 true (m 0),g 23 21 true (m 3),g 24 21 true (m 9),g 25 21 true (b .add 23 24),g 26 21 true (ia 1 22 25),g 27 21 true (l 26),g 28 21 true (m 0),g 29 21 true (m 3),g 30 21 true (m 9),g 31 21 true (b .add 29 30),g 32 21 true (bc .add 31 (n 1)),g 33 21 true (ia 1 28 32),g 34 21 true (l 33),g 35 21 true (.call 112 [(t 27),(t 34)]),o 36 (pf 21 35)] [0,1,0,7,15,31,31,31,223,511,1023,31,31,31,12319,28703,63519,129055,262143,524287]),
 (i 36 (.reg [o 37 (m 9),o 38 (bc .add 37 (n 1)),o 9 (m 38)]) .skip)]),
 (q [(.regd [o 39 (m 0),o 40 (m 3),o 41 (m 8),o 42 (b .add 40 41),o 43 (ia 1 39 42),o 44 (l 43),o 45 (m 0),o 46 (m 3),o 47 (m 9),o 48 (b .add 46 47),o 49 (ia 1 45 48),o 50 (l 49),o 51 (.call 112 [(t 44),(t 50)]),o 52 (.un .not (t 51))] [0,0,0,6,15,31,0,0,0,384,960,1984,4095,8191]),
 (i 52 .ret .skip)]),
 (.regd [o 53 (m 0),o 54 (m 3),o 55 (m 8),o 56 (b .add 54 55),o 57 (m 0),o 58 (m 3),o 59 (m 9),o 60 (b .add 58 59),o 61 (m 0),o 62 (m 3),o 63 (m 9),o 64 (b .add 62 63),o 65 (ia 1 61 64),o 66 (l 65),o 67 (m 0),o 68 (m 3),o 69 (m 8),o 70 (b .add 68 69),o 71 (ia 1 67 70),o 72 (l 71),o 73 (ia 1 53 56),w (.store 1 (t 73) (t 66)),o 74 (ia 1 57 60),w (.store 1 (t 74) (t 72))] [0,0,0,6,0,0,0,96,0,0,0,1536,3840,7936,0,0,0,98304,245760,507904,1048335,2096911,4194303,8388607]),
 (.reg [o 75 (m 9),o 8 (m 75)])]))))])⟩
def c_slices_nextPowerOfTwo:CFn:=⟨7,[.tmp 2],(q [(.reg [o 2 (.mv (c (u 0)))]),
 (.reg [o 3 (m 0),o 4 (.conv .u64 (t 3)),o 5 (.call 103 [(t 4)]),o 6 (.bin .shl (c (u 1)) (t 5)),o 2 (m 6)]),
 .ret])⟩
def c___slices_xorshift__Next:CFn:=⟨33,[.tmp 2],(q [(.reg [o 2 (.mv (c (u 0)))]),
 (.regd [o 3 (m 0),o 4 (.nilck (t 3)),o 5 (l 4),o 6 (m 0),o 7 (.nilck (t 6)),o 8 (l 7),o 9 (bc .shl 8 (u 13)),o 10 (b .xor 5 9),o 11 (.nilck (t 3)),w (.store 1 (t 11) (t 10))] [0,1,3,0,8,24,56,127,255,511]),
 (.regd [o 12 (m 0),o 13 (.nilck (t 12)),o 14 (l 13),o 15 (m 0),o 16 (.nilck (t 15)),o 17 (l 16),o 18 (bc .shr 17 (u 7)),o 19 (b .xor 14 18),o 20 (.nilck (t 12)),w (.store 1 (t 20) (t 19))] [0,1,3,0,8,24,56,127,255,511]),
 (.regd [o 21 (m 0),o 22 (.nilck (t 21)),o 23 (l 22),o 24 (m 0),o 25 (.nilck (t 24)),o 26 (l 25),o 27 (bc .shl 26 (u 17)),o 28 (b .xor 23 27),o 29 (.nilck (t 21)),w (.store 1 (t 29) (t 28))] [0,1,3,0,8,24,56,127,255,511]),
 (.reg [o 30 (m 0),o 31 (.nilck (t 30)),o 32 (l 31),o 2 (m 32)]),
 .ret])⟩
def c_slices_medianAdjacentOrdered_int_:CFn:=⟨15,[.tmp 6],(q [(.reg [o 6 (.mv (c (n 0)))]),
 (.reg [o 7 (m 0),o 8 (m 1),o 9 (bc .sub 8 (n 1)),o 10 (m 1),o 11 (m 1),o 12 (bc .add 11 (n 1)),o 13 (m 2),o 14 (.call 122 [(t 7),(t 9),(t 10),(t 12),(t 13)]),o 6 (m 14)]),
 .ret])⟩
def c_slices_medianOrdered_int_:CFn:=⟨36,[.tmp 10],(q [(.reg [o 10 (.mv (c (n 0)))]),
 (.reg [o 12 (m 0),o 13 (m 1),o 14 (m 2),o 15 (m 4),o 16 (.call 124 [(t 12),(t 13),(t 14),(t 15)]),o 11 (m 16),o 17 (e 11 0),o 18 (e 11 1),o 1 (m 17),o 2 (m 18)]),
 (.reg [o 20 (m 0),o 21 (m 2),o 22 (m 3),o 23 (m 4),o 24 (.call 124 [(t 20),(t 21),(t 22),(t 23)]),o 19 (m 24),o 25 (e 19 0),o 26 (e 19 1),o 2 (m 25),o 3 (m 26)]),
 (.reg [o 28 (m 0),o 29 (m 1),o 30 (m 2),o 31 (m 4),o 32 (.call 124 [(t 28),(t 29),(t 30),(t 31)]),o 27 (m 32),o 33 (e 27 0),o 34 (e 27 1),o 1 (m 33),o 2 (m 34)]),
 (.reg [o 35 (m 2),o 10 (m 35)]),
 .ret])⟩
def c_cmp_isNaN_int_:CFn:=⟨6,[.tmp 2],(q [(.reg [o 2 (.mv (c .bf))]),
 (.reg [o 3 (m 0),o 4 (m 0),o 5 (b .neq 3 4),o 2 (m 5)]),
 .ret])⟩
def c_slices_order2Ordered_int_:CFn:=⟨28,[.tmp 8,.tmp 9],(q [(.reg [o 8 (.mv (c (n 0))),o 9 (.mv (c (n 0)))]),
 (q [(.regd [o 10 (m 0),o 11 (m 2),o 12 (ia 1 10 11),o 13 (l 12),o 14 (m 0),o 15 (m 1),o 16 (ia 1 14 15),o 17 (l 16),o 18 (.call 112 [(t 13),(t 17)])] [0,0,3,7,0,0,48,112,255]),
 (i 18 (q [(.reg [o 19 (m 3),o 20 (.nilck (t 19)),o 21 (l 20),o 22 (bc .add 21 (n 1)),o 23 (.nilck (t 19)),w (.store 1 (t 23) (t 22))]),
 (.reg [o 24 (m 2),o 25 (m 1),o 8 (m 24),o 9 (m 25)]),
 .ret]) .skip)]),
 (.reg [o 26 (m 1),o 27 (m 2),o 8 (m 26),o 9 (m 27)]),
 .ret])⟩
end Go.Ab
namespace Go.Ab
open Go Go.Proofs
theorem hmix:Tryz.prog.follows .mixedOrders=true:=by kernel_rfl
theorem k_wittinglaw34_awake:compFn Tryz.prog f_wittinglaw34_awake=some c_wittinglaw34_awake:=by kernel_rfl
theorem k_wittinglaw34_few:compFn Tryz.prog f_wittinglaw34_few=some c_wittinglaw34_few:=by kernel_rfl
theorem k_doxastic_Holds:compFn Tryz.prog f_doxastic_Holds=some c_doxastic_Holds:=by kernel_rfl
theorem k_wittingref34_Holds:compFn Tryz.prog f_wittingref34_Holds=some c_wittingref34_Holds:=by kernel_rfl
theorem k_doxastic_At:compFn Tryz.prog f_doxastic_At=some c_doxastic_At:=by kernel_rfl
theorem k_wittingref34_At:compFn Tryz.prog f_wittingref34_At=some c_wittingref34_At:=by kernel_rfl
theorem k_formula_Fact:compFn Tryz.prog f_formula_Fact=some c_formula_Fact:=by kernel_rfl
theorem k_formula_True:compFn Tryz.prog f_formula_True=some c_formula_True:=by kernel_rfl
theorem k_wittinglaw34_holds:compFn Tryz.prog f_wittinglaw34_holds=some c_wittinglaw34_holds:=by kernel_rfl
theorem k_formula_Belief:compFn Tryz.prog f_formula_Belief=some c_formula_Belief:=by kernel_rfl
theorem k_formula_Not:compFn Tryz.prog f_formula_Not=some c_formula_Not:=by kernel_rfl
theorem k_formula_Or:compFn Tryz.prog f_formula_Or=some c_formula_Or:=by kernel_rfl
theorem k_formula_Know:compFn Tryz.prog f_formula_Know=some c_formula_Know:=by kernel_rfl
theorem k_formula_Safe:compFn Tryz.prog f_formula_Safe=some c_formula_Safe:=by kernel_rfl
theorem k_doxastic_Strong:compFn Tryz.prog f_doxastic_Strong=some c_doxastic_Strong:=by kernel_rfl
theorem k_wittinglaw34_example:compFn Tryz.prog f_wittinglaw34_example=some c_wittinglaw34_example:=by kernel_rfl
theorem k_doxastic_Believes:compFn Tryz.prog f_doxastic_Believes=some c_doxastic_Believes:=by kernel_rfl
theorem k_formula_Dist:compFn Tryz.prog f_formula_Dist=some c_formula_Dist:=by kernel_rfl
theorem k_wittingref34_Few:compFn Tryz.prog f_wittingref34_Few=some c_wittingref34_Few:=by kernel_rfl
theorem k_plaus_Check:compFn Tryz.prog f_plaus_Check=some c_plaus_Check:=by kernel_rfl
theorem k_formula_Check:compFn Tryz.prog f_formula_Check=some c_formula_Check:=by kernel_rfl
theorem k_formula_Frags:compFn Tryz.prog f_formula_Frags=some c_formula_Frags:=by kernel_rfl
theorem k_formula_Fits:compFn Tryz.prog f_formula_Fits=some c_formula_Fits:=by kernel_rfl
theorem k_formula_Compact:compFn Tryz.prog f_formula_Compact=some c_formula_Compact:=by kernel_rfl
theorem k_doxastic_value:compFn Tryz.prog f_doxastic_value=some c_doxastic_value:=by kernel_rfl
theorem k_wittingref33_Check:compFn Tryz.prog f_wittingref33_Check=some c_wittingref33_Check:=by kernel_rfl
theorem k_wittingref05_Check:compFn Tryz.prog f_wittingref05_Check=some c_wittingref05_Check:=by kernel_rfl
theorem k_wittingref05_Frags:compFn Tryz.prog f_wittingref05_Frags=some c_wittingref05_Frags:=by kernel_rfl
theorem k_wittingref05_Fits:compFn Tryz.prog f_wittingref05_Fits=some c_wittingref05_Fits:=by kernel_rfl
theorem k_wittingref34_knowledge:compFn Tryz.prog f_wittingref34_knowledge=some c_wittingref34_knowledge:=by kernel_rfl
theorem k_wittingref05_Compact:compFn Tryz.prog f_wittingref05_Compact=some c_wittingref05_Compact:=by kernel_rfl
theorem k_wittingref05_UsesX:compFn Tryz.prog f_wittingref05_UsesX=some c_wittingref05_UsesX:=by kernel_rfl
theorem k_wittingref05_UsesY:compFn Tryz.prog f_wittingref05_UsesY=some c_wittingref05_UsesY:=by kernel_rfl
theorem k_wittingref34_believes:compFn Tryz.prog f_wittingref34_believes=some c_wittingref34_believes:=by kernel_rfl
theorem k_wittingref34_safely:compFn Tryz.prog f_wittingref34_safely=some c_wittingref34_safely:=by kernel_rfl
theorem k_wittingref17_One:compFn Tryz.prog f_wittingref17_One=some c_wittingref17_One:=by kernel_rfl
theorem k_wittingref13_Has:compFn Tryz.prog f_wittingref13_Has=some c_wittingref13_Has:=by kernel_rfl
theorem k_formula_build:compFn Tryz.prog f_formula_build=some c_formula_build:=by kernel_rfl
theorem k_doxastic_request:compFn Tryz.prog f_doxastic_request=some c_doxastic_request:=by kernel_rfl
theorem k_doxastic_where:compFn Tryz.prog f_doxastic_where=some c_doxastic_where:=by kernel_rfl
theorem k_doxastic_Strong_1:compFn Tryz.prog f_doxastic_Strong_1=some c_doxastic_Strong_1:=by kernel_rfl
theorem k_plaus_Cell:compFn Tryz.prog f_plaus_Cell=some c_plaus_Cell:=by kernel_rfl
theorem k_doxastic_believes:compFn Tryz.prog f_doxastic_believes=some c_doxastic_believes:=by kernel_rfl
theorem k_plaus_shape:compFn Tryz.prog f_plaus_shape=some c_plaus_shape:=by kernel_rfl
theorem k_formula_nodeError:compFn Tryz.prog f_formula_nodeError=some c_formula_nodeError:=by kernel_rfl
theorem k_formula_union:compFn Tryz.prog f_formula_union=some c_formula_union:=by kernel_rfl
theorem k_formula_Frags_1:compFn Tryz.prog f_formula_Frags_1=some c_formula_Frags_1:=by kernel_rfl
theorem k_formula_Fits_1:compFn Tryz.prog f_formula_Fits_1=some c_formula_Fits_1:=by kernel_rfl
theorem k_formula_Agents:compFn Tryz.prog f_formula_Agents=some c_formula_Agents:=by kernel_rfl
theorem k_formula_Facts:compFn Tryz.prog f_formula_Facts=some c_formula_Facts:=by kernel_rfl
theorem k_formula_Sub:compFn Tryz.prog f_formula_Sub=some c_formula_Sub:=by kernel_rfl
theorem k_doxastic_all:compFn Tryz.prog f_doxastic_all=some c_doxastic_all:=by kernel_rfl
theorem k_doxastic_knows:compFn Tryz.prog f_doxastic_knows=some c_doxastic_knows:=by kernel_rfl
theorem k_doxastic_every:compFn Tryz.prog f_doxastic_every=some c_doxastic_every:=by kernel_rfl
theorem k_doxastic_common:compFn Tryz.prog f_doxastic_common=some c_doxastic_common:=by kernel_rfl
theorem k_doxastic_safely:compFn Tryz.prog f_doxastic_safely=some c_doxastic_safely:=by kernel_rfl
theorem k_wittingref33_sizes:compFn Tryz.prog f_wittingref33_sizes=some c_wittingref33_sizes:=by kernel_rfl
theorem k_wittingref33_cells:compFn Tryz.prog f_wittingref33_cells=some c_wittingref33_cells:=by kernel_rfl
theorem k_wittingref33_ranked:compFn Tryz.prog f_wittingref33_ranked=some c_wittingref33_ranked:=by kernel_rfl
theorem k_wittingref05_node:compFn Tryz.prog f_wittingref05_node=some c_wittingref05_node:=by kernel_rfl
theorem k_wittingref05_Frag:compFn Tryz.prog f_wittingref05_Frag=some c_wittingref05_Frag:=by kernel_rfl
theorem k_wittingref05_Agents:compFn Tryz.prog f_wittingref05_Agents=some c_wittingref05_Agents:=by kernel_rfl
theorem k_wittingref05_Facts:compFn Tryz.prog f_wittingref05_Facts=some c_wittingref05_Facts:=by kernel_rfl
theorem k_wittingref34_Cell:compFn Tryz.prog f_wittingref34_Cell=some c_wittingref34_Cell:=by kernel_rfl
theorem k_wittingref05_Sub:compFn Tryz.prog f_wittingref05_Sub=some c_wittingref05_Sub:=by kernel_rfl
theorem k_wittingref34_best:compFn Tryz.prog f_wittingref34_best=some c_wittingref34_best:=by kernel_rfl
theorem k_wittingref34_safer:compFn Tryz.prog f_wittingref34_safer=some c_wittingref34_safer:=by kernel_rfl
theorem k_wittingref13_All:compFn Tryz.prog f_wittingref13_All=some c_wittingref13_All:=by kernel_rfl
theorem k_wittingref17_Boolean:compFn Tryz.prog f_wittingref17_Boolean=some c_wittingref17_Boolean:=by kernel_rfl
theorem k_wittingref17_Box:compFn Tryz.prog f_wittingref17_Box=some c_wittingref17_Box:=by kernel_rfl
theorem k_wittingref13_Group:compFn Tryz.prog f_wittingref13_Group=some c_wittingref13_Group:=by kernel_rfl
theorem k_wittingref17_common:compFn Tryz.prog f_wittingref17_common=some c_wittingref17_common:=by kernel_rfl
theorem k_formula_uses:compFn Tryz.prog f_formula_uses=some c_formula_uses:=by kernel_rfl
theorem k_formula_compact:compFn Tryz.prog f_formula_compact=some c_formula_compact:=by kernel_rfl
theorem k_plaus_known:compFn Tryz.prog f_plaus_known=some c_plaus_known:=by kernel_rfl
theorem k_plaus_cellOf:compFn Tryz.prog f_plaus_cellOf=some c_plaus_cellOf:=by kernel_rfl
theorem k_doxastic_believes_1:compFn Tryz.prog f_doxastic_believes_1=some c_doxastic_believes_1:=by kernel_rfl
theorem k_plaus_Best:compFn Tryz.prog f_plaus_Best=some c_plaus_Best:=by kernel_rfl
theorem k_plaus_all:compFn Tryz.prog f_plaus_all=some c_plaus_all:=by kernel_rfl
theorem k_slices_Sort_Lint_int_:compFn Tryz.prog f_slices_Sort_Lint_int_=some c_slices_Sort_Lint_int_:=by kernel_rfl
theorem k_slices_Compact_Lint_int_:compFn Tryz.prog f_slices_Compact_Lint_int_=some c_slices_Compact_Lint_int_:=by kernel_rfl
theorem k_formula_operand:compFn Tryz.prog f_formula_operand=some c_formula_operand:=by kernel_rfl
theorem k_formula_nodeError_1:compFn Tryz.prog f_formula_nodeError_1=some c_formula_nodeError_1:=by kernel_rfl
theorem k_formula_Agents_1:compFn Tryz.prog f_formula_Agents_1=some c_formula_Agents_1:=by kernel_rfl
theorem k_formula_Facts_1:compFn Tryz.prog f_formula_Facts_1=some c_formula_Facts_1:=by kernel_rfl
theorem k_doxastic_knows_1:compFn Tryz.prog f_doxastic_knows_1=some c_doxastic_knows_1:=by kernel_rfl
theorem k_plaus_Weaker:compFn Tryz.prog f_plaus_Weaker=some c_plaus_Weaker:=by kernel_rfl
theorem k_doxastic_safely_1:compFn Tryz.prog f_doxastic_safely_1=some c_doxastic_safely_1:=by kernel_rfl
theorem k_wittingref02_All:compFn Tryz.prog f_wittingref02_All=some c_wittingref02_All:=by kernel_rfl
theorem k_wittingref05_agent:compFn Tryz.prog f_wittingref05_agent=some c_wittingref05_agent:=by kernel_rfl
theorem k_wittingref05_group:compFn Tryz.prog f_wittingref05_group=some c_wittingref05_group:=by kernel_rfl
theorem k_wittingref05_finish:compFn Tryz.prog f_wittingref05_finish=some c_wittingref05_finish:=by kernel_rfl
theorem k_wittingref13_group:compFn Tryz.prog f_wittingref13_group=some c_wittingref13_group:=by kernel_rfl
theorem k_wittingref17_Paths:compFn Tryz.prog f_wittingref17_Paths=some c_wittingref17_Paths:=by kernel_rfl
theorem k_formula_compact_1:compFn Tryz.prog f_formula_compact_1=some c_formula_compact_1:=by kernel_rfl
theorem k_plaus_bestOf:compFn Tryz.prog f_plaus_bestOf=some c_plaus_bestOf:=by kernel_rfl
theorem k_slices_pdqsortOrdered_int_:compFn Tryz.prog f_slices_pdqsortOrdered_int_=some c_slices_pdqsortOrdered_int_:=by kernel_rfl
theorem k_math_bits_Len:compFn Tryz.prog f_math_bits_Len=some c_math_bits_Len:=by kernel_rfl
theorem k_wittingref05_put:compFn Tryz.prog f_wittingref05_put=some c_wittingref05_put:=by kernel_rfl
theorem k_wittingref13_Check:compFn Tryz.prog f_wittingref13_Check=some c_wittingref13_Check:=by kernel_rfl
theorem k_slices_insertionSortOrdered_int_:compFn Tryz.prog f_slices_insertionSortOrdered_int_=some c_slices_insertionSortOrdered_int_:=by kernel_rfl
theorem k_slices_heapSortOrdered_int_:compFn Tryz.prog f_slices_heapSortOrdered_int_=some c_slices_heapSortOrdered_int_:=by kernel_rfl
theorem k_slices_breakPatternsOrdered_int_:compFn Tryz.prog f_slices_breakPatternsOrdered_int_=some c_slices_breakPatternsOrdered_int_:=by kernel_rfl
theorem k_slices_choosePivotOrdered_int_:compFn Tryz.prog f_slices_choosePivotOrdered_int_=some c_slices_choosePivotOrdered_int_:=by kernel_rfl
theorem k_slices_reverseRangeOrdered_int_:compFn Tryz.prog f_slices_reverseRangeOrdered_int_=some c_slices_reverseRangeOrdered_int_:=by kernel_rfl
theorem k_slices_partialInsertionSortOrdered_int_:compFn Tryz.prog f_slices_partialInsertionSortOrdered_int_=some c_slices_partialInsertionSortOrdered_int_:=by kernel_rfl
theorem k_cmp_Less_int_:compFn Tryz.prog f_cmp_Less_int_=some c_cmp_Less_int_:=by kernel_rfl
theorem k_slices_partitionEqualOrdered_int_:compFn Tryz.prog f_slices_partitionEqualOrdered_int_=some c_slices_partitionEqualOrdered_int_:=by kernel_rfl
theorem k_slices_partitionOrdered_int_:compFn Tryz.prog f_slices_partitionOrdered_int_=some c_slices_partitionOrdered_int_:=by kernel_rfl
theorem k_wittingref13_beyond:compFn Tryz.prog f_wittingref13_beyond=some c_wittingref13_beyond:=by kernel_rfl
theorem k_slices_siftDownOrdered_int_:compFn Tryz.prog f_slices_siftDownOrdered_int_=some c_slices_siftDownOrdered_int_:=by kernel_rfl
theorem k_slices_nextPowerOfTwo:compFn Tryz.prog f_slices_nextPowerOfTwo=some c_slices_nextPowerOfTwo:=by kernel_rfl
theorem k___slices_xorshift__Next:compFn Tryz.prog f___slices_xorshift__Next=some c___slices_xorshift__Next:=by kernel_rfl
theorem k_slices_medianAdjacentOrdered_int_:compFn Tryz.prog f_slices_medianAdjacentOrdered_int_=some c_slices_medianAdjacentOrdered_int_:=by kernel_rfl
theorem k_slices_medianOrdered_int_:compFn Tryz.prog f_slices_medianOrdered_int_=some c_slices_medianOrdered_int_:=by kernel_rfl
theorem k_cmp_isNaN_int_:compFn Tryz.prog f_cmp_isNaN_int_=some c_cmp_isNaN_int_:=by kernel_rfl
theorem k_slices_order2Ordered_int_:compFn Tryz.prog f_slices_order2Ordered_int_=some c_slices_order2Ordered_int_:=by kernel_rfl
end Go.Ab
namespace Go.Ab
open Go Go.Proofs
set_option linter.unusedSimpArgs false
set_option linter.unusedVariables false
set_option maxRecDepth 10000
set_option maxHeartbeats 4000000
variable {T:Nat→Obj→Prop}
def allL (n:Int):BitVec 64:=if n ≥ 64 then -1 else (1#64 <<< n.toNat) - 1#64
theorem fn_plaus_all (n:Int) (h:0≤n):Fn Tryz.prog T f_plaus_all [.d (.int .i64 n)] [] (.d (.u64 (allL n))) []:=by
 refine fn_dataR hmix k_plaus_all (by show 1≤8;decide) ?_
 (repeat' ((conv=>whnf);first|refine vA ?_|(refine vF ?_ ?_<;>intro hc<;>try simp only [vL] at hc)|(refine vP ?_ ?_;·omega)|refine vY ?_));all_goals try conv=>whnf
 ·simp [allL, *]
 ·rw [allL,if_neg (by omega)];rfl
theorem fn_ref02_All (n:Int) (h:0≤n):Fn Tryz.prog T f_wittingref02_All [.d (.int .i64 n)] [] (.d (.u64 (allL n))) []:=by
 refine fn_dataR hmix k_wittingref02_All (by show 1≤9;decide) ?_
 (repeat' ((conv=>whnf);first|refine vA ?_|(refine vF ?_ ?_<;>intro hc<;>try simp only [vL] at hc)|refine vY ?_));all_goals try conv=>whnf
 ·simp [allL, *]
 ·rw [allL,if_neg (by omega)]
  have:(BitVec.ofInt 64 n).toNat=n.toNat:=by
   rw [BitVec.toNat_ofInt,Int.emod_eq_of_lt h (by omega)]
  rw [this];rfl
def bad (n:Int) (s:BitVec 64):Bool:=s &&& ~~~ (allL n)≠0
def shapeL (worlds agents:Int) (val:List (BitVec 64)):Int :=
 if worlds < 1∨64 < worlds then 2 else if 8 < val.length∨4 < agents then 8 else if val.any (bad worlds) then 3 else 0
theorem fn_plaus_shape (worlds agents:Int) (val:List (BitVec 64)):Fn Tryz.prog T f_plaus_shape [.d (.int .i64 worlds),.d (.int .i64 agents),.d (dU val)] [] (.d (.int .i64 (shapeL worlds agents val))) []:=by
 refine fn_dataR hmix k_plaus_shape (by show 3≤34;decide) ?_
 (repeat' ((conv=>whnf);first|refine vA ?_|(refine vF ?_ ?_<;>intro hc<;>try simp only [vL] at hc)|refine vJ fun hg=>?_|refine vX ?_));all_goals try conv=>whnf
 ·simp [shapeL, *]
 ·simp [shapeL, *]
 ·rw [shapeL,if_neg (by omega),if_pos (by omega)]
 ·rw [shapeL,if_neg (by omega),if_pos (by omega)]
 ·refine loop_intro (fun (k:Nat)=>[(0,.d (.int .i64 (worlds))),(22,.d (dU val)),(23,.d (.int .i64 ((val.map D.u64).length:Int))),(24,.d (.int .i64 ((k:Int))))]) (fun (k:Nat)=>k≤val.length∧val.any (bad worlds)=(val.drop k).any (bad worlds)) (fun (k:Nat)=>val.length - k) (0) (⟨by simp,by simp⟩) (by (repeat' first|exact trivial|exact rfl|refine And.intro ?_ ?_)) ?_
  rintro k ⟨hk,hI⟩
  (repeat' ((conv=>whnf);first|refine vA ?_|((first|refine vD ?_ ?_|refine vF ?_ ?_)<;>intro hc<;>try simp only [vL] at hc)|(refine vQ ?_ fun x hx=>?_;·omega)|(refine vO ?_ ?_;·omega)|refine vX ?_|(refine yD (fn_plaus_all _ ?_) ⟨⟨rfl,rfl⟩,rfl⟩ rfl ?_;(·omega))|fail));all_goals try conv=>whnf
  ·have hb:bad worlds x=true:=by simpa [bad] using hc
   rw [shapeL,if_neg (by omega),if_neg (by omega),hI,drop_cons hx];simp [hb]
  ·have hb:bad worlds x=false:=by simpa [bad] using hc
   exact ⟨k+1,[],[],⟨by (omega),by rw [hI,drop_cons hx];simp [hb]⟩,by (omega),by (refine ⟨rfl,rfl,rfl,?_,?_⟩;repeat' first|exact trivial|exact rfl|refine And.intro ?_ ?_)⟩
  ·rw [shapeL,if_neg (by omega),if_neg (by omega),hI,List.drop_eq_nil_of_le (by omega)];simp
theorem fn_ref33_sizes (worlds agents:Int) (val:List (BitVec 64)):Fn Tryz.prog T f_wittingref33_sizes [.d (.int .i64 worlds),.d (.int .i64 agents),.d (dU val)] [] (.d (.int .i64 (shapeL worlds agents val))) []:=by
 refine fn_dataR hmix k_wittingref33_sizes (by show 3≤35;decide) ?_
 (repeat' ((conv=>whnf);first|refine vA ?_|(refine vF ?_ ?_<;>intro hc<;>try simp only [vL] at hc)|refine vJ fun hg=>?_|refine vX ?_));all_goals try conv=>whnf
 ·simp [shapeL, *]
 ·simp [shapeL, *]
 ·rw [shapeL,if_neg (by omega),if_pos (by omega)]
 ·rw [shapeL,if_neg (by omega),if_pos (by omega)]
 ·refine loop_intro (fun (k:Nat)=>[(0,.d (.int .i64 (worlds))),(2,.d (dU val)),(7,.d (.int .i64 ((k:Int))))]) (fun (k:Nat)=>k≤val.length∧val.any (bad worlds)=(val.drop k).any (bad worlds)) (fun (k:Nat)=>val.length - k) (0) (⟨by simp,by simp⟩) (by (repeat' first|exact trivial|exact rfl|refine And.intro ?_ ?_)) ?_
  rintro k ⟨hk,hI⟩
  (repeat' ((conv=>whnf);first|refine vA ?_|((first|refine vD ?_ ?_|refine vF ?_ ?_)<;>intro hc<;>try simp only [vL] at hc)|refine vJ fun hg=>?_|(refine vQ ?_ fun x hx=>?_;·omega)|(refine vO ?_ ?_;·omega)|(refine vU ?_ ?_;·kernel_rfl)|refine vX ?_|(refine yD (fn_ref02_All _ ?_) ⟨⟨rfl,rfl⟩,rfl⟩ rfl ?_;(·omega))|fail));all_goals try conv=>whnf
  ·have hb:bad worlds x=true:=by simpa [bad] using hc
   rw [shapeL,if_neg (by omega),if_neg (by omega),hI,drop_cons hx];simp [hb]
  ·have hb:bad worlds x=false:=by simpa [bad] using hc
   exact ⟨k+1,[],[],⟨by (omega),by rw [hI,drop_cons hx];simp [hb]⟩,by (omega),by (refine ⟨rfl,rfl,rfl,?_,?_⟩;repeat' first|exact trivial|exact rfl|refine And.intro ?_ ?_)⟩
  ·rw [shapeL,if_neg (by omega),if_neg (by omega),hI,List.drop_eq_nil_of_le (by omega)];simp
structure PM where
 W:Int
 val:List (BitVec 64)
 cell:List (List Int)
 rank:List (List Int)
 deriving DecidableEq
abbrev dPM (p:PM):D := .agg [.int .i64 p.W,dU p.val,dII p.cell,dII p.rank]
theorem bit_one (s:BitVec 64) (n:Nat):(s >>> n)&&&1#64=1#64↔s.getLsbD n=true:=by
 constructor
 ·intro h
  have:=congrArg (fun x=>x.getLsbD 0) h
  simpa using this
 ·intro h
  apply BitVec.eq_of_getLsbD_eq
  intro i hi
  by_cases h0:i=0
  ·subst h0;simpa using h
  ·simp [h0]
theorem bit_zero (s:BitVec 64) (n:Nat):(s >>> n)&&&1#64=0#64↔s.getLsbD n=false:=by
 constructor
 ·intro h
  have:=congrArg (fun x=>x.getLsbD 0) h
  simpa using this
 ·intro h
  apply BitVec.eq_of_getLsbD_eq
  intro i hi
  by_cases h0:i=0
  ·subst h0;simpa using h
  ·simp [h0]
@[irreducible] def bit (s:BitVec 64) (i:Nat):Bool:=s.getLsbD i
theorem bit_eq (s:BitVec 64) (i:Nat):bit s i=s.getLsbD i:=by unfold bit;rfl
def at0 (l:List Int) (i:Nat):Int:=l.getD i 0
theorem at0_of {l:List Int} {i:Nat} {x:Int} (h:l[i]? = some x):at0 l i=x:=by simp [at0,List.getD,h]
theorem get_at0 {l:List Int} {i:Nat} (h:i < l.length):l[i]? = some (at0 l i):=by simp [at0,List.getD,h]
abbrev Cells (cell:List Int):Prop := ∀ w,w < cell.length→0≤at0 cell w∧at0 cell w≤w∧at0 cell (at0 cell w).toNat=at0 cell w
abbrev Ranked (cell rank:List Int):Prop := ∀ w,w < cell.length→0≤at0 rank w∧(at0 rank w=0 ∨ ∃ v,v < cell.length∧at0 cell v=at0 cell w∧at0 rank v=at0 rank w - 1)
theorem fn_cells (cell:List Int):Fn Tryz.prog T f_wittingref33_cells [.d (dI cell)] [] (.d (.bool (decide (Cells cell)))) []:=by
 refine fn_dataR hmix k_wittingref33_cells (by show 1≤30;decide) ?_
 (repeat' ((conv=>whnf);refine vA ?_));all_goals try conv=>whnf
 refine loop_intro (fun (k:Nat)=>[(0,.d (dI cell)),(3,.d (.int .i64 ((k:Int))))]) (fun (k:Nat)=>k≤cell.length ∧ ∀ w,w < k→0≤at0 cell w∧at0 cell w≤w∧at0 cell (at0 cell w).toNat=at0 cell w) (fun (k:Nat)=>cell.length - k) (0) (⟨by simp,by simp⟩) (by (repeat' first|exact trivial|exact rfl|refine And.intro ?_ ?_)) ?_
 rintro k ⟨hk,hI⟩
 (repeat' ((conv=>whnf);first|refine vA ?_|((first|refine vD ?_ ?_|refine vF ?_ ?_)<;>intro hc<;>try simp only [vL] at hc)|refine vJ fun hg=>?_|(refine vQ ?_ fun x hx=>?_;·omega)|((first|refine vO ?_ ?_|refine vS ?_ fun x hx=>?_);·omega)|refine vZ ?_));all_goals try conv=>whnf
 iterate 2
  ·symm;rw [decide_eq_false_iff_not];intro h
   have:=h k (by omega)
   rw [at0_of hx] at this;omega
 ·symm;rw [decide_eq_false_iff_not];intro h
  have:=h k (by omega)
  rw [at0_of ‹cell[k]? = some _›,at0_of hx] at this;omega
 ·have h0:=at0_of ‹cell[k]? = some _›
  have h1:=at0_of hx
  exact ⟨k+1,[],[],⟨by (omega),fun w hw=>by
   by_cases e:w=k
   ·subst e;rw [h0,h1];omega
   ·exact hI w (by omega)⟩,by (omega),by (refine ⟨rfl,rfl,rfl,?_,?_⟩;repeat' first|exact trivial|exact rfl|refine And.intro ?_ ?_)⟩
 ·symm;rw [decide_eq_true_eq];intro w hw;exact hI w (by omega)
end Go.Ab
namespace Go.Ab
open Go Go.Proofs
set_option linter.unusedSimpArgs false
set_option linter.unusedVariables false
set_option maxRecDepth 10000
set_option maxHeartbeats 4000000
variable {T:Nat→Obj→Prop}
theorem fn_ranked (cell rank:List Int) (hl:cell.length≤rank.length) (hr : ∀ x∈rank,inR .i64 x):Fn Tryz.prog T f_wittingref33_ranked [.d (dI cell),.d (dI rank)] [] (.d (.bool (decide (Ranked cell rank)))) []:=by
 refine fn_dataR hmix k_wittingref33_ranked (by show 2≤56;decide) ?_
 (repeat' ((conv=>whnf);refine vA ?_));all_goals try conv=>whnf
 refine loop_intro (fun (k:Nat)=>[(0,.d (dI cell)),(1,.d (dI rank)),(5,.d (.int .i64 ((k:Int))))]) (fun (k:Nat)=>k≤cell.length ∧ ∀ w,w < k→0≤at0 rank w∧(at0 rank w=0 ∨ ∃ v,v < cell.length∧at0 cell v=at0 cell w∧at0 rank v=at0 rank w - 1)) (fun (k:Nat)=>cell.length - k) (0) (⟨by simp,by simp⟩) (by (repeat' first|exact trivial|exact rfl|refine And.intro ?_ ?_)) ?_
 rintro k ⟨hk,hI⟩
 (repeat' ((conv=>whnf);first|refine vA ?_|(refine vF ?_ ?_<;>intro hc<;>try simp only [vL] at hc)|refine vJ fun hg=>?_|refine vN ‹_› ?_|(refine vQ ?_ fun x hx=>?_;·omega)|refine vZ ?_));all_goals try conv=>whnf
 ·symm;rw [decide_eq_false_iff_not];intro h
  have:=h k (by omega)
  rw [at0_of hx] at this;omega
 ·have hR:=hr _ (List.mem_of_getElem? hx)
  have h0:=at0_of hx
  obtain ⟨hR1,hR2⟩:=hR
  subst h0
  refine loop_intro (fun ((j,b):Nat×Bool)=>[(0,.d (dI cell)),(1,.d (dI rank)),(5,.d (.int .i64 ((k:Int)))),(6,.d (.bool (b))),(7,.d (.int .i64 ((j:Int))))]) (fun ((j,b):Nat×Bool)=>j≤cell.length∧b=decide (at0 rank k=0 ∨ ∃ v,v < j∧at0 cell v=at0 cell k∧at0 rank v=at0 rank k - 1)) (fun ((j,b):Nat×Bool)=>cell.length - j) ((0,decide (at0 rank k=0))) (⟨by simp,by simp⟩) (by (repeat' first|exact trivial|exact rfl|exact .inl rfl|refine And.intro ?_ ?_)) ?_
  rintro ⟨j,b⟩ ⟨hj,hb⟩
  have step : ∀ b':Bool,(b'=true↔b=true∨(at0 cell j=at0 cell k∧at0 rank j=at0 rank k - 1))→b'=decide (at0 rank k=0 ∨ ∃ v,v < j+1∧at0 cell v=at0 cell k∧at0 rank v=at0 rank k - 1):=by
   intro b' h
   rw [Bool.eq_iff_iff,h,hb,decide_eq_true_eq,decide_eq_true_eq]
   constructor
   ·rintro ((h|⟨v,h1,h2⟩)|h)
    ·exact .inl h
    ·exact .inr ⟨v,by omega,h2⟩
    ·exact .inr ⟨j,by omega,h⟩
   ·rintro (h|⟨v,h1,h2⟩)
    ·exact .inl (.inl h)
    ·by_cases e:v=j
     ·subst e;exact .inr h2
     ·exact .inl (.inr ⟨v,by omega,h2⟩)
  (repeat' ((conv=>whnf);first|refine vA ?_|refine vE ?_|((first|refine vF ?_ ?_|refine vI ?_ ?_)<;>intro hc<;>try simp only [vL] at hc)|refine vJ fun hg=>?_|refine vN ‹_› ?_|(refine vQ ?_ fun x hx=>?_;·omega)|(refine vO ?_ ?_;·omega)|(refine vU ?_ ?_;·kernel_rfl)|refine vZ ?_));all_goals try conv=>whnf
  ·exact ⟨(j+1,true),[],[],⟨by (omega),step _ ⟨fun _ => .inl hc,fun _=>rfl⟩⟩,by ((simp only [vM] at *;omega)),by (refine ⟨rfl,rfl,rfl,?_,?_⟩;repeat' first|exact trivial|exact rfl|exact .inr (.inl ⟨rfl,rfl⟩)|refine And.intro ?_ ?_)⟩
  ·have h1:=at0_of ‹cell[j]? = some _›
   have h2:=at0_of ‹cell[k]? = some _›
   have h3:=at0_of hx
   exact ⟨(j+1,decide (x=at0 rank k - 1)),[],[],⟨by (omega),step _ ⟨fun h => .inr ⟨by omega,by have:=of_decide_eq_true h;omega⟩,fun h=>by
    rcases h with h|h
    ·rw [‹b=false›] at h;cases h
    ·exact decide_eq_true (by omega)⟩⟩,by ((simp only [vM] at *;omega)),by (refine ⟨rfl,rfl,rfl,?_,?_⟩;repeat' first|exact trivial|exact rfl|exact .inl rfl|refine And.intro ?_ ?_)⟩
  ·have h1:=at0_of ‹cell[j]? = some _›
   have h2:=at0_of ‹cell[k]? = some _›
   exact ⟨(j+1,false),[],[],⟨by (omega),step _ ⟨nofun,fun h=>by
    rcases h with h|h
    ·rw [‹b=false›] at h;cases h
    ·exact absurd (by omega) hc⟩⟩,by ((simp only [vM] at *;omega)),by (refine ⟨rfl,rfl,rfl,?_,?_⟩;repeat' first|exact trivial|exact rfl|exact .inr (.inr ⟨rfl,rfl⟩)|refine And.intro ?_ ?_)⟩
  ·have hbt:=of_decide_eq_true (hb.symm.trans hc)
   exact ⟨k+1,[],[],⟨by (omega),fun w hw=>by
    by_cases e:w=k
    ·subst e
     refine ⟨by omega,?_⟩
     have:=hbt
     rcases this with h|⟨v,h1,h2⟩
     ·exact .inl h
     ·exact .inr ⟨v,by omega,h2⟩
    ·exact hI w (by omega)⟩,by (omega),by (refine ⟨rfl,rfl,rfl,?_,?_⟩;repeat' first|exact trivial|exact rfl|refine And.intro ?_ ?_)⟩
  ·symm;rw [decide_eq_false_iff_not];intro h
   have h1:=of_decide_eq_false (hb.symm.trans hc)
   rcases (h k (by omega)).2 with h|⟨v,h2,h3⟩
   ·exact h1 (.inl h)
   ·exact h1 (.inr ⟨v,by omega,h3⟩)
 ·symm;rw [decide_eq_true_eq];intro w hw;exact hI w (by omega)
def setTo (f:Nat→Bool):Nat→BitVec 64
 | 0=>0#64
 | k+1=>if f k then setTo f k|||1#64 <<< k else setTo f k
theorem bit_pow (k i:Nat):(1#64 <<< k).getLsbD i=(decide (i < 64)&&decide (i=k)):=by
 rw [BitVec.getLsbD_shiftLeft]
 by_cases h:i < 64
 ·by_cases h1:i < k
  ·simp [h,h1];omega
  ·by_cases h2:i=k
   ·subst h2;simp [h]
   ·have:i - k≠0:=by omega
    simp [h,h1,h2,this]
 ·simp [h]
theorem setTo_bit (f:Nat→Bool) : ∀ (n i:Nat),(setTo f n).getLsbD i=(decide (i < 64)&&decide (i < n)&&f i)
 | 0,i=>by simp [setTo]
 | n+1,i=>by
  have ih:=setTo_bit f n i
  unfold setTo
  split
  ·rename_i h
   rw [BitVec.getLsbD_or,ih,bit_pow]
   by_cases h1:i=n
   ·subst h1;simp [h]
   ·by_cases h2:i < n
    ·simp [h1,h2,show i < n+1 by omega]
    ·simp [h1,h2,show ¬ i < n+1 by omega]
  ·rename_i h
   rw [ih]
   by_cases h1:i=n
   ·subst h1;simp [h]
   ·by_cases h2:i < n
    ·simp [h2,show i < n+1 by omega]
    ·simp [h2,show ¬ i < n+1 by omega]
def cellSet (row:List Int) (w:Nat):BitVec 64:=setTo (fun v=>at0 row v==at0 row w) row.length
theorem fn_cellOf (p:PM) (a w:Int) (row:List Int) (ha:0≤a) (hr:p.cell[a.toNat]? = some row) (hw:0≤w) (hw':w < row.length):Fn Tryz.prog T f_plaus_cellOf [.d (dPM p),.d (.int .i64 a),.d (.int .i64 w)] [] (.d (.u64 (cellSet row w.toNat))) []:=by
 refine fn_dataR hmix k_plaus_cellOf (by show 3≤37;decide) ?_
 (repeat' ((conv=>whnf);first|refine vA ?_|refine vJ fun hg=>?_|(refine vR ?_ ‹_› ?_;·omega)|fail));all_goals try conv=>whnf
 refine loop_mem (fun ((k,s):Nat×BitVec 64)=>[(1,.d (.int .i64 (a))),(2,.d (.int .i64 (w))),(3,.ptr 0 0),(14,.d (dI row)),(15,.d (.int .i64 ((row.map (D.int .i64)).length:Int))),(7,.d (.u64 (s))),(16,.d (.int .i64 ((k:Int))))]) (fun ((k,s):Nat×BitVec 64)=>[(0,some (.box [.d (.int .i64 p.W),.d (dU p.val),.d (dII p.cell),.d (dII p.rank)]))]) 1 (fun ((k,s):Nat×BitVec 64)=>k≤row.length∧s=setTo (fun v=>at0 row v==at0 row w.toNat) k) (fun ((k,s):Nat×BitVec 64)=>row.length - k) ((0,0#64)) [(0,0)] [] (⟨by simp,rfl⟩) (by (refine ⟨rfl,rfl,rfl,?_,?_⟩;repeat' first|exact trivial|exact rfl|refine And.intro ?_ ?_|refine ⟨_,rfl,?_⟩|decide)) ?_
 rintro ⟨k,s⟩ ⟨hk,hI⟩
 (repeat' ((conv=>whnf);first|refine vA ?_|(refine vF ?_ ?_<;>intro hc<;>try simp only [vL] at hc)|(refine vQ ?_ fun x hx=>?_;·omega)|((first|refine vO ?_ ?_|refine vR ?_ ‹_› ?_|refine vS ?_ fun x hx=>?_|refine vP ?_ ?_);·omega)|refine vY ?_));all_goals try conv=>whnf
 ·have h1:=at0_of ‹row[k]? = some _›
  have h2:=at0_of hx
  refine ⟨(k+1,_),[(0,0)],[],?_,?_,by (refine ⟨rfl,rfl,rfl,?_,?_⟩;repeat' first|exact trivial|exact rfl|refine And.intro ?_ ?_|refine ⟨_,rfl,?_⟩|decide)⟩
  ·exact ⟨by (omega),by rw [setTo,if_pos (by simp;omega),hI];rfl⟩
  ·((simp only [vM] at *;omega))
 ·have h1:=at0_of ‹row[k]? = some _›
  have h2:=at0_of hx
  exact ⟨(k+1,s),[(0,0)],[],⟨by (omega),by rw [setTo,if_neg (by simp;omega),hI]⟩,by ((simp only [vM] at *;omega)),by (refine ⟨rfl,rfl,rfl,?_,?_⟩;repeat' first|exact trivial|exact rfl|refine And.intro ?_ ?_|refine ⟨_,rfl,?_⟩|decide)⟩
 ·rw [hI,show k=row.length by omega];rfl
def leastIn (rank:List Int) (s:BitVec 64) (n v:Nat):Bool:=s.getLsbD v&&decide (∀ u,u < n→s.getLsbD u=true→at0 rank v≤at0 rank u)
def bestSet (rank:List Int) (s:BitVec 64):BitVec 64:=setTo (leastIn rank s rank.length) rank.length
theorem bit_true {s:BitVec 64} {n:Nat} (h : ¬(s >>> n)&&&1#64=0#64):s.getLsbD n=true:=by
 rw [bit_zero] at h;simpa using h
theorem leastIn_iff {rank:List Int} {s:BitVec 64} {n v:Nat} : leastIn rank s n v=true↔s.getLsbD v=true ∧ ∀ u,u < n→s.getLsbD u=true→at0 rank v≤at0 rank u:=by
 simp [leastIn]
theorem best_bit {rank:List Int} {s:BitVec 64} {n i:Nat} : (setTo (leastIn rank s n) n).getLsbD i=true↔i < n∧s.getLsbD i=true ∧ ∀ u,u < n→s.getLsbD u=true→at0 rank i≤at0 rank u:=by
 rw [setTo_bit]
 simp only [Bool.and_eq_true,decide_eq_true_eq,leastIn_iff]
 constructor
 ·rintro ⟨⟨_,h1⟩,h2⟩;exact ⟨h1,h2⟩
 ·rintro ⟨h1,h2⟩;exact ⟨⟨by have:=BitVec.lt_of_getLsbD h2.1;exact this,h1⟩,h2⟩
theorem bits_ext {x y:BitVec 64} (h : ∀ i,i < 64→(x.getLsbD i=true↔y.getLsbD i=true)):x=y :=
 BitVec.eq_of_getLsbD_eq fun i hi=>Bool.eq_iff_iff.2 (h i hi)
def Least (rank:List Int) (s:BitVec 64) (k:Nat) (m:Int):Prop:=(∃ v,v < k∧s.getLsbD v=true)→(∃ v,v < k∧s.getLsbD v=true∧at0 rank v=m) ∧ ∀ v,v < k→s.getLsbD v=true→m≤at0 rank v
theorem best_none {rank:List Int} {s:BitVec 64} {k:Nat} {m:Int} (hM:Least rank s k m):setTo (leastIn rank s k) k=0#64 ↔ ¬∃ v,v < k∧s.getLsbD v=true:=by
 constructor
 ·intro h hv
  obtain ⟨⟨v,h1,h2,h3⟩,h4⟩:=hM hv
  have:(setTo (leastIn rank s k) k).getLsbD v=true:=best_bit.2 ⟨h1,h2,fun u hu hs=>by rw [h3];exact h4 u hu hs⟩
  rw [h] at this;simp at this
 ·intro h
  refine bits_ext fun i hi=>⟨fun hb=>?_,fun hb=>by simp at hb⟩
  exact absurd ⟨i,(best_bit.1 hb).1,(best_bit.1 hb).2.1⟩ h
theorem best_skip {rank:List Int} {s:BitVec 64} {k:Nat} (hs:s.getLsbD k=false):setTo (leastIn rank s (k+1)) (k+1)=setTo (leastIn rank s k) k:=by
 refine bits_ext fun i hi=>?_
 rw [best_bit,best_bit]
 constructor
 ·rintro ⟨h1,h2,h3⟩
  have:i≠k:=fun e=>by rw [e,hs] at h2;cases h2
  exact ⟨by omega,h2,fun u hu=>h3 u (by omega)⟩
 ·rintro ⟨h1,h2,h3⟩
  refine ⟨by omega,h2,fun u hu hsu=>?_⟩
  have:u≠k:=fun e=>by rw [e,hs] at hsu;cases hsu
  exact h3 u (by omega) hsu
theorem least_skip {rank:List Int} {s:BitVec 64} {k:Nat} {m:Int} (hM:Least rank s k m) (hs:s.getLsbD k=false):Least rank s (k+1) m:=by
 have key : ∀ v,v < k+1→s.getLsbD v=true→v < k:=fun v hv h=>by
  have:v≠k:=fun e=>by rw [e,hs] at h;cases h
  omega
 rintro ⟨v,h1,h2⟩
 obtain ⟨⟨u,h3,h4⟩,h5⟩:=hM ⟨v,key v h1 h2,h2⟩
 exact ⟨⟨u,by omega,h4⟩,fun v hv h=>h5 v (key v hv h) h⟩
theorem best_new {rank:List Int} {s:BitVec 64} {k:Nat} (hk:k < 64) (hs:s.getLsbD k=true) (h : ∀ v,v < k→s.getLsbD v=true→at0 rank k < at0 rank v):setTo (leastIn rank s (k+1)) (k+1)=1#64 <<< k:=by
 refine bits_ext fun i hi=>?_
 rw [best_bit,bit_pow]
 simp only [Bool.and_eq_true,decide_eq_true_eq]
 constructor
 ·rintro ⟨h1,h2,h3⟩
  refine ⟨hi,?_⟩
  by_cases e:i=k
  ·exact e
  ·have:=h i (by omega) h2
   have:=h3 k (by omega) hs
   omega
 ·rintro ⟨_,rfl⟩
  refine ⟨by omega,hs,fun u hu hsu=>?_⟩
  by_cases e:u=i
  ·rw [e];omega
  ·have:=h u (by omega) hsu;omega
theorem least_new {rank:List Int} {s:BitVec 64} {k:Nat} (hs:s.getLsbD k=true) (h : ∀ v,v < k→s.getLsbD v=true→at0 rank k < at0 rank v):Least rank s (k+1) (at0 rank k):=by
 rintro _
 refine ⟨⟨k,by omega,hs,rfl⟩,fun v hv hsv=>?_⟩
 by_cases e:v=k
 ·rw [e];omega
 ·have:=h v (by omega) hsv;omega
theorem best_also {rank:List Int} {s:BitVec 64} {k:Nat} {m:Int} (hk:k < 64) (hs:s.getLsbD k=true) (hM:Least rank s k m) (hv : ∃ v,v < k∧s.getLsbD v=true) (e:at0 rank k=m) :
  setTo (leastIn rank s (k+1)) (k+1)=setTo (leastIn rank s k) k|||1#64 <<< k:=by
 obtain ⟨⟨w,w1,w2,w3⟩,w4⟩:=hM hv
 refine bits_ext fun i hi=>?_
 rw [BitVec.getLsbD_or,Bool.or_eq_true,best_bit,best_bit,bit_pow]
 simp only [Bool.and_eq_true,decide_eq_true_eq]
 constructor
 ·rintro ⟨h1,h2,h3⟩
  by_cases e:i=k
  ·exact .inr ⟨hi,e⟩
  ·exact .inl ⟨by omega,h2,fun u hu=>h3 u (by omega)⟩
 ·rintro (⟨h1,h2,h3⟩|⟨_,rfl⟩)
  ·refine ⟨by omega,h2,fun u hu hsu=>?_⟩
   by_cases e':u=k
   ·rw [e',e,← w3];exact h3 w w1 w2
   ·exact h3 u (by omega) hsu
  ·refine ⟨by omega,hs,fun u hu hsu=>?_⟩
   by_cases e':u=i
   ·rw [e'];omega
   ·have:=w4 u (by omega) hsu;omega
theorem least_more {rank:List Int} {s:BitVec 64} {k:Nat} {m:Int} (hM:Least rank s k m) (hv : ∃ v,v < k∧s.getLsbD v=true) (e:m≤at0 rank k):Least rank s (k+1) m:=by
 obtain ⟨⟨w,w1,w2⟩,w4⟩:=hM hv
 refine fun _=>⟨⟨w,by omega,w2⟩,fun v hv hsv=>?_⟩
 by_cases e':v=k
 ·rw [e'];exact e
 ·exact w4 v (by omega) hsv
theorem best_more {rank:List Int} {s:BitVec 64} {k:Nat} {m:Int} (hs:s.getLsbD k=true) (hM:Least rank s k m) (hv : ∃ v,v < k∧s.getLsbD v=true) (e:m < at0 rank k) :
  setTo (leastIn rank s (k+1)) (k+1)=setTo (leastIn rank s k) k:=by
 obtain ⟨⟨w,w1,w2,w3⟩,w4⟩:=hM hv
 refine bits_ext fun i hi=>?_
 rw [best_bit,best_bit]
 constructor
 ·rintro ⟨h1,h2,h3⟩
  have:i≠k:=fun e'=>by have:=h3 w (by omega) w2;rw [e'] at this;omega
  exact ⟨by omega,h2,fun u hu=>h3 u (by omega)⟩
 ·rintro ⟨h1,h2,h3⟩
  refine ⟨by omega,h2,fun u hu hsu=>?_⟩
  by_cases e':u=k
  ·have:=h3 w w1 w2;rw [e'];omega
  ·exact h3 u (by omega) hsu
theorem fn_bestOf (rank:List Int) (s:BitVec 64) (hl:rank.length≤64):Fn Tryz.prog T f_plaus_bestOf [.d (dI rank),.d (.u64 s)] [] (.d (.u64 (bestSet rank s))) []:=by
 refine fn_dataR hmix k_plaus_bestOf (by show 2≤43;decide) ?_
 (repeat' ((conv=>whnf);first|refine vA ?_|refine vJ fun hg=>?_));all_goals try conv=>whnf
 refine loop_intro (fun ((k,o,m):Nat×BitVec 64×Int)=>[(1,.d (.u64 (s))),(9,.d (dI rank)),(10,.d (.int .i64 ((rank.map (D.int .i64)).length:Int))),(5,.d (.u64 (o))),(6,.d (.int .i64 (m))),(11,.d (.int .i64 ((k:Int))))]) (fun ((k,o,m):Nat×BitVec 64×Int)=>k≤rank.length∧o=setTo (leastIn rank s k) k∧Least rank s k m) (fun ((k,o,m):Nat×BitVec 64×Int)=>rank.length - k) ((0,0#64,0)) (⟨by simp,rfl,fun ⟨v,h,_⟩=>by omega⟩) (by (repeat' first|exact trivial|exact rfl|refine And.intro ?_ ?_)) ?_
 rintro ⟨k,o,m⟩ ⟨hk,hI,hM⟩
 (repeat' ((conv=>whnf);first|refine vA ?_|(refine vF ?_ ?_<;>intro hc<;>try simp only [vL] at hc)|(refine vQ ?_ fun x hx=>?_;·omega)|((first|refine vO ?_ ?_|refine vP ?_ ?_);·omega)|refine vY ?_));all_goals try conv=>whnf
 ·have hb:=(bit_zero s k).1 hc
  exact ⟨(k+1,o,m),[],[],⟨by (omega),by rw [best_skip hb,hI],least_skip hM hb⟩,by ((simp only [vM] at *;omega)),by (refine ⟨rfl,rfl,rfl,?_,?_⟩;repeat' first|exact trivial|exact rfl|refine And.intro ?_ ?_)⟩
 ·have hb:s.getLsbD k=true:=bit_true ‹¬s >>> (k:Int).toNat&&&1=0›
  have h0:=at0_of hx
  subst h0
  have hn:=(best_none hM).1 (hI▸hc)
  have hn' : ∀ v,v < k→s.getLsbD v=true→at0 rank k < at0 rank v:=fun v h1 h2=>absurd ⟨v,h1,h2⟩ hn
  exact ⟨(k+1,1#64 <<< k,at0 rank k),[],[],⟨by (omega),(best_new (by omega) hb hn').symm,least_new hb hn'⟩,by ((simp only [vM] at *;omega)),by (refine ⟨rfl,rfl,rfl,?_,?_⟩;repeat' first|exact trivial|exact rfl|refine And.intro ?_ ?_)⟩
 ·have hb:s.getLsbD k=true:=bit_true ‹¬s >>> (k:Int).toNat&&&1=0›
  have h0:=at0_of hx
  subst h0
  have hn:=Classical.not_not.1 (fun h=>‹¬o=0› (hI.trans ((best_none hM).2 h)))
  have hn' : ∀ v,v < k→s.getLsbD v=true→at0 rank k < at0 rank v:=fun v h1 h2=>by have:=(hM hn).2 v h1 h2;omega
  exact ⟨(k+1,1#64 <<< k,at0 rank k),[],[],⟨by (omega),(best_new (by omega) hb hn').symm,least_new hb hn'⟩,by ((simp only [vM] at *;omega)),by (refine ⟨rfl,rfl,rfl,?_,?_⟩;repeat' first|exact trivial|exact rfl|refine And.intro ?_ ?_)⟩
 ·have hb:s.getLsbD k=true:=bit_true ‹¬s >>> (k:Int).toNat&&&1=0›
  have h0:=at0_of hx
  subst h0
  have hn:=Classical.not_not.1 (fun h=>‹¬o=0› (hI.trans ((best_none hM).2 h)))
  exact ⟨(k+1,o|||1#64 <<< k,m),[],[],⟨by (omega),by rw [best_also (by omega) hb hM hn hc,hI],least_more hM hn (by omega)⟩,by ((simp only [vM] at *;omega)),by (refine ⟨rfl,rfl,rfl,?_,?_⟩;repeat' first|exact trivial|exact rfl|refine And.intro ?_ ?_)⟩
 ·have hb:s.getLsbD k=true:=bit_true ‹¬s >>> (k:Int).toNat&&&1=0›
  have h0:=at0_of hx
  subst h0
  have hn:=Classical.not_not.1 (fun h=>‹¬o=0› (hI.trans ((best_none hM).2 h)))
  exact ⟨(k+1,o,m),[],[],⟨by (omega),by rw [best_more hb hM hn (by omega),hI],least_more hM hn (by omega)⟩,by ((simp only [vM] at *;omega)),by (refine ⟨rfl,rfl,rfl,?_,?_⟩;repeat' first|exact trivial|exact rfl|refine And.intro ?_ ?_)⟩
 ·rw [hI,show k=rank.length by omega];rfl
end Go.Ab
namespace Go.Ab
open Go Go.Proofs
set_option linter.unusedSimpArgs false
set_option linter.unusedVariables false
set_option maxRecDepth 10000
set_option maxHeartbeats 4000000
variable {T:Nat→Obj→Prop}
def rowAt (l:List (List Int)) (a:Nat):List Int:=l.getD a []
theorem rowAt_of {l:List (List Int)} {i:Nat} {x:List Int} (h:l[i]? = some x):rowAt l i=x:=by simp [rowAt,List.getD,h]
theorem get_rowAt {l:List (List Int)} {i:Nat} (h:i < l.length):l[i]? = some (rowAt l i):=by simp [rowAt,List.getD,h]
abbrev Lens (p:PM):Prop := ∀ a,a < p.cell.length→((rowAt p.cell a).length:Int)=p.W∧((rowAt p.rank a).length:Int)=p.W
abbrev AllCells (p:PM):Prop := ∀ a,a < p.cell.length→Cells (rowAt p.cell a)
abbrev AllRanked (p:PM):Prop := ∀ a,a < p.cell.length→Ranked (rowAt p.cell a) (rowAt p.rank a)
def checkL (p:PM):Int :=
 if shapeL p.W p.cell.length p.val≠0 then shapeL p.W p.cell.length p.val
 else if p.rank.length≠p.cell.length then 3
 else if ¬Lens p then 3
 else if ¬AllCells p then 1
 else if ¬AllRanked p then 9
 else 0
structure Good (p:PM):Prop where
 w1:1≤p.W
 w2:p.W≤64
 val : ∀ s∈p.val,bad p.W s=false
 n4:p.cell.length≤4
 v8:p.val.length≤8
 len:p.rank.length=p.cell.length
 lens:Lens p
 cells:AllCells p
 ranked:AllRanked p
theorem shapeL_ok {W n:Int} {val:List (BitVec 64)} (h:shapeL W n val=0):1≤W∧W≤64∧val.length≤8∧n≤4 ∧ ∀ s∈val,bad W s=false:=by
 unfold shapeL at h
 split at h
 ·cases h
 ·split at h
  ·cases h
  ·split at h
   ·cases h
   ·rename_i h1 h2 h3
    refine ⟨by omega,by omega,by omega,by omega,fun s hs=>?_⟩
    simp only [List.any_eq_true,not_exists,not_and] at h3
    simpa using h3 s hs
theorem checkL_good {p:PM} (h:checkL p=0):Good p:=by
 unfold checkL at h
 split at h
 ·rename_i h0;exact absurd h h0
 ·rename_i h0
  obtain ⟨a1,a2,a3,a4,a5⟩:=shapeL_ok (Classical.not_not.1 h0)
  split at h
  ·cases h
  ·split at h
   ·cases h
   ·split at h
    ·cases h
    ·split at h
     ·cases h
     ·rename_i h1 h2 h3 h4
      exact ⟨a1,a2,a5,by omega,a3,Classical.not_not.1 h1,Classical.not_not.1 h2,Classical.not_not.1 h3,Classical.not_not.1 h4⟩
def IntsOk (l:List (List Int)):Prop := ∀ r∈l,∀ x∈r,inR .i64 x
abbrev boxPM (p:PM):Ob := .box [.d (.int .i64 p.W),.d (dU p.val),.d (dII p.cell),.d (dII p.rank)]
theorem checkL_3 {p:PM} (h0:shapeL p.W p.cell.length p.val=0) (h1:p.rank.length=p.cell.length) (h : ¬Lens p):checkL p=3:=by
 rw [checkL,if_neg (by omega),if_neg (by omega),if_pos h]
theorem checkL_1 {p:PM} (h0:shapeL p.W p.cell.length p.val=0) (h1:p.rank.length=p.cell.length) (h2:Lens p) (h : ¬AllCells p):checkL p=1:=by
 rw [checkL,if_neg (by omega),if_neg (by omega),if_neg (not_not_intro h2),if_pos h]
theorem checkL_9 {p:PM} (h0:shapeL p.W p.cell.length p.val=0) (h1:p.rank.length=p.cell.length) (h2:Lens p) (h3:AllCells p) (h : ¬AllRanked p):checkL p=9:=by
 rw [checkL,if_neg (by omega),if_neg (by omega),if_neg (not_not_intro h2),if_neg (not_not_intro h3),if_pos h]
theorem checkL_0 {p:PM} (h0:shapeL p.W p.cell.length p.val=0) (h1:p.rank.length=p.cell.length) (h2:Lens p) (h3:AllCells p) (h4:AllRanked p):checkL p=0:=by
 rw [checkL,if_neg (by omega),if_neg (by omega),if_neg (not_not_intro h2),if_neg (not_not_intro h3),if_neg (not_not_intro h4)]
theorem fn_ref33_Check (p:PM) (hp:IntsOk p.rank):Fn Tryz.prog T f_wittingref33_Check [.d (dPM p)] [] (.d (.int .i64 (checkL p))) []:=by
 refine fn_dataR hmix k_wittingref33_Check (by show 1≤85;decide) ?_
 (repeat' ((conv=>whnf);first|refine vA ?_|(refine vD ?_ ?_<;>intro hc<;>try simp only [vL] at hc)|refine vJ fun hg=>?_|refine vX ?_|refine yD (fn_ref33_sizes _ _ _) ⟨⟨rfl,rfl⟩,⟨rfl,rfl⟩,⟨rfl,rfl⟩,rfl⟩ rfl ?_));all_goals try conv=>whnf
 ·rw [List.length_map,checkL,if_pos hc]
 ·rw [checkL,if_neg (by omega),if_pos (by omega)]
 have hs0:=‹shapeL p.W p.cell.length p.val=0›
 have hlr:p.rank.length=p.cell.length:=by omega
 refine loop_mem (fun (k:Nat)=>[(1,.ptr 0 0),(4,.d (.int .i64 ((k:Int))))]) (fun (k:Nat)=>[(0,some (boxPM p))]) 1 (fun (k:Nat)=>k≤p.cell.length ∧ ∀ a,a < k→((rowAt p.cell a).length:Int)=p.W∧((rowAt p.rank a).length:Int)=p.W) (fun (k:Nat)=>p.cell.length - k) (0) [(0,0)] [] (⟨by simp,by simp⟩) (by (refine ⟨rfl,rfl,rfl,?_,?_⟩;repeat' first|exact trivial|exact rfl|refine And.intro ?_ ?_|refine ⟨_,rfl,?_⟩|decide)) ?_
 rintro k ⟨hk,hI⟩
 (repeat' ((conv=>whnf);first|refine vA ?_|((first|refine vD ?_ ?_|refine vF ?_ ?_)<;>intro hc<;>try simp only [vL] at hc)|refine vJ fun hg=>?_|(refine vQ ?_ fun x hx=>?_;·omega)|(refine vO ?_ ?_;·omega)|(refine vU ?_ ?_;·kernel_rfl)|refine vX ?_));all_goals try conv=>whnf
 ·have h1:=rowAt_of hx
  refine (checkL_3 hs0 hlr fun h=>?_).symm
  have:=(h k (by omega)).1
  rw [h1] at this;exact hc this
 ·have h1:=rowAt_of hx
  refine (checkL_3 hs0 hlr fun h=>?_).symm
  have:=(h k (by omega)).2
  rw [h1] at this;exact hc this
 ·have h1:=rowAt_of ‹p.cell[k]? = some _›
  have h2:=rowAt_of ‹p.rank[k]? = some _›
  exact ⟨k+1,[(0,0)],[],⟨by (omega),fun a ha=>by
   by_cases e:a=k
   ·subst e;rw [h1,h2];omega
   ·exact hI a (by omega)⟩,by (omega),by (refine ⟨rfl,rfl,rfl,?_,?_⟩;repeat' first|exact trivial|exact rfl|refine And.intro ?_ ?_|refine ⟨_,rfl,?_⟩|decide)⟩
 have hL:Lens p:=fun a ha=>hI a (by omega)
 refine loop_mem (fun (k:Nat)=>[(1,.ptr 0 0),(5,.d (.int .i64 ((k:Int))))]) (fun (k:Nat)=>[(0,some (boxPM p))]) 1 (fun (k:Nat)=>k≤p.cell.length ∧ ∀ a,a < k→Cells (rowAt p.cell a)) (fun (k:Nat)=>p.cell.length - k) (0) [(0,0)] [] (⟨by simp,by simp⟩) (by (refine ⟨rfl,rfl,rfl,?_,?_⟩;repeat' first|exact trivial|exact rfl|refine And.intro ?_ ?_|refine ⟨_,rfl,?_⟩|decide)) ?_
 rintro k ⟨hk,hI⟩
 (repeat' ((conv=>whnf);first|refine vA ?_|refine vE ?_|(refine vF ?_ ?_<;>intro hc<;>try simp only [vL] at hc)|refine vJ fun hg=>?_|(refine vQ ?_ fun x hx=>?_;·omega)|(refine vO ?_ ?_;·omega)|refine vX ?_|refine yD (fn_cells _) ⟨⟨rfl,rfl⟩,rfl⟩ rfl ?_));all_goals try conv=>whnf
 ·have h1:=rowAt_of hx
  exact ⟨k+1,[(0,0)],[],⟨by (omega),fun a ha=>by
   by_cases e:a=k
   ·subst e;rw [h1];assumption
   ·exact hI a (by omega)⟩,by (omega),by (refine ⟨rfl,rfl,rfl,?_,?_⟩;repeat' first|exact trivial|exact rfl|refine And.intro ?_ ?_|refine ⟨_,rfl,?_⟩|decide)⟩
 ·have h1:=rowAt_of hx
  refine (checkL_1 hs0 hlr hL fun h=>hc ?_).symm
  rw [← h1];exact h k (by omega)
 have hC:AllCells p:=fun a ha=>hI a (by omega)
 refine loop_mem (fun (k:Nat)=>[(1,.ptr 0 0),(6,.d (.int .i64 ((k:Int))))]) (fun (k:Nat)=>[(0,some (boxPM p))]) 1 (fun (k:Nat)=>k≤p.cell.length ∧ ∀ a,a < k→Ranked (rowAt p.cell a) (rowAt p.rank a)) (fun (k:Nat)=>p.cell.length - k) (0) [(0,0)] [] (⟨by simp,by simp⟩) (by (refine ⟨rfl,rfl,rfl,?_,?_⟩;repeat' first|exact trivial|exact rfl|refine And.intro ?_ ?_|refine ⟨_,rfl,?_⟩|decide)) ?_
 rintro k ⟨hk,hI⟩
 (repeat' ((conv=>whnf);first|refine vA ?_|(refine vF ?_ ?_<;>intro hc<;>try simp only [vL] at hc)|refine vJ fun hg=>?_|(refine vQ ?_ fun x hx=>?_;·omega)|refine vX ?_));all_goals try conv=>whnf
 ·have h1:=rowAt_of ‹p.cell[k]? = some _›
  have h2:=rowAt_of ‹p.rank[k]? = some _›
  have h3:=hL k (by omega)
  subst h1;subst h2
  refine CallS.data (fn_ranked (rowAt p.cell k) (rowAt p.rank k) (by omega) (hp _ (List.mem_of_getElem? hx))) (by (repeat refine ⟨⟨rfl,rfl⟩,?_⟩);rfl) rfl ?_
  (repeat' ((conv=>whnf);first|refine vE ?_|(refine vF ?_ ?_<;>intro hc)|(refine vO ?_ ?_;·omega)|(refine vU ?_ ?_;·kernel_rfl)|refine vX ?_));all_goals try conv=>whnf
  ·exact ⟨k+1,[(0,0)],[],⟨by (omega),fun a ha=>by
    by_cases e:a=k
    ·subst e;assumption
    ·exact hI a (by omega)⟩,by (omega),by (refine ⟨rfl,rfl,rfl,?_,?_⟩;repeat' first|exact trivial|exact rfl|refine And.intro ?_ ?_|refine ⟨_,rfl,?_⟩|decide)⟩
  ·exact (checkL_9 hs0 hlr hL hC fun h=>hc (h k (by omega))).symm
 ·exact (checkL_0 hs0 hlr hL hC fun a ha=>hI a (by omega)).symm
theorem fn_known (hC : ∀ p,IntsOk p.rank→Fn Tryz.prog T f_plaus_Check [.d (dPM p)] [] (.d (.int .i64 (checkL p))) []) (p:PM) (hp:IntsOk p.rank) (a w:Int):Fn Tryz.prog T f_plaus_known [.d (dPM p),.d (.int .i64 a),.d (.int .i64 w)] [] (.d (.bool (decide (checkL p=0∧0≤a∧a < p.cell.length∧0≤w∧w < p.W)))) []:=by
 refine fn_dataR hmix k_plaus_known (by show 3≤31;decide) ?_
 (repeat' ((conv=>whnf);first|refine vA ?_|(refine vF ?_ ?_<;>intro hc<;>try simp only [vL] at hc)|refine vJ fun hg=>?_|refine vZ ?_|refine yD (hC _ hp) (by (repeat refine ⟨⟨rfl,rfl⟩,?_⟩);rfl) rfl ?_));all_goals try conv=>whnf
 ·simp [*]
 all_goals
  symm;rw [decide_eq_false_iff_not];omega
end Go.Ab
namespace Go.Ab
open Go Go.Proofs
set_option linter.unusedSimpArgs false
set_option linter.unusedVariables false
set_option maxRecDepth 10000
set_option maxHeartbeats 4000000
variable {T:Nat→Obj→Prop}
def insD (x:Int):List Int→List Int
 | []=>[x]
 | y::r=>if x < y then x::y::r else if x=y then y::r else y::insD x r
def sortD:List Int→List Int
 | []=>[]
 | x::r=>insD x (sortD r)
def keysOf (cell:List Int):List Int:=cell.foldl (fun l c=>if c∈l then l else l++[c]) []
def inCell (cell rank:List Int) (c:Int):List Int:=((List.range cell.length).filter fun w=>at0 cell w==c).map (at0 rank)
def ranksOf (cell rank:List Int) (c:Int):List Int:=sortD (inCell cell rank c)
abbrev ranksD (cell rank:List Int):List (D×D):=(keysOf cell).map fun c=>(.int .i64 c,dI (ranksOf cell rank c))
def RanksOk (T:Nat→Obj→Prop):Prop := ∀ cell rank:List Int,cell.length≤rank.length→cell.length≤64→Fn Tryz.prog T f_plaus_ranks [.d (dI cell),.d (dI rank)] [] (.d (.map (ranksD cell rank))) []
def Gapless (l:List Int):Prop := ∀ i,i < l.length→at0 l i=i
instance (l:List Int):Decidable (Gapless l):=inferInstanceAs (Decidable (∀ i,i < l.length→at0 l i=i))
theorem map_erase {α β:Type} (f:α→β) : ∀ (l:List α) (i:Nat),(l.map f).eraseIdx i=(l.eraseIdx i).map f
 | [],_=>rfl
 | _::_,0=>rfl
 | x::l,i+1=>congrArg (f x :: ·) (map_erase f l i)
abbrev Rising (l:List Int):Prop:=l.Pairwise (· < ·)
theorem mem_insD {x y:Int} : ∀ {l:List Int},y∈insD x l↔y=x∨y∈l
 | []=>by simp [insD]
 | z::r=>by
  unfold insD
  split
  ·simp
  ·split
   ·rename_i h;subst h;simp
   ·rw [List.mem_cons,mem_insD,List.mem_cons]
    constructor
    ·rintro (h|h|h)
     ·exact .inr (.inl h)
     ·exact .inl h
     ·exact .inr (.inr h)
    ·rintro (h|h|h)
     ·exact .inr (.inl h)
     ·exact .inl h
     ·exact .inr (.inr h)
theorem rising_insD {x:Int} : ∀ {l:List Int},Rising l→Rising (insD x l)
 | [],_=>by simp [insD,Rising]
 | z::r,h=>by
  unfold insD
  obtain ⟨h1,h2⟩:=List.pairwise_cons.1 h
  split
  ·rename_i hx
   refine List.pairwise_cons.2 ⟨fun y hy=>?_,h⟩
   rcases List.mem_cons.1 hy with rfl|hy
   ·exact hx
   ·have:=h1 y hy;omega
  ·split
   ·exact h
   ·refine List.pairwise_cons.2 ⟨fun y hy=>?_,rising_insD h2⟩
    rcases mem_insD.1 hy with rfl|hy
    ·omega
    ·exact h1 y hy
theorem mem_sortD {y:Int} : ∀ {l:List Int},y∈sortD l↔y∈l
 | []=>by simp [sortD]
 | x::r=>by rw [sortD,mem_insD,mem_sortD,List.mem_cons]
theorem rising_sortD : ∀ {l:List Int},Rising (sortD l)
 | []=>List.Pairwise.nil
 | x::r=>rising_insD rising_sortD
theorem mem_foldKeys {c:Int} : ∀ {l acc:List Int},c∈l.foldl (fun l c=>if c∈l then l else l++[c]) acc↔c∈acc∨c∈l
 | [],acc=>by simp
 | x::r,acc=>by
  rw [List.foldl_cons,mem_foldKeys]
  split
  ·rename_i h
   rw [List.mem_cons]
   constructor
   ·rintro (h1|h1)
    ·exact .inl h1
    ·exact .inr (.inr h1)
   ·rintro (h1|rfl|h1)
    ·exact .inl h1
    ·exact .inl h
    ·exact .inr h1
  ·rw [List.mem_append,List.mem_singleton,List.mem_cons,or_assoc]
theorem mem_keysOf {c:Int} {cell:List Int} : c∈keysOf cell↔c∈cell:=by
 rw [keysOf,mem_foldKeys];simp
theorem mem_ranksOf {cell rank:List Int} {c x:Int} : x∈ranksOf cell rank c ↔ ∃ w,w < cell.length∧at0 cell w=c∧at0 rank w=x:=by
 rw [ranksOf,mem_sortD,inCell,List.mem_map]
 constructor
 ·rintro ⟨w,h,rfl⟩
  rw [List.mem_filter,List.mem_range] at h
  exact ⟨w,h.1,by simpa using h.2,rfl⟩
 ·rintro ⟨w,h1,h2,rfl⟩
  exact ⟨w,List.mem_filter.2 ⟨List.mem_range.2 h1,by simpa using h2⟩,rfl⟩
theorem mem_at0 {l:List Int} {x:Int} : x∈l ↔ ∃ i,i < l.length∧at0 l i=x:=by
 constructor
 ·intro h
  obtain ⟨i,hi⟩:=List.getElem?_of_mem h
  exact ⟨i,(List.getElem?_eq_some_iff.1 hi).1,at0_of hi⟩
 ·rintro ⟨i,hi,rfl⟩
  exact List.mem_of_getElem? (get_at0 hi)
theorem rising_at0 {l:List Int} (h:Rising l) {i j:Nat} (hij:i < j) (hj:j < l.length):at0 l i < at0 l j:=by
 have h1:=get_at0 (show i < l.length by omega)
 have h2:=get_at0 hj
 obtain ⟨_,e1⟩:=List.getElem?_eq_some_iff.1 h1
 obtain ⟨_,e2⟩:=List.getElem?_eq_some_iff.1 h2
 rw [← e1,← e2]
 exact List.pairwise_iff_getElem.1 h i j (by omega) hj hij
theorem gapless_iff {l:List Int} (h:Rising l):Gapless l ↔ ∀ x∈l,0≤x∧(x=0∨x - 1∈l):=by
 constructor
 ·intro hg x hx
  obtain ⟨i,hi,rfl⟩:=mem_at0.1 hx
  rw [hg i hi]
  refine ⟨by omega,?_⟩
  by_cases e:i=0
  ·exact .inl (by omega)
  ·exact .inr (mem_at0.2 ⟨i - 1,by omega,by rw [hg (i - 1) (by omega)];omega⟩)
 ·intro hc i
  induction i using Nat.strongRecOn with
  | _ i ih =>
   intro hi
   obtain ⟨h0,h1⟩:=hc _ (mem_at0.2 ⟨i,hi,rfl⟩)
   by_cases e:i=0
   ·subst e
    rcases h1 with h1|h1
    ·exact h1
    ·obtain ⟨j,hj,hj'⟩:=mem_at0.1 h1
     by_cases e:j=0
     ·subst e;omega
     ·have:=rising_at0 h (show 0 < j by omega) hj;omega
   ·have hp:=ih (i - 1) (by omega) (by omega)
    have hr:=rising_at0 h (show i - 1 < i by omega) hi
    rcases h1 with h1|h1
    ·omega
    ·obtain ⟨j,hj,hj'⟩:=mem_at0.1 h1
     have:j < i:=by
      apply Classical.byContradiction
      intro hn
      by_cases e:j=i
      ·subst e;omega
      ·have:=rising_at0 h (show i < j by omega) hj;omega
     have:=ih j this hj
     omega
theorem gapless_ranked {cell rank:List Int} : (∀ c∈keysOf cell,Gapless (ranksOf cell rank c))↔Ranked cell rank:=by
 constructor
 ·intro h w hw
  have hc:=h (at0 cell w) (mem_keysOf.2 (mem_at0.2 ⟨w,hw,rfl⟩))
  replace hc:=(gapless_iff rising_sortD).1 hc
  obtain ⟨h1,h2⟩:=hc (at0 rank w) (mem_ranksOf.2 ⟨w,hw,rfl,rfl⟩)
  refine ⟨h1,h2.imp_right fun h3=>?_⟩
  obtain ⟨v,hv,h4,h5⟩:=mem_ranksOf.1 h3
  exact ⟨v,hv,h4,h5⟩
 ·intro h c hc
  refine (gapless_iff rising_sortD).2 ?_
  intro x hx
  obtain ⟨w,hw,rfl,rfl⟩:=mem_ranksOf.1 hx
  obtain ⟨h1,h2⟩:=h w hw
  refine ⟨h1,h2.imp_right fun ⟨v,hv,h4,h5⟩=>?_⟩
  exact mem_ranksOf.2 ⟨v,hv,h4,h5⟩
theorem fn_plaus_Check (hR:RanksOk T) (p:PM) (hp:IntsOk p.rank):Fn Tryz.prog T f_plaus_Check [.d (dPM p)] [] (.d (.int .i64 (checkL p))) []:=by
 refine fn_dataR hmix k_plaus_Check (by show 1≤123;decide) ?_
 (repeat' ((conv=>whnf);first|refine vA ?_|(refine vD ?_ ?_<;>intro hc<;>try simp only [vL] at hc)|refine vJ fun hg=>?_|refine vX ?_|refine yD (fn_plaus_shape _ _ _) ⟨⟨rfl,rfl⟩,⟨rfl,rfl⟩,⟨rfl,rfl⟩,rfl⟩ rfl ?_));all_goals try conv=>whnf
 ·rw [List.length_map,checkL,if_pos hc]
 ·rw [checkL,if_neg (by omega),if_pos (by omega)]
 have hs0:=‹shapeL p.W p.cell.length p.val=0›
 have hW64:=(shapeL_ok hs0).2.1
 have hlr:p.rank.length=p.cell.length:=by omega
 refine loop_mem (fun (k:Nat)=>[(1,.ptr 0 0),(34,.d (.int .i64 ((p.cell.map dI).length:Int))),(35,.d (.int .i64 ((k:Int))))]) (fun (k:Nat)=>[(0,some (boxPM p))]) 1 (fun (k:Nat)=>k≤p.cell.length ∧ ∀ a,a < k→((rowAt p.cell a).length:Int)=p.W∧((rowAt p.rank a).length:Int)=p.W) (fun (k:Nat)=>p.cell.length - k) (0) [(0,0)] [] (⟨by simp,by simp⟩) (by (refine ⟨rfl,rfl,rfl,?_,?_⟩;repeat' first|exact trivial|exact rfl|refine And.intro ?_ ?_|refine ⟨_,rfl,?_⟩|decide)) ?_
 rintro k ⟨hk,hI⟩
 (repeat' ((conv=>whnf);first|refine vA ?_|((first|refine vD ?_ ?_|refine vF ?_ ?_)<;>intro hc<;>try simp only [vL] at hc)|refine vJ fun hg=>?_|(refine vQ ?_ fun x hx=>?_;·omega)|(refine vO ?_ ?_;·omega)|(refine vU ?_ ?_;·kernel_rfl)|refine vX ?_));all_goals try conv=>whnf
 ·have h1:=rowAt_of hx
  refine (checkL_3 hs0 hlr fun h=>?_).symm
  have:=(h k (by omega)).1
  rw [h1] at this;exact hc this
 ·have h1:=rowAt_of hx
  refine (checkL_3 hs0 hlr fun h=>?_).symm
  have:=(h k (by omega)).2
  rw [h1] at this;exact hc this
 ·have h1:=rowAt_of ‹p.cell[k]? = some _›
  have h2:=rowAt_of ‹p.rank[k]? = some _›
  exact ⟨k+1,[(0,0)],[],⟨by (omega),fun a ha=>by
   by_cases e:a=k
   ·subst e;rw [h1,h2];omega
   ·exact hI a (by omega)⟩,by (omega),by (refine ⟨rfl,rfl,rfl,?_,?_⟩;repeat' first|exact trivial|exact rfl|refine And.intro ?_ ?_|refine ⟨_,rfl,?_⟩|decide)⟩
 have hL:Lens p:=fun a ha=>hI a (by omega)
 refine loop_mem (fun (k:Nat)=>[(1,.ptr 0 0),(60,.d (dII p.cell)),(61,.d (.int .i64 ((p.cell.map dI).length:Int))),(62,.d (.int .i64 ((k:Int))))]) (fun (k:Nat)=>[(0,some (boxPM p))]) 1 (fun (k:Nat)=>k≤p.cell.length ∧ ∀ a,a < k→Cells (rowAt p.cell a)) (fun (k:Nat)=>p.cell.length - k) (0) [(0,0)] [] (⟨by simp,by simp⟩) (by (refine ⟨rfl,rfl,rfl,?_,?_⟩;repeat' first|exact trivial|exact rfl|refine And.intro ?_ ?_|refine ⟨_,rfl,?_⟩|decide)) ?_
 rintro k ⟨hk,hI⟩
 (repeat' ((conv=>whnf);first|refine vA ?_|(refine vF ?_ ?_<;>intro hc<;>try simp only [vL] at hc)|refine vJ fun hg=>?_|(refine vQ ?_ fun x hx=>?_;·omega)|fail));all_goals try conv=>whnf
 ·have h1:=rowAt_of hx
  subst h1
  refine loop_mem (fun (j:Nat)=>[(1,.ptr 0 0),(60,.d (dII p.cell)),(61,.d (.int .i64 ((p.cell.map dI).length:Int))),(62,.d (.int .i64 ((k:Int)))),(6,.d (dI (rowAt p.cell k))),(66,.d (dI (rowAt p.cell k))),(67,.d (.int .i64 (((rowAt p.cell k).map (D.int .i64)).length:Int))),(68,.d (.int .i64 ((j:Int))))]) (fun (j:Nat)=>[(0,some (boxPM p))]) 1 (fun (j:Nat)=>j≤(rowAt p.cell k).length ∧ ∀ w,w < j→0≤at0 (rowAt p.cell k) w∧at0 (rowAt p.cell k) w≤w∧at0 (rowAt p.cell k) (at0 (rowAt p.cell k) w).toNat=at0 (rowAt p.cell k) w) (fun (j:Nat)=>(rowAt p.cell k).length - j) (0) [(0,0)] [] (⟨by simp,by simp⟩) (by (refine ⟨rfl,rfl,rfl,?_,?_⟩;repeat' first|exact trivial|exact rfl|refine And.intro ?_ ?_|refine ⟨_,rfl,?_⟩|decide)) ?_
  rintro j ⟨hj,hJ⟩
  (repeat' ((conv=>whnf);first|refine vA ?_|((first|refine vD ?_ ?_|refine vF ?_ ?_)<;>intro hc<;>try simp only [vL] at hc)|(refine vQ ?_ fun x hx=>?_;·omega)|((first|refine vO ?_ ?_|refine vS ?_ fun x hx=>?_);·omega)|refine vX ?_));all_goals try conv=>whnf
  iterate 2
   ·refine (checkL_1 hs0 hlr hL fun h=>?_).symm
    have:=h k (by omega) j (by omega)
    rw [at0_of hx] at this;omega
  ·refine (checkL_1 hs0 hlr hL fun h=>?_).symm
   have:=h k (by omega) j (by omega)
   rw [at0_of ‹(rowAt p.cell k)[j]? = some _›,at0_of hx] at this;omega
  ·have h0:=at0_of ‹(rowAt p.cell k)[j]? = some _›
   have h1:=at0_of hx
   exact ⟨j+1,[(0,0)],[],⟨by (omega),fun w hw=>by
    by_cases e:w=j
    ·subst e;rw [h0,h1];omega
    ·exact hJ w (by omega)⟩,by (omega),by (refine ⟨rfl,rfl,rfl,?_,?_⟩;repeat' first|exact trivial|exact rfl|refine And.intro ?_ ?_|refine ⟨_,rfl,?_⟩|decide)⟩
  ·exact ⟨k+1,[(0,0)],[],⟨by (omega),fun a ha=>by
    by_cases e:a=k
    ·subst e;exact fun w hw=>hJ w (by omega)
    ·exact hI a (by omega)⟩,by (omega),by (refine ⟨rfl,rfl,rfl,?_,?_⟩;repeat' first|exact trivial|exact rfl|refine And.intro ?_ ?_|refine ⟨_,rfl,?_⟩|decide)⟩
 have hC:AllCells p:=fun a ha=>hI a (by omega)
 refine loop_mem (fun (k:Nat)=>[(1,.ptr 0 0),(91,.d (dII p.cell)),(92,.d (.int .i64 ((p.cell.map dI).length:Int))),(93,.d (.int .i64 ((k:Int))))]) (fun (k:Nat)=>[(0,some (boxPM p))]) 1 (fun (k:Nat)=>k≤p.cell.length ∧ ∀ a,a < k→Ranked (rowAt p.cell a) (rowAt p.rank a)) (fun (k:Nat)=>p.cell.length - k) (0) [(0,0)] [] (⟨by simp,by simp⟩) (by (refine ⟨rfl,rfl,rfl,?_,?_⟩;repeat' first|exact trivial|exact rfl|refine And.intro ?_ ?_|refine ⟨_,rfl,?_⟩|decide)) ?_
 rintro k ⟨hk,hI⟩
 (repeat' ((conv=>whnf);first|refine vA ?_|(refine vF ?_ ?_<;>intro hc<;>try simp only [vL] at hc)|(refine vQ ?_ fun x hx=>?_;·omega)|refine vX ?_));all_goals try conv=>whnf
 ·have h1:=rowAt_of ‹p.cell[k]? = some _›
  have h2:=rowAt_of ‹p.rank[k]? = some _›
  have h3:=hL k (by omega)
  subst h1;subst h2
  refine CallS.dataN (hR (rowAt p.cell k) (rowAt p.rank k) (by omega) (by omega)) (by (repeat refine ⟨⟨rfl,rfl⟩,?_⟩);rfl) ?_
  (repeat' ((conv=>whnf);fail));all_goals try conv=>whnf
  refine loop_mem (fun ((left,cur):List (D×D)×Option (D×D))=>[(1,.ptr 0 0),(91,.d (dII p.cell)),(92,.d (.int .i64 ((p.cell.map dI).length:Int))),(93,.d (.int .i64 ((k:Int)))),(105,.iter 1)]) (fun ((left,cur):List (D×D)×Option (D×D))=>[(0,some (boxPM p)),(1,some (.iter left cur))]) 2 (fun ((left,cur):List (D×D)×Option (D×D)) => ∃ ks:List Int,left=ks.map (fun c=>(D.int .i64 c,dI (ranksOf (rowAt p.cell k) (rowAt p.rank k) c)))∧(∀ c∈ks,c∈keysOf (rowAt p.cell k)) ∧ ∀ c∈keysOf (rowAt p.cell k),c∈ks∨Gapless (ranksOf (rowAt p.cell k) (rowAt p.rank k) c)) (fun ((left,cur):List (D×D)×Option (D×D))=>left.length) ((ranksD (rowAt p.cell k) (rowAt p.rank k),none)) [(0,0),(1,1)] [] (⟨_,rfl,fun c h=>h,fun c h => .inl h⟩) (by (refine ⟨rfl,rfl,rfl,?_,?_⟩;repeat' first|exact trivial|exact rfl|refine And.intro ?_ ?_|refine ⟨_,rfl,?_⟩|decide)) ?_
  rintro ⟨left,cur⟩ ⟨ks,hleft,hks,hdone⟩
  (repeat' ((conv=>whnf);first|refine vA ?_|refine vC (fun hl=>?_) fun i kv vv hi=>?_|refine vG ?_|refine vH ?_|(refine vO ?_ ?_;·omega)|fail));all_goals try conv=>whnf
  ·exact ⟨k+1,[(0,0)],[],⟨by (omega),fun a ha=>by
    by_cases e:a=k
    ·subst e
     rw [hl] at hleft
     have:ks=[]:=by simpa using hleft.symm
     subst this
     exact gapless_ranked.1 fun c hc=>(hdone c hc).resolve_left (by simp)
    ·exact hI a (by omega)⟩,by (omega),by (refine ⟨rfl,rfl,rfl,?_,?_⟩;repeat' first|exact trivial|exact rfl|refine And.intro ?_ ?_|refine ⟨_,rfl,?_⟩|decide)⟩
  ·rw [hleft,List.getElem?_map,Option.map_eq_some_iff] at hi
   obtain ⟨c,hci,hce⟩:=hi
   cases hce
   (repeat' ((conv=>whnf);refine vJ fun hg=>?_));all_goals try conv=>whnf
   refine loop_mem (fun (j:Nat)=>[(1,.ptr 0 0),(91,.d (dII p.cell)),(92,.d (.int .i64 ((p.cell.map dI).length:Int))),(93,.d (.int .i64 ((k:Int)))),(105,.iter 1),(12,.d (dI (ranksOf (rowAt p.cell k) (rowAt p.rank k) c))),(111,.d (.int .i64 (((ranksOf (rowAt p.cell k) (rowAt p.rank k) c).map (D.int .i64)).length:Int))),(112,.d (.int .i64 ((j:Int))))]) (fun (j:Nat)=>[(0,some (boxPM p)),(1,some (.iter (left.eraseIdx i) (some (D.int .i64 c,dI (ranksOf (rowAt p.cell k) (rowAt p.rank k) c)))))]) 2 (fun (j:Nat)=>j≤(ranksOf (rowAt p.cell k) (rowAt p.rank k) c).length ∧ ∀ i,i < j→at0 (ranksOf (rowAt p.cell k) (rowAt p.rank k) c) i=i) (fun (j:Nat)=>(ranksOf (rowAt p.cell k) (rowAt p.rank k) c).length - j) (0) [(0,0),(1,1)] [] (⟨by simp,by simp⟩) (by (refine ⟨rfl,rfl,rfl,?_,?_⟩;repeat' first|exact trivial|exact rfl|refine And.intro ?_ ?_|refine ⟨_,rfl,?_⟩|decide)) ?_
   rintro j ⟨hj,hJ⟩
   (repeat' ((conv=>whnf);first|refine vA ?_|((first|refine vD ?_ ?_|refine vF ?_ ?_)<;>intro hc<;>try simp only [vL] at hc)|(refine vQ ?_ fun x hx=>?_;·omega)|(refine vO ?_ ?_;·omega)|refine vX ?_));all_goals try conv=>whnf
   ·refine (checkL_9 hs0 hlr hL hC fun h=>hc ?_).symm
    have h4:=gapless_ranked.2 (h k (by omega)) c (hks c (List.mem_of_getElem? hci)) j (by omega)
    rw [at0_of hx] at h4;exact h4
   ·have h0:=at0_of hx
    exact ⟨j+1,[(0,0),(1,1)],[],⟨by (omega),fun w hw=>by
     by_cases e:w=j
     ·subst e;rw [h0];omega
     ·exact hJ w (by omega)⟩,by (omega),by (refine ⟨rfl,rfl,rfl,?_,?_⟩;repeat' first|exact trivial|exact rfl|refine And.intro ?_ ?_|refine ⟨_,rfl,?_⟩|decide)⟩
   ·refine ⟨(left.eraseIdx i,some (D.int .i64 c,dI (ranksOf (rowAt p.cell k) (rowAt p.rank k) c))),[(0,0),(1,1)],[],⟨ks.eraseIdx i,?_,?_,?_⟩,?_,⟨rfl,rfl,rfl,by (repeat' first|exact trivial|exact rfl|refine And.intro ?_ ?_|refine ⟨_,rfl,?_⟩),by (repeat' first|exact trivial|exact rfl|refine And.intro ?_ ?_|refine ⟨_,rfl,?_⟩|decide)⟩⟩
    ·rw [hleft,map_erase]
    ·exact fun c h=>hks c (List.mem_of_mem_eraseIdx h)
    ·intro c' h
     rcases hdone c' h with h1|h1
     ·by_cases e:c'=c
      ·subst e;exact .inr fun i hi=>hJ i (by omega)
      ·refine .inl ?_
       rw [List.mem_eraseIdx_iff_getElem?]
       obtain ⟨i',hi'⟩:=List.getElem?_of_mem h1
       exact ⟨i',fun e'=>e (by rw [e',hci] at hi';cases hi';rfl),hi'⟩
     ·exact .inr h1
    ·show (left.eraseIdx i).length < left.length
     have:i < left.length:=by
      rw [hleft,List.length_map];exact (List.getElem?_eq_some_iff.1 hci).1
     rw [List.length_eraseIdx];split<;>omega
 ·exact (checkL_0 hs0 hlr hL hC fun a ha=>hI a (by omega)).symm
end Go.Ab
namespace Go.Ab
open Go Go.Proofs
set_option linter.unusedSimpArgs false
set_option linter.unusedVariables false
set_option maxRecDepth 10000
set_option maxHeartbeats 4000000
variable {T:Nat→Obj→Prop}
structure At (p:PM) (a w:Int):Prop where
 ok:checkL p=0
 a0:0≤a
 a1:a < p.cell.length
 w0:0≤w
 w1:w < p.W
instance (p:PM) (a w:Int):Decidable (At p a w):=decidable_of_iff (checkL p=0∧0≤a∧a < p.cell.length∧0≤w∧w < p.W) ⟨fun ⟨a,b,c,d,e⟩=>⟨a,b,c,d,e⟩,fun ⟨a,b,c,d,e⟩=>⟨a,b,c,d,e⟩⟩
theorem fn_known' (hR:RanksOk T) (p:PM) (hp:IntsOk p.rank) (a w:Int):Fn Tryz.prog T f_plaus_known [.d (dPM p),.d (.int .i64 a),.d (.int .i64 w)] [] (.d (.bool (decide (At p a w)))) []:=by
 have:=fn_known (T:=T) (fun p hp=>fn_plaus_Check hR p hp) p hp a w
 rwa [show decide (checkL p=0∧0≤a∧a < p.cell.length∧0≤w∧w < p.W)=decide (At p a w) from by
  rw [Bool.eq_iff_iff,decide_eq_true_eq,decide_eq_true_eq]
  exact ⟨fun ⟨a,b,c,d,e⟩=>⟨a,b,c,d,e⟩,fun ⟨a,b,c,d,e⟩=>⟨a,b,c,d,e⟩⟩] at this
def cellL (p:PM) (a w:Int):BitVec 64:=if At p a w then cellSet (rowAt p.cell a.toNat) w.toNat else 0#64
def bestL (p:PM) (a w:Int) (s:BitVec 64):BitVec 64:=if At p a w then bestSet (rowAt p.rank a.toNat) (s&&&cellSet (rowAt p.cell a.toNat) w.toNat) else 0#64
theorem At.rows {p:PM} {a w:Int} (h:At p a w):p.cell[a.toNat]? = some (rowAt p.cell a.toNat)∧p.rank[a.toNat]? = some (rowAt p.rank a.toNat)∧((rowAt p.cell a.toNat).length:Int)=p.W∧((rowAt p.rank a.toNat).length:Int)=p.W∧p.W≤64∧a.toNat < p.cell.length∧p.rank.length=p.cell.length:=by
 have hg:=checkL_good h.ok
 have h0:=h.a0
 have h1:=h.a1
 have hl:=hg.lens a.toNat (by omega)
 exact ⟨get_rowAt (by omega),get_rowAt (by rw [hg.len];omega),hl.1,hl.2,hg.w2,by omega,hg.len⟩
theorem fn_Cell (hR:RanksOk T) (p:PM) (hp:IntsOk p.rank) (a w:Int):Fn Tryz.prog T f_plaus_Cell [.d (dPM p),.d (.int .i64 a),.d (.int .i64 w)] [] (.d (.u64 (cellL p a w))) []:=by
 refine fn_dataR hmix k_plaus_Cell (by show 3≤16;decide) ?_
 (repeat' ((conv=>whnf);first|refine vA ?_|refine vE ?_|(refine vF ?_ ?_<;>intro hc)|refine vY ?_|refine yD (fn_known' hR _ hp _ _) (by (repeat refine ⟨⟨rfl,rfl⟩,?_⟩);rfl) rfl ?_));all_goals try conv=>whnf
 ·obtain ⟨h1,-,h2,-⟩:=At.rows hc
  refine CallS.data (fn_cellOf p a w (rowAt p.cell a.toNat) hc.a0 h1 hc.w0 (by rw [h2];exact hc.w1)) (by (repeat refine ⟨⟨rfl,rfl⟩,?_⟩);rfl) rfl ?_
  (repeat' ((conv=>whnf);refine vY ?_));all_goals try conv=>whnf
  rw [cellL,if_pos hc]
 ·rw [cellL,if_neg hc];rfl
theorem ofInt_nat {k:Nat} (h:k < 18446744073709551616):(BitVec.ofInt 64 (k:Int)).toNat=k:=by
 rw [BitVec.toNat_ofInt,Int.emod_eq_of_lt (by omega) (by omega)];rfl
theorem fn_Best (hR:RanksOk T) (p:PM) (hp:IntsOk p.rank) (a w:Int) (s:BitVec 64):Fn Tryz.prog T f_plaus_Best [.d (dPM p),.d (.int .i64 a),.d (.int .i64 w),.d (.u64 s)] [] (.d (.u64 (bestL p a w s))) []:=by
 refine fn_dataR hmix k_plaus_Best (by show 4≤26;decide) ?_
 (repeat' ((conv=>whnf);first|refine vA ?_|refine vE ?_|(refine vF ?_ ?_<;>intro hc)|(refine vS ?_ fun x hx=>?_;·omega)|refine vY ?_|refine yD (fn_known' hR _ hp _ _) (by (repeat refine ⟨⟨rfl,rfl⟩,?_⟩);rfl) rfl ?_));all_goals try conv=>whnf
 ·obtain ⟨hrow,hrank,hlen,hlen',h64,ha,-⟩:=At.rows hc
  have h0:=hc.a0
  (repeat' ((conv=>whnf);first|(refine vR ?_ ‹_› ?_;·omega)|fail));all_goals try conv=>whnf
  refine CallS.data (fn_cellOf p a w (rowAt p.cell a.toNat) h0 hrow hc.w0 (by rw [hlen];exact hc.w1)) (by (repeat refine ⟨⟨rfl,rfl⟩,?_⟩);rfl) rfl ?_
  (repeat' ((conv=>whnf);first|(refine vU ?_ ?_;·kernel_rfl)|refine vY ?_|(refine yD (fn_bestOf _ _ ?_) ⟨⟨rfl,rfl⟩,⟨rfl,rfl⟩,rfl⟩ rfl ?_;(·omega))|fail));all_goals try conv=>whnf
  rw [bestL,if_pos hc]
 ·rw [bestL,if_neg hc];rfl
def weakRow (cell rank:List Int) (w:Nat):Nat→BitVec 64:=setTo fun v=>at0 cell v==at0 cell w&&decide (at0 rank v≤at0 rank w)
def weakL (p:PM) (a:Nat):List (BitVec 64):=(List.range p.W.toNat).map fun w=>weakRow (rowAt p.cell a) (rowAt p.rank a) w p.W.toNat
def weakerL (p:PM) (a:Int):List (BitVec 64)×Int:=if checkL p≠0 then ([],checkL p) else if a < 0∨(p.cell.length:Int)≤a then ([],2) else (weakL p a.toNat,0)
abbrev dUI (x:List (BitVec 64)×Int):D := .tup [dU x.1,.int .i64 x.2]
theorem set_range {β:Type} {g:Nat→β} {n k:Nat} (x:β):((List.range n).map g).set k x=(List.range n).map fun u=>if u=k then x else g u:=by
 refine List.ext_getElem (by simp) fun i h1 h2=>?_
 rw [List.getElem_set]
 by_cases e:k=i
 ·subst e;simp
 ·simp [e,Ne.symm e]
theorem map_range_congr {β:Type} {g h:Nat→β} {n:Nat} (e : ∀ u,u < n→g u=h u):(List.range n).map g=(List.range n).map h :=
 List.map_congr_left fun u hu=>e u (List.mem_range.1 hu)
theorem get_range {n k x:Nat} (h:(List.range n)[k]? = some x):x=k:=by
 obtain ⟨h1,rfl⟩:=List.getElem?_eq_some_iff.1 h
 simp
theorem replicate_range {β:Type} (x:β) (n:Nat):List.replicate n x=(List.range n).map fun _=>x:=by
 refine List.ext_getElem (by simp) fun i h1 h2=>by simp
theorem fn_Weaker (hR:RanksOk T) (p:PM) (hp:IntsOk p.rank) (a:Int):Fn Tryz.prog T f_plaus_Weaker [.d (dPM p),.d (.int .i64 a)] [] (.d (dUI (weakerL p a))) []:=by
 refine fn_dataR hmix k_plaus_Weaker (by show 2≤84;decide) ?_
 (repeat' ((conv=>whnf);first|refine vA ?_|((first|refine vD ?_ ?_|refine vF ?_ ?_)<;>intro hc<;>try simp only [vL] at hc)|refine vJ fun hg=>?_|(refine vP ?_ ?_;·omega)|refine yD (fn_plaus_Check hR _ hp) ⟨⟨rfl,rfl⟩,rfl⟩ rfl ?_));all_goals try conv=>whnf
 ·rw [weakerL,if_pos hc];rfl
 ·rw [weakerL,if_neg (by omega),if_pos (.inl hc)];rfl
 ·rw [weakerL,if_neg (by omega),if_pos (.inr hc)];rfl
 have hg:=checkL_good ‹checkL p=0›
 have hw1:=hg.w1
 have hw2:=hg.w2
 have hrow:=get_rowAt (l:=p.cell) (i:=a.toNat) (by omega)
 have hrank:=get_rowAt (l:=p.rank) (i:=a.toNat) (by have:=hg.len;omega)
 obtain ⟨hl1,hl2⟩:=hg.lens a.toNat (by omega)
 have hlr:=hg.len
 (repeat' ((conv=>whnf);first|refine vA ?_|refine vK fun hg=>?_|(refine vP ?_ ?_;·omega)|fail));all_goals try conv=>whnf
 refine loop_mem (fun ((k,xs):Nat×List D)=>[(1,.d (.int .i64 (a))),(2,.ptr 0 0),(7,.own 1),(28,.d (.int .i64 ((List.replicate p.W.toNat (D.u64 0#64)).length:Int))),(29,.d (.int .i64 ((k:Int))))]) (fun ((k,xs):Nat×List D)=>[(0,some (boxPM p)),(1,some (.row 1 xs))]) 2 (fun ((k,xs):Nat×List D)=>k≤p.W.toNat∧xs=(List.range p.W.toNat).map fun u=>D.u64 (if u < k then weakRow (rowAt p.cell a.toNat) (rowAt p.rank a.toNat) u p.W.toNat else 0#64)) (fun ((k,xs):Nat×List D)=>p.W.toNat - k) ((0,List.replicate p.W.toNat (D.u64 0#64))) [(0,0),(1,1)] [] (⟨by simp,by simp only [Nat.not_lt_zero,if_false];exact replicate_range _ _⟩) (by (refine ⟨rfl,rfl,rfl,?_,?_⟩;repeat' first|exact trivial|exact rfl|refine And.intro ?_ ?_|refine ⟨_,rfl,?_⟩|decide)) ?_
 rintro ⟨k,_⟩ ⟨hk,rfl⟩
 (repeat' ((conv=>whnf);first|refine vA ?_|(refine vF ?_ ?_<;>intro hc<;>try simp only [vL] at hc)|refine vJ fun hg=>?_));all_goals try conv=>whnf
 ·refine loop_mem (fun ((j,xs):Nat×List D)=>[(1,.d (.int .i64 (a))),(2,.ptr 0 0),(7,.own 1),(8,.d (.int .i64 ((k:Int)))),(28,.d (.int .i64 ((List.replicate p.W.toNat (D.u64 0#64)).length:Int))),(29,.d (.int .i64 ((k:Int)))),(33,.d (.int .i64 (((List.range p.W.toNat).map fun u=>D.u64 (if u < k then weakRow (rowAt p.cell a.toNat) (rowAt p.rank a.toNat) u p.W.toNat else 0#64)).length:Int))),(34,.d (.int .i64 ((j:Int))))]) (fun ((j,xs):Nat×List D)=>[(0,some (boxPM p)),(1,some (.row 1 xs))]) 2 (fun ((j,xs):Nat×List D)=>j≤p.W.toNat∧xs=(List.range p.W.toNat).map fun u=>D.u64 (if u < k then weakRow (rowAt p.cell a.toNat) (rowAt p.rank a.toNat) u p.W.toNat else if u=k then weakRow (rowAt p.cell a.toNat) (rowAt p.rank a.toNat) k j else 0#64)) (fun ((j,xs):Nat×List D)=>p.W.toNat - j) ((0,_)) [(0,0),(1,1)] [] (⟨by simp,map_range_congr fun u hu=>by simp [weakRow,setTo]⟩) (by (refine ⟨rfl,rfl,rfl,?_,?_⟩;repeat' first|exact trivial|exact rfl|refine And.intro ?_ ?_|refine ⟨_,rfl,?_⟩|decide)) ?_
  rintro ⟨j,_⟩ ⟨hj,rfl⟩
  (repeat' ((conv=>whnf);first|refine vA ?_|(refine vF ?_ ?_<;>intro hc<;>try simp only [vL] at hc)|(refine vQ ?_ fun x hx=>?_;·first|omega|(simp only [vM] at *;omega))|((first|refine vO ?_ ?_|refine vR ?_ ‹_› ?_|refine vP ?_ ?_);·first|omega|(simp only [vM] at *;omega))|(refine vU ?_ ?_;·kernel_rfl)|fail));all_goals try conv=>whnf
  ·have h1:=at0_of ‹(rowAt p.cell a.toNat)[j]? = some _›
   have h2:=at0_of ‹(rowAt p.cell a.toNat)[k]? = some _›
   have h3:=at0_of ‹(rowAt p.rank a.toNat)[j]? = some _›
   have h4:=at0_of ‹(rowAt p.rank a.toNat)[k]? = some _›
   have hx':=get_range hx
   refine ⟨(j+1,_),[(0,0),(1,1)],[],?_,?_,by (refine ⟨rfl,rfl,rfl,?_,?_⟩;repeat' first|exact trivial|exact rfl|refine And.intro ?_ ?_|refine ⟨_,rfl,?_⟩|decide)⟩
   ·refine ⟨by (omega),(set_range _).trans (map_range_congr fun u hu=>?_)⟩
    have e0:(at0 (rowAt p.cell a.toNat) j==at0 (rowAt p.cell a.toNat) k&&decide (at0 (rowAt p.rank a.toNat) j≤at0 (rowAt p.rank a.toNat) k))=true:=by
     simp only [Bool.and_eq_true,beq_iff_eq,decide_eq_true_eq];omega
    show (if u=k then _ else _)=_
    have hx'':x=k:=hx'
    subst hx''
    by_cases e:u=x
    ·subst e
     simp only [Nat.lt_irrefl,if_false,if_true,weakRow,setTo,e0];rfl
    ·rw [if_neg e];simp only [if_neg e]
   ·((simp only [vM] at *;omega))
  ·have h1:=at0_of ‹(rowAt p.cell a.toNat)[j]? = some _›
   have h2:=at0_of ‹(rowAt p.cell a.toNat)[k]? = some _›
   have h3:=at0_of ‹(rowAt p.rank a.toNat)[j]? = some _›
   have h4:=at0_of ‹(rowAt p.rank a.toNat)[k]? = some _›
   refine ⟨(j+1,_),[(0,0),(1,1)],[],?_,?_,by (refine ⟨rfl,rfl,rfl,?_,?_⟩;repeat' first|exact trivial|exact rfl|refine And.intro ?_ ?_|refine ⟨_,rfl,?_⟩|decide)⟩
   ·refine ⟨by (omega),map_range_congr fun u hu=>?_⟩
    have e0:(at0 (rowAt p.cell a.toNat) j==at0 (rowAt p.cell a.toNat) k&&decide (at0 (rowAt p.rank a.toNat) j≤at0 (rowAt p.rank a.toNat) k))=false:=by
     rw [Bool.and_eq_false_iff];right;rw [decide_eq_false_iff_not];omega
    simp only [weakRow,setTo,e0,Bool.false_eq_true,if_false]
   ·((simp only [vM] at *;omega))
  ·have h1:=at0_of ‹(rowAt p.cell a.toNat)[j]? = some _›
   have h2:=at0_of ‹(rowAt p.cell a.toNat)[k]? = some _›
   refine ⟨(j+1,_),[(0,0),(1,1)],[],?_,?_,by (refine ⟨rfl,rfl,rfl,?_,?_⟩;repeat' first|exact trivial|exact rfl|refine And.intro ?_ ?_|refine ⟨_,rfl,?_⟩|decide)⟩
   ·refine ⟨by (omega),map_range_congr fun u hu=>?_⟩
    have e0:(at0 (rowAt p.cell a.toNat) j==at0 (rowAt p.cell a.toNat) k&&decide (at0 (rowAt p.rank a.toNat) j≤at0 (rowAt p.rank a.toNat) k))=false:=by
     rw [Bool.and_eq_false_iff];left;rw [beq_eq_false_iff_ne];omega
    simp only [weakRow,setTo,e0,Bool.false_eq_true,if_false]
   ·((simp only [vM] at *;omega))
  ·refine ⟨(k+1,_),[(0,0),(1,1)],[],?_,?_,by (refine ⟨rfl,rfl,rfl,?_,?_⟩;repeat' first|exact trivial|exact rfl|refine And.intro ?_ ?_|refine ⟨_,rfl,?_⟩|decide)⟩
   ·refine ⟨by (omega),map_range_congr fun u hu=>?_⟩
    have e0:j=p.W.toNat:=by (omega)
    subst e0
    by_cases e:u=k
    ·subst e;simp
    ·by_cases e1:u < k
     ·simp [e1,show u < k+1 by omega]
     ·simp [e1,e,show ¬ u < k+1 by omega]
   ·((simp only [vM] at *;omega))
 ·rw [weakerL,if_neg (by omega),if_neg (by omega),weakL]
  have e0:k=p.W.toNat:=by (omega)
  refine congrArg some (congrArg D.tup (congrArg (fun l=>[D.arr 1 l,D.int .i64 0]) ?_))
  rw [List.map_map]
  refine map_range_congr fun u hu=>?_
  rw [if_pos (by omega)];rfl
end Go.Ab
namespace Go.Ab
open Go Go.Proofs
set_option linter.unusedSimpArgs false
set_option linter.unusedVariables false
set_option maxRecDepth 10000
set_option maxHeartbeats 4000000
variable {T:Nat→Obj→Prop}
structure KM where
 W:Int
 val:List (BitVec 64)
 rel:List (List (BitVec 64))
 deriving DecidableEq
abbrev dKM (m:KM):D := .agg [.int .i64 m.W,dU m.val,dUU m.rel]
abbrev boxKM (m:KM):Ob := .box [.d (.int .i64 m.W),.d (dU m.val),.d (dUU m.rel)]
def kripkeL (p:PM) (succ:Nat→Nat→BitVec 64):KM×Int :=
 if checkL p≠0 then (⟨0,[],[]⟩,checkL p) else (⟨p.W,p.val,(List.range p.cell.length).map fun a=>(List.range p.W.toNat).map fun w=>succ a w⟩,0)
abbrev dKI (x:KM×Int):D := .tup [dKM x.1,.int .i64 x.2]
abbrev dBox (p:PM):D := .box [.int .i64 p.W,dU p.val,dII p.cell,dII p.rank]
end Go.Ab
namespace Go.Ab
open Go Go.Proofs
set_option linter.unusedSimpArgs false
set_option linter.unusedVariables false
set_option maxRecDepth 10000
set_option maxHeartbeats 4000000
variable {T:Nat→Obj→Prop}
theorem all_no {P:Nat→Prop} [DecidablePred P] {j:Nat} (h : ¬P j):false=decide (∀ u,u < j+1→P u):=by
 symm;rw [decide_eq_false_iff_not];exact fun h'=>h (h' j (by omega))
theorem all_yes {P:Nat→Prop} [DecidablePred P] {j:Nat} {b:Bool} (hb:b=decide (∀ u,u < j→P u)) (h:P j):b=decide (∀ u,u < j+1→P u):=by
 rw [hb,Bool.eq_iff_iff,decide_eq_true_eq,decide_eq_true_eq]
 refine ⟨fun h' u hu=>?_,fun h' u hu=>h' u (by omega)⟩
 by_cases e:u=j
 ·subst e;exact h
 ·exact h' u (by omega)
theorem bestL_64 {p:PM} {a w:Int} {s S:BitVec 64} (hat:At p a w) (hS:S=s&&&cellL p a w):setTo (leastIn (rowAt p.rank a.toNat) S 64) 64=bestL p a w s:=by
 obtain ⟨-,-,hlen,hlen',h64,-⟩:=hat.rows
 have hSb : ∀ u,S.getLsbD u=true→u < (rowAt p.rank a.toNat).length:=fun u hu=>by
  rw [hS,cellL,if_pos hat,BitVec.getLsbD_and,cellSet,setTo_bit] at hu
  simp only [Bool.and_eq_true,decide_eq_true_eq] at hu
  omega
 rw [bestL,if_pos hat,bestSet]
 rw [cellL,if_pos hat] at hS
 rw [← hS]
 refine bits_ext fun i hi=>?_
 rw [best_bit,best_bit]
 constructor
 ·rintro ⟨h1,h2,h3⟩
  exact ⟨hSb i h2,h2,fun u hu=>h3 u (by omega)⟩
 ·rintro ⟨h1,h2,h3⟩
  exact ⟨by omega,h2,fun u hu hs=>h3 u (hSb u hs) hs⟩
theorem allL_bit {n:Int} {i:Nat} (h1:0≤n) (hi:i < 64):(allL n).getLsbD i=decide ((i:Int) < n):=by
 unfold allL
 split
 ·rename_i h
  rw [show ((-1:BitVec 64))=BitVec.allOnes 64 from rfl,BitVec.getLsbD_allOnes]
  simp [hi];omega
 ·rename_i h
  obtain ⟨m,rfl⟩:=Int.eq_ofNat_of_zero_le h1
  have hm:m < 64:=by omega
  rw [show (1#64 <<< (m:Int).toNat - 1#64)=BitVec.setWidth 64 (BitVec.allOnes m) from ?_]
  ·rw [BitVec.getLsbD_setWidth,BitVec.getLsbD_allOnes];simp [hi]
  ·apply BitVec.eq_of_toNat_eq
   have h2:2 ^ m < 2 ^ 64:=Nat.pow_lt_pow_right (by omega) hm
   have h3:0 < 2 ^ m:=Nat.two_pow_pos m
   rw [BitVec.toNat_sub,BitVec.toNat_shiftLeft,BitVec.toNat_setWidth,BitVec.toNat_allOnes]
   simp only [Int.toNat_natCast,Nat.shiftLeft_eq]
   rw [show (1#64).toNat=1 from rfl,Nat.one_mul,Nat.mod_eq_of_lt h2,Nat.mod_eq_of_lt (show 2 ^ m - 1 < 2 ^ 64 by omega)]
   omega
theorem best_all {p:PM} {a w:Nat} (hg:checkL p=0) (ha:a < p.cell.length) (hw:w < p.W.toNat):bestSet (rowAt p.rank a) (cellSet (rowAt p.cell a) w)=bestL p (a:Int) (w:Int) (allL p.W):=by
 have hat:At p a w:=⟨hg,by omega,by omega,by omega,by omega⟩
 obtain ⟨-,-,h2,-,h3,-⟩:=hat.rows
 rw [bestL,if_pos hat]
 congr 1
 refine bits_ext fun i hi=>?_
 show (cellSet (rowAt p.cell a) w).getLsbD i=true↔(allL p.W&&&cellSet (rowAt p.cell a) w).getLsbD i=true
 rw [BitVec.getLsbD_and,allL_bit (by omega) hi,cellSet,setTo_bit]
 simp only [Bool.and_eq_true,decide_eq_true_eq]
 have h2':((rowAt p.cell a).length:Int)=p.W:=h2
 constructor
 ·rintro ⟨⟨h4,h5⟩,h6⟩;exact ⟨by omega,⟨h4,h5⟩,h6⟩
 ·rintro ⟨-,h⟩;exact h
end Go.Ab
namespace Go.Ab
open Go Go.Proofs
set_option linter.unusedSimpArgs false
set_option linter.unusedVariables false
set_option maxRecDepth 10000
set_option maxHeartbeats 4000000
variable {T:Nat→Obj→Prop}
def bitsOf (s:BitVec 64):List Nat:=(List.range 64).filter fun i=>s.getLsbD i
theorem filter_first {p:Nat→Bool} {k:Nat} (hk:p k=true) (hlow : ∀ i,i < k→p i=false) : ∀ n,k < n→(List.range n).filter p=k::(List.range n).filter fun i=>p i&&i != k
 | 0,h=>by omega
 | n+1,h=>by
  rw [List.range_succ,List.filter_append,List.filter_append]
  by_cases e:k=n
  ·subst e
   have h1:(List.range k).filter p=[]:=by
    rw [List.filter_eq_nil_iff];intro i hi;rw [hlow i (List.mem_range.1 hi)];simp
   have h2:((List.range k).filter fun i=>p i&&i != k)=[]:=by
    rw [List.filter_eq_nil_iff];intro i hi;rw [hlow i (List.mem_range.1 hi)];simp
   rw [h1,h2]
   simp [hk]
  ·rw [filter_first hk hlow n (by omega)]
   have:(n != k)=true:=by simp;omega
   have:List.filter (fun i=>p i&&i != k) [n]=List.filter p [n]:=by
    simp only [List.filter,this,Bool.and_true]
   rw [this];rfl
theorem low_bit (s:BitVec 64) (h:s≠0#64):Lib.ctz 64 s.toNat < 64∧s.getLsbD (Lib.ctz 64 s.toNat)=true∧(∀ i,i < Lib.ctz 64 s.toNat→s.getLsbD i=false) ∧
  ∀ i,(s&&&(s - 1#64)).getLsbD i=(s.getLsbD i&&i != Lib.ctz 64 s.toNat):=by
 have h0:s.toNat≠0:=fun e=>h (BitVec.eq_of_toNat_eq (by simpa using e))
 have hc:Lib.ctz 64 s.toNat=Lib.ctzFrom 64 s.toNat:=by rw [Lib.ctz,if_neg h0]
 rw [hc]
 obtain ⟨m,hm,hlt⟩:=Lib.ctzFrom_spec 64 s.toNat (by omega) s.isLt
 generalize Lib.ctzFrom 64 s.toNat=k at hm hlt
 have hp:0 < 2 ^ k:=Nat.two_pow_pos k
 have hs:s.toNat=2 ^ k * (2 * m+1)+0:=hm
 have hbit : ∀ i,s.getLsbD i=if i < k then false else (2 * m+1).testBit (i - k):=fun i=>by
  rw [BitVec.getLsbD,hs,Nat.testBit_two_pow_mul_add _ hp]
  simp
 have hsub:(s - 1#64).toNat=2 ^ k * (2 * m)+(2 ^ k - 1):=by
  rw [BitVec.toNat_sub]
  have hlt':=s.isLt
  rw [hm] at hlt' ⊢
  rw [show (1#64).toNat=1 from rfl,Nat.mul_add,Nat.mul_one]
  rw [Nat.mul_add,Nat.mul_one] at hlt'
  omega
 have hbit' : ∀ i,(s - 1#64).getLsbD i=if i < k then (2 ^ k - 1).testBit i else (2 * m).testBit (i - k):=fun i=>by
  rw [BitVec.getLsbD,hsub,Nat.testBit_two_pow_mul_add _ (by omega)]
 refine ⟨hlt,?_,fun i hi=>?_,fun i=>?_⟩
 ·rw [hbit,if_neg (by omega),Nat.sub_self,Nat.testBit_zero];simp
 ·rw [hbit,if_pos hi]
 ·rw [BitVec.getLsbD_and,hbit,hbit']
  by_cases h1:i < k
  ·simp [h1]
  ·simp only [h1,if_false]
   by_cases h2:i=k
   ·subst h2;simp [Nat.testBit_zero]
   ·obtain ⟨j,hj⟩ : ∃ j,i - k=j+1:=⟨i - k - 1,by omega⟩
    rw [hj,Nat.testBit_succ,Nat.testBit_succ]
    have e1:(2 * m+1) / 2=m:=by omega
    have e2:2 * m / 2=m:=by omega
    rw [e1,e2]
    simp [h2]
theorem bitsOf_step (s:BitVec 64) (h:s≠0#64):bitsOf s=Lib.ctz 64 s.toNat::bitsOf (s&&&(s - 1#64)):=by
 obtain ⟨h1,h2,h3,h4⟩:=low_bit s h
 rw [bitsOf,filter_first h2 h3 64 h1,bitsOf]
 congr 1
 exact List.filter_congr fun i _=>(h4 i).symm
theorem bitsOf_zero:bitsOf 0#64=[]:=by decide
abbrev dBits (s:BitVec 64):List (List D):=(bitsOf s).map fun (i:Nat)=>[D.int .i64 (i:Int)]
def unionOf (r:List (BitVec 64)) (l:List Nat):BitVec 64:=l.foldl (fun o w=>o|||r.getD w 0#64) 0#64
theorem dBits_get {s:BitVec 64} {i:Nat} {x:List D} (h:(dBits s)[i]? = some x) : ∃ w:Nat,(bitsOf s)[i]? = some w∧x=[.int .i64 (w:Int)]∧s.getLsbD w=true∧w < 64:=by
 rw [List.getElem?_map,Option.map_eq_some_iff] at h
 obtain ⟨w,hw,rfl⟩:=h
 have:=List.mem_filter.1 (List.mem_of_getElem? hw)
 exact ⟨w,hw,rfl,this.2,List.mem_range.1 this.1⟩
theorem unionOf_snoc {r:List (BitVec 64)} {l:List Nat} {i w:Nat} (h:l[i]? = some w):unionOf r (l.take (i+1))=unionOf r (l.take i)|||r.getD w 0#64:=by
 rw [List.take_add_one,h];simp [unionOf]
def rb (r:List (BitVec 64)) (w v:Nat):Bool:=(r.getD w 0#64).getLsbD v
theorem rb_of {r:List (BitVec 64)} {w:Nat} {s:BitVec 64} (h:r[w]? = some s) (v:Nat):rb r w v=s.getLsbD v:=by simp [rb,List.getD,h]
theorem rb_out {r:List (BitVec 64)} {w v:Nat} (h:r.length≤w):rb r w v=false:=by simp [rb,List.getD,h]
def Inside (r:List (BitVec 64)):Prop := ∀ w v,rb r w v=true→v < r.length
def revL (r:List (BitVec 64)):List (BitVec 64):=(List.range r.length).map fun v=>setTo (fun w=>rb r w v) r.length
theorem mem_bitsOf {s:BitVec 64} {v:Nat} : v∈bitsOf s↔s.getLsbD v=true:=by
 rw [bitsOf,List.mem_filter,List.mem_range]
 constructor
 ·exact fun h=>h.2
 ·exact fun h=>⟨BitVec.lt_of_getLsbD h,h⟩
theorem rev_step {l:List Nat} {i v k:Nat} {f:Nat→BitVec 64} (h:l[i]? = some v) (hl:l.Nodup) (u:Nat) :
  (if u=v then (f v|||if v∈l.take i then 1#64 <<< k else 0#64)|||1#64 <<< k else f u|||if u∈l.take i then 1#64 <<< k else 0#64)=f u|||if u∈l.take (i+1) then 1#64 <<< k else 0#64:=by
 rw [List.take_add_one,h]
 by_cases e:u=v
 ·subst e
  simp
  split<;>simp [BitVec.or_assoc]
 ·simp [e]
theorem nodup_bitsOf (s:BitVec 64):(bitsOf s).Nodup:=List.nodup_range.filter _
def findL {α:Type} (p:α→Bool) (l:List α):Int:=if l.findIdx p < l.length then (l.findIdx p:Int) else -1
theorem findL_hit {α:Type} {p:α→Bool} {l:List α} {k:Nat} {x:α} (h:l[k]? = some x) (hp:p x=true) (hI : ∀ i y,i < k→l[i]? = some y→p y=false):findL p l=k:=by
 obtain ⟨hk,rfl⟩:=List.getElem?_eq_some_iff.1 h
 have:l.findIdx p=k:=by
  rw [List.findIdx_eq hk]
  exact ⟨hp,fun j hj=>by simpa using hI j l[j] hj (List.getElem?_eq_getElem (by omega))⟩
 rw [findL,this,if_pos hk]
theorem findL_none {α:Type} {p:α→Bool} {l:List α} (hI : ∀ i y,i < l.length→l[i]? = some y→p y=false):findL p l = -1:=by
 rw [findL,if_neg]
 intro h
 have h1:=List.findIdx_getElem (p:=p) (xs:=l) (w:=h)
 rw [hI _ _ h (List.getElem?_eq_getElem h)] at h1;cases h1
theorem findL_nonneg {α:Type} {p:α→Bool} {l:List α} : 0≤findL p l ↔ ∃ x∈l,p x=true:=by
 rw [findL,← List.findIdx_lt_length]
 split<;>omega
def relCheck (r:List (BitVec 64)):Int:=if 64 < r.length then 2 else if r.any (bad r.length) then 1 else 0
theorem bad_false {n:Int} {s:BitVec 64} (h:0≤n):bad n s=false ↔ ∀ i,s.getLsbD i=true→(i:Int) < n:=by
 rw [bad,decide_eq_false_iff_not,Classical.not_not]
 constructor
 ·intro e i hi
  have hlt:=BitVec.lt_of_getLsbD hi
  have:=congrArg (fun x=>x.getLsbD i) e
  simp only [BitVec.getLsbD_and,BitVec.getLsbD_not,hlt,decide_true,Bool.true_and,hi,allL_bit h hlt] at this
  simpa using this
 ·intro hs
  apply BitVec.eq_of_getLsbD_eq
  intro i hi
  rw [BitVec.getLsbD_and,BitVec.getLsbD_not,allL_bit h hi]
  cases hb:s.getLsbD i with
  | false=>simp
  | true=>have:=hs i hb;simp [hi,this]
theorem relCheck_ok {r:List (BitVec 64)} : relCheck r=0↔r.length≤64∧Inside r:=by
 unfold relCheck
 by_cases h1:64 < r.length
 ·rw [if_pos h1];simp;omega
 ·rw [if_neg h1]
  have:(r.any (bad r.length)=false)↔Inside r:=by
   rw [List.any_eq_false]
   constructor
   ·intro h w v hv
    by_cases hw:w < r.length
    ·have:=(bad_false (n:=(r.length:Int)) (by omega)).1 (by simpa using h r[w] (List.getElem_mem hw)) v (by rw [← rb_of (List.getElem?_eq_getElem hw)];exact hv)
     omega
    ·rw [rb_out (by omega)] at hv;cases hv
   ·intro h s hs
    obtain ⟨w,hw⟩:=List.getElem?_of_mem hs
    rw [(bad_false (n:=(r.length:Int)) (by omega)).2 (fun i hi=>by have:=h w i (by rw [rb_of hw];exact hi);omega)]
    simp
  cases hb:r.any (bad r.length) with
  | true =>
   rw [if_pos rfl]
   have : ¬ Inside r:=fun h=>by have:=this.2 h;rw [hb] at this;cases this
   simp [this]
  | false =>
   simp only [Bool.false_eq_true,if_false,true_iff]
   exact ⟨by omega,this.1 hb⟩
theorem unionOf_bit {r:List (BitVec 64)} {v:Nat} : ∀ {l:List Nat},(unionOf r l).getLsbD v=true ↔ ∃ u∈l,rb r u v=true:=by
 have key : ∀ (l:List Nat) (o:BitVec 64),(l.foldl (fun o w=>o|||r.getD w 0#64) o).getLsbD v=true↔o.getLsbD v=true ∨ ∃ u∈l,rb r u v=true:=by
  intro l
  induction l with
  | nil=>intro o;simp
  | cons u l ih =>
   intro o
   rw [List.foldl_cons,ih,BitVec.getLsbD_or,Bool.or_eq_true]
   constructor
   ·rintro ((h|h)|⟨w,h1,h2⟩)
    ·exact .inl h
    ·exact .inr ⟨u,by simp,h⟩
    ·exact .inr ⟨w,by simp [h1],h2⟩
   ·rintro (h|⟨w,h1,h2⟩)
    ·exact .inl (.inl h)
    ·rcases List.mem_cons.1 h1 with rfl|h1
     ·exact .inl (.inr h2)
     ·exact .inr ⟨w,h1,h2⟩
 intro l
 rw [unionOf,key];simp
theorem andNot_zero {x y:BitVec 64} : x &&& ~~~y=0#64 ↔ ∀ i,x.getLsbD i=true→y.getLsbD i=true:=by
 constructor
 ·intro e i hi
  have hlt:=BitVec.lt_of_getLsbD hi
  have:=congrArg (fun x=>x.getLsbD i) e
  simp only [BitVec.getLsbD_and,BitVec.getLsbD_not,hlt,decide_true,Bool.true_and,hi] at this
  simpa using this
 ·intro h
  apply BitVec.eq_of_getLsbD_eq
  intro i hi
  rw [BitVec.getLsbD_and,BitVec.getLsbD_not]
  cases hb:x.getLsbD i with
  | false=>simp
  | true=>simp [hi,h i hb]
theorem revL_bit {r:List (BitVec 64)} (hl:r.length≤64) {v w:Nat} : rb (revL r) v w=(decide (v < r.length)&&decide (w < r.length)&&rb r w v):=by
 by_cases hv:v < r.length
 ·have:(revL r)[v]? = some (setTo (fun w=>rb r w v) r.length):=by simp [revL,hv]
  rw [rb_of this,setTo_bit]
  by_cases hw:w < r.length
  ·simp [hv,hw,show w < 64 by omega]
  ·simp [hw]
 ·rw [rb_out (by simp [revL];omega)];simp [hv]
theorem rel_ext {r s:List (BitVec 64)} (hl:r.length=s.length) (h : ∀ w v,w < r.length→rb r w v=rb s w v):r=s:=by
 refine List.ext_getElem hl fun w h1 h2=>?_
 apply BitVec.eq_of_getLsbD_eq
 intro i _
 have:=h w i h1
 rwa [rb_of (List.getElem?_eq_getElem h1),rb_of (List.getElem?_eq_getElem h2)] at this
def HasP (r:List (BitVec 64)) (p:Int):Prop:=relCheck r=0 ∧
 ((p=1 ∧ ∀ w,w < r.length → ∃ v,rb r w v=true)∨(p=2 ∧ ∀ w,w < r.length→rb r w w=true)∨(p=3 ∧ ∀ w v,rb r w v=true→rb r v w=true) ∨
  (p=4 ∧ ∀ w u v,rb r w u=true→rb r u v=true→rb r w v=true)∨(p=5 ∧ ∀ w u v,rb r w u=true→rb r w v=true→rb r u v=true))
noncomputable def hasB (r:List (BitVec 64)) (p:Int):Bool := @decide (HasP r p) (Classical.propDecidable _)
theorem hasB_iff {r:List (BitVec 64)} {p:Int} : hasB r p=true↔HasP r p:=by simp [hasB]
theorem hasB_no {r:List (BitVec 64)} {p:Int} : hasB r p=false ↔ ¬HasP r p:=by simp [hasB]
theorem zero_iff {s:BitVec 64} : s=0#64 ↔ ∀ i,s.getLsbD i=false:=by
 constructor
 ·rintro rfl i;simp
 ·intro h;apply BitVec.eq_of_getLsbD_eq;intro i _;rw [h i];simp
theorem sym_iff {r:List (BitVec 64)} (hl:r.length≤64) (hi:Inside r):r=revL r ↔ ∀ w v,rb r w v=true→rb r v w=true:=by
 constructor
 ·intro e w v h
  rw [e,revL_bit hl] at h
  simp only [Bool.and_eq_true] at h
  exact h.2
 ·intro h
  refine rel_ext (by simp [revL]) fun w v hw=>?_
  rw [revL_bit hl,Bool.eq_iff_iff]
  simp only [Bool.and_eq_true,decide_eq_true_eq]
  constructor
  ·intro hb;exact ⟨⟨hw,hi _ _ hb⟩,h _ _ hb⟩
  ·rintro ⟨_,hb⟩;exact h _ _ hb
theorem bitzero {s:BitVec 64} {k:Nat} : s >>> (k:Int).toNat&&&1#64=0#64↔s.getLsbD k=false:=bit_zero s k
end Go.Ab
