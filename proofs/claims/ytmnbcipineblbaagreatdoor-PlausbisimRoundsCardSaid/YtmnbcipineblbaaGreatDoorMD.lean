/- A part of the proofs of this seat: functions and their contracts. -/
import Derived.Test.YtmnbcipineblbaaGreatDoorMC
import Derived.Test.YtmnbcipineblbaaGreatDoorProg
import Derived.Lib.TrailingZeros
import Derived.Sort.AssemblyPlain
import Derived.Shelf.Strconv.Itoa0
import Derived.Sort.WalkA14
import Derived.Sort.LotD4
import Derived.WalkKit
import Derived.Maps.OwnRows
import Derived.Maps.RangeRun
set_option linter.unusedVariables false
set_option linter.unusedSimpArgs false
set_option linter.unusedSectionVars false
namespace Go.Ab.K
open Go
abbrev t:=Arg.t
abbrev c:=Arg.c
abbrev n (x:Int):V := .d (.int .i64 x)
abbrev u (x:BitVec 64):V := .d (.u64 x)
abbrev m (x:Nat):CO := .mv (.t x)
abbrev pf (x y:Nat):CO := .pick (.t x) (.t y) (.c .bf)
abbrev pt (x y:Nat):CO := .pick (.t x) (.c .bt) (.t y)
abbrev b (o:BinOp) (x y:Nat):CO := .bin o (.t x) (.t y)
abbrev bc (o:BinOp) (x:Nat) (y:V):CO := .bin o (.t x) (.c y)
abbrev l (x:Nat):CO := .load none (.t x)
abbrev la (k x:Nat):CO := .load (some k) (.t x)
abbrev f (o x:Nat):CO := .faddr o (.t x)
abbrev ia (s x i:Nat):CO := .iaddr s (.t x) (.t i)
abbrev e (x k:Nat):CO := .ext (.t x) k
abbrev ln (x:Nat):CO := .len (.t x)
abbrev o (d:Nat) (x:CO):COp:=⟨some d,none,x⟩
abbrev w (x:CO):COp:=⟨none,none,x⟩
abbrev g (d k:Nat) (v:Bool) (x:CO):COp:=⟨some d,some (k,v),x⟩
abbrev gw (k:Nat) (v:Bool) (x:CO):COp:=⟨none,some (k,v),x⟩
abbrev i (x:Nat) (p r:CC):CC := .cond (.t x) p r
def q:List CC→CC
 | [] => .skip
 | [x]=>x
 | x::y::r => .seq x (q (y::r))
end Go.Ab.K
namespace Go.Ab
open Go K
def f_wittinglaw35_awake:Nat:=11
def f_plausbisim_Rounds:Nat:=12
def f_wittingref35_Rounds:Nat:=13
def f_plausbisim_Coarsest:Nat:=14
def f_wittingref35_Coarsest:Nat:=15
def f_slices_Equal_Lint_int_:Nat:=16
def f_wittingref33_Check:Nat:=29
def f_plaus_Cell:Nat:=31
def f_wittingref33_Few:Nat:=33
def f_plaus_Check:Nat:=34
def f_plausbisim_rounds:Nat:=35
def f_wittingref35_start:Nat:=36
def f_wittingref35_relations:Nat:=37
def f_wittingref19_Refine:Nat:=38
def f_plausbisim_links:Nat:=40
def f_wittingref33_Weaker:Nat:=43
def f_plausbisim_makerFor:Nat:=48
def f_wittingref33_sizes:Nat:=63
def f_wittingref33_cells:Nat:=64
def f_wittingref33_ranked:Nat:=65
def f_plaus_known:Nat:=66
def f_plaus_cellOf:Nat:=67
def f_plaus_shape:Nat:=69
def f_plaus_ranks:Nat:=70
def f_partition_Split:Nat:=71
def f_plausbisim_facts:Nat:=72
def f_plausbisim_finer:Nat:=73
def f_wittingref19_Facts:Nat:=74
def f_wittingref33_Cell:Nat:=75
def f_wittingref19_reached:Nat:=76
def f_wittingref03_Split:Nat:=77
def f_plausbisim_links_1:Nat:=78
def f_plaus_Weaker:Nat:=79
def f_math_bits_TrailingZeros64:Nat:=84
def f_wittingref13_All:Nat:=102
def f_wittingref02_All:Nat:=108
def f_plaus_all:Nat:=109
def f_slices_Compact_Lint_int_:Nat:=111
def f_partition_Check:Nat:=112
def f_partition_divide:Nat:=113
def f_plausbisim_finer_1:Nat:=114
def f_wittingref13_Facts:Nat:=115
def f_wittingref03_Trivial:Nat:=116
def f_wittingref13_Has:Nat:=117
def f_wittingref03_Check:Nat:=118
def f_wittingref03_canonical:Nat:=119
def f_math_bits_Len:Nat:=124
def f_wittingref13_Check:Nat:=144
def f_relation_points:Nat:=145
def f_math_bits_Len64:Nat:=159
def f_wittingref13_beyond:Nat:=175
def f_relation_points_1:Nat:=176
def f_formula_compact_1:Nat:=200
def c_plausbisim_Rounds:CFn:=⟨25,[.tmp 4,.tmp 5],(q [(.reg [o 2 (.box 4 (t 0)),o 4 (.mv (c (.nils 1))),o 5 (.mv (c (n 0)))]),
 (q [(.reg [o 8 (la 4 2),o 9 (.call 34 [(t 8)]),o 6 (m 9)]),
 (.reg [o 10 (m 6),o 11 (bc .neq 10 (n 0))]),
 (i 11 (q [(.reg [o 12 (m 6),o 4 (.mv (c (.nils 1))),o 5 (m 12)]),
 .ret]) .skip)]),
 (q [(.reg [o 13 (m 1),o 14 (bc .lss 13 (n 0))]),
 (i 14 (q [(.reg [o 4 (.mv (c (.nils 1))),o 5 (.mv (c (n 2)))]),
 .ret]) .skip)]),
 (.reg [o 15 (la 4 2),o 16 (.call 35 [(t 15)]),o 7 (m 16)]),
 (.reg [o 17 (m 7),o 18 (m 1),o 19 (m 7),o 20 (ln 19),o 21 (bc .sub 20 (n 1)),o 22 (.mm false (t 18) (t 21)),o 23 (ia 1 17 22),o 24 (l 23),o 4 (m 24),o 5 (.mv (c (n 0)))]),
 .ret])⟩
def c_wittingref35_Rounds:CFn:=⟨36,[.tmp 4,.tmp 5],(q [(.reg [o 2 (.box 4 (t 0)),o 4 (.mv (c (.nils 1))),o 5 (.mv (c (n 0)))]),
 (q [(.reg [o 10 (la 4 2),o 11 (.call 29 [(t 10)]),o 6 (m 11)]),
 (.reg [o 12 (m 6),o 13 (bc .neq 12 (n 0))]),
 (i 13 (q [(.reg [o 14 (m 6),o 4 (.mv (c (.nils 1))),o 5 (m 14)]),
 .ret]) .skip)]),
 (q [(.reg [o 15 (m 1),o 16 (bc .lss 15 (n 0))]),
 (i 16 (q [(.reg [o 4 (.mv (c (.nils 1))),o 5 (.mv (c (n 2)))]),
 .ret]) .skip)]),
 (.reg [o 17 (la 4 2),o 18 (.call 36 [(t 17)]),o 7 (m 18)]),
 (.reg [o 19 (la 4 2),o 20 (.call 37 [(t 19)]),o 8 (m 20)]),
 (q [(.reg [o 9 (.mv (c (n 0)))]),
 (.block 0 (.loop (q [(q [(.reg [o 21 (m 9),o 22 (m 1),o 23 (b .lss 21 22),o 24 (m 23),g 25 24 true (m 9),g 26 24 true (f 0 2),g 27 24 true (l 26),g 28 24 true (b .lss 25 27),o 29 (pf 24 28)]),
 (i 29 .skip (.exit 0))]),
 (.block 1 (.reg [o 32 (m 7),o 33 (m 8),o 34 (.call 38 [(t 32),(t 33)]),o 7 (m 34)])),
 (.reg [o 30 (m 9),o 31 (bc .add 30 (n 1)),o 9 (m 31)])])))]),
 (.reg [o 35 (m 7),o 4 (m 35),o 5 (.mv (c (n 0)))]),
 .ret])⟩
def c_plausbisim_Coarsest:CFn:=⟨8,[.tmp 2,.tmp 3],(q [(.reg [o 1 (.box 4 (t 0)),o 2 (.mv (c (.nils 1))),o 3 (.mv (c (n 0)))]),
 (.reg [o 4 (la 4 1),o 5 (.call 12 [(t 4),(c (n 64))]),o 6 (e 5 0),o 7 (e 5 1),o 2 (m 6),o 3 (m 7)]),
 .ret])⟩
def c_wittingref35_Coarsest:CFn:=⟨8,[.tmp 2,.tmp 3],(q [(.reg [o 1 (.box 4 (t 0)),o 2 (.mv (c (.nils 1))),o 3 (.mv (c (n 0)))]),
 (.reg [o 4 (la 4 1),o 5 (.call 13 [(t 4),(c (n 64))]),o 6 (e 5 0),o 7 (e 5 1),o 2 (m 6),o 3 (m 7)]),
 .ret])⟩
def c_slices_Equal_Lint_int_:CFn:=⟨26,[.tmp 4],(q [(.reg [o 4 (.mv (c .bf))]),
 (q [(.reg [o 6 (m 0),o 7 (ln 6),o 8 (m 1),o 9 (ln 8),o 10 (b .neq 7 9)]),
 (i 10 (q [(.reg [o 4 (.mv (c .bf))]),
 .ret]) .skip)]),
 (q [(.reg [o 11 (m 0),o 12 (ln 11),o 13 (.mv (c (n 0)))]),
 (.block 0 (.loop (q [(.reg [o 14 (b .lss 13 12)]),
 (i 14 .skip (.exit 0)),
 (.block 1 (q [(.reg [o 15 (m 13),o 5 (m 15)]),
 (.regd [o 16 (m 0),o 17 (m 5),o 18 (ia 1 16 17),o 19 (l 18),o 20 (m 1),o 21 (m 5),o 22 (ia 1 20 21),o 23 (l 22),o 24 (b .neq 19 23)] [0,0,3,7,0,0,48,112,255]),
 (i 24 (q [(.reg [o 4 (.mv (c .bf))]),
 .ret]) .skip)])),
 (.reg [o 25 (bc .add 13 (n 1)),o 13 (m 25)])])))]),
 (.reg [o 4 (.mv (c .bt))]),
 .ret])⟩
def c_wittingref33_Check:CFn:=⟨85,[.tmp 2],(q [(.reg [o 1 (.box 4 (t 0)),o 2 (.mv (c (n 0)))]),
 (q [(.reg [o 7 (f 0 1),o 8 (l 7),o 9 (f 2 1),o 10 (l 9),o 11 (ln 10),o 12 (f 1 1),o 13 (l 12),o 14 (.call 63 [(t 8),(t 11),(t 13)]),o 3 (m 14)]),
 (.reg [o 15 (m 3),o 16 (bc .neq 15 (n 0))]),
 (i 16 (q [(.reg [o 17 (m 3),o 2 (m 17)]),
 .ret]) .skip)]),
 (q [(.reg [o 18 (f 3 1),o 19 (l 18),o 20 (ln 19),o 21 (f 2 1),o 22 (l 21),o 23 (ln 22),o 24 (b .neq 20 23)]),
 (i 24 (q [(.reg [o 2 (.mv (c (n 3)))]),
 .ret]) .skip)]),
 (q [(.reg [o 4 (.mv (c (n 0)))]),
 (.block 0 (.loop (q [(q [(.reg [o 25 (m 4),o 26 (f 2 1),o 27 (l 26),o 28 (ln 27),o 29 (b .lss 25 28)]),
 (i 29 .skip (.exit 0))]),
 (.block 1 (q [(.regd [o 32 (f 2 1),o 33 (l 32),o 34 (m 4),o 35 (ia 1 33 34),o 36 (l 35),o 37 (ln 36),o 38 (f 0 1),o 39 (l 38),o 40 (b .neq 37 39),o 41 (m 40),g 42 41 false (f 3 1),g 43 41 false (l 42),g 44 41 false (m 4),g 45 41 false (ia 1 43 44),g 46 41 false (l 45),g 47 41 false (ln 46),g 48 41 false (f 0 1),g 49 41 false (l 48),g 50 41 false (b .neq 47 49),o 51 (pt 41 50)] [0,1,0,7,15,31,0,64,255,511,1023,2047,1023,8191,16383,32767,1023,66559,262143,524287]),
 (i 51 (q [(.reg [o 2 (.mv (c (n 3)))]),
 .ret]) .skip)])),
 (.reg [o 30 (m 4),o 31 (bc .add 30 (n 1)),o 4 (m 31)])])))]),
 (q [(.reg [o 5 (.mv (c (n 0)))]),
 (.block 2 (.loop (q [(q [(.reg [o 52 (m 5),o 53 (f 2 1),o 54 (l 53),o 55 (ln 54),o 56 (b .lss 52 55)]),
 (i 56 .skip (.exit 2))]),
 (.block 3 (q [(.reg [o 59 (f 2 1),o 60 (l 59),o 61 (m 5),o 62 (ia 1 60 61),o 63 (l 62),o 64 (.call 64 [(t 63)]),o 65 (.un .not (t 64))]),
 (i 65 (q [(.reg [o 2 (.mv (c (n 1)))]),
 .ret]) .skip)])),
 (.reg [o 57 (m 5),o 58 (bc .add 57 (n 1)),o 5 (m 58)])])))]),
 (q [(.reg [o 6 (.mv (c (n 0)))]),
 (.block 4 (.loop (q [(q [(.reg [o 66 (m 6),o 67 (f 2 1),o 68 (l 67),o 69 (ln 68),o 70 (b .lss 66 69)]),
 (i 70 .skip (.exit 4))]),
 (.block 5 (q [(.regd [o 73 (f 2 1),o 74 (l 73),o 75 (m 6),o 76 (ia 1 74 75),o 77 (l 76),o 78 (f 3 1),o 79 (l 78),o 80 (m 6),o 81 (ia 1 79 80),o 82 (l 81),o 83 (.call 65 [(t 77),(t 82)]),o 84 (.un .not (t 83))] [0,1,0,7,15,0,32,0,224,480,1023,2047]),
 (i 84 (q [(.reg [o 2 (.mv (c (n 9)))]),
 .ret]) .skip)])),
 (.reg [o 71 (m 6),o 72 (bc .add 71 (n 1)),o 6 (m 72)])])))]),
 (.reg [o 2 (.mv (c (n 0)))]),
 .ret])⟩
def c_plaus_Cell:CFn:=⟨16,[.tmp 6],(q [(.reg [o 3 (.box 4 (t 0)),o 6 (.mv (c (u 0)))]),
 (q [(.reg [o 7 (la 4 3),o 8 (m 1),o 9 (m 2),o 10 (.call 66 [(t 7),(t 8),(t 9)]),o 11 (.un .not (t 10))]),
 (i 11 (q [(.reg [o 6 (.mv (c (u 0)))]),
 .ret]) .skip)]),
 (.reg [o 12 (la 4 3),o 13 (m 1),o 14 (m 2),o 15 (.call 67 [(t 12),(t 13),(t 14)]),o 6 (m 15)]),
 .ret])⟩
def c_wittingref33_Few:CFn:=⟨49,[.tmp 2],(q [(.reg [o 1 (.box 4 (t 0)),o 2 (.mv (c .bf))]),
 (q [(.reg [o 5 (f 1 1),o 6 (l 5),o 7 (ln 6),o 8 (bc .gtr 7 (n 20)),o 9 (m 8),g 10 9 false (f 2 1),g 11 9 false (l 10),g 12 9 false (ln 11),g 13 9 false (bc .gtr 12 (n 8)),o 14 (pt 9 13),o 15 (m 14),g 16 15 false (f 3 1),g 17 15 false (l 16),g 18 15 false (ln 17),g 19 15 false (bc .gtr 18 (n 8)),o 20 (pt 15 19)]),
 (i 20 (q [(.reg [o 2 (.mv (c .bf))]),
 .ret]) .skip)]),
 (q [(.reg [o 3 (.mv (c (n 0)))]),
 (.block 0 (.loop (q [(q [(.reg [o 21 (m 3),o 22 (f 2 1),o 23 (l 22),o 24 (ln 23),o 25 (b .lss 21 24)]),
 (i 25 .skip (.exit 0))]),
 (.block 1 (q [(.reg [o 28 (f 2 1),o 29 (l 28),o 30 (m 3),o 31 (ia 1 29 30),o 32 (l 31),o 33 (ln 32),o 34 (bc .gtr 33 (n 20))]),
 (i 34 (q [(.reg [o 2 (.mv (c .bf))]),
 .ret]) .skip)])),
 (.reg [o 26 (m 3),o 27 (bc .add 26 (n 1)),o 3 (m 27)])])))]),
 (q [(.reg [o 4 (.mv (c (n 0)))]),
 (.block 2 (.loop (q [(q [(.reg [o 35 (m 4),o 36 (f 3 1),o 37 (l 36),o 38 (ln 37),o 39 (b .lss 35 38)]),
 (i 39 .skip (.exit 2))]),
 (.block 3 (q [(.reg [o 42 (f 3 1),o 43 (l 42),o 44 (m 4),o 45 (ia 1 43 44),o 46 (l 45),o 47 (ln 46),o 48 (bc .gtr 47 (n 20))]),
 (i 48 (q [(.reg [o 2 (.mv (c .bf))]),
 .ret]) .skip)])),
 (.reg [o 40 (m 4),o 41 (bc .add 40 (n 1)),o 4 (m 41)])])))]),
 (.reg [o 2 (.mv (c .bt))]),
 .ret])⟩
def c_plaus_Check:CFn:=⟨123,[.tmp 2],(q [(.reg [o 1 (.box 4 (t 0)),o 2 (.mv (c (n 0)))]),
 (q [(.reg [o 14 (f 0 1),o 15 (l 14),o 16 (f 2 1),o 17 (l 16),o 18 (ln 17),o 19 (f 1 1),o 20 (l 19),o 21 (.call 69 [(t 15),(t 18),(t 20)]),o 3 (m 21)]),
 (.reg [o 22 (m 3),o 23 (bc .neq 22 (n 0))]),
 (i 23 (q [(.reg [o 24 (m 3),o 2 (m 24)]),
 .ret]) .skip)]),
 (q [(.reg [o 25 (f 3 1),o 26 (l 25),o 27 (ln 26),o 28 (f 2 1),o 29 (l 28),o 30 (ln 29),o 31 (b .neq 27 30)]),
 (i 31 (q [(.reg [o 2 (.mv (c (n 3)))]),
 .ret]) .skip)]),
 (q [(.reg [o 32 (f 2 1),o 33 (l 32),o 34 (ln 33),o 35 (.mv (c (n 0)))]),
 (.block 0 (.loop (q [(.reg [o 36 (b .lss 35 34)]),
 (i 36 .skip (.exit 0)),
 (.block 1 (q [(.reg [o 37 (m 35),o 4 (m 37)]),
 (.regd [o 38 (f 2 1),o 39 (l 38),o 40 (m 4),o 41 (ia 1 39 40),o 42 (l 41),o 43 (ln 42),o 44 (f 0 1),o 45 (l 44),o 46 (b .neq 43 45),o 47 (m 46),g 48 47 false (f 3 1),g 49 47 false (l 48),g 50 47 false (m 4),g 51 47 false (ia 1 49 50),g 52 47 false (l 51),g 53 47 false (ln 52),g 54 47 false (f 0 1),g 55 47 false (l 54),g 56 47 false (b .neq 53 55),o 57 (pt 47 56)] [0,1,0,7,15,31,0,64,255,511,1023,2047,1023,8191,16383,32767,1023,66559,262143,524287]),
 (i 57 (q [(.reg [o 2 (.mv (c (n 3)))]),
 .ret]) .skip)])),
 (.reg [o 58 (bc .add 35 (n 1)),o 35 (m 58)])])))]),
 (q [(.reg [o 59 (f 2 1),o 60 (l 59),o 61 (ln 60),o 62 (.mv (c (n 0)))]),
 (.block 2 (.loop (q [(.reg [o 63 (b .lss 62 61)]),
 (i 63 .skip (.exit 2)),
 (.block 3 (q [(.reg [o 64 (ia 1 60 62),o 65 (l 64),o 6 (m 65)]),
 (.reg [o 66 (m 6),o 67 (ln 66),o 68 (.mv (c (n 0)))]),
 (.block 4 (.loop (q [(.reg [o 69 (b .lss 68 67)]),
 (i 69 .skip (.exit 4)),
 (.block 5 (q [(.reg [o 70 (m 68),o 71 (ia 1 66 68),o 72 (l 71),o 7 (m 70),o 8 (m 72)]),
 (.reg [o 73 (m 8),o 74 (bc .lss 73 (n 0)),o 75 (m 74),g 76 75 false (m 8),g 77 75 false (m 7),g 78 75 false (b .gtr 76 77),o 79 (pt 75 78),o 80 (m 79),g 81 80 false (m 6),g 82 80 false (m 8),g 83 80 false (ia 1 81 82),g 84 80 false (l 83),g 85 80 false (m 8),g 86 80 false (b .neq 84 85),o 87 (pt 80 86)]),
 (i 87 (q [(.reg [o 2 (.mv (c (n 1)))]),
 .ret]) .skip)])),
 (.reg [o 88 (bc .add 68 (n 1)),o 68 (m 88)])])))])),
 (.reg [o 89 (bc .add 62 (n 1)),o 62 (m 89)])])))]),
 (q [(.reg [o 90 (f 2 1),o 91 (l 90),o 92 (ln 91),o 93 (.mv (c (n 0)))]),
 (.block 6 (.loop (q [(.reg [o 94 (b .lss 93 92)]),
 (i 94 .skip (.exit 6)),
 (.block 7 (q [(.reg [o 95 (m 93),o 96 (ia 1 91 93),o 97 (l 96),o 9 (m 95),o 10 (m 97)]),
 (.reg [o 98 (m 10),o 99 (f 3 1),o 100 (l 99),o 101 (m 9),o 102 (ia 1 100 101),o 103 (l 102),o 104 (.call 70 [(t 98),(t 103)]),o 105 (.range (t 104))]),
 (.block 8 (.loop (q [(.reg [o 106 (.next (t 105)),o 107 (e 106 0)]),
 (i 107 .skip (.exit 8)),
 (.block 9 (q [(.reg [o 108 (.entry (t 105)),o 109 (e 108 1),o 12 (m 109)]),
 (.reg [o 110 (m 12),o 111 (ln 110),o 112 (.mv (c (n 0)))]),
 (.block 10 (.loop (q [(.reg [o 113 (b .lss 112 111)]),
 (i 113 .skip (.exit 10)),
 (.block 11 (q [(.reg [o 114 (m 112),o 13 (m 114)]),
 (.reg [o 115 (m 12),o 116 (m 13),o 117 (ia 1 115 116),o 118 (l 117),o 119 (m 13),o 120 (b .neq 118 119)]),
 (i 120 (q [(.reg [o 2 (.mv (c (n 9)))]),
 .ret]) .skip)])),
 (.reg [o 121 (bc .add 112 (n 1)),o 112 (m 121)])])))]))])))])),
 (.reg [o 122 (bc .add 93 (n 1)),o 93 (m 122)])])))]),
 (.reg [o 2 (.mv (c (n 0)))]),
 .ret])⟩
def c_plausbisim_rounds:CFn:=⟨30,[.tmp 2],(q [(.reg [o 1 (.box 4 (t 0)),o 2 (.mv (c (.nils 1)))]),
 (.regd [o 8 (f 0 1),o 9 (l 8),o 10 (.mkslice 1 8 [(n 0)] (t 9) (t 9)),o 11 (la 4 1),o 12 (.call 72 [(t 11)]),o 13 (.call 71 [(t 10),(t 12)]),o 7 (m 13),o 14 (e 7 0),o 15 (e 7 1),o 3 (m 14),o 4 (m 15)] [0,1,3,0,8,31,63,127,127,255,1023]),
 (.reg [o 16 (m 3),o 17 (.bslice 1 1 [(.nils 1)] [(0,(t 16))]),o 5 (m 17)]),
 (.block 0 (.loop (.block 1 (q [(.reg [o 18 (la 4 1),o 19 (m 3),o 20 (.call 73 [(t 18),(t 19)]),o 6 (m 20)]),
 (q [(.reg [o 21 (m 6),o 22 (m 3),o 23 (.call 16 [(t 21),(t 22)])]),
 (i 23 (q [(.reg [o 24 (m 5),o 2 (m 24)]),
 .ret]) .skip)]),
 (.reg [o 25 (m 5),o 26 (m 6),o 27 (.bslice 1 1 [(.nils 1)] [(0,(t 26))]),o 28 (.app 1 24 (t 25) (t 27)),o 5 (m 28)]),
 (.reg [o 29 (m 6),o 3 (m 29)])]))))])⟩
def c_wittingref35_start:CFn:=⟨9,[.tmp 2],(q [(.reg [o 1 (.box 4 (t 0)),o 2 (.mv (c (.nils 1)))]),
 (.reg [o 3 (f 0 1),o 4 (l 3),o 5 (f 1 1),o 6 (l 5),o 7 (.build [(n 0),(.nils 1),(.nils 1)] [(0,1,(t 4)),(1,1,(t 6))]),o 8 (.call 74 [(t 7)]),o 2 (m 8)]),
 .ret])⟩
def c_wittingref35_relations:CFn:=⟨41,[.tmp 2],(q [(.reg [o 1 (.box 4 (t 0)),o 2 (.mv (c (.nils 1)))]),
 (.reg [o 3 (.mv (c (.nils 1)))]),
 (q [(.reg [o 9 (f 2 1),o 10 (l 9),o 11 (ln 10),o 12 (.mv (c (n 0)))]),
 (.block 0 (.loop (q [(.reg [o 13 (b .lss 12 11)]),
 (i 13 .skip (.exit 0)),
 (.block 1 (q [(.reg [o 14 (m 12),o 4 (m 14)]),
 (.reg [o 5 (.mv (c (.nils 1)))]),
 (q [(.reg [o 6 (.mv (c (n 0)))]),
 (.block 2 (.loop (q [(q [(.reg [o 15 (m 6),o 16 (f 0 1),o 17 (l 16),o 18 (b .lss 15 17)]),
 (i 18 .skip (.exit 2))]),
 (.block 3 (.reg [o 21 (m 5),o 22 (la 4 1),o 23 (m 4),o 24 (m 6),o 25 (.call 75 [(t 22),(t 23),(t 24)]),o 26 (.bslice 1 1 [(u 0)] [(0,(t 25))]),o 27 (.app 1 8 (t 21) (t 26)),o 5 (m 27)])),
 (.reg [o 19 (m 6),o 20 (bc .add 19 (n 1)),o 6 (m 20)])])))]),
 (.reg [o 29 (la 4 1),o 30 (m 4),o 31 (.call 43 [(t 29),(t 30)]),o 28 (m 31),o 32 (e 28 0),o 33 (e 28 1),o 7 (m 32),o 8 (m 33)]),
 (.reg [o 34 (m 3),o 35 (m 5),o 36 (m 7),o 37 (.bslice 1 2 [(.nils 1)] [(0,(t 35)),(1,(t 36))]),o 38 (.app 1 24 (t 34) (t 37)),o 3 (m 38)])])),
 (.reg [o 39 (bc .add 12 (n 1)),o 12 (m 39)])])))]),
 (.reg [o 40 (m 3),o 2 (m 40)]),
 .ret])⟩
def c_wittingref19_Refine:CFn:=⟨72,[.tmp 4],(q [(.reg [o 4 (.mv (c (.nils 1)))]),
 (.reg [o 5 (.mv (c (.nils 1)))]),
 (q [(.reg [o 14 (m 0),o 15 (ln 14),o 16 (.mv (c (n 0)))]),
 (.block 0 (.loop (q [(.reg [o 17 (b .lss 16 15)]),
 (i 17 .skip (.exit 0)),
 (.block 1 (q [(.reg [o 18 (m 16),o 6 (m 18)]),
 (.reg [o 19 (m 6),o 7 (m 19)]),
 (q [(.reg [o 20 (m 6),o 21 (bc .sub 20 (n 1)),o 8 (m 21)]),
 (.block 2 (.loop (q [(q [(.reg [o 22 (m 8),o 23 (bc .geq 22 (n 0))]),
 (i 23 .skip (.exit 2))]),
 (.block 3 (q [(.regd [o 26 (m 0),o 27 (m 6),o 28 (ia 1 26 27),o 29 (l 28),o 30 (m 0),o 31 (m 8),o 32 (ia 1 30 31),o 33 (l 32),o 34 (b .eql 29 33),o 9 (m 34)] [0,0,3,7,0,0,48,112,255,511]),
 (q [(.reg [o 35 (m 1),o 36 (ln 35),o 37 (.mv (c (n 0)))]),
 (.block 4 (.loop (q [(.reg [o 38 (b .lss 37 36)]),
 (i 38 .skip (.exit 4)),
 (.block 5 (q [(.reg [o 39 (ia 1 35 37),o 40 (l 39),o 11 (m 40)]),
 (.regd [o 41 (m 9),o 42 (m 41),g 43 42 true (m 0),g 44 42 true (m 11),g 45 42 true (m 6),g 46 42 true (ia 1 44 45),g 47 42 true (l 46),g 48 42 true (.call 76 [(t 43),(t 47)]),g 49 42 true (m 0),g 50 42 true (m 11),g 51 42 true (m 8),g 52 42 true (ia 1 50 51),g 53 42 true (l 52),g 54 42 true (.call 76 [(t 49),(t 53)]),g 55 42 true (b .eql 48 54),o 56 (pf 42 55),o 9 (m 56)] [0,1,3,3,3,27,59,127,3,3,3,1539,3587,8191,16383,32767,65535])])),
 (.reg [o 57 (bc .add 37 (n 1)),o 37 (m 57)])])))]),
 (.reg [o 58 (m 9)]),
 (i 58 (.reg [o 59 (m 8),o 7 (m 59)]) .skip)])),
 (.reg [o 24 (m 8),o 25 (bc .sub 24 (n 1)),o 8 (m 25)])])))]),
 (.reg [o 60 (m 5),o 61 (m 7),o 62 (.bslice 1 1 [(n 0)] [(0,(t 61))]),o 63 (.app 1 8 (t 60) (t 62)),o 5 (m 63)])])),
 (.reg [o 64 (bc .add 16 (n 1)),o 16 (m 64)])])))]),
 (.reg [o 66 (m 0),o 67 (m 5),o 68 (.call 77 [(t 66),(t 67)]),o 65 (m 68),o 69 (e 65 0),o 70 (e 65 1),o 12 (m 69),o 13 (m 70)]),
 (.reg [o 71 (m 12),o 4 (m 71)]),
 .ret])⟩
def c_plausbisim_links:CFn:=⟨4,[.tmp 2],(q [(.reg [o 1 (.box 4 (t 0)),o 2 (.mv (c (.d .nil)))]),
 (.reg [o 3 (.fnew f_plausbisim_links_1 [(t 1)]),o 2 (m 3)]),
 .ret])⟩
def c_wittingref33_Weaker:CFn:=⟨83,[.tmp 4,.tmp 5],(q [(.reg [o 2 (.box 4 (t 0)),o 4 (.mv (c (.nils 1))),o 5 (.mv (c (n 0)))]),
 (q [(.reg [o 11 (la 4 2),o 12 (.call 29 [(t 11)]),o 6 (m 12)]),
 (.reg [o 13 (m 6),o 14 (bc .neq 13 (n 0))]),
 (i 14 (q [(.reg [o 15 (m 6),o 4 (.mv (c (.nils 1))),o 5 (m 15)]),
 .ret]) .skip)]),
 (q [(.reg [o 16 (m 1),o 17 (bc .lss 16 (n 0)),o 18 (m 17),g 19 18 false (m 1),g 20 18 false (f 2 2),g 21 18 false (l 20),g 22 18 false (ln 21),g 23 18 false (b .geq 19 22),o 24 (pt 18 23)]),
 (i 24 (q [(.reg [o 4 (.mv (c (.nils 1))),o 5 (.mv (c (n 2)))]),
 .ret]) .skip)]),
 (.reg [o 7 (.mv (c (.nils 1)))]),
 (q [(.reg [o 8 (.mv (c (n 0)))]),
 (.block 0 (.loop (q [(q [(.reg [o 25 (m 8),o 26 (f 0 2),o 27 (l 26),o 28 (b .lss 25 27)]),
 (i 28 .skip (.exit 0))]),
 (.block 1 (q [(.reg [o 9 (.mv (c (u 0)))]),
 (q [(.reg [o 10 (.mv (c (n 0)))]),
 (.block 2 (.loop (q [(q [(.reg [o 31 (m 10),o 32 (f 0 2),o 33 (l 32),o 34 (b .lss 31 33)]),
 (i 34 .skip (.exit 2))]),
 (.block 3 (q [(.regd [o 37 (f 2 2),o 38 (l 37),o 39 (m 1),o 40 (ia 1 38 39),o 41 (l 40),o 42 (m 10),o 43 (ia 1 41 42),o 44 (l 43),o 45 (f 2 2),o 46 (l 45),o 47 (m 1),o 48 (ia 1 46 47),o 49 (l 48),o 50 (m 8),o 51 (ia 1 49 50),o 52 (l 51),o 53 (b .eql 44 52),o 54 (m 53),g 55 54 true (f 3 2),g 56 54 true (l 55),g 57 54 true (m 1),g 58 54 true (ia 1 56 57),g 59 54 true (l 58),g 60 54 true (m 10),g 61 54 true (ia 1 59 60),g 62 54 true (l 61),g 63 54 true (f 3 2),g 64 54 true (l 63),g 65 54 true (m 1),g 66 54 true (ia 1 64 65),g 67 54 true (l 66),g 68 54 true (m 8),g 69 54 true (ia 1 67 68),g 70 54 true (l 69),g 71 54 true (b .leq 62 70),o 72 (pf 54 71)] [0,1,0,7,15,0,63,127,0,256,0,1792,3840,0,16128,32512,65535,131071,262143,524287,262143,2097151,4194303,262143,16777215,33554431,262143,67371007,262143,470024191,1006895103,262143,4228120575,8523087871,17179869183,34359738367]),
 (i 72 (.reg [o 73 (m 9),o 74 (m 10),o 75 (.conv .u64 (t 74)),o 76 (.bin .shl (c (u 1)) (t 75)),o 77 (b .or 73 76),o 9 (m 77)]) .skip)])),
 (.reg [o 35 (m 10),o 36 (bc .add 35 (n 1)),o 10 (m 36)])])))]),
 (.reg [o 78 (m 7),o 79 (m 9),o 80 (.bslice 1 1 [(u 0)] [(0,(t 79))]),o 81 (.app 1 8 (t 78) (t 80)),o 7 (m 81)])])),
 (.reg [o 29 (m 8),o 30 (bc .add 29 (n 1)),o 8 (m 30)])])))]),
 (.reg [o 82 (m 7),o 4 (m 82),o 5 (.mv (c (n 0)))]),
 .ret])⟩
def c_wittingref33_sizes:CFn:=⟨35,[.tmp 6],(q [(.reg [o 6 (.mv (c (n 0)))]),
 (q [(.reg [o 8 (m 0),o 9 (bc .lss 8 (n 1)),o 10 (m 9),g 11 10 false (m 0),g 12 10 false (bc .gtr 11 (n 64)),o 13 (pt 10 12)]),
 (i 13 (q [(.reg [o 6 (.mv (c (n 2)))]),
 .ret]) .skip)]),
 (q [(.reg [o 14 (m 2),o 15 (ln 14),o 16 (bc .gtr 15 (n 8)),o 17 (m 16),g 18 17 false (m 1),g 19 17 false (bc .gtr 18 (n 4)),o 20 (pt 17 19)]),
 (i 20 (q [(.reg [o 6 (.mv (c (n 8)))]),
 .ret]) .skip)]),
 (q [(.reg [o 7 (.mv (c (n 0)))]),
 (.block 0 (.loop (q [(q [(.reg [o 21 (m 7),o 22 (m 2),o 23 (ln 22),o 24 (b .lss 21 23)]),
 (i 24 .skip (.exit 0))]),
 (.block 1 (q [(.regd [o 27 (m 2),o 28 (m 7),o 29 (ia 1 27 28),o 30 (l 29),o 31 (m 0),o 32 (.call 108 [(t 31)]),o 33 (b .andNot 30 32),o 34 (bc .neq 33 (u 0))] [0,0,3,7,0,16,63,127]),
 (i 34 (q [(.reg [o 6 (.mv (c (n 3)))]),
 .ret]) .skip)])),
 (.reg [o 25 (m 7),o 26 (bc .add 25 (n 1)),o 7 (m 26)])])))]),
 (.reg [o 6 (.mv (c (n 0)))]),
 .ret])⟩
def c_wittingref33_cells:CFn:=⟨30,[.tmp 2],(q [(.reg [o 2 (.mv (c .bf))]),
 (q [(.reg [o 3 (.mv (c (n 0)))]),
 (.block 0 (.loop (q [(q [(.reg [o 5 (m 3),o 6 (m 0),o 7 (ln 6),o 8 (b .lss 5 7)]),
 (i 8 .skip (.exit 0))]),
 (.block 1 (q [(.reg [o 11 (m 0),o 12 (m 3),o 13 (ia 1 11 12),o 14 (l 13),o 4 (m 14)]),
 (.reg [o 15 (m 4),o 16 (bc .lss 15 (n 0)),o 17 (m 16),g 18 17 false (m 4),g 19 17 false (m 3),g 20 17 false (b .gtr 18 19),o 21 (pt 17 20),o 22 (m 21),g 23 22 false (m 0),g 24 22 false (m 4),g 25 22 false (ia 1 23 24),g 26 22 false (l 25),g 27 22 false (m 4),g 28 22 false (b .neq 26 27),o 29 (pt 22 28)]),
 (i 29 (q [(.reg [o 2 (.mv (c .bf))]),
 .ret]) .skip)])),
 (.reg [o 9 (m 3),o 10 (bc .add 9 (n 1)),o 3 (m 10)])])))]),
 (.reg [o 2 (.mv (c .bt))]),
 .ret])⟩
def c_wittingref33_ranked:CFn:=⟨56,[.tmp 4],(q [(.reg [o 4 (.mv (c .bf))]),
 (q [(.reg [o 5 (.mv (c (n 0)))]),
 (.block 0 (.loop (q [(q [(.reg [o 8 (m 5),o 9 (m 0),o 10 (ln 9),o 11 (b .lss 8 10)]),
 (i 11 .skip (.exit 0))]),
 (.block 1 (q [(q [(.reg [o 14 (m 1),o 15 (m 5),o 16 (ia 1 14 15),o 17 (l 16),o 18 (bc .lss 17 (n 0))]),
 (i 18 (q [(.reg [o 4 (.mv (c .bf))]),
 .ret]) .skip)]),
 (.reg [o 19 (m 1),o 20 (m 5),o 21 (ia 1 19 20),o 22 (l 21),o 23 (bc .eql 22 (n 0)),o 6 (m 23)]),
 (q [(.reg [o 7 (.mv (c (n 0)))]),
 (.block 2 (.loop (q [(q [(.reg [o 24 (m 7),o 25 (m 0),o 26 (ln 25),o 27 (b .lss 24 26)]),
 (i 27 .skip (.exit 2))]),
 (.block 3 (.regd [o 30 (m 6),o 31 (m 30),g 32 31 false (m 0),g 33 31 false (m 7),g 34 31 false (ia 1 32 33),g 35 31 false (l 34),g 36 31 false (m 0),g 37 31 false (m 5),g 38 31 false (ia 1 36 37),g 39 31 false (l 38),g 40 31 false (b .eql 35 39),g 41 31 false (m 40),g 42 41 true (m 1),g 43 41 true (m 7),g 44 41 true (ia 1 42 43),g 45 41 true (l 44),g 46 41 true (m 1),g 47 41 true (m 5),g 48 41 true (ia 1 46 47),g 49 41 true (l 48),g 50 41 true (bc .sub 49 (n 1)),g 51 41 true (b .eql 45 50),g 52 31 false (pf 41 51),o 53 (pt 31 52),o 6 (m 53)] [0,1,3,3,15,31,3,3,195,451,1023,2047,4095,4095,16383,32767,4095,4095,200703,462847,987135,2097151,4194303,8388607,16777215])),
 (.reg [o 28 (m 7),o 29 (bc .add 28 (n 1)),o 7 (m 29)])])))]),
 (.reg [o 54 (m 6),o 55 (.un .not (t 54))]),
 (i 55 (q [(.reg [o 4 (.mv (c .bf))]),
 .ret]) .skip)])),
 (.reg [o 12 (m 5),o 13 (bc .add 12 (n 1)),o 5 (m 13)])])))]),
 (.reg [o 4 (.mv (c .bt))]),
 .ret])⟩
def c_plaus_known:CFn:=⟨31,[.tmp 6],(q [(.reg [o 3 (.box 4 (t 0)),o 6 (.mv (c .bf))]),
 (.reg [o 7 (la 4 3),o 8 (.call 34 [(t 7)]),o 9 (bc .eql 8 (n 0)),o 10 (m 9),g 11 10 true (m 1),g 12 10 true (bc .geq 11 (n 0)),o 13 (pf 10 12),o 14 (m 13),g 15 14 true (m 1),g 16 14 true (f 2 3),g 17 14 true (l 16),g 18 14 true (ln 17),g 19 14 true (b .lss 15 18),o 20 (pf 14 19),o 21 (m 20),g 22 21 true (m 2),g 23 21 true (bc .geq 22 (n 0)),o 24 (pf 21 23),o 25 (m 24),g 26 25 true (m 2),g 27 25 true (f 0 3),g 28 25 true (l 27),g 29 25 true (b .lss 26 28),o 30 (pf 25 29),o 6 (m 30)]),
 .ret])⟩
def c_plaus_cellOf:CFn:=⟨37,[.tmp 6],(q [(.reg [o 3 (.box 4 (t 0)),o 6 (.mv (c (u 0)))]),
 (.reg [o 7 (.mv (c (u 0)))]),
 (q [(.reg [o 10 (f 2 3),o 11 (l 10),o 12 (m 1),o 13 (ia 1 11 12),o 14 (l 13),o 15 (ln 14),o 16 (.mv (c (n 0)))]),
 (.block 0 (.loop (q [(.reg [o 17 (b .lss 16 15)]),
 (i 17 .skip (.exit 0)),
 (.block 1 (q [(.reg [o 18 (m 16),o 19 (ia 1 14 16),o 20 (l 19),o 8 (m 18),o 9 (m 20)]),
 (.reg [o 21 (m 9),o 22 (f 2 3),o 23 (l 22),o 24 (m 1),o 25 (ia 1 23 24),o 26 (l 25),o 27 (m 2),o 28 (ia 1 26 27),o 29 (l 28),o 30 (b .eql 21 29)]),
 (i 30 (.reg [o 31 (m 7),o 32 (m 8),o 33 (.bin .shl (c (u 1)) (t 32)),o 34 (b .or 31 33),o 7 (m 34)]) .skip)])),
 (.reg [o 35 (bc .add 16 (n 1)),o 16 (m 35)])])))]),
 (.reg [o 36 (m 7),o 6 (m 36)]),
 .ret])⟩
def c_plaus_shape:CFn:=⟨34,[.tmp 6],(q [(.reg [o 6 (.mv (c (n 0)))]),
 (q [(.reg [o 9 (m 0),o 10 (bc .lss 9 (n 1)),o 11 (m 10),g 12 11 false (m 0),g 13 11 false (bc .gtr 12 (n 64)),o 14 (pt 11 13)]),
 (i 14 (q [(.reg [o 6 (.mv (c (n 2)))]),
 .ret]) .skip)]),
 (q [(.reg [o 15 (m 2),o 16 (ln 15),o 17 (bc .gtr 16 (n 8)),o 18 (m 17),g 19 18 false (m 1),g 20 18 false (bc .gtr 19 (n 4)),o 21 (pt 18 20)]),
 (i 21 (q [(.reg [o 6 (.mv (c (n 8)))]),
 .ret]) .skip)]),
 (q [(.reg [o 22 (m 2),o 23 (ln 22),o 24 (.mv (c (n 0)))]),
 (.block 0 (.loop (q [(.reg [o 25 (b .lss 24 23)]),
 (i 25 .skip (.exit 0)),
 (.block 1 (q [(.reg [o 26 (ia 1 22 24),o 27 (l 26),o 8 (m 27)]),
 (.reg [o 28 (m 8),o 29 (m 0),o 30 (.call 109 [(t 29)]),o 31 (b .andNot 28 30),o 32 (bc .neq 31 (u 0))]),
 (i 32 (q [(.reg [o 6 (.mv (c (n 3)))]),
 .ret]) .skip)])),
 (.reg [o 33 (bc .add 24 (n 1)),o 24 (m 33)])])))]),
 (.reg [o 6 (.mv (c (n 0)))]),
 .ret])⟩
def c_partition_Split:CFn:=⟨20,[.tmp 4,.tmp 5],(q [(.reg [o 4 (.mv (c (.nils 1))),o 5 (.mv (c (n 0)))]),
 (q [(.reg [o 7 (m 0),o 8 (.call 112 [(t 7)]),o 6 (m 8)]),
 (.reg [o 9 (m 6),o 10 (bc .neq 9 (n 0))]),
 (i 10 (q [(.reg [o 11 (m 6),o 4 (.mv (c (.nils 1))),o 5 (m 11)]),
 .ret]) .skip)]),
 (q [(.reg [o 12 (m 0),o 13 (ln 12),o 14 (m 1),o 15 (ln 14),o 16 (b .neq 13 15)]),
 (i 16 (q [(.reg [o 4 (.mv (c (.nils 1))),o 5 (.mv (c (n 3)))]),
 .ret]) .skip)]),
 (.reg [o 17 (m 0),o 18 (m 1),o 19 (.call 113 [(t 17),(t 18)]),o 4 (m 19),o 5 (.mv (c (n 0)))]),
 .ret])⟩
def c_plausbisim_facts:CFn:=⟨39,[.tmp 2],(q [(.reg [o 1 (.box 4 (t 0)),o 2 (.mv (c (.nils 1)))]),
 (.reg [o 7 (f 0 1),o 8 (l 7),o 9 (.mkslice 1 8 [(n 0)] (t 8) (t 8)),o 3 (m 9)]),
 (q [(.reg [o 10 (f 1 1),o 11 (l 10),o 12 (ln 11),o 13 (.mv (c (n 0)))]),
 (.block 0 (.loop (q [(.reg [o 14 (b .lss 13 12)]),
 (i 14 .skip (.exit 0)),
 (.block 1 (q [(.reg [o 15 (m 13),o 16 (ia 1 11 13),o 17 (l 16),o 4 (m 15),o 5 (m 17)]),
 (.reg [o 18 (m 3),o 19 (ln 18),o 20 (.mv (c (n 0)))]),
 (.block 2 (.loop (q [(.reg [o 21 (b .lss 20 19)]),
 (i 21 .skip (.exit 2)),
 (.block 3 (q [(.reg [o 22 (m 20),o 6 (m 22)]),
 (.regd [o 23 (m 3),o 24 (m 6),o 25 (ia 1 23 24),o 26 (l 25),o 27 (m 5),o 28 (m 6),o 29 (b .shr 27 28),o 30 (bc .and 29 (u 1)),o 31 (.conv .i64 (t 30)),o 32 (m 4),o 33 (b .shl 31 32),o 34 (b .or 26 33),o 35 (ia 1 23 24),w (.store 1 (t 35) (t 34))] [0,0,3,7,0,0,48,112,240,0,1008,2047,4095,8191])])),
 (.reg [o 36 (bc .add 20 (n 1)),o 20 (m 36)])])))])),
 (.reg [o 37 (bc .add 13 (n 1)),o 13 (m 37)])])))]),
 (.reg [o 38 (m 3),o 2 (m 38)]),
 .ret])⟩
def c_plausbisim_finer:CFn:=⟨43,[.tmp 4],(q [(.reg [o 2 (.box 4 (t 0)),o 3 (.box 1 (t 1)),o 4 (.mv (c (.nils 1)))]),
 (.reg [o 11 (l 3),o 5 (.alloc [(.nils 1)]),w (.store 1 (t 5) (t 11))]),
 (q [(.reg [o 12 (la 4 2),o 13 (.call 40 [(t 12)])]),
 (.block 0 (.rng (t 13) [14] (.reg [o 6 (.alloc [(n 0),.bf,(.nils 1)]),w (.store 3 (t 6) (t 14))]) (.block 1 (q [(.reg [o 15 .mkmap,o 7 (.alloc [(.d .nil)]),w (.store 1 (t 7) (t 15))]),
 (.reg [o 16 (.fnew f_plausbisim_finer_1 [(t 3),(t 7)]),o 8 (m 16)]),
 (.reg [o 17 (l 3),o 18 (ln 17),o 19 (.mkslice 1 8 [(n 0)] (t 18) (t 18)),o 9 (m 19)]),
 (q [(.reg [o 20 (m 9),o 21 (ln 20),o 22 (.mv (c (n 0)))]),
 (.block 2 (.loop (q [(.reg [o 23 (b .lss 22 21)]),
 (i 23 .skip (.exit 2)),
 (.block 3 (q [(.reg [o 24 (m 22),o 10 (m 24)]),
 (.reg [o 25 (m 9),o 26 (m 10),o 27 (m 8),o 28 (f 2 6),o 29 (l 28),o 30 (m 10),o 31 (ia 1 29 30),o 32 (l 31),o 33 (.callv (t 27) [(t 32)]),o 34 (ia 1 25 26),w (.store 1 (t 34) (t 33))])])),
 (.reg [o 35 (bc .add 22 (n 1)),o 22 (m 35)])])))]),
 (.reg [o 37 (l 5),o 38 (m 9),o 39 (.call 71 [(t 37),(t 38)]),o 36 (m 39),o 40 (e 36 0),o 41 (e 36 1),w (.store 1 (t 5) (t 40))])]))))]),
 (.reg [o 42 (l 5),o 4 (m 42)]),
 .ret])⟩
def c_wittingref19_Facts:CFn:=⟨34,[.tmp 2],(q [(.reg [o 1 (.box 3 (t 0)),o 2 (.mv (c (.nils 1)))]),
 (.reg [o 3 (.mv (c (.nils 1)))]),
 (q [(.reg [o 4 (.mv (c (n 0)))]),
 (.block 0 (.loop (q [(q [(.reg [o 9 (m 4),o 10 (f 0 1),o 11 (l 10),o 12 (b .lss 9 11)]),
 (i 12 .skip (.exit 0))]),
 (.block 1 (.reg [o 15 (m 3),o 16 (la 3 1),o 17 (m 4),o 18 (.call 115 [(t 16),(t 17)]),o 19 (.bslice 1 1 [(n 0)] [(0,(t 18))]),o 20 (.app 1 8 (t 15) (t 19)),o 3 (m 20)])),
 (.reg [o 13 (m 4),o 14 (bc .add 13 (n 1)),o 4 (m 14)])])))]),
 (.reg [o 22 (f 0 1),o 23 (l 22),o 24 (.call 116 [(t 23)]),o 21 (m 24),o 25 (e 21 0),o 26 (e 21 1),o 5 (m 25),o 6 (m 26)]),
 (.reg [o 28 (m 5),o 29 (m 3),o 30 (.call 77 [(t 28),(t 29)]),o 27 (m 30),o 31 (e 27 0),o 32 (e 27 1),o 7 (m 31),o 8 (m 32)]),
 (.reg [o 33 (m 7),o 2 (m 33)]),
 .ret])⟩
def c_wittingref33_Cell:CFn:=⟨62,[.tmp 6],(q [(.reg [o 3 (.box 4 (t 0)),o 6 (.mv (c (u 0)))]),
 (q [(.reg [o 9 (la 4 3),o 10 (.call 29 [(t 9)]),o 11 (bc .neq 10 (n 0)),o 12 (m 11),g 13 12 false (m 1),g 14 12 false (bc .lss 13 (n 0)),o 15 (pt 12 14),o 16 (m 15),g 17 16 false (m 1),g 18 16 false (f 2 3),g 19 16 false (l 18),g 20 16 false (ln 19),g 21 16 false (b .geq 17 20),o 22 (pt 16 21),o 23 (m 22),g 24 23 false (m 2),g 25 23 false (bc .lss 24 (n 0)),o 26 (pt 23 25),o 27 (m 26),g 28 27 false (m 2),g 29 27 false (f 0 3),g 30 27 false (l 29),g 31 27 false (b .geq 28 30),o 32 (pt 27 31)]),
 (i 32 (q [(.reg [o 6 (.mv (c (u 0)))]),
 .ret]) .skip)]),
 (.reg [o 7 (.mv (c (u 0)))]),
 (q [(.reg [o 8 (.mv (c (n 0)))]),
 (.block 0 (.loop (q [(q [(.reg [o 33 (m 8),o 34 (f 0 3),o 35 (l 34),o 36 (b .lss 33 35)]),
 (i 36 .skip (.exit 0))]),
 (.block 1 (q [(.regd [o 39 (f 2 3),o 40 (l 39),o 41 (m 1),o 42 (ia 1 40 41),o 43 (l 42),o 44 (m 8),o 45 (ia 1 43 44),o 46 (l 45),o 47 (f 2 3),o 48 (l 47),o 49 (m 1),o 50 (ia 1 48 49),o 51 (l 50),o 52 (m 2),o 53 (ia 1 51 52),o 54 (l 53),o 55 (b .eql 46 54)] [0,1,0,7,15,0,63,127,0,256,0,1792,3840,0,16128,32512,65535]),
 (i 55 (.reg [o 56 (m 7),o 57 (m 8),o 58 (.conv .u64 (t 57)),o 59 (.bin .shl (c (u 1)) (t 58)),o 60 (b .or 56 59),o 7 (m 60)]) .skip)])),
 (.reg [o 37 (m 8),o 38 (bc .add 37 (n 1)),o 8 (m 38)])])))]),
 (.reg [o 61 (m 7),o 6 (m 61)]),
 .ret])⟩
def c_wittingref19_reached:CFn:=⟨30,[.tmp 4],(q [(.reg [o 4 (.mv (c (u 0)))]),
 (.reg [o 5 (.mv (c (u 0)))]),
 (q [(.reg [o 8 (m 0),o 9 (ln 8),o 10 (.mv (c (n 0)))]),
 (.block 0 (.loop (q [(.reg [o 11 (b .lss 10 9)]),
 (i 11 .skip (.exit 0)),
 (.block 1 (q [(.reg [o 12 (m 10),o 13 (ia 1 8 10),o 14 (l 13),o 6 (m 12),o 7 (m 14)]),
 (.reg [o 15 (m 1),o 16 (m 6),o 17 (.call 117 [(t 15),(t 16)]),o 18 (m 17),g 19 18 true (m 5),g 20 18 true (m 7),g 21 18 true (.call 117 [(t 19),(t 20)]),g 22 18 true (.un .not (t 21)),o 23 (pf 18 22)]),
 (i 23 (.reg [o 24 (m 5),o 25 (m 7),o 26 (.bin .shl (c (u 1)) (t 25)),o 27 (b .add 24 26),o 5 (m 27)]) .skip)])),
 (.reg [o 28 (bc .add 10 (n 1)),o 10 (m 28)])])))]),
 (.reg [o 29 (m 5),o 4 (m 29)]),
 .ret])⟩
def c_wittingref03_Split:CFn:=⟨20,[.tmp 4,.tmp 5],(q [(.reg [o 4 (.mv (c (.nils 1))),o 5 (.mv (c (n 0)))]),
 (q [(.reg [o 7 (m 0),o 8 (.call 118 [(t 7)]),o 6 (m 8)]),
 (.reg [o 9 (m 6),o 10 (bc .neq 9 (n 0))]),
 (i 10 (q [(.reg [o 11 (m 6),o 4 (.mv (c (.nils 1))),o 5 (m 11)]),
 .ret]) .skip)]),
 (q [(.reg [o 12 (m 1),o 13 (ln 12),o 14 (m 0),o 15 (ln 14),o 16 (b .neq 13 15)]),
 (i 16 (q [(.reg [o 4 (.mv (c (.nils 1))),o 5 (.mv (c (n 3)))]),
 .ret]) .skip)]),
 (.reg [o 17 (m 0),o 18 (m 1),o 19 (.call 119 [(t 17),(t 18)]),o 4 (m 19),o 5 (.mv (c (n 0)))]),
 .ret])⟩
def c_plausbisim_links_1:CFn:=⟨51,[],(q [(.reg [o 8 (f 2 1),o 9 (l 8),o 10 (ln 9),o 11 (.mv (c (n 0)))]),
 (.block 0 (.loop (q [(.reg [o 12 (b .lss 11 10)]),
 (i 12 .skip (.exit 0)),
 (.block 1 (q [(.reg [o 13 (m 11),o 3 (m 13)]),
 (.reg [o 14 (f 0 1),o 15 (l 14),o 16 (.mkslice 1 8 [(u 0)] (t 15) (t 15)),o 4 (m 16)]),
 (q [(.reg [o 17 (m 4),o 18 (ln 17),o 19 (.mv (c (n 0)))]),
 (.block 2 (.loop (q [(.reg [o 20 (b .lss 19 18)]),
 (i 20 .skip (.exit 2)),
 (.block 3 (q [(.reg [o 21 (m 19),o 5 (m 21)]),
 (.reg [o 22 (m 4),o 23 (m 5),o 24 (la 4 1),o 25 (m 3),o 26 (m 5),o 27 (.call 31 [(t 24),(t 25),(t 26)]),o 28 (ia 1 22 23),w (.store 1 (t 28) (t 27))])])),
 (.reg [o 29 (bc .add 19 (n 1)),o 19 (m 29)])])))]),
 (.reg [o 31 (la 4 1),o 32 (m 3),o 33 (.call 79 [(t 31),(t 32)]),o 30 (m 33),o 34 (e 30 0),o 35 (e 30 1),o 6 (m 34),o 7 (m 35)]),
 (.reg [o 36 (m 0),o 37 (m 3),o 38 (m 4),o 39 (.build [(n 0),.bf,(.nils 1)] [(0,1,(t 37)),(1,1,(c .bf)),(2,1,(t 38))]),o 40 (.callv (t 36) [(t 39)]),o 41 (.un .not (t 40)),o 42 (m 41),g 43 42 false (m 0),g 44 42 false (m 3),g 45 42 false (m 6),g 46 42 false (.build [(n 0),.bf,(.nils 1)] [(0,1,(t 44)),(1,1,(c .bt)),(2,1,(t 45))]),g 47 42 false (.callv (t 43) [(t 46)]),g 48 42 false (.un .not (t 47)),o 49 (pt 42 48)]),
 (i 49 .ret .skip)])),
 (.reg [o 50 (bc .add 11 (n 1)),o 11 (m 50)])])))])⟩
def c_plaus_Weaker:CFn:=⟨84,[.tmp 4,.tmp 5],(q [(.reg [o 2 (.box 4 (t 0)),o 4 (.mv (c (.nils 1))),o 5 (.mv (c (n 0)))]),
 (q [(.reg [o 10 (la 4 2),o 11 (.call 34 [(t 10)]),o 6 (m 11)]),
 (.reg [o 12 (m 6),o 13 (bc .neq 12 (n 0))]),
 (i 13 (q [(.reg [o 14 (m 6),o 4 (.mv (c (.nils 1))),o 5 (m 14)]),
 .ret]) .skip)]),
 (q [(.reg [o 15 (m 1),o 16 (bc .lss 15 (n 0)),o 17 (m 16),g 18 17 false (m 1),g 19 17 false (f 2 2),g 20 17 false (l 19),g 21 17 false (ln 20),g 22 17 false (b .geq 18 21),o 23 (pt 17 22)]),
 (i 23 (q [(.reg [o 4 (.mv (c (.nils 1))),o 5 (.mv (c (n 2)))]),
 .ret]) .skip)]),
 (.reg [o 24 (f 0 2),o 25 (l 24),o 26 (.mkslice 1 8 [(u 0)] (t 25) (t 25)),o 7 (m 26)]),
 (q [(.reg [o 27 (m 7),o 28 (ln 27),o 29 (.mv (c (n 0)))]),
 (.block 0 (.loop (q [(.reg [o 30 (b .lss 29 28)]),
 (i 30 .skip (.exit 0)),
 (.block 1 (q [(.reg [o 31 (m 29),o 8 (m 31)]),
 (.reg [o 32 (m 7),o 33 (ln 32),o 34 (.mv (c (n 0)))]),
 (.block 2 (.loop (q [(.reg [o 35 (b .lss 34 33)]),
 (i 35 .skip (.exit 2)),
 (.block 3 (q [(.reg [o 36 (m 34),o 9 (m 36)]),
 (.regd [o 37 (f 2 2),o 38 (l 37),o 39 (m 1),o 40 (ia 1 38 39),o 41 (l 40),o 42 (m 9),o 43 (ia 1 41 42),o 44 (l 43),o 45 (f 2 2),o 46 (l 45),o 47 (m 1),o 48 (ia 1 46 47),o 49 (l 48),o 50 (m 8),o 51 (ia 1 49 50),o 52 (l 51),o 53 (b .eql 44 52),o 54 (m 53),g 55 54 true (f 3 2),g 56 54 true (l 55),g 57 54 true (m 1),g 58 54 true (ia 1 56 57),g 59 54 true (l 58),g 60 54 true (m 9),g 61 54 true (ia 1 59 60),g 62 54 true (l 61),g 63 54 true (f 3 2),g 64 54 true (l 63),g 65 54 true (m 1),g 66 54 true (ia 1 64 65),g 67 54 true (l 66),g 68 54 true (m 8),g 69 54 true (ia 1 67 68),g 70 54 true (l 69),g 71 54 true (b .leq 62 70),o 72 (pf 54 71)] [0,1,0,7,15,0,63,127,0,256,0,1792,3840,0,16128,32512,65535,131071,262143,524287,262143,2097151,4194303,262143,16777215,33554431,262143,67371007,262143,470024191,1006895103,262143,4228120575,8523087871,17179869183,34359738367]),
 (i 72 (.regd [o 73 (m 7),o 74 (m 8),o 75 (ia 1 73 74),o 76 (l 75),o 77 (m 9),o 78 (.bin .shl (c (u 1)) (t 77)),o 79 (b .or 76 78),o 80 (ia 1 73 74),w (.store 1 (t 80) (t 79))] [0,0,3,7,0,16,63,127,255]) .skip)])),
 (.reg [o 81 (bc .add 34 (n 1)),o 34 (m 81)])])))])),
 (.reg [o 82 (bc .add 29 (n 1)),o 29 (m 82)])])))]),
 (.reg [o 83 (m 7),o 4 (m 83),o 5 (.mv (c (n 0)))]),
 .ret])⟩
def c_wittingref13_All:CFn:=⟨8,[.tmp 2],(q [(.reg [o 2 (.mv (c (u 0)))]),
 (q [(.reg [o 3 (m 0),o 4 (bc .geq 3 (n 64))]),
 (i 4 (q [(.reg [o 2 (.mv (c (u 18446744073709551615)))]),
 .ret]) .skip)]),
 (.reg [o 5 (m 0),o 6 (.bin .shl (c (u 1)) (t 5)),o 7 (bc .sub 6 (u 1)),o 2 (m 7)]),
 .ret])⟩
def c_wittingref02_All:CFn:=⟨9,[.tmp 2],(q [(.reg [o 2 (.mv (c (u 0)))]),
 (q [(.reg [o 3 (m 0),o 4 (bc .geq 3 (n 64))]),
 (i 4 (q [(.reg [o 2 (.mv (c (u 18446744073709551615)))]),
 .ret]) .skip)]),
 (.reg [o 5 (m 0),o 6 (.conv .u64 (t 5)),o 7 (.bin .shl (c (u 1)) (t 6)),o 8 (bc .sub 7 (u 1)),o 2 (m 8)]),
 .ret])⟩
def c_plaus_all:CFn:=⟨8,[.tmp 2],(q [(.reg [o 2 (.mv (c (u 0)))]),
 (q [(.reg [o 3 (m 0),o 4 (bc .geq 3 (n 64))]),
 (i 4 (q [(.reg [o 2 (.mv (c (u 18446744073709551615)))]),
 .ret]) .skip)]),
 (.reg [o 5 (m 0),o 6 (.bin .shl (c (u 1)) (t 5)),o 7 (bc .sub 6 (u 1)),o 2 (m 7)]),
 .ret])⟩
def c_slices_Compact_Lint_int_:CFn:=⟨61,[.tmp 2],(q [(.reg [o 2 (.mv (c (.nils 1)))]),
 (q [(.reg [o 6 (m 0),o 7 (ln 6),o 8 (bc .lss 7 (n 2))]),
 (i 8 (q [(.reg [o 9 (m 0),o 2 (m 9)]),
 .ret]) .skip)]),
 (q [(.reg [o 3 (.mv (c (n 1)))]),
 (.block 0 (.loop (q [(q [(.reg [o 10 (m 3),o 11 (m 0),o 12 (ln 11),o 13 (b .lss 10 12)]),
 (i 13 .skip (.exit 0))]),
 (.block 1 (q [(.regd [o 16 (m 0),o 17 (m 3),o 18 (ia 1 16 17),o 19 (l 18),o 20 (m 0),o 21 (m 3),o 22 (bc .sub 21 (n 1)),o 23 (ia 1 20 22),o 24 (l 23),o 25 (b .eql 19 24)] [0,0,3,7,0,0,32,112,240,511]),
 (i 25 (q [(.reg [o 26 (m 0),o 27 (m 3),o 28 (.slice 1 (t 26) (some (t 27)) none),o 4 (m 28)]),
 (q [(.reg [o 5 (.mv (c (n 1)))]),
 (.block 2 (.loop (q [(q [(.reg [o 29 (m 5),o 30 (m 4),o 31 (ln 30),o 32 (b .lss 29 31)]),
 (i 32 .skip (.exit 2))]),
 (.block 3 (q [(.regd [o 35 (m 4),o 36 (m 5),o 37 (ia 1 35 36),o 38 (l 37),o 39 (m 4),o 40 (m 5),o 41 (bc .sub 40 (n 1)),o 42 (ia 1 39 41),o 43 (l 42),o 44 (b .neq 38 43)] [0,0,3,7,0,0,32,112,240,511]),
 (i 44 (q [(.reg [o 45 (m 0),o 46 (m 3),o 47 (m 4),o 48 (m 5),o 49 (ia 1 47 48),o 50 (l 49),o 51 (ia 1 45 46),w (.store 1 (t 51) (t 50))]),
 (.reg [o 52 (m 3),o 53 (bc .add 52 (n 1)),o 3 (m 53)])]) .skip)])),
 (.reg [o 33 (m 5),o 34 (bc .add 33 (n 1)),o 5 (m 34)])])))]),
 (.reg [o 54 (m 0),o 55 (m 3),o 56 (.slice 1 (t 54) (some (t 55)) none),w (.clear 1 [(n 0)] (t 56))]),
 (.reg [o 57 (m 0),o 58 (m 3),o 59 (.slice 1 (t 57) none (some (t 58))),o 2 (m 59)]),
 .ret]) .skip)])),
 (.reg [o 14 (m 3),o 15 (bc .add 14 (n 1)),o 3 (m 15)])])))]),
 (.reg [o 60 (m 0),o 2 (m 60)]),
 .ret])⟩
def c_partition_Check:CFn:=⟨31,[.tmp 2],(q [(.reg [o 2 (.mv (c (n 0)))]),
 (q [(.reg [o 5 (m 0),o 6 (ln 5),o 7 (bc .gtr 6 (n 64))]),
 (i 7 (q [(.reg [o 2 (.mv (c (n 8)))]),
 .ret]) .skip)]),
 (q [(.reg [o 8 (m 0),o 9 (ln 8),o 10 (.mv (c (n 0)))]),
 (.block 0 (.loop (q [(.reg [o 11 (b .lss 10 9)]),
 (i 11 .skip (.exit 0)),
 (.block 1 (q [(.reg [o 12 (m 10),o 13 (ia 1 8 10),o 14 (l 13),o 3 (m 12),o 4 (m 14)]),
 (.reg [o 15 (m 4),o 16 (bc .lss 15 (n 0)),o 17 (m 16),g 18 17 false (m 4),g 19 17 false (m 3),g 20 17 false (b .gtr 18 19),o 21 (pt 17 20),o 22 (m 21),g 23 22 false (m 0),g 24 22 false (m 4),g 25 22 false (ia 1 23 24),g 26 22 false (l 25),g 27 22 false (m 4),g 28 22 false (b .neq 26 27),o 29 (pt 22 28)]),
 (i 29 (q [(.reg [o 2 (.mv (c (n 3)))]),
 .ret]) .skip)])),
 (.reg [o 30 (bc .add 10 (n 1)),o 10 (m 30)])])))]),
 (.reg [o 2 (.mv (c (n 0)))]),
 .ret])⟩
def c_partition_divide:CFn:=⟨48,[.tmp 4],(q [(.reg [o 4 (.mv (c (.nils 1)))]),
 (.reg [o 11 .mkmap,o 5 (m 11)]),
 (.reg [o 12 (m 0),o 13 (ln 12),o 14 (.mkslice 1 8 [(n 0)] (t 13) (t 13)),o 6 (m 14)]),
 (q [(.reg [o 15 (m 0),o 16 (ln 15),o 17 (.mv (c (n 0)))]),
 (.block 0 (.loop (q [(.reg [o 18 (b .lss 17 16)]),
 (i 18 .skip (.exit 0)),
 (.block 1 (q [(.reg [o 19 (m 17),o 7 (m 19)]),
 (.regd [o 20 (m 0),o 21 (m 7),o 22 (ia 1 20 21),o 23 (l 22),o 24 (m 1),o 25 (m 7),o 26 (ia 1 24 25),o 27 (l 26),o 28 (.build [(n 0),(n 0)] [(0,1,(t 23)),(1,1,(t 27))]),o 8 (.alloc [(n 0),(n 0)]),w (.store 2 (t 8) (t 28))] [0,0,3,7,0,0,48,112,255,0,1023]),
 (q [(.reg [o 30 (m 5),o 31 (la 2 8),o 32 (.look (.agg [(.int .i64),(.int .i64)]) [(n 0)] (t 30) (t 31) true),o 29 (m 32),o 33 (e 29 0),o 34 (e 29 1),o 9 (m 33),o 10 (m 34)]),
 (.reg [o 35 (m 10),o 36 (.un .not (t 35))]),
 (i 36 (.reg [o 37 (m 5),o 38 (la 2 8),o 39 (m 7),w (.mupd (.agg [(.int .i64),(.int .i64)]) (t 37) (t 38) (t 39))]) .skip)]),
 (.reg [o 40 (m 6),o 41 (m 7),o 42 (m 5),o 43 (la 2 8),o 44 (.look (.agg [(.int .i64),(.int .i64)]) [(n 0)] (t 42) (t 43) false),o 45 (ia 1 40 41),w (.store 1 (t 45) (t 44))])])),
 (.reg [o 46 (bc .add 17 (n 1)),o 17 (m 46)])])))]),
 (.reg [o 47 (m 6),o 4 (m 47)]),
 .ret])⟩
def c_plausbisim_finer_1:CFn:=⟨41,[.tmp 4],(q [(.reg [o 4 (.mv (c (n 0)))]),
 (.reg [o 5 (.mv (c (u 0)))]),
 (q [(.reg [o 10 (l 1),o 11 (ln 10),o 12 (.mv (c (n 0)))]),
 (.block 0 (.loop (q [(.reg [o 13 (b .lss 12 11)]),
 (i 13 .skip (.exit 0)),
 (.block 1 (q [(.reg [o 14 (m 12),o 15 (ia 1 10 12),o 16 (l 15),o 6 (m 14),o 7 (m 16)]),
 (.reg [o 17 (m 5),o 18 (m 0),o 19 (m 6),o 20 (b .shr 18 19),o 21 (bc .and 20 (u 1)),o 22 (m 7),o 23 (b .shl 21 22),o 24 (b .or 17 23),o 5 (m 24)])])),
 (.reg [o 25 (bc .add 12 (n 1)),o 12 (m 25)])])))]),
 (q [(.reg [o 27 (l 2),o 28 (m 5),o 29 (.look (.int .u64) [(n 0)] (t 27) (t 28) true),o 26 (m 29),o 30 (e 26 0),o 31 (e 26 1),o 8 (m 30),o 9 (m 31)]),
 (.reg [o 32 (m 9),o 33 (.un .not (t 32))]),
 (i 33 (.reg [o 34 (l 2),o 35 (m 5),o 36 (l 2),o 37 (.lenm (t 36)),w (.mupd (.int .u64) (t 34) (t 35) (t 37))]) .skip)]),
 (.reg [o 38 (l 2),o 39 (m 5),o 40 (.look (.int .u64) [(n 0)] (t 38) (t 39) false),o 4 (m 40)]),
 .ret])⟩
def c_wittingref13_Facts:CFn:=⟨39,[.tmp 4],(q [(.reg [o 2 (.box 3 (t 0)),o 4 (.mv (c (n 0)))]),
 (q [(.reg [o 7 (la 3 2),o 8 (.call 144 [(t 7)]),o 9 (bc .neq 8 (n 0)),o 10 (m 9),g 11 10 false (m 1),g 12 10 false (bc .lss 11 (n 0)),o 13 (pt 10 12),o 14 (m 13),g 15 14 false (m 1),g 16 14 false (f 0 2),g 17 14 false (l 16),g 18 14 false (b .geq 15 17),o 19 (pt 14 18)]),
 (i 19 (q [(.reg [o 4 (.mv (c (n (-1))))]),
 .ret]) .skip)]),
 (.reg [o 5 (.mv (c (n 0)))]),
 (q [(.reg [o 6 (.mv (c (n 0)))]),
 (.block 0 (.loop (q [(q [(.reg [o 20 (m 6),o 21 (f 1 2),o 22 (l 21),o 23 (ln 22),o 24 (b .lss 20 23)]),
 (i 24 .skip (.exit 0))]),
 (.block 1 (q [(.reg [o 27 (f 1 2),o 28 (l 27),o 29 (m 6),o 30 (ia 1 28 29),o 31 (l 30),o 32 (m 1),o 33 (.call 117 [(t 31),(t 32)])]),
 (i 33 (.reg [o 34 (m 5),o 35 (m 6),o 36 (.bin .shl (c (n 1)) (t 35)),o 37 (b .add 34 36),o 5 (m 37)]) .skip)])),
 (.reg [o 25 (m 6),o 26 (bc .add 25 (n 1)),o 6 (m 26)])])))]),
 (.reg [o 38 (m 5),o 4 (m 38)]),
 .ret])⟩
def c_wittingref03_Trivial:CFn:=⟨12,[.tmp 2,.tmp 3],(q [(.reg [o 2 (.mv (c (.nils 1))),o 3 (.mv (c (n 0)))]),
 (q [(.reg [o 4 (m 0),o 5 (bc .lss 4 (n 0)),o 6 (m 5),g 7 6 false (m 0),g 8 6 false (bc .gtr 7 (n 64)),o 9 (pt 6 8)]),
 (i 9 (q [(.reg [o 2 (.mv (c (.nils 1))),o 3 (.mv (c (n 8)))]),
 .ret]) .skip)]),
 (.reg [o 10 (m 0),o 11 (.mkslice 1 8 [(n 0)] (t 10) (t 10)),o 2 (m 11),o 3 (.mv (c (n 0)))]),
 .ret])⟩
def c_wittingref13_Has:CFn:=⟨18,[.tmp 4],(q [(.reg [o 4 (.mv (c .bf))]),
 (.reg [o 5 (m 1),o 6 (bc .geq 5 (n 0)),o 7 (m 6),g 8 7 true (m 1),g 9 7 true (bc .lss 8 (n 64)),o 10 (pf 7 9),o 11 (m 10),g 12 11 true (m 0),g 13 11 true (m 1),g 14 11 true (b .shr 12 13),g 15 11 true (bc .rem 14 (u 2)),g 16 11 true (bc .eql 15 (u 1)),o 17 (pf 11 16),o 4 (m 17)]),
 .ret])⟩
def c_wittingref03_Check:CFn:=⟨31,[.tmp 2],(q [(.reg [o 2 (.mv (c (n 0)))]),
 (q [(.reg [o 5 (m 0),o 6 (ln 5),o 7 (bc .gtr 6 (n 64))]),
 (i 7 (q [(.reg [o 2 (.mv (c (n 8)))]),
 .ret]) .skip)]),
 (q [(.reg [o 8 (m 0),o 9 (ln 8),o 10 (.mv (c (n 0)))]),
 (.block 0 (.loop (q [(.reg [o 11 (b .lss 10 9)]),
 (i 11 .skip (.exit 0)),
 (.block 1 (q [(.reg [o 12 (m 10),o 13 (ia 1 8 10),o 14 (l 13),o 3 (m 12),o 4 (m 14)]),
 (.reg [o 15 (m 4),o 16 (bc .lss 15 (n 0)),o 17 (m 16),g 18 17 false (m 4),g 19 17 false (m 3),g 20 17 false (b .gtr 18 19),o 21 (pt 17 20),o 22 (m 21),g 23 22 false (m 0),g 24 22 false (m 4),g 25 22 false (ia 1 23 24),g 26 22 false (l 25),g 27 22 false (m 4),g 28 22 false (b .neq 26 27),o 29 (pt 22 28)]),
 (i 29 (q [(.reg [o 2 (.mv (c (n 3)))]),
 .ret]) .skip)])),
 (.reg [o 30 (bc .add 10 (n 1)),o 10 (m 30)])])))]),
 (.reg [o 2 (.mv (c (n 0)))]),
 .ret])⟩
def c_wittingref03_canonical:CFn:=⟨47,[.tmp 4],(q [(.reg [o 4 (.mv (c (.nils 1)))]),
 (.reg [o 5 (.mv (c (.nils 1)))]),
 (q [(.reg [o 9 (m 0),o 10 (ln 9),o 11 (.mv (c (n 0)))]),
 (.block 0 (.loop (q [(.reg [o 12 (b .lss 11 10)]),
 (i 12 .skip (.exit 0)),
 (.block 1 (q [(.reg [o 13 (m 11),o 6 (m 13)]),
 (.reg [o 14 (m 6),o 7 (m 14)]),
 (q [(.reg [o 15 (m 6),o 8 (m 15)]),
 (.block 2 (.loop (q [(q [(.reg [o 16 (m 8),o 17 (bc .geq 16 (n 0))]),
 (i 17 .skip (.exit 2))]),
 (.block 3 (q [(.regd [o 20 (m 0),o 21 (m 8),o 22 (ia 1 20 21),o 23 (l 22),o 24 (m 0),o 25 (m 6),o 26 (ia 1 24 25),o 27 (l 26),o 28 (b .eql 23 27),o 29 (m 28),g 30 29 true (m 1),g 31 29 true (m 8),g 32 29 true (ia 1 30 31),g 33 29 true (l 32),g 34 29 true (m 1),g 35 29 true (m 6),g 36 29 true (ia 1 34 35),g 37 29 true (l 36),g 38 29 true (b .eql 33 37),o 39 (pf 29 38)] [0,0,3,7,0,0,48,112,255,511,1023,1023,4095,8191,1023,1023,50175,115711,262143,524287]),
 (i 39 (.reg [o 40 (m 8),o 7 (m 40)]) .skip)])),
 (.reg [o 18 (m 8),o 19 (bc .sub 18 (n 1)),o 8 (m 19)])])))]),
 (.reg [o 41 (m 5),o 42 (m 7),o 43 (.bslice 1 1 [(n 0)] [(0,(t 42))]),o 44 (.app 1 8 (t 41) (t 43)),o 5 (m 44)])])),
 (.reg [o 45 (bc .add 11 (n 1)),o 11 (m 45)])])))]),
 (.reg [o 46 (m 5),o 4 (m 46)]),
 .ret])⟩
def c_math_bits_Len:CFn:=⟨8,[.tmp 2],(q [(.reg [o 2 (.mv (c (n 0)))]),
 (.cond (c .bf) (q [(.reg [o 3 (m 0),o 4 (.conv .u32 (t 3)),o 5 (.call 158 [(t 4)]),o 2 (m 5)]),
 .ret]) .skip),
 (.reg [o 6 (m 0),o 7 (.call 159 [(t 6)]),o 2 (m 7)]),
 .ret])⟩
def c_wittingref13_Check:CFn:=⟨59,[.tmp 2],(q [(.reg [o 1 (.box 3 (t 0)),o 2 (.mv (c (n 0)))]),
 (q [(.reg [o 5 (f 0 1),o 6 (l 5),o 7 (bc .lss 6 (n 1)),o 8 (m 7),g 9 8 false (f 0 1),g 10 8 false (l 9),g 11 8 false (bc .gtr 10 (n 64)),o 12 (pt 8 11)]),
 (i 12 (q [(.reg [o 2 (.mv (c (n 2)))]),
 .ret]) .skip)]),
 (q [(.reg [o 13 (f 2 1),o 14 (l 13),o 15 (ln 14),o 16 (bc .gtr 15 (n 4)),o 17 (m 16),g 18 17 false (f 1 1),g 19 17 false (l 18),g 20 17 false (ln 19),g 21 17 false (bc .gtr 20 (n 8)),o 22 (pt 17 21)]),
 (i 22 (q [(.reg [o 2 (.mv (c (n 8)))]),
 .ret]) .skip)]),
 (q [(.reg [o 3 (.mv (c (n 0)))]),
 (.block 0 (.loop (q [(q [(.reg [o 23 (m 3),o 24 (f 2 1),o 25 (l 24),o 26 (ln 25),o 27 (b .lss 23 26)]),
 (i 27 .skip (.exit 0))]),
 (.block 1 (q [(.regd [o 30 (f 2 1),o 31 (l 30),o 32 (m 3),o 33 (ia 1 31 32),o 34 (l 33),o 35 (ln 34),o 36 (f 0 1),o 37 (l 36),o 38 (b .neq 35 37)] [0,1,0,7,15,31,0,64,255]),
 (i 38 (q [(.reg [o 2 (.mv (c (n 3)))]),
 .ret]) .skip)])),
 (.reg [o 28 (m 3),o 29 (bc .add 28 (n 1)),o 3 (m 29)])])))]),
 (q [(.reg [o 39 (f 1 1),o 40 (l 39),o 41 (f 0 1),o 42 (l 41),o 43 (.call 175 [(t 40),(t 42)])]),
 (i 43 (q [(.reg [o 2 (.mv (c (n 2)))]),
 .ret]) .skip)]),
 (q [(.reg [o 4 (.mv (c (n 0)))]),
 (.block 2 (.loop (q [(q [(.reg [o 44 (m 4),o 45 (f 2 1),o 46 (l 45),o 47 (ln 46),o 48 (b .lss 44 47)]),
 (i 48 .skip (.exit 2))]),
 (.block 3 (q [(.regd [o 51 (f 2 1),o 52 (l 51),o 53 (m 4),o 54 (ia 1 52 53),o 55 (l 54),o 56 (f 0 1),o 57 (l 56),o 58 (.call 175 [(t 55),(t 57)])] [0,1,0,7,15,0,32,127]),
 (i 58 (q [(.reg [o 2 (.mv (c (n 2)))]),
 .ret]) .skip)])),
 (.reg [o 49 (m 4),o 50 (bc .add 49 (n 1)),o 4 (m 50)])])))]),
 (.reg [o 2 (.mv (c (n 0)))]),
 .ret])⟩
def c_wittingref13_beyond:CFn:=⟨20,[.tmp 4],(q [(.reg [o 4 (.mv (c .bf))]),
 (q [(.reg [o 5 (.mv (c (n 0)))]),
 (.block 0 (.loop (q [(q [(.reg [o 6 (m 5),o 7 (m 0),o 8 (ln 7),o 9 (b .lss 6 8)]),
 (i 9 .skip (.exit 0))]),
 (.block 1 (q [(.regd [o 12 (m 0),o 13 (m 5),o 14 (ia 1 12 13),o 15 (l 14),o 16 (m 1),o 17 (.call 102 [(t 16)]),o 18 (b .andNot 15 17),o 19 (bc .neq 18 (u 0))] [0,0,3,7,0,16,63,127]),
 (i 19 (q [(.reg [o 4 (.mv (c .bt))]),
 .ret]) .skip)])),
 (.reg [o 10 (m 5),o 11 (bc .add 10 (n 1)),o 5 (m 11)])])))]),
 (.reg [o 4 (.mv (c .bf))]),
 .ret])⟩
def c_relation_points_1:CFn:=⟨14,[],(.block 0 (.loop (q [(q [(.reg [o 3 (l 1),o 4 (bc .neq 3 (u 0))]),
 (i 4 .skip (.exit 0))]),
 (.block 1 (q [(.reg [o 9 (m 0),o 10 (l 1),o 11 (.call 84 [(t 10)]),o 12 (.callv (t 9) [(t 11)]),o 13 (.un .not (t 12))]),
 (i 13 .ret .skip)])),
 (.reg [o 5 (l 1),o 6 (l 1),o 7 (bc .sub 6 (u 1)),o 8 (b .and 5 7),w (.store 1 (t 1) (t 8))])])))⟩
end Go.Ab
namespace Go.Ab
open Go Go.Proofs
theorem hmix:Tryz.prog.follows .mixedOrders=true:=by kernel_rfl
theorem k_plausbisim_Rounds:compFn Tryz.prog f_plausbisim_Rounds=some c_plausbisim_Rounds:=by kernel_rfl
theorem k_wittingref35_Rounds:compFn Tryz.prog f_wittingref35_Rounds=some c_wittingref35_Rounds:=by kernel_rfl
theorem k_plausbisim_Coarsest:compFn Tryz.prog f_plausbisim_Coarsest=some c_plausbisim_Coarsest:=by kernel_rfl
theorem k_wittingref35_Coarsest:compFn Tryz.prog f_wittingref35_Coarsest=some c_wittingref35_Coarsest:=by kernel_rfl
theorem k_slices_Equal_Lint_int_:compFn Tryz.prog f_slices_Equal_Lint_int_=some c_slices_Equal_Lint_int_:=by kernel_rfl
theorem k_wittingref33_Check:compFn Tryz.prog f_wittingref33_Check=some c_wittingref33_Check:=by kernel_rfl
theorem k_plaus_Cell:compFn Tryz.prog f_plaus_Cell=some c_plaus_Cell:=by kernel_rfl
theorem k_wittingref33_Few:compFn Tryz.prog f_wittingref33_Few=some c_wittingref33_Few:=by kernel_rfl
theorem k_plaus_Check:compFn Tryz.prog f_plaus_Check=some c_plaus_Check:=by kernel_rfl
theorem k_plausbisim_rounds:compFn Tryz.prog f_plausbisim_rounds=some c_plausbisim_rounds:=by kernel_rfl
theorem k_wittingref35_start:compFn Tryz.prog f_wittingref35_start=some c_wittingref35_start:=by kernel_rfl
theorem k_wittingref35_relations:compFn Tryz.prog f_wittingref35_relations=some c_wittingref35_relations:=by kernel_rfl
theorem k_wittingref19_Refine:compFn Tryz.prog f_wittingref19_Refine=some c_wittingref19_Refine:=by kernel_rfl
theorem k_plausbisim_links:compFn Tryz.prog f_plausbisim_links=some c_plausbisim_links:=by kernel_rfl
theorem k_wittingref33_Weaker:compFn Tryz.prog f_wittingref33_Weaker=some c_wittingref33_Weaker:=by kernel_rfl
theorem k_wittingref33_sizes:compFn Tryz.prog f_wittingref33_sizes=some c_wittingref33_sizes:=by kernel_rfl
theorem k_wittingref33_cells:compFn Tryz.prog f_wittingref33_cells=some c_wittingref33_cells:=by kernel_rfl
theorem k_wittingref33_ranked:compFn Tryz.prog f_wittingref33_ranked=some c_wittingref33_ranked:=by kernel_rfl
theorem k_plaus_known:compFn Tryz.prog f_plaus_known=some c_plaus_known:=by kernel_rfl
theorem k_plaus_cellOf:compFn Tryz.prog f_plaus_cellOf=some c_plaus_cellOf:=by kernel_rfl
theorem k_plaus_shape:compFn Tryz.prog f_plaus_shape=some c_plaus_shape:=by kernel_rfl
theorem k_partition_Split:compFn Tryz.prog f_partition_Split=some c_partition_Split:=by kernel_rfl
theorem k_plausbisim_facts:compFn Tryz.prog f_plausbisim_facts=some c_plausbisim_facts:=by kernel_rfl
theorem k_plausbisim_finer:compFn Tryz.prog f_plausbisim_finer=some c_plausbisim_finer:=by kernel_rfl
theorem k_wittingref19_Facts:compFn Tryz.prog f_wittingref19_Facts=some c_wittingref19_Facts:=by kernel_rfl
theorem k_wittingref33_Cell:compFn Tryz.prog f_wittingref33_Cell=some c_wittingref33_Cell:=by kernel_rfl
theorem k_wittingref19_reached:compFn Tryz.prog f_wittingref19_reached=some c_wittingref19_reached:=by kernel_rfl
theorem k_wittingref03_Split:compFn Tryz.prog f_wittingref03_Split=some c_wittingref03_Split:=by kernel_rfl
theorem k_plausbisim_links_1:compFn Tryz.prog f_plausbisim_links_1=some c_plausbisim_links_1:=by kernel_rfl
theorem k_plaus_Weaker:compFn Tryz.prog f_plaus_Weaker=some c_plaus_Weaker:=by kernel_rfl
theorem k_wittingref13_All:compFn Tryz.prog f_wittingref13_All=some c_wittingref13_All:=by kernel_rfl
theorem k_wittingref02_All:compFn Tryz.prog f_wittingref02_All=some c_wittingref02_All:=by kernel_rfl
theorem k_plaus_all:compFn Tryz.prog f_plaus_all=some c_plaus_all:=by kernel_rfl
theorem k_slices_Compact_Lint_int_:compFn Tryz.prog f_slices_Compact_Lint_int_=some c_slices_Compact_Lint_int_:=by kernel_rfl
theorem k_partition_Check:compFn Tryz.prog f_partition_Check=some c_partition_Check:=by kernel_rfl
theorem k_partition_divide:compFn Tryz.prog f_partition_divide=some c_partition_divide:=by kernel_rfl
theorem k_plausbisim_finer_1:compFn Tryz.prog f_plausbisim_finer_1=some c_plausbisim_finer_1:=by kernel_rfl
theorem k_wittingref13_Facts:compFn Tryz.prog f_wittingref13_Facts=some c_wittingref13_Facts:=by kernel_rfl
theorem k_wittingref03_Trivial:compFn Tryz.prog f_wittingref03_Trivial=some c_wittingref03_Trivial:=by kernel_rfl
theorem k_wittingref13_Has:compFn Tryz.prog f_wittingref13_Has=some c_wittingref13_Has:=by kernel_rfl
theorem k_wittingref03_Check:compFn Tryz.prog f_wittingref03_Check=some c_wittingref03_Check:=by kernel_rfl
theorem k_wittingref03_canonical:compFn Tryz.prog f_wittingref03_canonical=some c_wittingref03_canonical:=by kernel_rfl
theorem k_math_bits_Len:compFn Tryz.prog f_math_bits_Len=some c_math_bits_Len:=by kernel_rfl
theorem k_wittingref13_Check:compFn Tryz.prog f_wittingref13_Check=some c_wittingref13_Check:=by kernel_rfl
theorem k_wittingref13_beyond:compFn Tryz.prog f_wittingref13_beyond=some c_wittingref13_beyond:=by kernel_rfl
theorem k_relation_points_1:compFn Tryz.prog f_relation_points_1=some c_relation_points_1:=by kernel_rfl
end Go.Ab
namespace Go.Ab
open Go Go.Proofs
set_option linter.unusedSimpArgs false
set_option linter.unusedVariables false
set_option maxRecDepth 10000
set_option maxHeartbeats 4000000
variable {T:Nat→Obj→Prop}
def allL (n:Int):BitVec 64:=if n ≥ 64 then -1 else (1#64 <<< n.toNat) - 1#64
theorem fn_plaus_all (n:Int) (h:0≤n):Fn Tryz.prog T f_plaus_all [.d (.int .i64 n)] [] (.d (.u64 (allL n))) []:=by
 refine fn_dataR hmix k_plaus_all (by show 1≤8;decide) ?_
 (repeat' ((conv=>whnf);first|refine vA ?_|(refine vF ?_ ?_<;>intro hc<;>try simp only [vL] at hc)|refine vT ?_|(refine vP ?_ ?_;·omega)|refine vY ?_));all_goals try conv=>whnf
 ·simp [allL, *]
 ·rw [allL,if_neg (by omega)];rfl
theorem fn_ref02_All (n:Int) (h:0≤n):Fn Tryz.prog T f_wittingref02_All [.d (.int .i64 n)] [] (.d (.u64 (allL n))) []:=by
 refine fn_dataR hmix k_wittingref02_All (by show 1≤9;decide) ?_
 (repeat' ((conv=>whnf);first|refine vA ?_|(refine vF ?_ ?_<;>intro hc<;>try simp only [vL] at hc)|refine vT ?_|refine vY ?_));all_goals try conv=>whnf
 ·simp [allL, *]
 ·rw [allL,if_neg (by omega)]
  have:(BitVec.ofInt 64 n).toNat=n.toNat:=by
   rw [BitVec.toNat_ofInt,Int.emod_eq_of_lt h (by omega)]
  rw [this];rfl
def bad (n:Int) (s:BitVec 64):Bool:=s &&& ~~~ (allL n)≠0
def shapeL (worlds agents:Int) (val:List (BitVec 64)):Int :=
 if worlds < 1∨64 < worlds then 2 else if 8 < val.length∨4 < agents then 8 else if val.any (bad worlds) then 3 else 0
theorem fn_plaus_shape (worlds agents:Int) (val:List (BitVec 64)):Fn Tryz.prog T f_plaus_shape [.d (.int .i64 worlds),.d (.int .i64 agents),.d (dU val)] [] (.d (.int .i64 (shapeL worlds agents val))) []:=by
 refine fn_dataR hmix k_plaus_shape (by show 3≤34;decide) ?_
 (repeat' ((conv=>whnf);first|refine vA ?_|(refine vF ?_ ?_<;>intro hc<;>try simp only [vL] at hc)|refine vJ fun hg=>?_|refine vT ?_|refine vX ?_));all_goals try conv=>whnf
 ·simp [shapeL, *]
 ·simp [shapeL, *]
 ·rw [shapeL,if_neg (by omega),if_pos (by omega)]
 ·rw [shapeL,if_neg (by omega),if_pos (by omega)]
 ·refine loop_intro (fun (k:Nat)=>[(0,.d (.int .i64 (worlds))),(22,.d (dU val)),(23,.d (.int .i64 ((val.map D.u64).length:Int))),(24,.d (.int .i64 ((k:Int))))]) (fun (k:Nat)=>k≤val.length∧val.any (bad worlds)=(val.drop k).any (bad worlds)) (fun (k:Nat)=>val.length - k) (0) (⟨by simp,by simp⟩) (by (repeat' first|exact trivial|exact rfl|refine And.intro ?_ ?_)) ?_
  rintro k ⟨hk,hI⟩
  (repeat' ((conv=>whnf);first|refine vA ?_|((first|refine vD ?_ ?_|refine vF ?_ ?_)<;>intro hc<;>try simp only [vL] at hc)|refine vT ?_|(refine vQ ?_ fun x hx=>?_;·omega)|(refine vO ?_ ?_;·omega)|refine vX ?_|(refine yD (fn_plaus_all _ ?_) ⟨⟨rfl,rfl⟩,rfl⟩ rfl ?_;(·omega))|fail));all_goals try conv=>whnf
  ·have hb:bad worlds x=true:=by simpa [bad] using hc
   rw [shapeL,if_neg (by omega),if_neg (by omega),hI,drop_cons hx];simp [hb]
  ·have hb:bad worlds x=false:=by simpa [bad] using hc
   exact ⟨k+1,[],[],⟨by (omega),by rw [hI,drop_cons hx];simp [hb]⟩,by (omega),by (refine ⟨rfl,rfl,rfl,?_,?_⟩;repeat' first|exact trivial|exact rfl|refine And.intro ?_ ?_)⟩
  ·rw [shapeL,if_neg (by omega),if_neg (by omega),hI,List.drop_eq_nil_of_le (by omega)];simp
theorem fn_ref33_sizes (worlds agents:Int) (val:List (BitVec 64)):Fn Tryz.prog T f_wittingref33_sizes [.d (.int .i64 worlds),.d (.int .i64 agents),.d (dU val)] [] (.d (.int .i64 (shapeL worlds agents val))) []:=by
 refine fn_dataR hmix k_wittingref33_sizes (by show 3≤35;decide) ?_
 (repeat' ((conv=>whnf);first|refine vA ?_|(refine vF ?_ ?_<;>intro hc<;>try simp only [vL] at hc)|refine vJ fun hg=>?_|refine vT ?_|refine vX ?_));all_goals try conv=>whnf
 ·simp [shapeL, *]
 ·simp [shapeL, *]
 ·rw [shapeL,if_neg (by omega),if_pos (by omega)]
 ·rw [shapeL,if_neg (by omega),if_pos (by omega)]
 ·refine loop_intro (fun (k:Nat)=>[(0,.d (.int .i64 (worlds))),(2,.d (dU val)),(7,.d (.int .i64 ((k:Int))))]) (fun (k:Nat)=>k≤val.length∧val.any (bad worlds)=(val.drop k).any (bad worlds)) (fun (k:Nat)=>val.length - k) (0) (⟨by simp,by simp⟩) (by (repeat' first|exact trivial|exact rfl|refine And.intro ?_ ?_)) ?_
  rintro k ⟨hk,hI⟩
  (repeat' ((conv=>whnf);first|refine vA ?_|((first|refine vD ?_ ?_|refine vF ?_ ?_)<;>intro hc<;>try simp only [vL] at hc)|refine vJ fun hg=>?_|refine vT ?_|(refine vQ ?_ fun x hx=>?_;·omega)|(refine vO ?_ ?_;·omega)|(refine vU ?_ ?_;·kernel_rfl)|refine vX ?_|(refine yD (fn_ref02_All _ ?_) ⟨⟨rfl,rfl⟩,rfl⟩ rfl ?_;(·omega))|fail));all_goals try conv=>whnf
  ·have hb:bad worlds x=true:=by simpa [bad] using hc
   rw [shapeL,if_neg (by omega),if_neg (by omega),hI,drop_cons hx];simp [hb]
  ·have hb:bad worlds x=false:=by simpa [bad] using hc
   exact ⟨k+1,[],[],⟨by (omega),by rw [hI,drop_cons hx];simp [hb]⟩,by (omega),by (refine ⟨rfl,rfl,rfl,?_,?_⟩;repeat' first|exact trivial|exact rfl|refine And.intro ?_ ?_)⟩
  ·rw [shapeL,if_neg (by omega),if_neg (by omega),hI,List.drop_eq_nil_of_le (by omega)];simp
theorem fn_Equal_int (a b:List Int):Fn Tryz.prog T f_slices_Equal_Lint_int_ [.d (dI a),.d (dI b)] [] (.d (.bool (a==b))) []:=by
 refine fn_dataR hmix k_slices_Equal_Lint_int_ (by show 2≤26;decide) ?_
 (repeat' ((conv=>whnf);first|refine vA ?_|(refine vD ?_ ?_<;>intro hc<;>try simp only [vL] at hc)|refine vJ fun hg=>?_|refine vT ?_|refine vZ ?_));all_goals try conv=>whnf
 ·have:a≠b:=fun e=>hc (by rw [e])
  simp [this]
 ·refine loop_intro (fun (k:Nat)=>[(0,.d (dI a)),(1,.d (dI b)),(12,.d (.int .i64 ((a.map (D.int .i64)).length:Int))),(13,.d (.int .i64 ((k:Int))))]) (fun (k:Nat)=>k≤a.length∧(a==b)=(a.drop k==b.drop k)) (fun (k:Nat)=>a.length - k) (0) (⟨by simp,by simp⟩) (by (repeat' first|exact trivial|exact rfl|refine And.intro ?_ ?_)) ?_
  rintro k ⟨hk,hI⟩
  (repeat' ((conv=>whnf);first|refine vA ?_|((first|refine vD ?_ ?_|refine vF ?_ ?_)<;>intro hc<;>try simp only [vL] at hc)|refine vT ?_|(refine vQ ?_ fun x hx=>?_;·omega)|(refine vO ?_ ?_;·omega)|(refine vU ?_ ?_;·kernel_rfl)|refine vZ ?_));all_goals try conv=>whnf
  ·rw [hI,drop_cons ‹a[k]? = some _›,drop_cons ‹b[k]? = some _›];simp [hc]
  ·exact ⟨k+1,[],[],⟨by (omega),by rw [hI,drop_cons ‹a[k]? = some _›,drop_cons ‹b[k]? = some _›];simp [hc]⟩,by (omega),by (refine ⟨rfl,rfl,rfl,?_,?_⟩;repeat' first|exact trivial|exact rfl|refine And.intro ?_ ?_)⟩
  ·rw [hI,List.drop_eq_nil_of_le (by omega),List.drop_eq_nil_of_le (by omega)];rfl
structure PM where
 W:Int
 val:List (BitVec 64)
 cell:List (List Int)
 rank:List (List Int)
 deriving DecidableEq
abbrev dPM (p:PM):D := .agg [.int .i64 p.W,dU p.val,dII p.cell,dII p.rank]
theorem bit_one (s:BitVec 64) (n:Nat):(s >>> n)&&&1#64=1#64↔s.getLsbD n=true:=by
 constructor
 ·intro h
  have:=congrArg (fun x=>x.getLsbD 0) h
  simpa using this
 ·intro h
  apply BitVec.eq_of_getLsbD_eq
  intro i hi
  by_cases h0:i=0
  ·subst h0;simpa using h
  ·simp [h0]
theorem bit_zero (s:BitVec 64) (n:Nat):(s >>> n)&&&1#64=0#64↔s.getLsbD n=false:=by
 constructor
 ·intro h
  have:=congrArg (fun x=>x.getLsbD 0) h
  simpa using this
 ·intro h
  apply BitVec.eq_of_getLsbD_eq
  intro i hi
  by_cases h0:i=0
  ·subst h0;simpa using h
  ·simp [h0]
@[irreducible] def bit (s:BitVec 64) (i:Nat):Bool:=s.getLsbD i
def at0 (l:List Int) (i:Nat):Int:=l.getD i 0
theorem at0_of {l:List Int} {i:Nat} {x:Int} (h:l[i]? = some x):at0 l i=x:=by simp [at0,List.getD,h]
theorem get_at0 {l:List Int} {i:Nat} (h:i < l.length):l[i]? = some (at0 l i):=by simp [at0,List.getD,h]
abbrev Cells (cell:List Int):Prop := ∀ w,w < cell.length→0≤at0 cell w∧at0 cell w≤w∧at0 cell (at0 cell w).toNat=at0 cell w
abbrev Ranked (cell rank:List Int):Prop := ∀ w,w < cell.length→0≤at0 rank w∧(at0 rank w=0 ∨ ∃ v,v < cell.length∧at0 cell v=at0 cell w∧at0 rank v=at0 rank w - 1)
theorem fn_cells (cell:List Int):Fn Tryz.prog T f_wittingref33_cells [.d (dI cell)] [] (.d (.bool (decide (Cells cell)))) []:=by
 refine fn_dataR hmix k_wittingref33_cells (by show 1≤30;decide) ?_
 (repeat' ((conv=>whnf);first|refine vA ?_|refine vT ?_));all_goals try conv=>whnf
 refine loop_intro (fun (k:Nat)=>[(0,.d (dI cell)),(3,.d (.int .i64 ((k:Int))))]) (fun (k:Nat)=>k≤cell.length ∧ ∀ w,w < k→0≤at0 cell w∧at0 cell w≤w∧at0 cell (at0 cell w).toNat=at0 cell w) (fun (k:Nat)=>cell.length - k) (0) (⟨by simp,by simp⟩) (by (repeat' first|exact trivial|exact rfl|refine And.intro ?_ ?_)) ?_
 rintro k ⟨hk,hI⟩
 (repeat' ((conv=>whnf);first|refine vA ?_|((first|refine vD ?_ ?_|refine vF ?_ ?_)<;>intro hc<;>try simp only [vL] at hc)|refine vJ fun hg=>?_|refine vT ?_|(refine vQ ?_ fun x hx=>?_;·omega)|((first|refine vO ?_ ?_|refine vS ?_ fun x hx=>?_);·omega)|refine vZ ?_));all_goals try conv=>whnf
 iterate 2
  ·symm;rw [decide_eq_false_iff_not];intro h
   have:=h k (by omega)
   rw [at0_of hx] at this;omega
 ·symm;rw [decide_eq_false_iff_not];intro h
  have:=h k (by omega)
  rw [at0_of ‹cell[k]? = some _›,at0_of hx] at this;omega
 ·have h0:=at0_of ‹cell[k]? = some _›
  have h1:=at0_of hx
  exact ⟨k+1,[],[],⟨by (omega),fun w hw=>by
   by_cases e:w=k
   ·subst e;rw [h0,h1];omega
   ·exact hI w (by omega)⟩,by (omega),by (refine ⟨rfl,rfl,rfl,?_,?_⟩;repeat' first|exact trivial|exact rfl|refine And.intro ?_ ?_)⟩
 ·symm;rw [decide_eq_true_eq];intro w hw;exact hI w (by omega)
end Go.Ab
namespace Go.Ab
open Go Go.Proofs
set_option linter.unusedSimpArgs false
set_option linter.unusedVariables false
set_option maxRecDepth 10000
set_option maxHeartbeats 4000000
variable {T:Nat→Obj→Prop}
theorem fn_ranked (cell rank:List Int) (hl:cell.length≤rank.length) (hr : ∀ x∈rank,inR .i64 x):Fn Tryz.prog T f_wittingref33_ranked [.d (dI cell),.d (dI rank)] [] (.d (.bool (decide (Ranked cell rank)))) []:=by
 refine fn_dataR hmix k_wittingref33_ranked (by show 2≤56;decide) ?_
 (repeat' ((conv=>whnf);first|refine vA ?_|refine vT ?_));all_goals try conv=>whnf
 refine loop_intro (fun (k:Nat)=>[(0,.d (dI cell)),(1,.d (dI rank)),(5,.d (.int .i64 ((k:Int))))]) (fun (k:Nat)=>k≤cell.length ∧ ∀ w,w < k→0≤at0 rank w∧(at0 rank w=0 ∨ ∃ v,v < cell.length∧at0 cell v=at0 cell w∧at0 rank v=at0 rank w - 1)) (fun (k:Nat)=>cell.length - k) (0) (⟨by simp,by simp⟩) (by (repeat' first|exact trivial|exact rfl|refine And.intro ?_ ?_)) ?_
 rintro k ⟨hk,hI⟩
 (repeat' ((conv=>whnf);first|refine vA ?_|(refine vF ?_ ?_<;>intro hc<;>try simp only [vL] at hc)|refine vJ fun hg=>?_|refine vT ?_|refine vN ‹_› ?_|(refine vQ ?_ fun x hx=>?_;·omega)|refine vZ ?_));all_goals try conv=>whnf
 ·symm;rw [decide_eq_false_iff_not];intro h
  have:=h k (by omega)
  rw [at0_of hx] at this;omega
 ·have hR:=hr _ (List.mem_of_getElem? hx)
  have h0:=at0_of hx
  obtain ⟨hR1,hR2⟩:=hR
  subst h0
  refine loop_intro (fun ((j,b):Nat×Bool)=>[(0,.d (dI cell)),(1,.d (dI rank)),(5,.d (.int .i64 ((k:Int)))),(6,.d (.bool (b))),(7,.d (.int .i64 ((j:Int))))]) (fun ((j,b):Nat×Bool)=>j≤cell.length∧b=decide (at0 rank k=0 ∨ ∃ v,v < j∧at0 cell v=at0 cell k∧at0 rank v=at0 rank k - 1)) (fun ((j,b):Nat×Bool)=>cell.length - j) ((0,decide (at0 rank k=0))) (⟨by simp,by simp⟩) (by (repeat' first|exact trivial|exact rfl|exact .inl rfl|refine And.intro ?_ ?_)) ?_
  rintro ⟨j,b⟩ ⟨hj,hb⟩
  have step : ∀ b':Bool,(b'=true↔b=true∨(at0 cell j=at0 cell k∧at0 rank j=at0 rank k - 1))→b'=decide (at0 rank k=0 ∨ ∃ v,v < j+1∧at0 cell v=at0 cell k∧at0 rank v=at0 rank k - 1):=by
   intro b' h
   rw [Bool.eq_iff_iff,h,hb,decide_eq_true_eq,decide_eq_true_eq]
   constructor
   ·rintro ((h|⟨v,h1,h2⟩)|h)
    ·exact .inl h
    ·exact .inr ⟨v,by omega,h2⟩
    ·exact .inr ⟨j,by omega,h⟩
   ·rintro (h|⟨v,h1,h2⟩)
    ·exact .inl (.inl h)
    ·by_cases e:v=j
     ·subst e;exact .inr h2
     ·exact .inl (.inr ⟨v,by omega,h2⟩)
  (repeat' ((conv=>whnf);first|refine vA ?_|refine vE ?_|((first|refine vF ?_ ?_|refine vI ?_ ?_)<;>intro hc<;>try simp only [vL] at hc)|refine vJ fun hg=>?_|refine vT ?_|refine vN ‹_› ?_|(refine vQ ?_ fun x hx=>?_;·omega)|(refine vO ?_ ?_;·omega)|(refine vU ?_ ?_;·kernel_rfl)|refine vZ ?_));all_goals try conv=>whnf
  ·exact ⟨(j+1,true),[],[],⟨by (omega),step _ ⟨fun _ => .inl hc,fun _=>rfl⟩⟩,by ((simp only [vM] at *;omega)),by (refine ⟨rfl,rfl,rfl,?_,?_⟩;repeat' first|exact trivial|exact rfl|exact .inr (.inl ⟨rfl,rfl⟩)|refine And.intro ?_ ?_)⟩
  ·have h1:=at0_of ‹cell[j]? = some _›
   have h2:=at0_of ‹cell[k]? = some _›
   have h3:=at0_of hx
   exact ⟨(j+1,decide (x=at0 rank k - 1)),[],[],⟨by (omega),step _ ⟨fun h => .inr ⟨by omega,by have:=of_decide_eq_true h;omega⟩,fun h=>by
    rcases h with h|h
    ·rw [‹b=false›] at h;cases h
    ·exact decide_eq_true (by omega)⟩⟩,by ((simp only [vM] at *;omega)),by (refine ⟨rfl,rfl,rfl,?_,?_⟩;repeat' first|exact trivial|exact rfl|exact .inl rfl|refine And.intro ?_ ?_)⟩
  ·have h1:=at0_of ‹cell[j]? = some _›
   have h2:=at0_of ‹cell[k]? = some _›
   exact ⟨(j+1,false),[],[],⟨by (omega),step _ ⟨nofun,fun h=>by
    rcases h with h|h
    ·rw [‹b=false›] at h;cases h
    ·exact absurd (by omega) hc⟩⟩,by ((simp only [vM] at *;omega)),by (refine ⟨rfl,rfl,rfl,?_,?_⟩;repeat' first|exact trivial|exact rfl|exact .inr (.inr ⟨rfl,rfl⟩)|refine And.intro ?_ ?_)⟩
  ·have hbt:=of_decide_eq_true (hb.symm.trans hc)
   exact ⟨k+1,[],[],⟨by (omega),fun w hw=>by
    by_cases e:w=k
    ·subst e
     refine ⟨by omega,?_⟩
     have:=hbt
     rcases this with h|⟨v,h1,h2⟩
     ·exact .inl h
     ·exact .inr ⟨v,by omega,h2⟩
    ·exact hI w (by omega)⟩,by (omega),by (refine ⟨rfl,rfl,rfl,?_,?_⟩;repeat' first|exact trivial|exact rfl|refine And.intro ?_ ?_)⟩
  ·symm;rw [decide_eq_false_iff_not];intro h
   have h1:=of_decide_eq_false (hb.symm.trans hc)
   rcases (h k (by omega)).2 with h|⟨v,h2,h3⟩
   ·exact h1 (.inl h)
   ·exact h1 (.inr ⟨v,by omega,h3⟩)
 ·symm;rw [decide_eq_true_eq];intro w hw;exact hI w (by omega)
def setTo (f:Nat→Bool):Nat→BitVec 64
 | 0=>0#64
 | k+1=>if f k then setTo f k|||1#64 <<< k else setTo f k
theorem bit_pow (k i:Nat):(1#64 <<< k).getLsbD i=(decide (i < 64)&&decide (i=k)):=by
 rw [BitVec.getLsbD_shiftLeft]
 by_cases h:i < 64
 ·by_cases h1:i < k
  ·simp [h,h1];omega
  ·by_cases h2:i=k
   ·subst h2;simp [h]
   ·have:i - k≠0:=by omega
    simp [h,h1,h2,this]
 ·simp [h]
theorem setTo_bit (f:Nat→Bool) : ∀ (n i:Nat),(setTo f n).getLsbD i=(decide (i < 64)&&decide (i < n)&&f i)
 | 0,i=>by simp [setTo]
 | n+1,i=>by
  have ih:=setTo_bit f n i
  unfold setTo
  split
  ·rename_i h
   rw [BitVec.getLsbD_or,ih,bit_pow]
   by_cases h1:i=n
   ·subst h1;simp [h]
   ·by_cases h2:i < n
    ·simp [h1,h2,show i < n+1 by omega]
    ·simp [h1,h2,show ¬ i < n+1 by omega]
  ·rename_i h
   rw [ih]
   by_cases h1:i=n
   ·subst h1;simp [h]
   ·by_cases h2:i < n
    ·simp [h2,show i < n+1 by omega]
    ·simp [h2,show ¬ i < n+1 by omega]
def cellSet (row:List Int) (w:Nat):BitVec 64:=setTo (fun v=>at0 row v==at0 row w) row.length
theorem fn_cellOf (p:PM) (a w:Int) (row:List Int) (ha:0≤a) (hr:p.cell[a.toNat]? = some row) (hw:0≤w) (hw':w < row.length):Fn Tryz.prog T f_plaus_cellOf [.d (dPM p),.d (.int .i64 a),.d (.int .i64 w)] [] (.d (.u64 (cellSet row w.toNat))) []:=by
 refine fn_dataR hmix k_plaus_cellOf (by show 3≤37;decide) ?_
 (repeat' ((conv=>whnf);first|refine vA ?_|refine vJ fun hg=>?_|refine vT ?_|(refine vR ?_ ‹_› ?_;·omega)|fail));all_goals try conv=>whnf
 refine loop_mem (fun ((k,s):Nat×BitVec 64)=>[(1,.d (.int .i64 (a))),(2,.d (.int .i64 (w))),(3,.ptr 0 0),(14,.d (dI row)),(15,.d (.int .i64 ((row.map (D.int .i64)).length:Int))),(7,.d (.u64 (s))),(16,.d (.int .i64 ((k:Int))))]) (fun ((k,s):Nat×BitVec 64)=>[(0,some (.box [.d (.int .i64 p.W),.d (dU p.val),.d (dII p.cell),.d (dII p.rank)]))]) 1 (fun ((k,s):Nat×BitVec 64)=>k≤row.length∧s=setTo (fun v=>at0 row v==at0 row w.toNat) k) (fun ((k,s):Nat×BitVec 64)=>row.length - k) ((0,0#64)) [(0,0)] [] (⟨by simp,rfl⟩) (by (refine ⟨rfl,rfl,rfl,?_,?_⟩;repeat' first|exact trivial|exact rfl|refine And.intro ?_ ?_|refine ⟨_,rfl,?_⟩|decide)) ?_
 rintro ⟨k,s⟩ ⟨hk,hI⟩
 (repeat' ((conv=>whnf);first|refine vA ?_|(refine vF ?_ ?_<;>intro hc<;>try simp only [vL] at hc)|refine vT ?_|(refine vQ ?_ fun x hx=>?_;·omega)|((first|refine vO ?_ ?_|refine vR ?_ ‹_› ?_|refine vS ?_ fun x hx=>?_|refine vP ?_ ?_);·omega)|refine vY ?_));all_goals try conv=>whnf
 ·have h1:=at0_of ‹row[k]? = some _›
  have h2:=at0_of hx
  refine ⟨(k+1,_),[(0,0)],[],?_,?_,by (refine ⟨rfl,rfl,rfl,?_,?_⟩;repeat' first|exact trivial|exact rfl|refine And.intro ?_ ?_|refine ⟨_,rfl,?_⟩|decide)⟩
  ·exact ⟨by (omega),by rw [setTo,if_pos (by simp;omega),hI];rfl⟩
  ·((simp only [vM] at *;omega))
 ·have h1:=at0_of ‹row[k]? = some _›
  have h2:=at0_of hx
  exact ⟨(k+1,s),[(0,0)],[],⟨by (omega),by rw [setTo,if_neg (by simp;omega),hI]⟩,by ((simp only [vM] at *;omega)),by (refine ⟨rfl,rfl,rfl,?_,?_⟩;repeat' first|exact trivial|exact rfl|refine And.intro ?_ ?_|refine ⟨_,rfl,?_⟩|decide)⟩
 ·rw [hI,show k=row.length by omega];rfl
def leastIn (rank:List Int) (s:BitVec 64) (n v:Nat):Bool:=s.getLsbD v&&decide (∀ u,u < n→s.getLsbD u=true→at0 rank v≤at0 rank u)
def bestSet (rank:List Int) (s:BitVec 64):BitVec 64:=setTo (leastIn rank s rank.length) rank.length
def Least (rank:List Int) (s:BitVec 64) (k:Nat) (m:Int):Prop:=(∃ v,v < k∧s.getLsbD v=true)→(∃ v,v < k∧s.getLsbD v=true∧at0 rank v=m) ∧ ∀ v,v < k→s.getLsbD v=true→m≤at0 rank v
end Go.Ab
namespace Go.Ab
open Go Go.Proofs
set_option linter.unusedSimpArgs false
set_option linter.unusedVariables false
set_option maxRecDepth 10000
set_option maxHeartbeats 4000000
variable {T:Nat→Obj→Prop}
def rowAt (l:List (List Int)) (a:Nat):List Int:=l.getD a []
theorem rowAt_of {l:List (List Int)} {i:Nat} {x:List Int} (h:l[i]? = some x):rowAt l i=x:=by simp [rowAt,List.getD,h]
theorem get_rowAt {l:List (List Int)} {i:Nat} (h:i < l.length):l[i]? = some (rowAt l i):=by simp [rowAt,List.getD,h]
abbrev Lens (p:PM):Prop := ∀ a,a < p.cell.length→((rowAt p.cell a).length:Int)=p.W∧((rowAt p.rank a).length:Int)=p.W
abbrev AllCells (p:PM):Prop := ∀ a,a < p.cell.length→Cells (rowAt p.cell a)
abbrev AllRanked (p:PM):Prop := ∀ a,a < p.cell.length→Ranked (rowAt p.cell a) (rowAt p.rank a)
def checkL (p:PM):Int :=
 if shapeL p.W p.cell.length p.val≠0 then shapeL p.W p.cell.length p.val
 else if p.rank.length≠p.cell.length then 3
 else if ¬Lens p then 3
 else if ¬AllCells p then 1
 else if ¬AllRanked p then 9
 else 0
structure Good (p:PM):Prop where
 w1:1≤p.W
 w2:p.W≤64
 val : ∀ s∈p.val,bad p.W s=false
 n4:p.cell.length≤4
 v8:p.val.length≤8
 len:p.rank.length=p.cell.length
 lens:Lens p
 cells:AllCells p
 ranked:AllRanked p
theorem shapeL_ok {W n:Int} {val:List (BitVec 64)} (h:shapeL W n val=0):1≤W∧W≤64∧val.length≤8∧n≤4 ∧ ∀ s∈val,bad W s=false:=by
 unfold shapeL at h
 split at h
 ·cases h
 ·split at h
  ·cases h
  ·split at h
   ·cases h
   ·rename_i h1 h2 h3
    refine ⟨by omega,by omega,by omega,by omega,fun s hs=>?_⟩
    simp only [List.any_eq_true,not_exists,not_and] at h3
    simpa using h3 s hs
theorem checkL_good {p:PM} (h:checkL p=0):Good p:=by
 unfold checkL at h
 split at h
 ·rename_i h0;exact absurd h h0
 ·rename_i h0
  obtain ⟨a1,a2,a3,a4,a5⟩:=shapeL_ok (Classical.not_not.1 h0)
  split at h
  ·cases h
  ·split at h
   ·cases h
   ·split at h
    ·cases h
    ·split at h
     ·cases h
     ·rename_i h1 h2 h3 h4
      exact ⟨a1,a2,a5,by omega,a3,Classical.not_not.1 h1,Classical.not_not.1 h2,Classical.not_not.1 h3,Classical.not_not.1 h4⟩
def IntsOk (l:List (List Int)):Prop := ∀ r∈l,∀ x∈r,inR .i64 x
abbrev boxPM (p:PM):Ob := .box [.d (.int .i64 p.W),.d (dU p.val),.d (dII p.cell),.d (dII p.rank)]
theorem checkL_3 {p:PM} (h0:shapeL p.W p.cell.length p.val=0) (h1:p.rank.length=p.cell.length) (h : ¬Lens p):checkL p=3:=by
 rw [checkL,if_neg (by omega),if_neg (by omega),if_pos h]
theorem checkL_1 {p:PM} (h0:shapeL p.W p.cell.length p.val=0) (h1:p.rank.length=p.cell.length) (h2:Lens p) (h : ¬AllCells p):checkL p=1:=by
 rw [checkL,if_neg (by omega),if_neg (by omega),if_neg (not_not_intro h2),if_pos h]
theorem checkL_9 {p:PM} (h0:shapeL p.W p.cell.length p.val=0) (h1:p.rank.length=p.cell.length) (h2:Lens p) (h3:AllCells p) (h : ¬AllRanked p):checkL p=9:=by
 rw [checkL,if_neg (by omega),if_neg (by omega),if_neg (not_not_intro h2),if_neg (not_not_intro h3),if_pos h]
theorem checkL_0 {p:PM} (h0:shapeL p.W p.cell.length p.val=0) (h1:p.rank.length=p.cell.length) (h2:Lens p) (h3:AllCells p) (h4:AllRanked p):checkL p=0:=by
 rw [checkL,if_neg (by omega),if_neg (by omega),if_neg (not_not_intro h2),if_neg (not_not_intro h3),if_neg (not_not_intro h4)]
theorem fn_ref33_Check (p:PM) (hp:IntsOk p.rank):Fn Tryz.prog T f_wittingref33_Check [.d (dPM p)] [] (.d (.int .i64 (checkL p))) []:=by
 refine fn_dataR hmix k_wittingref33_Check (by show 1≤85;decide) ?_
 (repeat' ((conv=>whnf);first|refine vA ?_|(refine vD ?_ ?_<;>intro hc<;>try simp only [vL] at hc)|refine vJ fun hg=>?_|refine vT ?_|refine vX ?_|refine yD (fn_ref33_sizes _ _ _) ⟨⟨rfl,rfl⟩,⟨rfl,rfl⟩,⟨rfl,rfl⟩,rfl⟩ rfl ?_));all_goals try conv=>whnf
 ·rw [List.length_map,checkL,if_pos hc]
 ·rw [checkL,if_neg (by omega),if_pos (by omega)]
 have hs0:=‹shapeL p.W p.cell.length p.val=0›
 have hlr:p.rank.length=p.cell.length:=by omega
 refine loop_mem (fun (k:Nat)=>[(1,.ptr 0 0),(4,.d (.int .i64 ((k:Int))))]) (fun (k:Nat)=>[(0,some (boxPM p))]) 1 (fun (k:Nat)=>k≤p.cell.length ∧ ∀ a,a < k→((rowAt p.cell a).length:Int)=p.W∧((rowAt p.rank a).length:Int)=p.W) (fun (k:Nat)=>p.cell.length - k) (0) [(0,0)] [] (⟨by simp,by simp⟩) (by (refine ⟨rfl,rfl,rfl,?_,?_⟩;repeat' first|exact trivial|exact rfl|refine And.intro ?_ ?_|refine ⟨_,rfl,?_⟩|decide)) ?_
 rintro k ⟨hk,hI⟩
 (repeat' ((conv=>whnf);first|refine vA ?_|((first|refine vD ?_ ?_|refine vF ?_ ?_)<;>intro hc<;>try simp only [vL] at hc)|refine vJ fun hg=>?_|refine vT ?_|(refine vQ ?_ fun x hx=>?_;·omega)|(refine vO ?_ ?_;·omega)|(refine vU ?_ ?_;·kernel_rfl)|refine vX ?_));all_goals try conv=>whnf
 ·have h1:=rowAt_of hx
  refine (checkL_3 hs0 hlr fun h=>?_).symm
  have:=(h k (by omega)).1
  rw [h1] at this;exact hc this
 ·have h1:=rowAt_of hx
  refine (checkL_3 hs0 hlr fun h=>?_).symm
  have:=(h k (by omega)).2
  rw [h1] at this;exact hc this
 ·have h1:=rowAt_of ‹p.cell[k]? = some _›
  have h2:=rowAt_of ‹p.rank[k]? = some _›
  exact ⟨k+1,[(0,0)],[],⟨by (omega),fun a ha=>by
   by_cases e:a=k
   ·subst e;rw [h1,h2];omega
   ·exact hI a (by omega)⟩,by (omega),by (refine ⟨rfl,rfl,rfl,?_,?_⟩;repeat' first|exact trivial|exact rfl|refine And.intro ?_ ?_|refine ⟨_,rfl,?_⟩|decide)⟩
 have hL:Lens p:=fun a ha=>hI a (by omega)
 refine loop_mem (fun (k:Nat)=>[(1,.ptr 0 0),(5,.d (.int .i64 ((k:Int))))]) (fun (k:Nat)=>[(0,some (boxPM p))]) 1 (fun (k:Nat)=>k≤p.cell.length ∧ ∀ a,a < k→Cells (rowAt p.cell a)) (fun (k:Nat)=>p.cell.length - k) (0) [(0,0)] [] (⟨by simp,by simp⟩) (by (refine ⟨rfl,rfl,rfl,?_,?_⟩;repeat' first|exact trivial|exact rfl|refine And.intro ?_ ?_|refine ⟨_,rfl,?_⟩|decide)) ?_
 rintro k ⟨hk,hI⟩
 (repeat' ((conv=>whnf);first|refine vA ?_|refine vE ?_|(refine vF ?_ ?_<;>intro hc<;>try simp only [vL] at hc)|refine vJ fun hg=>?_|refine vT ?_|(refine vQ ?_ fun x hx=>?_;·omega)|(refine vO ?_ ?_;·omega)|refine vX ?_|refine yD (fn_cells _) ⟨⟨rfl,rfl⟩,rfl⟩ rfl ?_));all_goals try conv=>whnf
 ·have h1:=rowAt_of hx
  exact ⟨k+1,[(0,0)],[],⟨by (omega),fun a ha=>by
   by_cases e:a=k
   ·subst e;rw [h1];assumption
   ·exact hI a (by omega)⟩,by (omega),by (refine ⟨rfl,rfl,rfl,?_,?_⟩;repeat' first|exact trivial|exact rfl|refine And.intro ?_ ?_|refine ⟨_,rfl,?_⟩|decide)⟩
 ·have h1:=rowAt_of hx
  refine (checkL_1 hs0 hlr hL fun h=>hc ?_).symm
  rw [← h1];exact h k (by omega)
 have hC:AllCells p:=fun a ha=>hI a (by omega)
 refine loop_mem (fun (k:Nat)=>[(1,.ptr 0 0),(6,.d (.int .i64 ((k:Int))))]) (fun (k:Nat)=>[(0,some (boxPM p))]) 1 (fun (k:Nat)=>k≤p.cell.length ∧ ∀ a,a < k→Ranked (rowAt p.cell a) (rowAt p.rank a)) (fun (k:Nat)=>p.cell.length - k) (0) [(0,0)] [] (⟨by simp,by simp⟩) (by (refine ⟨rfl,rfl,rfl,?_,?_⟩;repeat' first|exact trivial|exact rfl|refine And.intro ?_ ?_|refine ⟨_,rfl,?_⟩|decide)) ?_
 rintro k ⟨hk,hI⟩
 (repeat' ((conv=>whnf);first|refine vA ?_|(refine vF ?_ ?_<;>intro hc<;>try simp only [vL] at hc)|refine vJ fun hg=>?_|refine vT ?_|(refine vQ ?_ fun x hx=>?_;·omega)|refine vX ?_));all_goals try conv=>whnf
 ·have h1:=rowAt_of ‹p.cell[k]? = some _›
  have h2:=rowAt_of ‹p.rank[k]? = some _›
  have h3:=hL k (by omega)
  subst h1;subst h2
  refine CallS.data (fn_ranked (rowAt p.cell k) (rowAt p.rank k) (by omega) (hp _ (List.mem_of_getElem? hx))) (by (repeat refine ⟨⟨rfl,rfl⟩,?_⟩);rfl) rfl ?_
  (repeat' ((conv=>whnf);first|refine vE ?_|(refine vF ?_ ?_<;>intro hc)|refine vT ?_|(refine vO ?_ ?_;·omega)|(refine vU ?_ ?_;·kernel_rfl)|refine vX ?_));all_goals try conv=>whnf
  ·exact ⟨k+1,[(0,0)],[],⟨by (omega),fun a ha=>by
    by_cases e:a=k
    ·subst e;assumption
    ·exact hI a (by omega)⟩,by (omega),by (refine ⟨rfl,rfl,rfl,?_,?_⟩;repeat' first|exact trivial|exact rfl|refine And.intro ?_ ?_|refine ⟨_,rfl,?_⟩|decide)⟩
  ·exact (checkL_9 hs0 hlr hL hC fun h=>hc (h k (by omega))).symm
 ·exact (checkL_0 hs0 hlr hL hC fun a ha=>hI a (by omega)).symm
theorem fn_known (hC : ∀ p,IntsOk p.rank→Fn Tryz.prog T f_plaus_Check [.d (dPM p)] [] (.d (.int .i64 (checkL p))) []) (p:PM) (hp:IntsOk p.rank) (a w:Int):Fn Tryz.prog T f_plaus_known [.d (dPM p),.d (.int .i64 a),.d (.int .i64 w)] [] (.d (.bool (decide (checkL p=0∧0≤a∧a < p.cell.length∧0≤w∧w < p.W)))) []:=by
 refine fn_dataR hmix k_plaus_known (by show 3≤31;decide) ?_
 (repeat' ((conv=>whnf);first|refine vA ?_|(refine vF ?_ ?_<;>intro hc<;>try simp only [vL] at hc)|refine vJ fun hg=>?_|refine vT ?_|refine vZ ?_|refine yD (hC _ hp) (by (repeat refine ⟨⟨rfl,rfl⟩,?_⟩);rfl) rfl ?_));all_goals try conv=>whnf
 ·simp [*]
 all_goals
  symm;rw [decide_eq_false_iff_not];omega
theorem fn_Few (p:PM):Fn Tryz.prog T f_wittingref33_Few [.d (dPM p)] [] (.d (.bool (decide (p.val.length≤20∧p.cell.length≤8∧p.rank.length≤8∧(∀ a,a < p.cell.length→(rowAt p.cell a).length≤20) ∧ ∀ a,a < p.rank.length→(rowAt p.rank a).length≤20)))) []:=by
 refine fn_dataR hmix k_wittingref33_Few (by show 1≤49;decide) ?_
 (repeat' ((conv=>whnf);first|refine vA ?_|(refine vF ?_ ?_<;>intro hc<;>try simp only [vL] at hc)|refine vJ fun hg=>?_|refine vT ?_|refine vZ ?_));all_goals try conv=>whnf
 iterate 3
  ·symm;rw [decide_eq_false_iff_not];omega
 refine loop_mem (fun (k:Nat)=>[(1,.ptr 0 0),(3,.d (.int .i64 ((k:Int))))]) (fun (k:Nat)=>[(0,some (boxPM p))]) 1 (fun (k:Nat)=>k≤p.cell.length ∧ ∀ a,a < k→(rowAt p.cell a).length≤20) (fun (k:Nat)=>p.cell.length - k) (0) [(0,0)] [] (⟨by simp,by simp⟩) (by (refine ⟨rfl,rfl,rfl,?_,?_⟩;repeat' first|exact trivial|exact rfl|refine And.intro ?_ ?_|refine ⟨_,rfl,?_⟩|decide)) ?_
 rintro k ⟨hk,hI⟩
 (repeat' ((conv=>whnf);first|refine vA ?_|(refine vF ?_ ?_<;>intro hc<;>try simp only [vL] at hc)|refine vJ fun hg=>?_|refine vT ?_|(refine vQ ?_ fun x hx=>?_;·omega)|(refine vO ?_ ?_;·omega)|refine vZ ?_));all_goals try conv=>whnf
 ·have h1:=rowAt_of hx
  symm;rw [decide_eq_false_iff_not];intro h
  have:=h.2.2.2.1 k (by omega)
  rw [h1] at this;omega
 ·have h1:=rowAt_of hx
  exact ⟨k+1,[(0,0)],[],⟨by (omega),fun a ha=>by
   by_cases e:a=k
   ·subst e;rw [h1];omega
   ·exact hI a (by omega)⟩,by (omega),by (refine ⟨rfl,rfl,rfl,?_,?_⟩;repeat' first|exact trivial|exact rfl|refine And.intro ?_ ?_|refine ⟨_,rfl,?_⟩|decide)⟩
 have hI1 : ∀ a,a < p.cell.length→(rowAt p.cell a).length≤20:=fun a ha=>hI a (by omega)
 refine loop_mem (fun (k:Nat)=>[(1,.ptr 0 0),(4,.d (.int .i64 ((k:Int))))]) (fun (k:Nat)=>[(0,some (boxPM p))]) 1 (fun (k:Nat)=>k≤p.rank.length ∧ ∀ a,a < k→(rowAt p.rank a).length≤20) (fun (k:Nat)=>p.rank.length - k) (0) [(0,0)] [] (⟨by simp,by simp⟩) (by (refine ⟨rfl,rfl,rfl,?_,?_⟩;repeat' first|exact trivial|exact rfl|refine And.intro ?_ ?_|refine ⟨_,rfl,?_⟩|decide)) ?_
 rintro k ⟨hk,hI⟩
 (repeat' ((conv=>whnf);first|refine vA ?_|(refine vF ?_ ?_<;>intro hc<;>try simp only [vL] at hc)|refine vJ fun hg=>?_|refine vT ?_|(refine vQ ?_ fun x hx=>?_;·omega)|(refine vO ?_ ?_;·omega)|refine vZ ?_));all_goals try conv=>whnf
 ·have h1:=rowAt_of hx
  symm;rw [decide_eq_false_iff_not];intro h
  have:=h.2.2.2.2 k (by omega)
  rw [h1] at this;omega
 ·have h1:=rowAt_of hx
  exact ⟨k+1,[(0,0)],[],⟨by (omega),fun a ha=>by
   by_cases e:a=k
   ·subst e;rw [h1];omega
   ·exact hI a (by omega)⟩,by (omega),by (refine ⟨rfl,rfl,rfl,?_,?_⟩;repeat' first|exact trivial|exact rfl|refine And.intro ?_ ?_|refine ⟨_,rfl,?_⟩|decide)⟩
 ·symm;rw [decide_eq_true_eq];exact ⟨by omega,by omega,by omega,hI1,fun a ha=>hI a (by omega)⟩
end Go.Ab
namespace Go.Ab
open Go Go.Proofs
set_option linter.unusedSimpArgs false
set_option linter.unusedVariables false
set_option maxRecDepth 10000
set_option maxHeartbeats 4000000
variable {T:Nat→Obj→Prop}
def insD (x:Int):List Int→List Int
 | []=>[x]
 | y::r=>if x < y then x::y::r else if x=y then y::r else y::insD x r
def sortD:List Int→List Int
 | []=>[]
 | x::r=>insD x (sortD r)
def keysOf (cell:List Int):List Int:=cell.foldl (fun l c=>if c∈l then l else l++[c]) []
def inCell (cell rank:List Int) (c:Int):List Int:=((List.range cell.length).filter fun w=>at0 cell w==c).map (at0 rank)
def ranksOf (cell rank:List Int) (c:Int):List Int:=sortD (inCell cell rank c)
abbrev ranksD (cell rank:List Int):List (D×D):=(keysOf cell).map fun c=>(.int .i64 c,dI (ranksOf cell rank c))
def RanksOk (T:Nat→Obj→Prop):Prop := ∀ cell rank:List Int,cell.length≤rank.length→cell.length≤64→Fn Tryz.prog T f_plaus_ranks [.d (dI cell),.d (dI rank)] [] (.d (.map (ranksD cell rank))) []
def Gapless (l:List Int):Prop := ∀ i,i < l.length→at0 l i=i
instance (l:List Int):Decidable (Gapless l):=inferInstanceAs (Decidable (∀ i,i < l.length→at0 l i=i))
theorem map_erase {α β:Type} (f:α→β) : ∀ (l:List α) (i:Nat),(l.map f).eraseIdx i=(l.eraseIdx i).map f
 | [],_=>rfl
 | _::_,0=>rfl
 | x::l,i+1=>congrArg (f x :: ·) (map_erase f l i)
abbrev Rising (l:List Int):Prop:=l.Pairwise (· < ·)
theorem mem_insD {x y:Int} : ∀ {l:List Int},y∈insD x l↔y=x∨y∈l
 | []=>by simp [insD]
 | z::r=>by
  unfold insD
  split
  ·simp
  ·split
   ·rename_i h;subst h;simp
   ·rw [List.mem_cons,mem_insD,List.mem_cons]
    constructor
    ·rintro (h|h|h)
     ·exact .inr (.inl h)
     ·exact .inl h
     ·exact .inr (.inr h)
    ·rintro (h|h|h)
     ·exact .inr (.inl h)
     ·exact .inl h
     ·exact .inr (.inr h)
theorem rising_insD {x:Int} : ∀ {l:List Int},Rising l→Rising (insD x l)
 | [],_=>by simp [insD,Rising]
 | z::r,h=>by
  unfold insD
  obtain ⟨h1,h2⟩:=List.pairwise_cons.1 h
  split
  ·rename_i hx
   refine List.pairwise_cons.2 ⟨fun y hy=>?_,h⟩
   rcases List.mem_cons.1 hy with rfl|hy
   ·exact hx
   ·have:=h1 y hy;omega
  ·split
   ·exact h
   ·refine List.pairwise_cons.2 ⟨fun y hy=>?_,rising_insD h2⟩
    rcases mem_insD.1 hy with rfl|hy
    ·omega
    ·exact h1 y hy
theorem mem_sortD {y:Int} : ∀ {l:List Int},y∈sortD l↔y∈l
 | []=>by simp [sortD]
 | x::r=>by rw [sortD,mem_insD,mem_sortD,List.mem_cons]
theorem rising_sortD : ∀ {l:List Int},Rising (sortD l)
 | []=>List.Pairwise.nil
 | x::r=>rising_insD rising_sortD
theorem mem_foldKeys {c:Int} : ∀ {l acc:List Int},c∈l.foldl (fun l c=>if c∈l then l else l++[c]) acc↔c∈acc∨c∈l
 | [],acc=>by simp
 | x::r,acc=>by
  rw [List.foldl_cons,mem_foldKeys]
  split
  ·rename_i h
   rw [List.mem_cons]
   constructor
   ·rintro (h1|h1)
    ·exact .inl h1
    ·exact .inr (.inr h1)
   ·rintro (h1|rfl|h1)
    ·exact .inl h1
    ·exact .inl h
    ·exact .inr h1
  ·rw [List.mem_append,List.mem_singleton,List.mem_cons,or_assoc]
theorem mem_keysOf {c:Int} {cell:List Int} : c∈keysOf cell↔c∈cell:=by
 rw [keysOf,mem_foldKeys];simp
theorem mem_ranksOf {cell rank:List Int} {c x:Int} : x∈ranksOf cell rank c ↔ ∃ w,w < cell.length∧at0 cell w=c∧at0 rank w=x:=by
 rw [ranksOf,mem_sortD,inCell,List.mem_map]
 constructor
 ·rintro ⟨w,h,rfl⟩
  rw [List.mem_filter,List.mem_range] at h
  exact ⟨w,h.1,by simpa using h.2,rfl⟩
 ·rintro ⟨w,h1,h2,rfl⟩
  exact ⟨w,List.mem_filter.2 ⟨List.mem_range.2 h1,by simpa using h2⟩,rfl⟩
theorem mem_at0 {l:List Int} {x:Int} : x∈l ↔ ∃ i,i < l.length∧at0 l i=x:=by
 constructor
 ·intro h
  obtain ⟨i,hi⟩:=List.getElem?_of_mem h
  exact ⟨i,(List.getElem?_eq_some_iff.1 hi).1,at0_of hi⟩
 ·rintro ⟨i,hi,rfl⟩
  exact List.mem_of_getElem? (get_at0 hi)
theorem rising_at0 {l:List Int} (h:Rising l) {i j:Nat} (hij:i < j) (hj:j < l.length):at0 l i < at0 l j:=by
 have h1:=get_at0 (show i < l.length by omega)
 have h2:=get_at0 hj
 obtain ⟨_,e1⟩:=List.getElem?_eq_some_iff.1 h1
 obtain ⟨_,e2⟩:=List.getElem?_eq_some_iff.1 h2
 rw [← e1,← e2]
 exact List.pairwise_iff_getElem.1 h i j (by omega) hj hij
theorem gapless_iff {l:List Int} (h:Rising l):Gapless l ↔ ∀ x∈l,0≤x∧(x=0∨x - 1∈l):=by
 constructor
 ·intro hg x hx
  obtain ⟨i,hi,rfl⟩:=mem_at0.1 hx
  rw [hg i hi]
  refine ⟨by omega,?_⟩
  by_cases e:i=0
  ·exact .inl (by omega)
  ·exact .inr (mem_at0.2 ⟨i - 1,by omega,by rw [hg (i - 1) (by omega)];omega⟩)
 ·intro hc i
  induction i using Nat.strongRecOn with
  | _ i ih =>
   intro hi
   obtain ⟨h0,h1⟩:=hc _ (mem_at0.2 ⟨i,hi,rfl⟩)
   by_cases e:i=0
   ·subst e
    rcases h1 with h1|h1
    ·exact h1
    ·obtain ⟨j,hj,hj'⟩:=mem_at0.1 h1
     by_cases e:j=0
     ·subst e;omega
     ·have:=rising_at0 h (show 0 < j by omega) hj;omega
   ·have hp:=ih (i - 1) (by omega) (by omega)
    have hr:=rising_at0 h (show i - 1 < i by omega) hi
    rcases h1 with h1|h1
    ·omega
    ·obtain ⟨j,hj,hj'⟩:=mem_at0.1 h1
     have:j < i:=by
      apply Classical.byContradiction
      intro hn
      by_cases e:j=i
      ·subst e;omega
      ·have:=rising_at0 h (show i < j by omega) hj;omega
     have:=ih j this hj
     omega
theorem gapless_ranked {cell rank:List Int} : (∀ c∈keysOf cell,Gapless (ranksOf cell rank c))↔Ranked cell rank:=by
 constructor
 ·intro h w hw
  have hc:=h (at0 cell w) (mem_keysOf.2 (mem_at0.2 ⟨w,hw,rfl⟩))
  replace hc:=(gapless_iff rising_sortD).1 hc
  obtain ⟨h1,h2⟩:=hc (at0 rank w) (mem_ranksOf.2 ⟨w,hw,rfl,rfl⟩)
  refine ⟨h1,h2.imp_right fun h3=>?_⟩
  obtain ⟨v,hv,h4,h5⟩:=mem_ranksOf.1 h3
  exact ⟨v,hv,h4,h5⟩
 ·intro h c hc
  refine (gapless_iff rising_sortD).2 ?_
  intro x hx
  obtain ⟨w,hw,rfl,rfl⟩:=mem_ranksOf.1 hx
  obtain ⟨h1,h2⟩:=h w hw
  refine ⟨h1,h2.imp_right fun ⟨v,hv,h4,h5⟩=>?_⟩
  exact mem_ranksOf.2 ⟨v,hv,h4,h5⟩
theorem fn_plaus_Check (hR:RanksOk T) (p:PM) (hp:IntsOk p.rank):Fn Tryz.prog T f_plaus_Check [.d (dPM p)] [] (.d (.int .i64 (checkL p))) []:=by
 refine fn_dataR hmix k_plaus_Check (by show 1≤123;decide) ?_
 (repeat' ((conv=>whnf);first|refine vA ?_|(refine vD ?_ ?_<;>intro hc<;>try simp only [vL] at hc)|refine vJ fun hg=>?_|refine vT ?_|refine vX ?_|refine yD (fn_plaus_shape _ _ _) ⟨⟨rfl,rfl⟩,⟨rfl,rfl⟩,⟨rfl,rfl⟩,rfl⟩ rfl ?_));all_goals try conv=>whnf
 ·rw [List.length_map,checkL,if_pos hc]
 ·rw [checkL,if_neg (by omega),if_pos (by omega)]
 have hs0:=‹shapeL p.W p.cell.length p.val=0›
 have hW64:=(shapeL_ok hs0).2.1
 have hlr:p.rank.length=p.cell.length:=by omega
 refine loop_mem (fun (k:Nat)=>[(1,.ptr 0 0),(34,.d (.int .i64 ((p.cell.map dI).length:Int))),(35,.d (.int .i64 ((k:Int))))]) (fun (k:Nat)=>[(0,some (boxPM p))]) 1 (fun (k:Nat)=>k≤p.cell.length ∧ ∀ a,a < k→((rowAt p.cell a).length:Int)=p.W∧((rowAt p.rank a).length:Int)=p.W) (fun (k:Nat)=>p.cell.length - k) (0) [(0,0)] [] (⟨by simp,by simp⟩) (by (refine ⟨rfl,rfl,rfl,?_,?_⟩;repeat' first|exact trivial|exact rfl|refine And.intro ?_ ?_|refine ⟨_,rfl,?_⟩|decide)) ?_
 rintro k ⟨hk,hI⟩
 (repeat' ((conv=>whnf);first|refine vA ?_|((first|refine vD ?_ ?_|refine vF ?_ ?_)<;>intro hc<;>try simp only [vL] at hc)|refine vJ fun hg=>?_|refine vT ?_|(refine vQ ?_ fun x hx=>?_;·omega)|(refine vO ?_ ?_;·omega)|(refine vU ?_ ?_;·kernel_rfl)|refine vX ?_));all_goals try conv=>whnf
 ·have h1:=rowAt_of hx
  refine (checkL_3 hs0 hlr fun h=>?_).symm
  have:=(h k (by omega)).1
  rw [h1] at this;exact hc this
 ·have h1:=rowAt_of hx
  refine (checkL_3 hs0 hlr fun h=>?_).symm
  have:=(h k (by omega)).2
  rw [h1] at this;exact hc this
 ·have h1:=rowAt_of ‹p.cell[k]? = some _›
  have h2:=rowAt_of ‹p.rank[k]? = some _›
  exact ⟨k+1,[(0,0)],[],⟨by (omega),fun a ha=>by
   by_cases e:a=k
   ·subst e;rw [h1,h2];omega
   ·exact hI a (by omega)⟩,by (omega),by (refine ⟨rfl,rfl,rfl,?_,?_⟩;repeat' first|exact trivial|exact rfl|refine And.intro ?_ ?_|refine ⟨_,rfl,?_⟩|decide)⟩
 have hL:Lens p:=fun a ha=>hI a (by omega)
 refine loop_mem (fun (k:Nat)=>[(1,.ptr 0 0),(60,.d (dII p.cell)),(61,.d (.int .i64 ((p.cell.map dI).length:Int))),(62,.d (.int .i64 ((k:Int))))]) (fun (k:Nat)=>[(0,some (boxPM p))]) 1 (fun (k:Nat)=>k≤p.cell.length ∧ ∀ a,a < k→Cells (rowAt p.cell a)) (fun (k:Nat)=>p.cell.length - k) (0) [(0,0)] [] (⟨by simp,by simp⟩) (by (refine ⟨rfl,rfl,rfl,?_,?_⟩;repeat' first|exact trivial|exact rfl|refine And.intro ?_ ?_|refine ⟨_,rfl,?_⟩|decide)) ?_
 rintro k ⟨hk,hI⟩
 (repeat' ((conv=>whnf);first|refine vA ?_|(refine vF ?_ ?_<;>intro hc<;>try simp only [vL] at hc)|refine vJ fun hg=>?_|refine vT ?_|(refine vQ ?_ fun x hx=>?_;·omega)|fail));all_goals try conv=>whnf
 ·have h1:=rowAt_of hx
  subst h1
  refine loop_mem (fun (j:Nat)=>[(1,.ptr 0 0),(60,.d (dII p.cell)),(61,.d (.int .i64 ((p.cell.map dI).length:Int))),(62,.d (.int .i64 ((k:Int)))),(6,.d (dI (rowAt p.cell k))),(66,.d (dI (rowAt p.cell k))),(67,.d (.int .i64 (((rowAt p.cell k).map (D.int .i64)).length:Int))),(68,.d (.int .i64 ((j:Int))))]) (fun (j:Nat)=>[(0,some (boxPM p))]) 1 (fun (j:Nat)=>j≤(rowAt p.cell k).length ∧ ∀ w,w < j→0≤at0 (rowAt p.cell k) w∧at0 (rowAt p.cell k) w≤w∧at0 (rowAt p.cell k) (at0 (rowAt p.cell k) w).toNat=at0 (rowAt p.cell k) w) (fun (j:Nat)=>(rowAt p.cell k).length - j) (0) [(0,0)] [] (⟨by simp,by simp⟩) (by (refine ⟨rfl,rfl,rfl,?_,?_⟩;repeat' first|exact trivial|exact rfl|refine And.intro ?_ ?_|refine ⟨_,rfl,?_⟩|decide)) ?_
  rintro j ⟨hj,hJ⟩
  (repeat' ((conv=>whnf);first|refine vA ?_|((first|refine vD ?_ ?_|refine vF ?_ ?_)<;>intro hc<;>try simp only [vL] at hc)|refine vT ?_|(refine vQ ?_ fun x hx=>?_;·omega)|((first|refine vO ?_ ?_|refine vS ?_ fun x hx=>?_);·omega)|refine vX ?_));all_goals try conv=>whnf
  iterate 2
   ·refine (checkL_1 hs0 hlr hL fun h=>?_).symm
    have:=h k (by omega) j (by omega)
    rw [at0_of hx] at this;omega
  ·refine (checkL_1 hs0 hlr hL fun h=>?_).symm
   have:=h k (by omega) j (by omega)
   rw [at0_of ‹(rowAt p.cell k)[j]? = some _›,at0_of hx] at this;omega
  ·have h0:=at0_of ‹(rowAt p.cell k)[j]? = some _›
   have h1:=at0_of hx
   exact ⟨j+1,[(0,0)],[],⟨by (omega),fun w hw=>by
    by_cases e:w=j
    ·subst e;rw [h0,h1];omega
    ·exact hJ w (by omega)⟩,by (omega),by (refine ⟨rfl,rfl,rfl,?_,?_⟩;repeat' first|exact trivial|exact rfl|refine And.intro ?_ ?_|refine ⟨_,rfl,?_⟩|decide)⟩
  ·exact ⟨k+1,[(0,0)],[],⟨by (omega),fun a ha=>by
    by_cases e:a=k
    ·subst e;exact fun w hw=>hJ w (by omega)
    ·exact hI a (by omega)⟩,by (omega),by (refine ⟨rfl,rfl,rfl,?_,?_⟩;repeat' first|exact trivial|exact rfl|refine And.intro ?_ ?_|refine ⟨_,rfl,?_⟩|decide)⟩
 have hC:AllCells p:=fun a ha=>hI a (by omega)
 refine loop_mem (fun (k:Nat)=>[(1,.ptr 0 0),(91,.d (dII p.cell)),(92,.d (.int .i64 ((p.cell.map dI).length:Int))),(93,.d (.int .i64 ((k:Int))))]) (fun (k:Nat)=>[(0,some (boxPM p))]) 1 (fun (k:Nat)=>k≤p.cell.length ∧ ∀ a,a < k→Ranked (rowAt p.cell a) (rowAt p.rank a)) (fun (k:Nat)=>p.cell.length - k) (0) [(0,0)] [] (⟨by simp,by simp⟩) (by (refine ⟨rfl,rfl,rfl,?_,?_⟩;repeat' first|exact trivial|exact rfl|refine And.intro ?_ ?_|refine ⟨_,rfl,?_⟩|decide)) ?_
 rintro k ⟨hk,hI⟩
 (repeat' ((conv=>whnf);first|refine vA ?_|(refine vF ?_ ?_<;>intro hc<;>try simp only [vL] at hc)|refine vT ?_|(refine vQ ?_ fun x hx=>?_;·omega)|refine vX ?_));all_goals try conv=>whnf
 ·have h1:=rowAt_of ‹p.cell[k]? = some _›
  have h2:=rowAt_of ‹p.rank[k]? = some _›
  have h3:=hL k (by omega)
  subst h1;subst h2
  refine CallS.dataN (hR (rowAt p.cell k) (rowAt p.rank k) (by omega) (by omega)) (by (repeat refine ⟨⟨rfl,rfl⟩,?_⟩);rfl) ?_
  (repeat' ((conv=>whnf);refine vT ?_));all_goals try conv=>whnf
  refine loop_mem (fun ((left,cur):List (D×D)×Option (D×D))=>[(1,.ptr 0 0),(91,.d (dII p.cell)),(92,.d (.int .i64 ((p.cell.map dI).length:Int))),(93,.d (.int .i64 ((k:Int)))),(105,.iter 1)]) (fun ((left,cur):List (D×D)×Option (D×D))=>[(0,some (boxPM p)),(1,some (.iter left cur))]) 2 (fun ((left,cur):List (D×D)×Option (D×D)) => ∃ ks:List Int,left=ks.map (fun c=>(D.int .i64 c,dI (ranksOf (rowAt p.cell k) (rowAt p.rank k) c)))∧(∀ c∈ks,c∈keysOf (rowAt p.cell k)) ∧ ∀ c∈keysOf (rowAt p.cell k),c∈ks∨Gapless (ranksOf (rowAt p.cell k) (rowAt p.rank k) c)) (fun ((left,cur):List (D×D)×Option (D×D))=>left.length) ((ranksD (rowAt p.cell k) (rowAt p.rank k),none)) [(0,0),(1,1)] [] (⟨_,rfl,fun c h=>h,fun c h => .inl h⟩) (by (refine ⟨rfl,rfl,rfl,?_,?_⟩;repeat' first|exact trivial|exact rfl|refine And.intro ?_ ?_|refine ⟨_,rfl,?_⟩|decide)) ?_
  rintro ⟨left,cur⟩ ⟨ks,hleft,hks,hdone⟩
  (repeat' ((conv=>whnf);first|refine vA ?_|refine vC (fun hl=>?_) fun i kv vv hi=>?_|refine vG ?_|refine vH ?_|refine vT ?_|(refine vO ?_ ?_;·omega)|fail));all_goals try conv=>whnf
  ·exact ⟨k+1,[(0,0)],[],⟨by (omega),fun a ha=>by
    by_cases e:a=k
    ·subst e
     rw [hl] at hleft
     have:ks=[]:=by simpa using hleft.symm
     subst this
     exact gapless_ranked.1 fun c hc=>(hdone c hc).resolve_left (by simp)
    ·exact hI a (by omega)⟩,by (omega),by (refine ⟨rfl,rfl,rfl,?_,?_⟩;repeat' first|exact trivial|exact rfl|refine And.intro ?_ ?_|refine ⟨_,rfl,?_⟩|decide)⟩
  ·rw [hleft,List.getElem?_map,Option.map_eq_some_iff] at hi
   obtain ⟨c,hci,hce⟩:=hi
   cases hce
   (repeat' ((conv=>whnf);first|refine vJ fun hg=>?_|refine vT ?_));all_goals try conv=>whnf
   refine loop_mem (fun (j:Nat)=>[(1,.ptr 0 0),(91,.d (dII p.cell)),(92,.d (.int .i64 ((p.cell.map dI).length:Int))),(93,.d (.int .i64 ((k:Int)))),(105,.iter 1),(12,.d (dI (ranksOf (rowAt p.cell k) (rowAt p.rank k) c))),(111,.d (.int .i64 (((ranksOf (rowAt p.cell k) (rowAt p.rank k) c).map (D.int .i64)).length:Int))),(112,.d (.int .i64 ((j:Int))))]) (fun (j:Nat)=>[(0,some (boxPM p)),(1,some (.iter (left.eraseIdx i) (some (D.int .i64 c,dI (ranksOf (rowAt p.cell k) (rowAt p.rank k) c)))))]) 2 (fun (j:Nat)=>j≤(ranksOf (rowAt p.cell k) (rowAt p.rank k) c).length ∧ ∀ i,i < j→at0 (ranksOf (rowAt p.cell k) (rowAt p.rank k) c) i=i) (fun (j:Nat)=>(ranksOf (rowAt p.cell k) (rowAt p.rank k) c).length - j) (0) [(0,0),(1,1)] [] (⟨by simp,by simp⟩) (by (refine ⟨rfl,rfl,rfl,?_,?_⟩;repeat' first|exact trivial|exact rfl|refine And.intro ?_ ?_|refine ⟨_,rfl,?_⟩|decide)) ?_
   rintro j ⟨hj,hJ⟩
   (repeat' ((conv=>whnf);first|refine vA ?_|((first|refine vD ?_ ?_|refine vF ?_ ?_)<;>intro hc<;>try simp only [vL] at hc)|refine vT ?_|(refine vQ ?_ fun x hx=>?_;·omega)|(refine vO ?_ ?_;·omega)|refine vX ?_));all_goals try conv=>whnf
   ·refine (checkL_9 hs0 hlr hL hC fun h=>hc ?_).symm
    have h4:=gapless_ranked.2 (h k (by omega)) c (hks c (List.mem_of_getElem? hci)) j (by omega)
    rw [at0_of hx] at h4;exact h4
   ·have h0:=at0_of hx
    exact ⟨j+1,[(0,0),(1,1)],[],⟨by (omega),fun w hw=>by
     by_cases e:w=j
     ·subst e;rw [h0];omega
     ·exact hJ w (by omega)⟩,by (omega),by (refine ⟨rfl,rfl,rfl,?_,?_⟩;repeat' first|exact trivial|exact rfl|refine And.intro ?_ ?_|refine ⟨_,rfl,?_⟩|decide)⟩
   ·refine ⟨(left.eraseIdx i,some (D.int .i64 c,dI (ranksOf (rowAt p.cell k) (rowAt p.rank k) c))),[(0,0),(1,1)],[],⟨ks.eraseIdx i,?_,?_,?_⟩,?_,⟨rfl,rfl,rfl,by (repeat' first|exact trivial|exact rfl|refine And.intro ?_ ?_|refine ⟨_,rfl,?_⟩),by (repeat' first|exact trivial|exact rfl|refine And.intro ?_ ?_|refine ⟨_,rfl,?_⟩|decide)⟩⟩
    ·rw [hleft,map_erase]
    ·exact fun c h=>hks c (List.mem_of_mem_eraseIdx h)
    ·intro c' h
     rcases hdone c' h with h1|h1
     ·by_cases e:c'=c
      ·subst e;exact .inr fun i hi=>hJ i (by omega)
      ·refine .inl ?_
       rw [List.mem_eraseIdx_iff_getElem?]
       obtain ⟨i',hi'⟩:=List.getElem?_of_mem h1
       exact ⟨i',fun e'=>e (by rw [e',hci] at hi';cases hi';rfl),hi'⟩
     ·exact .inr h1
    ·show (left.eraseIdx i).length < left.length
     have:i < left.length:=by
      rw [hleft,List.length_map];exact (List.getElem?_eq_some_iff.1 hci).1
     rw [List.length_eraseIdx];split<;>omega
 ·exact (checkL_0 hs0 hlr hL hC fun a ha=>hI a (by omega)).symm
end Go.Ab
namespace Go.Ab
open Go Go.Proofs
set_option linter.unusedSimpArgs false
set_option linter.unusedVariables false
set_option maxRecDepth 10000
set_option maxHeartbeats 4000000
variable {T:Nat→Obj→Prop}
structure At (p:PM) (a w:Int):Prop where
 ok:checkL p=0
 a0:0≤a
 a1:a < p.cell.length
 w0:0≤w
 w1:w < p.W
instance (p:PM) (a w:Int):Decidable (At p a w):=decidable_of_iff (checkL p=0∧0≤a∧a < p.cell.length∧0≤w∧w < p.W) ⟨fun ⟨a,b,c,d,e⟩=>⟨a,b,c,d,e⟩,fun ⟨a,b,c,d,e⟩=>⟨a,b,c,d,e⟩⟩
theorem fn_known' (hR:RanksOk T) (p:PM) (hp:IntsOk p.rank) (a w:Int):Fn Tryz.prog T f_plaus_known [.d (dPM p),.d (.int .i64 a),.d (.int .i64 w)] [] (.d (.bool (decide (At p a w)))) []:=by
 have:=fn_known (T:=T) (fun p hp=>fn_plaus_Check hR p hp) p hp a w
 rwa [show decide (checkL p=0∧0≤a∧a < p.cell.length∧0≤w∧w < p.W)=decide (At p a w) from by
  rw [Bool.eq_iff_iff,decide_eq_true_eq,decide_eq_true_eq]
  exact ⟨fun ⟨a,b,c,d,e⟩=>⟨a,b,c,d,e⟩,fun ⟨a,b,c,d,e⟩=>⟨a,b,c,d,e⟩⟩] at this
def cellL (p:PM) (a w:Int):BitVec 64:=if At p a w then cellSet (rowAt p.cell a.toNat) w.toNat else 0#64
def bestL (p:PM) (a w:Int) (s:BitVec 64):BitVec 64:=if At p a w then bestSet (rowAt p.rank a.toNat) (s&&&cellSet (rowAt p.cell a.toNat) w.toNat) else 0#64
theorem At.rows {p:PM} {a w:Int} (h:At p a w):p.cell[a.toNat]? = some (rowAt p.cell a.toNat)∧p.rank[a.toNat]? = some (rowAt p.rank a.toNat)∧((rowAt p.cell a.toNat).length:Int)=p.W∧((rowAt p.rank a.toNat).length:Int)=p.W∧p.W≤64∧a.toNat < p.cell.length∧p.rank.length=p.cell.length:=by
 have hg:=checkL_good h.ok
 have h0:=h.a0
 have h1:=h.a1
 have hl:=hg.lens a.toNat (by omega)
 exact ⟨get_rowAt (by omega),get_rowAt (by rw [hg.len];omega),hl.1,hl.2,hg.w2,by omega,hg.len⟩
theorem fn_Cell (hR:RanksOk T) (p:PM) (hp:IntsOk p.rank) (a w:Int):Fn Tryz.prog T f_plaus_Cell [.d (dPM p),.d (.int .i64 a),.d (.int .i64 w)] [] (.d (.u64 (cellL p a w))) []:=by
 refine fn_dataR hmix k_plaus_Cell (by show 3≤16;decide) ?_
 (repeat' ((conv=>whnf);first|refine vA ?_|refine vE ?_|(refine vF ?_ ?_<;>intro hc)|refine vT ?_|refine vY ?_|refine yD (fn_known' hR _ hp _ _) (by (repeat refine ⟨⟨rfl,rfl⟩,?_⟩);rfl) rfl ?_));all_goals try conv=>whnf
 ·obtain ⟨h1,-,h2,-⟩:=At.rows hc
  refine CallS.data (fn_cellOf p a w (rowAt p.cell a.toNat) hc.a0 h1 hc.w0 (by rw [h2];exact hc.w1)) (by (repeat refine ⟨⟨rfl,rfl⟩,?_⟩);rfl) rfl ?_
  (repeat' ((conv=>whnf);first|refine vT ?_|refine vY ?_));all_goals try conv=>whnf
  rw [cellL,if_pos hc]
 ·rw [cellL,if_neg hc];rfl
theorem ofInt_nat {k:Nat} (h:k < 18446744073709551616):(BitVec.ofInt 64 (k:Int)).toNat=k:=by
 rw [BitVec.toNat_ofInt,Int.emod_eq_of_lt (by omega) (by omega)];rfl
theorem fn_ref33_Cell (p:PM) (hp:IntsOk p.rank) (a w:Int):Fn Tryz.prog T f_wittingref33_Cell [.d (dPM p),.d (.int .i64 a),.d (.int .i64 w)] [] (.d (.u64 (cellL p a w))) []:=by
 refine fn_dataR hmix k_wittingref33_Cell (by show 3≤62;decide) ?_
 (repeat' ((conv=>whnf);first|refine vA ?_|((first|refine vD ?_ ?_|refine vF ?_ ?_)<;>intro hc<;>try simp only [vL] at hc)|refine vJ fun hg=>?_|refine vT ?_|refine vY ?_|refine yD (fn_ref33_Check _ hp) ⟨⟨rfl,rfl⟩,rfl⟩ rfl ?_));all_goals try conv=>whnf
 iterate 5
  ·rw [cellL,if_neg fun h=>by have:=h.ok;have:=h.a0;have:=h.a1;have:=h.w0;have:=h.w1;omega];rfl
 have hat:At p a w:=⟨by assumption,by assumption,by assumption,by assumption,hc⟩
 obtain ⟨hrow,-,hlen,-,h64,ha,-⟩:=hat.rows
 refine loop_mem (fun ((k,s):Nat×BitVec 64)=>[(1,.d (.int .i64 (a))),(2,.d (.int .i64 (w))),(3,.ptr 0 0),(7,.d (.u64 (s))),(8,.d (.int .i64 ((k:Int))))]) (fun ((k,s):Nat×BitVec 64)=>[(0,some (boxPM p))]) 1 (fun ((k,s):Nat×BitVec 64)=>k≤p.W.toNat∧s=setTo (fun v=>at0 (rowAt p.cell a.toNat) v==at0 (rowAt p.cell a.toNat) w.toNat) k) (fun ((k,s):Nat×BitVec 64)=>p.W.toNat - k) ((0,0#64)) [(0,0)] [] (⟨by simp,rfl⟩) (by (refine ⟨rfl,rfl,rfl,?_,?_⟩;repeat' first|exact trivial|exact rfl|refine And.intro ?_ ?_|refine ⟨_,rfl,?_⟩|decide)) ?_
 rintro ⟨k,s⟩ ⟨hk,hI⟩
 (repeat' ((conv=>whnf);first|refine vA ?_|(refine vF ?_ ?_<;>intro hc<;>try simp only [vL] at hc)|refine vT ?_|(refine vQ ?_ fun x hx=>?_;·omega)|((first|refine vO ?_ ?_|refine vR ?_ ‹_› ?_|refine vS ?_ fun x hx=>?_);·omega)|(refine vU ?_ ?_;·kernel_rfl)|refine vY ?_));all_goals try conv=>whnf
 ·have h1:=at0_of ‹(rowAt p.cell a.toNat)[k]? = some _›
  have h2:=at0_of hx
  exact ⟨(k+1,s|||1#64 <<< (BitVec.ofInt 64 (k:Int)).toNat),[(0,0)],[],⟨by (omega),by rw [setTo,if_pos (by simp;omega),hI,ofInt_nat (by omega)]⟩,by ((simp only [vM] at *;omega)),by (refine ⟨rfl,rfl,rfl,?_,?_⟩;repeat' first|exact trivial|exact rfl|refine And.intro ?_ ?_|refine ⟨_,rfl,?_⟩|decide)⟩
 ·have h1:=at0_of ‹(rowAt p.cell a.toNat)[k]? = some _›
  have h2:=at0_of hx
  exact ⟨(k+1,s),[(0,0)],[],⟨by (omega),by rw [setTo,if_neg (by simp;omega),hI]⟩,by ((simp only [vM] at *;omega)),by (refine ⟨rfl,rfl,rfl,?_,?_⟩;repeat' first|exact trivial|exact rfl|refine And.intro ?_ ?_|refine ⟨_,rfl,?_⟩|decide)⟩
 ·rw [cellL,if_pos hat,hI,cellSet,show k=(rowAt p.cell a.toNat).length by omega]
def weakRow (cell rank:List Int) (w:Nat):Nat→BitVec 64:=setTo fun v=>at0 cell v==at0 cell w&&decide (at0 rank v≤at0 rank w)
def weakL (p:PM) (a:Nat):List (BitVec 64):=(List.range p.W.toNat).map fun w=>weakRow (rowAt p.cell a) (rowAt p.rank a) w p.W.toNat
def weakerL (p:PM) (a:Int):List (BitVec 64)×Int:=if checkL p≠0 then ([],checkL p) else if a < 0∨(p.cell.length:Int)≤a then ([],2) else (weakL p a.toNat,0)
abbrev dUI (x:List (BitVec 64)×Int):D := .tup [dU x.1,.int .i64 x.2]
theorem set_range {β:Type} {g:Nat→β} {n k:Nat} (x:β):((List.range n).map g).set k x=(List.range n).map fun u=>if u=k then x else g u:=by
 refine List.ext_getElem (by simp) fun i h1 h2=>?_
 rw [List.getElem_set]
 by_cases e:k=i
 ·subst e;simp
 ·simp [e,Ne.symm e]
theorem map_range_congr {β:Type} {g h:Nat→β} {n:Nat} (e : ∀ u,u < n→g u=h u):(List.range n).map g=(List.range n).map h :=
 List.map_congr_left fun u hu=>e u (List.mem_range.1 hu)
theorem get_range {n k x:Nat} (h:(List.range n)[k]? = some x):x=k:=by
 obtain ⟨h1,rfl⟩:=List.getElem?_eq_some_iff.1 h
 simp
theorem replicate_range {β:Type} (x:β) (n:Nat):List.replicate n x=(List.range n).map fun _=>x:=by
 refine List.ext_getElem (by simp) fun i h1 h2=>by simp
theorem fn_Weaker (hR:RanksOk T) (p:PM) (hp:IntsOk p.rank) (a:Int):Fn Tryz.prog T f_plaus_Weaker [.d (dPM p),.d (.int .i64 a)] [] (.d (dUI (weakerL p a))) []:=by
 refine fn_dataR hmix k_plaus_Weaker (by show 2≤84;decide) ?_
 (repeat' ((conv=>whnf);first|refine vA ?_|((first|refine vD ?_ ?_|refine vF ?_ ?_)<;>intro hc<;>try simp only [vL] at hc)|refine vJ fun hg=>?_|refine vT ?_|(refine vP ?_ ?_;·omega)|refine yD (fn_plaus_Check hR _ hp) ⟨⟨rfl,rfl⟩,rfl⟩ rfl ?_));all_goals try conv=>whnf
 ·rw [weakerL,if_pos hc];rfl
 ·rw [weakerL,if_neg (by omega),if_pos (.inl hc)];rfl
 ·rw [weakerL,if_neg (by omega),if_pos (.inr hc)];rfl
 have hg:=checkL_good ‹checkL p=0›
 have hw1:=hg.w1
 have hw2:=hg.w2
 have hrow:=get_rowAt (l:=p.cell) (i:=a.toNat) (by omega)
 have hrank:=get_rowAt (l:=p.rank) (i:=a.toNat) (by have:=hg.len;omega)
 obtain ⟨hl1,hl2⟩:=hg.lens a.toNat (by omega)
 have hlr:=hg.len
 (repeat' ((conv=>whnf);first|refine vA ?_|refine vK fun hg=>?_|refine vT ?_|(refine vP ?_ ?_;·omega)|fail));all_goals try conv=>whnf
 refine loop_mem (fun ((k,xs):Nat×List D)=>[(1,.d (.int .i64 (a))),(2,.ptr 0 0),(7,.own 1),(28,.d (.int .i64 ((List.replicate p.W.toNat (D.u64 0#64)).length:Int))),(29,.d (.int .i64 ((k:Int))))]) (fun ((k,xs):Nat×List D)=>[(0,some (boxPM p)),(1,some (.row 1 xs))]) 2 (fun ((k,xs):Nat×List D)=>k≤p.W.toNat∧xs=(List.range p.W.toNat).map fun u=>D.u64 (if u < k then weakRow (rowAt p.cell a.toNat) (rowAt p.rank a.toNat) u p.W.toNat else 0#64)) (fun ((k,xs):Nat×List D)=>p.W.toNat - k) ((0,List.replicate p.W.toNat (D.u64 0#64))) [(0,0),(1,1)] [] (⟨by simp,by simp only [Nat.not_lt_zero,if_false];exact replicate_range _ _⟩) (by (refine ⟨rfl,rfl,rfl,?_,?_⟩;repeat' first|exact trivial|exact rfl|refine And.intro ?_ ?_|refine ⟨_,rfl,?_⟩|decide)) ?_
 rintro ⟨k,_⟩ ⟨hk,rfl⟩
 (repeat' ((conv=>whnf);first|refine vA ?_|(refine vF ?_ ?_<;>intro hc<;>try simp only [vL] at hc)|refine vJ fun hg=>?_|refine vT ?_));all_goals try conv=>whnf
 ·refine loop_mem (fun ((j,xs):Nat×List D)=>[(1,.d (.int .i64 (a))),(2,.ptr 0 0),(7,.own 1),(8,.d (.int .i64 ((k:Int)))),(28,.d (.int .i64 ((List.replicate p.W.toNat (D.u64 0#64)).length:Int))),(29,.d (.int .i64 ((k:Int)))),(33,.d (.int .i64 (((List.range p.W.toNat).map fun u=>D.u64 (if u < k then weakRow (rowAt p.cell a.toNat) (rowAt p.rank a.toNat) u p.W.toNat else 0#64)).length:Int))),(34,.d (.int .i64 ((j:Int))))]) (fun ((j,xs):Nat×List D)=>[(0,some (boxPM p)),(1,some (.row 1 xs))]) 2 (fun ((j,xs):Nat×List D)=>j≤p.W.toNat∧xs=(List.range p.W.toNat).map fun u=>D.u64 (if u < k then weakRow (rowAt p.cell a.toNat) (rowAt p.rank a.toNat) u p.W.toNat else if u=k then weakRow (rowAt p.cell a.toNat) (rowAt p.rank a.toNat) k j else 0#64)) (fun ((j,xs):Nat×List D)=>p.W.toNat - j) ((0,_)) [(0,0),(1,1)] [] (⟨by simp,map_range_congr fun u hu=>by simp [weakRow,setTo]⟩) (by (refine ⟨rfl,rfl,rfl,?_,?_⟩;repeat' first|exact trivial|exact rfl|refine And.intro ?_ ?_|refine ⟨_,rfl,?_⟩|decide)) ?_
  rintro ⟨j,_⟩ ⟨hj,rfl⟩
  (repeat' ((conv=>whnf);first|refine vA ?_|(refine vF ?_ ?_<;>intro hc<;>try simp only [vL] at hc)|refine vT ?_|(refine vQ ?_ fun x hx=>?_;·first|omega|(simp only [vM] at *;omega))|((first|refine vO ?_ ?_|refine vR ?_ ‹_› ?_|refine vP ?_ ?_);·first|omega|(simp only [vM] at *;omega))|(refine vU ?_ ?_;·kernel_rfl)|fail));all_goals try conv=>whnf
  ·have h1:=at0_of ‹(rowAt p.cell a.toNat)[j]? = some _›
   have h2:=at0_of ‹(rowAt p.cell a.toNat)[k]? = some _›
   have h3:=at0_of ‹(rowAt p.rank a.toNat)[j]? = some _›
   have h4:=at0_of ‹(rowAt p.rank a.toNat)[k]? = some _›
   have hx':=get_range hx
   refine ⟨(j+1,_),[(0,0),(1,1)],[],?_,?_,by (refine ⟨rfl,rfl,rfl,?_,?_⟩;repeat' first|exact trivial|exact rfl|refine And.intro ?_ ?_|refine ⟨_,rfl,?_⟩|decide)⟩
   ·refine ⟨by (omega),(set_range _).trans (map_range_congr fun u hu=>?_)⟩
    have e0:(at0 (rowAt p.cell a.toNat) j==at0 (rowAt p.cell a.toNat) k&&decide (at0 (rowAt p.rank a.toNat) j≤at0 (rowAt p.rank a.toNat) k))=true:=by
     simp only [Bool.and_eq_true,beq_iff_eq,decide_eq_true_eq];omega
    show (if u=k then _ else _)=_
    have hx'':x=k:=hx'
    subst hx''
    by_cases e:u=x
    ·subst e
     simp only [Nat.lt_irrefl,if_false,if_true,weakRow,setTo,e0];rfl
    ·rw [if_neg e];simp only [if_neg e]
   ·((simp only [vM] at *;omega))
  ·have h1:=at0_of ‹(rowAt p.cell a.toNat)[j]? = some _›
   have h2:=at0_of ‹(rowAt p.cell a.toNat)[k]? = some _›
   have h3:=at0_of ‹(rowAt p.rank a.toNat)[j]? = some _›
   have h4:=at0_of ‹(rowAt p.rank a.toNat)[k]? = some _›
   refine ⟨(j+1,_),[(0,0),(1,1)],[],?_,?_,by (refine ⟨rfl,rfl,rfl,?_,?_⟩;repeat' first|exact trivial|exact rfl|refine And.intro ?_ ?_|refine ⟨_,rfl,?_⟩|decide)⟩
   ·refine ⟨by (omega),map_range_congr fun u hu=>?_⟩
    have e0:(at0 (rowAt p.cell a.toNat) j==at0 (rowAt p.cell a.toNat) k&&decide (at0 (rowAt p.rank a.toNat) j≤at0 (rowAt p.rank a.toNat) k))=false:=by
     rw [Bool.and_eq_false_iff];right;rw [decide_eq_false_iff_not];omega
    simp only [weakRow,setTo,e0,Bool.false_eq_true,if_false]
   ·((simp only [vM] at *;omega))
  ·have h1:=at0_of ‹(rowAt p.cell a.toNat)[j]? = some _›
   have h2:=at0_of ‹(rowAt p.cell a.toNat)[k]? = some _›
   refine ⟨(j+1,_),[(0,0),(1,1)],[],?_,?_,by (refine ⟨rfl,rfl,rfl,?_,?_⟩;repeat' first|exact trivial|exact rfl|refine And.intro ?_ ?_|refine ⟨_,rfl,?_⟩|decide)⟩
   ·refine ⟨by (omega),map_range_congr fun u hu=>?_⟩
    have e0:(at0 (rowAt p.cell a.toNat) j==at0 (rowAt p.cell a.toNat) k&&decide (at0 (rowAt p.rank a.toNat) j≤at0 (rowAt p.rank a.toNat) k))=false:=by
     rw [Bool.and_eq_false_iff];left;rw [beq_eq_false_iff_ne];omega
    simp only [weakRow,setTo,e0,Bool.false_eq_true,if_false]
   ·((simp only [vM] at *;omega))
  ·refine ⟨(k+1,_),[(0,0),(1,1)],[],?_,?_,by (refine ⟨rfl,rfl,rfl,?_,?_⟩;repeat' first|exact trivial|exact rfl|refine And.intro ?_ ?_|refine ⟨_,rfl,?_⟩|decide)⟩
   ·refine ⟨by (omega),map_range_congr fun u hu=>?_⟩
    have e0:j=p.W.toNat:=by (omega)
    subst e0
    by_cases e:u=k
    ·subst e;simp
    ·by_cases e1:u < k
     ·simp [e1,show u < k+1 by omega]
     ·simp [e1,e,show ¬ u < k+1 by omega]
   ·((simp only [vM] at *;omega))
 ·rw [weakerL,if_neg (by omega),if_neg (by omega),weakL]
  have e0:k=p.W.toNat:=by (omega)
  refine congrArg some (congrArg D.tup (congrArg (fun l=>[D.arr 1 l,D.int .i64 0]) ?_))
  rw [List.map_map]
  refine map_range_congr fun u hu=>?_
  rw [if_pos (by omega)];rfl
theorem fn_ref33_Weaker (p:PM) (hp:IntsOk p.rank) (a:Int):Fn Tryz.prog T f_wittingref33_Weaker [.d (dPM p),.d (.int .i64 a)] [] (.d (dUI (weakerL p a))) []:=by
 refine fn_dataR hmix k_wittingref33_Weaker (by show 2≤83;decide) ?_
 (repeat' ((conv=>whnf);first|refine vA ?_|((first|refine vD ?_ ?_|refine vF ?_ ?_)<;>intro hc<;>try simp only [vL] at hc)|refine vJ fun hg=>?_|refine vT ?_|refine yD (fn_ref33_Check _ hp) ⟨⟨rfl,rfl⟩,rfl⟩ rfl ?_));all_goals try conv=>whnf
 ·rw [weakerL,if_pos hc];rfl
 ·rw [weakerL,if_neg (by omega),if_pos (.inl hc)];rfl
 ·rw [weakerL,if_neg (by omega),if_pos (.inr hc)];rfl
 have hg:=checkL_good ‹checkL p=0›
 have hw1:=hg.w1
 have hw2:=hg.w2
 have hrow:=get_rowAt (l:=p.cell) (i:=a.toNat) (by omega)
 have hrank:=get_rowAt (l:=p.rank) (i:=a.toNat) (by have:=hg.len;omega)
 obtain ⟨hl1,hl2⟩:=hg.lens a.toNat (by omega)
 have hlr:=hg.len
 refine loop_mem (fun ((k,xs):Nat×List D)=>[(1,.d (.int .i64 (a))),(2,.ptr 0 0),(7,.own 1),(8,.d (.int .i64 ((k:Int))))]) (fun ((k,xs):Nat×List D)=>[(0,some (boxPM p)),(1,some (.row 1 xs))]) 2 (fun ((k,xs):Nat×List D)=>k≤p.W.toNat∧xs=(List.range k).map fun u=>D.u64 (weakRow (rowAt p.cell a.toNat) (rowAt p.rank a.toNat) u p.W.toNat)) (fun ((k,xs):Nat×List D)=>p.W.toNat - k) ((0,[])) [(0,0)]   [1] (⟨by simp,rfl⟩) (by (refine ⟨rfl,rfl,rfl,?_,?_⟩;repeat' first|exact trivial|exact rfl|exact ⟨_,rfl⟩|refine And.intro ?_ ?_|refine ⟨_,rfl,?_⟩|decide)) ?_
 rintro ⟨k,_⟩ ⟨hk,rfl⟩
 (repeat' ((conv=>whnf);first|refine vA ?_|(refine vF ?_ ?_<;>intro hc<;>try simp only [vL] at hc)|refine vT ?_));all_goals try conv=>whnf
 ·refine loop_mem (fun ((j,s):Nat×BitVec 64)=>[(1,.d (.int .i64 (a))),(2,.ptr 0 0),(7,.own 1),(8,.d (.int .i64 ((k:Int)))),(9,.d (.u64 (s))),(10,.d (.int .i64 ((j:Int))))]) (fun ((j,s):Nat×BitVec 64)=>[(0,some (boxPM p)),(1,some (.row 1 ((List.range k).map fun u=>D.u64 (weakRow (rowAt p.cell a.toNat) (rowAt p.rank a.toNat) u p.W.toNat))))]) 2 (fun ((j,s):Nat×BitVec 64)=>j≤p.W.toNat∧s=weakRow (rowAt p.cell a.toNat) (rowAt p.rank a.toNat) k j) (fun ((j,s):Nat×BitVec 64)=>p.W.toNat - j) ((0,0#64)) [(0,0),(1,1)] [] (⟨by simp,rfl⟩) (by (refine ⟨rfl,rfl,rfl,?_,?_⟩;repeat' first|exact trivial|exact rfl|refine And.intro ?_ ?_|refine ⟨_,rfl,?_⟩|decide)) ?_
  rintro ⟨j,s⟩ ⟨hj,hs⟩
  (repeat' ((conv=>whnf);first|refine vA ?_|(refine vF ?_ ?_<;>intro hc<;>try simp only [vL] at hc)|refine vT ?_|(refine vQ ?_ fun x hx=>?_;·omega)|((first|refine vO ?_ ?_|refine vR ?_ ‹_› ?_|refine vP ?_ ?_);·first|omega|(simp only [vM] at *;omega))|(refine vU ?_ ?_;·kernel_rfl)|fail));all_goals try conv=>whnf
  ·have h1:=at0_of ‹(rowAt p.cell a.toNat)[j]? = some _›
   have h2:=at0_of ‹(rowAt p.cell a.toNat)[k]? = some _›
   have h3:=at0_of ‹(rowAt p.rank a.toNat)[j]? = some _›
   have h4:=at0_of ‹(rowAt p.rank a.toNat)[k]? = some _›
   refine ⟨(j+1,_),[(0,0),(1,1)],[],?_,?_,by (refine ⟨rfl,rfl,rfl,?_,?_⟩;repeat' first|exact trivial|exact rfl|refine And.intro ?_ ?_|refine ⟨_,rfl,?_⟩|decide)⟩
   ·refine ⟨by (omega),?_⟩
    have e0:(at0 (rowAt p.cell a.toNat) j==at0 (rowAt p.cell a.toNat) k&&decide (at0 (rowAt p.rank a.toNat) j≤at0 (rowAt p.rank a.toNat) k))=true:=by
     simp only [Bool.and_eq_true,beq_iff_eq,decide_eq_true_eq];omega
    rw [hs,ofInt_nat (by omega)]
    simp only [weakRow,setTo,e0,if_true]
    rfl
   ·((simp only [vM] at *;omega))
  ·have h1:=at0_of ‹(rowAt p.cell a.toNat)[j]? = some _›
   have h2:=at0_of ‹(rowAt p.cell a.toNat)[k]? = some _›
   have h3:=at0_of ‹(rowAt p.rank a.toNat)[j]? = some _›
   have h4:=at0_of ‹(rowAt p.rank a.toNat)[k]? = some _›
   have e0:(at0 (rowAt p.cell a.toNat) j==at0 (rowAt p.cell a.toNat) k&&decide (at0 (rowAt p.rank a.toNat) j≤at0 (rowAt p.rank a.toNat) k))=false:=by
    rw [Bool.and_eq_false_iff];right;rw [decide_eq_false_iff_not];omega
   exact ⟨(j+1,s),[(0,0),(1,1)],[],⟨by (omega),by rw [hs];simp only [weakRow,setTo,e0,Bool.false_eq_true,if_false]⟩,by ((simp only [vM] at *;omega)),by (refine ⟨rfl,rfl,rfl,?_,?_⟩;repeat' first|exact trivial|exact rfl|refine And.intro ?_ ?_|refine ⟨_,rfl,?_⟩|decide)⟩
  ·have h1:=at0_of ‹(rowAt p.cell a.toNat)[j]? = some _›
   have h2:=at0_of ‹(rowAt p.cell a.toNat)[k]? = some _›
   have e0:(at0 (rowAt p.cell a.toNat) j==at0 (rowAt p.cell a.toNat) k&&decide (at0 (rowAt p.rank a.toNat) j≤at0 (rowAt p.rank a.toNat) k))=false:=by
    rw [Bool.and_eq_false_iff];left;rw [beq_eq_false_iff_ne];omega
   exact ⟨(j+1,s),[(0,0),(1,1)],[],⟨by (omega),by rw [hs];simp only [weakRow,setTo,e0,Bool.false_eq_true,if_false]⟩,by ((simp only [vM] at *;omega)),by (refine ⟨rfl,rfl,rfl,?_,?_⟩;repeat' first|exact trivial|exact rfl|refine And.intro ?_ ?_|refine ⟨_,rfl,?_⟩|decide)⟩
  ·refine ⟨(k+1,_),[(0,0),(1,3)],[],?_,?_,by (refine ⟨rfl,rfl,rfl,?_,?_⟩;repeat' first|exact trivial|exact rfl|refine And.intro ?_ ?_|refine ⟨_,rfl,?_⟩|decide)⟩
   ·refine ⟨by (omega),?_⟩
    have e0:j=p.W.toNat:=by (omega)
    subst e0
    rw [List.range_succ,List.map_append,hs];rfl
   ·((simp only [vM] at *;omega))
 ·rw [weakerL,if_neg (by omega),if_neg (by omega),weakL]
  have e0:k=p.W.toNat:=by (omega)
  refine congrArg some (congrArg D.tup (congrArg (fun l=>[D.arr 1 l,D.int .i64 0]) ?_))
  rw [List.map_map,e0];rfl
end Go.Ab
namespace Go.Ab
open Go Go.Proofs
set_option linter.unusedSimpArgs false
set_option linter.unusedVariables false
set_option maxRecDepth 10000
set_option maxHeartbeats 4000000
variable {T:Nat→Obj→Prop}
structure KM where
 W:Int
 val:List (BitVec 64)
 rel:List (List (BitVec 64))
 deriving DecidableEq
abbrev dKM (m:KM):D := .agg [.int .i64 m.W,dU m.val,dUU m.rel]
abbrev boxKM (m:KM):Ob := .box [.d (.int .i64 m.W),.d (dU m.val),.d (dUU m.rel)]
def kripkeL (p:PM) (succ:Nat→Nat→BitVec 64):KM×Int :=
 if checkL p≠0 then (⟨0,[],[]⟩,checkL p) else (⟨p.W,p.val,(List.range p.cell.length).map fun a=>(List.range p.W.toNat).map fun w=>succ a w⟩,0)
abbrev dKI (x:KM×Int):D := .tup [dKM x.1,.int .i64 x.2]
abbrev dBox (p:PM):D := .box [.int .i64 p.W,dU p.val,dII p.cell,dII p.rank]
end Go.Ab
namespace Go.Ab
open Go Go.Proofs
set_option linter.unusedSimpArgs false
set_option linter.unusedVariables false
set_option maxRecDepth 10000
set_option maxHeartbeats 4000000
variable {T:Nat→Obj→Prop}
theorem allL_bit {n:Int} {i:Nat} (h1:0≤n) (hi:i < 64):(allL n).getLsbD i=decide ((i:Int) < n):=by
 unfold allL
 split
 ·rename_i h
  rw [show ((-1:BitVec 64))=BitVec.allOnes 64 from rfl,BitVec.getLsbD_allOnes]
  simp [hi];omega
 ·rename_i h
  obtain ⟨m,rfl⟩:=Int.eq_ofNat_of_zero_le h1
  have hm:m < 64:=by omega
  rw [show (1#64 <<< (m:Int).toNat - 1#64)=BitVec.setWidth 64 (BitVec.allOnes m) from ?_]
  ·rw [BitVec.getLsbD_setWidth,BitVec.getLsbD_allOnes];simp [hi]
  ·apply BitVec.eq_of_toNat_eq
   have h2:2 ^ m < 2 ^ 64:=Nat.pow_lt_pow_right (by omega) hm
   have h3:0 < 2 ^ m:=Nat.two_pow_pos m
   rw [BitVec.toNat_sub,BitVec.toNat_shiftLeft,BitVec.toNat_setWidth,BitVec.toNat_allOnes]
   simp only [Int.toNat_natCast,Nat.shiftLeft_eq]
   rw [show (1#64).toNat=1 from rfl,Nat.one_mul,Nat.mod_eq_of_lt h2,Nat.mod_eq_of_lt (show 2 ^ m - 1 < 2 ^ 64 by omega)]
   omega
end Go.Ab
namespace Go.Ab
open Go Go.Proofs
set_option linter.unusedSimpArgs false
set_option linter.unusedVariables false
set_option maxRecDepth 10000
set_option maxHeartbeats 4000000
variable {T:Nat→Obj→Prop}
def bitsOf (s:BitVec 64):List Nat:=(List.range 64).filter fun i=>s.getLsbD i
theorem filter_first {p:Nat→Bool} {k:Nat} (hk:p k=true) (hlow : ∀ i,i < k→p i=false) : ∀ n,k < n→(List.range n).filter p=k::(List.range n).filter fun i=>p i&&i != k
 | 0,h=>by omega
 | n+1,h=>by
  rw [List.range_succ,List.filter_append,List.filter_append]
  by_cases e:k=n
  ·subst e
   have h1:(List.range k).filter p=[]:=by
    rw [List.filter_eq_nil_iff];intro i hi;rw [hlow i (List.mem_range.1 hi)];simp
   have h2:((List.range k).filter fun i=>p i&&i != k)=[]:=by
    rw [List.filter_eq_nil_iff];intro i hi;rw [hlow i (List.mem_range.1 hi)];simp
   rw [h1,h2]
   simp [hk]
  ·rw [filter_first hk hlow n (by omega)]
   have:(n != k)=true:=by simp;omega
   have:List.filter (fun i=>p i&&i != k) [n]=List.filter p [n]:=by
    simp only [List.filter,this,Bool.and_true]
   rw [this];rfl
theorem low_bit (s:BitVec 64) (h:s≠0#64):Lib.ctz 64 s.toNat < 64∧s.getLsbD (Lib.ctz 64 s.toNat)=true∧(∀ i,i < Lib.ctz 64 s.toNat→s.getLsbD i=false) ∧
  ∀ i,(s&&&(s - 1#64)).getLsbD i=(s.getLsbD i&&i != Lib.ctz 64 s.toNat):=by
 have h0:s.toNat≠0:=fun e=>h (BitVec.eq_of_toNat_eq (by simpa using e))
 have hc:Lib.ctz 64 s.toNat=Lib.ctzFrom 64 s.toNat:=by rw [Lib.ctz,if_neg h0]
 rw [hc]
 obtain ⟨m,hm,hlt⟩:=Lib.ctzFrom_spec 64 s.toNat (by omega) s.isLt
 generalize Lib.ctzFrom 64 s.toNat=k at hm hlt
 have hp:0 < 2 ^ k:=Nat.two_pow_pos k
 have hs:s.toNat=2 ^ k * (2 * m+1)+0:=hm
 have hbit : ∀ i,s.getLsbD i=if i < k then false else (2 * m+1).testBit (i - k):=fun i=>by
  rw [BitVec.getLsbD,hs,Nat.testBit_two_pow_mul_add _ hp]
  simp
 have hsub:(s - 1#64).toNat=2 ^ k * (2 * m)+(2 ^ k - 1):=by
  rw [BitVec.toNat_sub]
  have hlt':=s.isLt
  rw [hm] at hlt' ⊢
  rw [show (1#64).toNat=1 from rfl,Nat.mul_add,Nat.mul_one]
  rw [Nat.mul_add,Nat.mul_one] at hlt'
  omega
 have hbit' : ∀ i,(s - 1#64).getLsbD i=if i < k then (2 ^ k - 1).testBit i else (2 * m).testBit (i - k):=fun i=>by
  rw [BitVec.getLsbD,hsub,Nat.testBit_two_pow_mul_add _ (by omega)]
 refine ⟨hlt,?_,fun i hi=>?_,fun i=>?_⟩
 ·rw [hbit,if_neg (by omega),Nat.sub_self,Nat.testBit_zero];simp
 ·rw [hbit,if_pos hi]
 ·rw [BitVec.getLsbD_and,hbit,hbit']
  by_cases h1:i < k
  ·simp [h1]
  ·simp only [h1,if_false]
   by_cases h2:i=k
   ·subst h2;simp [Nat.testBit_zero]
   ·obtain ⟨j,hj⟩ : ∃ j,i - k=j+1:=⟨i - k - 1,by omega⟩
    rw [hj,Nat.testBit_succ,Nat.testBit_succ]
    have e1:(2 * m+1) / 2=m:=by omega
    have e2:2 * m / 2=m:=by omega
    rw [e1,e2]
    simp [h2]
theorem bitsOf_step (s:BitVec 64) (h:s≠0#64):bitsOf s=Lib.ctz 64 s.toNat::bitsOf (s&&&(s - 1#64)):=by
 obtain ⟨h1,h2,h3,h4⟩:=low_bit s h
 rw [bitsOf,filter_first h2 h3 64 h1,bitsOf]
 congr 1
 exact List.filter_congr fun i _=>(h4 i).symm
theorem bitsOf_zero:bitsOf 0#64=[]:=by decide
abbrev dBits (s:BitVec 64):List (List D):=(bitsOf s).map fun (i:Nat)=>[D.int .i64 (i:Int)]
def TzOk (T:Nat→Obj→Prop):Prop := ∀ x:BitVec 64,Fn Tryz.prog T f_math_bits_TrailingZeros64 [.d (.u64 x)] [] (.d (.int .i64 (Lib.ctz 64 x.toNat))) []
theorem it_points_1 (hT:TzOk T) (s:BitVec 64):It Tryz.prog T f_relation_points_1 [.ptr 0 0] [.box [.d (.u64 s)]] (dBits s):=by
 refine it_introR hmix k_relation_points_1 rfl (by show 2≤14;decide) fun l=>?_
 (repeat' ((conv=>whnf);refine vT ?_));all_goals try conv=>whnf
 refine loop_mem (fun (s':BitVec 64)=>[(0,.yld l),(1,.ptr 0 0)]) (fun (s':BitVec 64)=>[(0,some (.box [.d (.u64 s')])),(1,some (.todo (some (dBits s'))))]) 2 (fun (s':BitVec 64)=>True) (fun (s':BitVec 64)=>(bitsOf s').length) (s) [(0,0),(1,1)] [] (trivial) (by (refine ⟨rfl,rfl,rfl,?_,?_⟩;repeat' first|exact trivial|exact rfl|refine And.intro ?_ ?_|refine ⟨_,rfl,?_⟩|decide)) ?_
 rintro s' -
 (repeat' ((conv=>whnf);first|refine vA ?_|(refine vD ?_ ?_<;>intro hc)|refine vT ?_|refine yD (hT _) (by (repeat refine ⟨⟨rfl,rfl⟩,?_⟩);rfl) rfl ?_));all_goals try conv=>whnf
 ·have hd:dBits s'=[D.int .i64 (Lib.ctz 64 s'.toNat:Int)]::dBits (s'&&&(s' - 1#64)):=by
   rw [dBits,bitsOf_step s' hc];rfl
  refine ⟨rfl,[.int .i64 (Lib.ctz 64 s'.toNat)],dBits (s'&&&(s' - 1#64)),congrArg (fun l=>some (Ob.todo (some l))) hd,rfl,rfl,rfl,?_,?_⟩
  ·(repeat' ((conv=>whnf);first|refine vE ?_|refine vG ?_|refine vT ?_));all_goals try conv=>whnf
   refine ⟨s'&&&(s' - 1#64),[(0,0),(1,1)],[],trivial,?_,⟨rfl,rfl,rfl,by (repeat' first|exact trivial|exact rfl|refine And.intro ?_ ?_|refine ⟨_,rfl,?_⟩),by (repeat' first|exact trivial|exact rfl|refine And.intro ?_ ?_|refine ⟨_,rfl,?_⟩|decide)⟩⟩
   show (bitsOf (s'&&&(s' - 1#64))).length < (bitsOf s').length
   rw [bitsOf_step s' hc];simp
  ·(repeat' ((conv=>whnf);first|refine vE ?_|refine vH ?_|refine vT ?_));all_goals try conv=>whnf
   right;rfl
 ·left
  have:s'=0#64:=hc
  subst this
  exact congrArg (fun l:List Nat=>some (Ob.todo (some (l.map fun (i:Nat)=>[D.int .i64 (i:Int)])))) bitsOf_zero
def unionOf (r:List (BitVec 64)) (l:List Nat):BitVec 64:=l.foldl (fun o w=>o|||r.getD w 0#64) 0#64
def rb (r:List (BitVec 64)) (w v:Nat):Bool:=(r.getD w 0#64).getLsbD v
theorem rb_of {r:List (BitVec 64)} {w:Nat} {s:BitVec 64} (h:r[w]? = some s) (v:Nat):rb r w v=s.getLsbD v:=by simp [rb,List.getD,h]
theorem rb_out {r:List (BitVec 64)} {w v:Nat} (h:r.length≤w):rb r w v=false:=by simp [rb,List.getD,h]
def Inside (r:List (BitVec 64)):Prop := ∀ w v,rb r w v=true→v < r.length
def revL (r:List (BitVec 64)):List (BitVec 64):=(List.range r.length).map fun v=>setTo (fun w=>rb r w v) r.length
def findL {α:Type} (p:α→Bool) (l:List α):Int:=if l.findIdx p < l.length then (l.findIdx p:Int) else -1
def relCheck (r:List (BitVec 64)):Int:=if 64 < r.length then 2 else if r.any (bad r.length) then 1 else 0
theorem bad_false {n:Int} {s:BitVec 64} (h:0≤n):bad n s=false ↔ ∀ i,s.getLsbD i=true→(i:Int) < n:=by
 rw [bad,decide_eq_false_iff_not,Classical.not_not]
 constructor
 ·intro e i hi
  have hlt:=BitVec.lt_of_getLsbD hi
  have:=congrArg (fun x=>x.getLsbD i) e
  simp only [BitVec.getLsbD_and,BitVec.getLsbD_not,hlt,decide_true,Bool.true_and,hi,allL_bit h hlt] at this
  simpa using this
 ·intro hs
  apply BitVec.eq_of_getLsbD_eq
  intro i hi
  rw [BitVec.getLsbD_and,BitVec.getLsbD_not,allL_bit h hi]
  cases hb:s.getLsbD i with
  | false=>simp
  | true=>have:=hs i hb;simp [hi,this]
theorem relCheck_ok {r:List (BitVec 64)} : relCheck r=0↔r.length≤64∧Inside r:=by
 unfold relCheck
 by_cases h1:64 < r.length
 ·rw [if_pos h1];simp;omega
 ·rw [if_neg h1]
  have:(r.any (bad r.length)=false)↔Inside r:=by
   rw [List.any_eq_false]
   constructor
   ·intro h w v hv
    by_cases hw:w < r.length
    ·have:=(bad_false (n:=(r.length:Int)) (by omega)).1 (by simpa using h r[w] (List.getElem_mem hw)) v (by rw [← rb_of (List.getElem?_eq_getElem hw)];exact hv)
     omega
    ·rw [rb_out (by omega)] at hv;cases hv
   ·intro h s hs
    obtain ⟨w,hw⟩:=List.getElem?_of_mem hs
    rw [(bad_false (n:=(r.length:Int)) (by omega)).2 (fun i hi=>by have:=h w i (by rw [rb_of hw];exact hi);omega)]
    simp
  cases hb:r.any (bad r.length) with
  | true =>
   rw [if_pos rfl]
   have : ¬ Inside r:=fun h=>by have:=this.2 h;rw [hb] at this;cases this
   simp [this]
  | false =>
   simp only [Bool.false_eq_true,if_false,true_iff]
   exact ⟨by omega,this.1 hb⟩
theorem revL_bit {r:List (BitVec 64)} (hl:r.length≤64) {v w:Nat} : rb (revL r) v w=(decide (v < r.length)&&decide (w < r.length)&&rb r w v):=by
 by_cases hv:v < r.length
 ·have:(revL r)[v]? = some (setTo (fun w=>rb r w v) r.length):=by simp [revL,hv]
  rw [rb_of this,setTo_bit]
  by_cases hw:w < r.length
  ·simp [hv,hw,show w < 64 by omega]
  ·simp [hw]
 ·rw [rb_out (by simp [revL];omega)];simp [hv]
theorem rel_ext {r s:List (BitVec 64)} (hl:r.length=s.length) (h : ∀ w v,w < r.length→rb r w v=rb s w v):r=s:=by
 refine List.ext_getElem hl fun w h1 h2=>?_
 apply BitVec.eq_of_getLsbD_eq
 intro i _
 have:=h w i h1
 rwa [rb_of (List.getElem?_eq_getElem h1),rb_of (List.getElem?_eq_getElem h2)] at this
def HasP (r:List (BitVec 64)) (p:Int):Prop:=relCheck r=0 ∧
 ((p=1 ∧ ∀ w,w < r.length → ∃ v,rb r w v=true)∨(p=2 ∧ ∀ w,w < r.length→rb r w w=true)∨(p=3 ∧ ∀ w v,rb r w v=true→rb r v w=true) ∨
  (p=4 ∧ ∀ w u v,rb r w u=true→rb r u v=true→rb r w v=true)∨(p=5 ∧ ∀ w u v,rb r w u=true→rb r w v=true→rb r u v=true))
noncomputable def hasB (r:List (BitVec 64)) (p:Int):Bool := @decide (HasP r p) (Classical.propDecidable _)
theorem zero_iff {s:BitVec 64} : s=0#64 ↔ ∀ i,s.getLsbD i=false:=by
 constructor
 ·rintro rfl i;simp
 ·intro h;apply BitVec.eq_of_getLsbD_eq;intro i _;rw [h i];simp
end Go.Ab
namespace Go.Ab
open Go Go.Proofs
set_option linter.unusedSimpArgs false
set_option linter.unusedVariables false
set_option maxRecDepth 10000
set_option maxHeartbeats 4000000
variable {T:Nat→Obj→Prop}
theorem CallS.objs {P:Program} {M:Nat→Option Ob} {n f:Nat} {vs lvs:List V} {obs:List Ob} {lv:V} {obs':List (Option Ob)} {K:V→Upd→Nat→Prop} (js:List Nat) (hf:Fn P T f lvs obs lv obs') (ha:VPasses M js [] 20 lvs vs)
  (ho:ObPasses M js [] obs js) (hnd:nodup js=true) (hsj:subl js (valReach M vs)=true) (hle:js.length≤obs'.length)
  (hK:K (renV js n 20 lv) (callU js [] n obs' false) (obs'.length - js.length)):CallS (CallC P T) M n f vs K :=
 ⟨⟨_,_,_,⟨js,[],false,lvs,obs,lv,obs',hf,ha,ho,hnd,by simp [disj],hsj,by simp [subl],hle,nofun,rfl,rfl,rfl⟩,hK⟩⟩
section
variable {α:Type} [Inhabited α]
theorem arr_get {d:Array α} {i:Nat} (h:i < d.size):d.toList[i]? = some d[i]! := by
 simp [h]
theorem arr_eq {d:Array α} {i:Nat} {x:α} (h:d.toList[i]? = some x):d[i]! = x∧i < d.size:=by
 obtain ⟨h1,h2⟩:=List.getElem?_eq_some_iff.1 h
 rw [Array.length_toList] at h1
 exact ⟨by simp [h1];simpa using h2,h1⟩
theorem arr_at {d:Array α} {i:Int} {x:α} (k:Nat) (h:d.toList[i.toNat]? = some x) (hk:i=k):d.toList[k]? = some x:=by subst hk;exact h
theorem swp_size (d:Array α) (i j:Nat):(Sort.swp d i j).size=d.size:=by simp [Sort.swp]
variable {lt:α→α→Bool}
theorem insInner_size {a:Nat} : ∀ {j:Nat} {d:Array α},(Sort.insInner lt a j d).size=d.size
 | 0,d=>rfl
 | j+1,d=>by
  unfold Sort.insInner
  split
  ·rw [insInner_size,swp_size]
  ·rfl
theorem insOuter_stop {a b i:Nat} {d:Array α} (h : ¬i < b):Sort.insOuter lt a b i d=d:=by rw [Sort.insOuter,if_neg h]
theorem insOuter_step {a b i:Nat} {d:Array α} (h:i < b):Sort.insOuter lt a b i d=Sort.insOuter lt a b (i+1) (Sort.insInner lt a i d):=by rw [Sort.insOuter.eq_def lt a b i,if_pos h]
theorem sift_stop {hi first root:Nat} {d:Array α} (h:2 * root+1 ≥ hi):Sort.siftDown lt hi first root d=d:=by rw [Sort.siftDown,dif_pos h]
def childOf (lt:α→α→Bool) (hi first root:Nat) (d:Array α):Nat:=if 2 * root+1+1 < hi∧lt d[first+(2 * root+1)]! d[first+(2 * root+1)+1]! = true then 2 * root+2 else 2 * root+1
theorem sift_eq {hi first root:Nat} {d:Array α} (h : ¬2 * root+1 ≥ hi):Sort.siftDown lt hi first root d =
  if lt d[first+root]! d[first+childOf lt hi first root d]! = true then Sort.siftDown lt hi first (childOf lt hi first root d) (Sort.swp d (first+root) (first+childOf lt hi first root d)) else d:=by
 rw [Sort.siftDown,dif_neg h,childOf]
 by_cases h1:2 * root+1+1 < hi∧lt d[first+(2 * root+1)]! d[first+(2 * root+1)+1]! = true
 ·rw [if_pos (by simpa using h1),if_pos h1]
  cases hb:lt d[first+root]! d[first+(2 * root+2)]! with
  | false=>simp
  | true=>simp only [Bool.not_true,Bool.false_eq_true,if_false,if_true];rw [dif_pos (by omega)]
 ·rw [if_neg (by simpa using h1),if_neg h1]
  cases hb:lt d[first+root]! d[first+(2 * root+1)]! with
  | false=>simp
  | true=>simp
theorem sift_size {hi first:Nat} : ∀ (n root:Nat) (d:Array α),hi - root≤n→(Sort.siftDown lt hi first root d).size=d.size
 | 0,root,d,h=>by rw [sift_stop (by omega)]
 | n+1,root,d,h=>by
  by_cases h1:2 * root+1 ≥ hi
  ·rw [sift_stop h1]
  ·rw [sift_eq h1]
   split
   ·have:root < childOf lt hi first root d:=by unfold childOf;split<;>omega
    rw [sift_size n _ _ (by omega),swp_size]
   ·rfl
theorem siftDown_size {hi first root:Nat} {d:Array α} : (Sort.siftDown lt hi first root d).size=d.size:=sift_size _ _ _ (Nat.le_refl _)
theorem build_size {hi first:Nat} : ∀ {k:Nat} {d:Array α},(Sort.heapBuild lt hi first k d).size=d.size
 | 0,d=>rfl
 | k+1,d=>by rw [Sort.heapBuild,build_size,siftDown_size]
end
end Go.Ab
namespace Go.Ab
open Go
set_option linter.unusedVariables false
def lowE (e:Nat→Nat→Bool) (w:Nat):Nat:=((List.range w).find? fun v=>e v w).getD w
theorem lw_spec (e:Nat→Nat→Bool) (w:Nat):(lowE e w < w∧e (lowE e w) w=true∨lowE e w=w) ∧ ∀ v,v < lowE e w→e v w=false:=by
 unfold lowE
 cases h:(List.range w).find? fun v=>e v w with
 | none =>
  refine ⟨.inr rfl,fun v hv=>?_⟩
  have:=List.find?_eq_none.1 h v (List.mem_range.2 hv)
  simpa using this
 | some u =>
  obtain ⟨h1,l1,l2,h2,h3⟩:=List.find?_eq_some_iff_append.1 h
  have hu:u∈List.range w:=by rw [h2];simp
  have hlen:l1.length=u:=by
   have h4:(List.range w)[l1.length]? = some u:=by rw [h2];simp
   rw [List.getElem?_range (by
    have:l1.length < (List.range w).length:=by rw [h2];simp
    simpa using this)] at h4
   exact Option.some.inj h4
  refine ⟨.inl ⟨List.mem_range.1 hu,h1⟩,fun v hv=>?_⟩
  have hv:v < u:=hv
  have hm:v∈l1:=by
   have h4:(List.range w)[v]? = some v:=List.getElem?_range (by have:=List.mem_range.1 hu;omega)
   rw [h2,List.getElem?_append_left (by omega)] at h4
   exact List.mem_of_getElem? h4
  simpa using h3 v hm
theorem lw_le (e:Nat→Nat→Bool) (w:Nat):lowE e w≤w:=by
 rcases (lw_spec e w).1 with h|h<;>omega
theorem lw_min {e:Nat→Nat→Bool} {w v:Nat} (h:v < lowE e w):e v w=false:=(lw_spec e w).2 v h
structure Eqv (e:Nat→Nat→Bool):Prop where
 refl : ∀ v,e v v=true
 symm : ∀ v w,e v w=true→e w v=true
 trans : ∀ u v w,e u v=true→e v w=true→e u w=true
section
variable {e:Nat→Nat→Bool} (he:Eqv e)
include he
theorem lw_e (w:Nat):e (lowE e w) w=true:=by
 rcases (lw_spec e w).1 with h|h
 ·exact h.2
 ·rw [h];exact he.refl w
theorem lw_iff {v w:Nat} : lowE e v=lowE e w↔e v w=true:=by
 constructor
 ·intro h
  have h1:=lw_e he v
  rw [h] at h1
  exact he.trans _ _ _ (he.symm _ _ h1) (lw_e he w)
 ·intro h
  have a : ∀ {v w},e v w=true→lowE e w≤lowE e v:=by
   intro v w h
   rcases Nat.lt_or_ge (lowE e v) (lowE e w) with hl|hl
   ·have:=lw_min hl
    rw [he.trans _ _ _ (lw_e he v) h] at this;cases this
   ·exact hl
  have:=a h;have:=a (he.symm _ _ h);omega
theorem lw_lw (w:Nat):lowE e (lowE e w)=lowE e w:=(lw_iff he).2 (lw_e he w)
end
theorem lw_congr {e e':Nat→Nat→Bool} {w:Nat} (h : ∀ v,v≤w→e v w=e' v w):lowE e w=lowE e' w:=by
 have a : ∀ {e e':Nat→Nat→Bool},(∀ v,v≤w→e v w=e' v w)→lowE e w≤lowE e' w:=by
  intro e e' h
  rcases Nat.lt_or_ge (lowE e' w) (lowE e w) with hl|hl
  ·have h1:=lw_min hl
   have hle:=lw_le e w
   rcases (lw_spec e' w).1 with h2|h2
   ·rw [h _ (by omega),h2.2] at h1;cases h1
   ·omega
  ·exact hl
 have:=a h;have:=a fun v hv=>(h v hv).symm;omega
structure Cano (n:Nat) (q:Nat→Nat):Prop where
 le : ∀ w,w < n→q w≤w
 idem : ∀ w,w < n→q (q w)=q w
theorem lw_canon {e:Nat→Nat→Bool} (he:Eqv e) (n:Nat):Cano n (lowE e):=⟨fun w _=>lw_le e w,fun w _=>lw_lw he w⟩
def keyE {α:Type} [DecidableEq α] (k:Nat→α) (v w:Nat):Bool:=decide (k v=k w)
theorem keyE_eqv {α:Type} [DecidableEq α] (k:Nat→α):Eqv (keyE k) :=
 ⟨fun v=>by simp [keyE],fun v w h=>by simp only [keyE,decide_eq_true_eq] at h ⊢;exact h.symm,fun u v w h h'=>by simp only [keyE,decide_eq_true_eq] at h h' ⊢;exact h.trans h'⟩
theorem canon_lw {n:Nat} {q:Nat→Nat} (h:Cano n q) {w:Nat} (hw:w < n):lowE (keyE q) w=q w:=by
 have h1:=h.le w hw
 have h2:=h.idem w hw
 have h3:lowE (keyE q) w≤q w:=by
  rcases Nat.lt_or_ge (q w) (lowE (keyE q) w) with hl|hl
  ·have:=lw_min hl
   simp [keyE,h2] at this
  ·exact hl
 have h4:=lw_e (keyE_eqv q) w
 simp only [keyE,decide_eq_true_eq] at h4
 have h5:=h.le (lowE (keyE q) w) (by omega)
 omega
def blkK (q:Nat→Nat) (s:BitVec 64) (k:Nat):BitVec 64:=(List.range k).foldl (fun o w=>if s.getLsbD w=true then o|||1#64 <<< q w else o) 0#64
theorem blkK_succ (q:Nat→Nat) (s:BitVec 64) (k:Nat):blkK q s (k+1)=if s.getLsbD k=true then blkK q s k|||1#64 <<< q k else blkK q s k:=by
 unfold blkK;rw [List.range_succ,List.foldl_append];rfl
def sameB (n:Nat) (rels:List (Nat→BitVec 64)) (q:Nat→Nat) (v w:Nat):Bool:=decide (q v=q w)&&rels.all fun r=>decide (blkK q (r v) n=blkK q (r w) n)
theorem sameB_eqv (n:Nat) (rels:List (Nat→BitVec 64)) (q:Nat→Nat):Eqv (sameB n rels q):=by
 refine ⟨fun v=>by simp [sameB],fun v w h=>?_,fun u v w h h'=>?_⟩
 ·simp only [sameB,Bool.and_eq_true,decide_eq_true_eq,List.all_eq_true] at h ⊢
  exact ⟨h.1.symm,fun r hr=>(h.2 r hr).symm⟩
 ·simp only [sameB,Bool.and_eq_true,decide_eq_true_eq,List.all_eq_true] at h h' ⊢
  exact ⟨h.1.trans h'.1,fun r hr=>(h.2 r hr).trans (h'.2 r hr)⟩
def stepB (n:Nat) (rels:List (Nat→BitVec 64)) (q:Nat→Nat):Nat→Nat:=lowE (sameB n rels q)
theorem stepB_canon (n:Nat) (rels:List (Nat→BitVec 64)) (q:Nat→Nat) (m:Nat):Cano m (stepB n rels q):=lw_canon (sameB_eqv n rels q) m
theorem blkK_congr {q q':Nat→Nat} {s:BitVec 64} {n:Nat} (h : ∀ w,w < n→q w=q' w) : ∀ k,k≤n→blkK q s k=blkK q' s k
 | 0,_=>rfl
 | k+1,hk=>by rw [blkK_succ,blkK_succ,blkK_congr h k (by omega),h k (by omega)]
theorem stepB_congr {n:Nat} {rels:List (Nat→BitVec 64)} {q q':Nat→Nat} (h : ∀ w,w < n→q w=q' w) {w:Nat} (hw:w < n):stepB n rels q w=stepB n rels q' w:=by
 refine lw_congr fun v hv=>?_
 unfold sameB
 rw [h v (by omega),h w hw]
 congr 1
 refine congrArg (fun f=>rels.all f) (funext fun r=>?_)
 rw [blkK_congr h n (Nat.le_refl _),blkK_congr h n (Nat.le_refl _)]
section
variable {n:Nat} {rels:List (Nat→BitVec 64)} {q:Nat→Nat} (hq:Cano n q)
include hq
theorem stepB_q {w:Nat} (hw:w < n):q (stepB n rels q w)=q w:=by
 have:=lw_e (sameB_eqv n rels q) w
 simp only [sameB,Bool.and_eq_true,decide_eq_true_eq] at this
 exact this.1
theorem stepB_rep {w:Nat} (hw:w < n) (h:q w=w):stepB n rels q w=w:=by
 have h1:=lw_le (sameB n rels q) w
 have h2:=stepB_q (rels:=rels) hq hw
 have h3:=hq.le (stepB n rels q w) (by unfold stepB;omega)
 unfold stepB at *;omega
theorem stepB_same (h : ∀ w,w < n→stepB n rels q w=w→q w=w) {w:Nat} (hw:w < n):stepB n rels q w=q w:=by
 have hc:=stepB_canon n rels q n
 have h1:=h (stepB n rels q w) (by have:=hc.le w hw;omega) (hc.idem w hw)
 rw [← h1,stepB_q hq hw]
end
def cntB (n:Nat) (q:Nat→Nat):Nat:=((List.range n).filter fun w=>decide (q w=w)).length
theorem filter_lt {p p':Nat→Bool} (hi : ∀ w,p w=true→p' w=true) : ∀ l:List Nat,(l.filter p).length≤(l.filter p').length∧((∃ w∈l,p w=false∧p' w=true)→(l.filter p).length < (l.filter p').length)
 | []=>⟨Nat.le_refl _,fun ⟨w,h,_⟩=>by cases h⟩
 | x::l=>by
  obtain ⟨h1,h2⟩:=filter_lt hi l
  cases hp:p x with
  | true =>
   rw [List.filter_cons_of_pos hp,List.filter_cons_of_pos (hi x hp)]
   refine ⟨by simpa using h1,fun ⟨w,hw,h3,h4⟩=>?_⟩
   rcases List.mem_cons.1 hw with rfl|hw
   ·rw [hp] at h3;cases h3
   ·have:=h2 ⟨w,hw,h3,h4⟩;simpa using this
  | false =>
   rw [List.filter_cons_of_neg (by simp [hp])]
   cases hp':p' x with
   | true =>
    rw [List.filter_cons_of_pos hp',List.length_cons]
    exact ⟨by omega,fun _=>by omega⟩
   | false =>
    rw [List.filter_cons_of_neg (by simp [hp'])]
    refine ⟨h1,fun ⟨w,hw,h3,h4⟩=>?_⟩
    rcases List.mem_cons.1 hw with rfl|hw
    ·rw [hp'] at h4;cases h4
    ·exact h2 ⟨w,hw,h3,h4⟩
theorem cntB_le (n:Nat) (q:Nat→Nat):cntB n q≤n:=by
 unfold cntB
 have:=List.length_filter_le (fun w=>decide (q w=w)) (List.range n)
 simpa using this
theorem cntB_lt {n:Nat} {rels:List (Nat→BitVec 64)} {q:Nat→Nat} (hq:Cano n q) (h : ∃ w,w < n∧stepB n rels q w≠q w):cntB n q < cntB n (stepB n rels q):=by
 unfold cntB
 have e1:(List.range n).filter (fun w=>decide (q w=w))=(List.range n).filter fun w=>decide (w < n∧q w=w):=by
  refine List.filter_congr fun w hw=>?_
  have:=List.mem_range.1 hw
  simp [this]
 have e2:(List.range n).filter (fun w=>decide (stepB n rels q w=w))=(List.range n).filter fun w=>decide (w < n∧stepB n rels q w=w):=by
  refine List.filter_congr fun w hw=>?_
  have:=List.mem_range.1 hw
  simp [this]
 rw [e1,e2]
 refine (filter_lt (fun w hw=>?_) _).2 ?_
 ·simp only [decide_eq_true_eq] at hw ⊢
  exact ⟨hw.1,stepB_rep hq hw.1 hw.2⟩
 ·obtain ⟨w,hw,hne⟩:=h
  by_cases hall : ∀ w,w < n→stepB n rels q w=w→q w=w
  ·exact absurd (stepB_same hq hall hw) hne
  ·simp only [Classical.not_forall] at hall
   obtain ⟨u,hu,h1,h2⟩:=hall
   exact ⟨u,List.mem_range.2 hu,by simp [h2],by simp [hu,h1]⟩
def iterB (n:Nat) (rels:List (Nat→BitVec 64)) (q0:Nat→Nat):Nat→Nat→Nat
 | 0=>q0
 | k+1=>stepB n rels (iterB n rels q0 k)
section
variable {n:Nat} {rels:List (Nat→BitVec 64)} {q0:Nat→Nat} (hq:Cano n q0)
include hq
theorem iterB_canon : ∀ k,Cano n (iterB n rels q0 k)
 | 0=>hq
 | k+1=>stepB_canon _ _ _ _
theorem iterB_stay {k:Nat} (h : ∀ w,w < n→iterB n rels q0 (k+1) w=iterB n rels q0 k w) : ∀ j,k≤j → ∀ w,w < n→iterB n rels q0 j w=iterB n rels q0 k w:=by
 intro j hj
 induction j with
 | zero=>intro w hw;rw [show k=0 by omega]
 | succ j ih =>
  intro w hw
  by_cases e:k=j+1
  ·rw [e]
  ·have ih:=ih (by omega)
   rw [← h w hw]
   exact stepB_congr ih hw
theorem iterB_grow {k:Nat} (h : ∀ j,j < k → ∃ w,w < n∧iterB n rels q0 (j+1) w≠iterB n rels q0 j w) : ∀ j,j≤k→cntB n q0+j≤cntB n (iterB n rels q0 j)
 | 0,_=>Nat.le_refl _
 | j+1,hj=>by
  have h1:=iterB_grow h j (by omega)
  have h2:=cntB_lt (iterB_canon hq j) (h j (by omega))
  show cntB n q0+(j+1)≤cntB n (stepB n rels (iterB n rels q0 j))
  omega
theorem iterB_end {j:Nat} (hn:0 < n) (hj:n≤j) {w:Nat} (hw:w < n):iterB n rels q0 j w=iterB n rels q0 n w:=by
 by_cases hall : ∀ i,i < n → ∃ w,w < n∧iterB n rels q0 (i+1) w≠iterB n rels q0 i w
 ·have h1:=iterB_grow hq hall n (Nat.le_refl _)
  have h2:=cntB_le n (iterB n rels q0 n)
  have h3:0 < cntB n q0:=by
   unfold cntB
   have h0:q0 0=0:=by have:=hq.le 0 hn;omega
   exact List.length_pos_of_mem (List.mem_filter.2 ⟨List.mem_range.2 hn,by simp [h0]⟩)
  omega
 ·simp only [Classical.not_forall] at hall
  obtain ⟨i,hi,hs⟩:=hall
  have hst : ∀ w,w < n→iterB n rels q0 (i+1) w=iterB n rels q0 i w:=fun w hw=>by
   by_cases e:iterB n rels q0 (i+1) w=iterB n rels q0 i w
   ·exact e
   ·exact absurd ⟨w,hw,e⟩ hs
  rw [iterB_stay hq hst j (by omega) w hw,iterB_stay hq hst n (by omega) w hw]
end
end Go.Ab
namespace Go.Ab
open Go Go.Proofs
set_option linter.unusedSimpArgs false
set_option linter.unusedVariables false
set_option maxRecDepth 10000
set_option maxHeartbeats 4000000
variable {T:Nat→Obj→Prop}
def ptL (n:Nat) (q:Nat→Nat):List Int:=(List.range n).map fun w=>((q w:Nat):Int)
theorem ptL_at {n:Nat} {q:Nat→Nat} {w:Nat} (hw:w < n):(ptL n q)[w]? = some ((q w:Nat):Int):=by simp [ptL,hw]
theorem ptL_len {n:Nat} {q:Nat→Nat} : (ptL n q).length=n:=by simp [ptL]
theorem ptL_congr {n:Nat} {q q':Nat→Nat} (h : ∀ w,w < n→q w=q' w):ptL n q=ptL n q':=List.map_congr_left fun w hw=>by rw [h w (List.mem_range.1 hw)]
theorem ptL_inj {n:Nat} {q q':Nat→Nat} (h:ptL n q=ptL n q') {w:Nat} (hw:w < n):q w=q' w:=by
 have:=ptL_at (q:=q) hw
 rw [h,ptL_at hw] at this
 have:=Option.some.inj this
 omega
theorem fn_pCheck {n:Nat} {q:Nat→Nat} (hq:Cano n q) (hn:n≤64):Fn Tryz.prog T f_partition_Check [.d (dI (ptL n q))] [] (.d (.int .i64 0)) []:=by
 have hl:(ptL n q).length=n:=ptL_len
 refine fn_dataR hmix k_partition_Check (by show 1≤31;decide) ?_
 (repeat' ((conv=>whnf);first|refine vA ?_|refine vB fun b hb=>?_|refine vC (fun hl=>?_) fun i kv vv hi=>?_|refine vE ?_|refine vG ?_|refine vH ?_|((first|refine vD ?_ ?_|refine vF ?_ ?_|refine vI ?_ ?_)<;>intro hc<;>try simp only [vL] at hc)|refine vJ fun hg=>?_|refine vK fun hg=>?_|refine vT ?_|refine vN ‹_› ?_|(refine vQ ?_ fun x hx=>?_;·first|omega|(simp only [vM] at *;omega))|((first|refine vO ?_ ?_|refine vR ?_ ‹_› ?_|refine vS ?_ fun x hx=>?_|refine vP ?_ ?_);·first|omega|(simp only [vM] at *;omega))|refine vW ⟨by omega,by omega⟩ ?_|(refine vU ?_ ?_;·kernel_rfl)|refine vX ?_|refine vY ?_|refine vZ ?_|refine FindS.mk _ ‹_› ?_|refine vP (show (_:BitVec 64)≠_ by decide) ?_));all_goals try conv=>whnf
 ·omega
 ·refine loop_intro (fun (k:Nat)=>[(0,.d (dI (ptL n q))),(8,.d (dI (ptL n q))),(9,.d (.int .i64 (((ptL n q).map (D.int .i64)).length:Int))),(10,.d (.int .i64 ((k:Int))))]) (fun (k:Nat)=>k≤n) (fun (k:Nat)=>n - k) (0) (by simp) (by (repeat' first|exact trivial|exact rfl|exact ⟨_,rfl⟩|exact .inl rfl|exact .inr (.inl ⟨rfl,rfl⟩)|exact .inr (.inr ⟨rfl,rfl⟩)|refine And.intro ?_ ?_|refine ⟨_,rfl,?_⟩|decide|exact of_decide_eq_true rfl)) ?_
  rintro k hk
  by_cases hkl:k < n
  ·have e1:(ptL n q)[k]? = some ((q k:Nat):Int):=ptL_at hkl
   have b1:=hq.le k hkl
   have e2:(ptL n q)[q k]? = some ((q k:Nat):Int):=by rw [ptL_at (by omega),hq.idem k hkl]
   (repeat' ((conv=>whnf);first|refine vA ?_|refine vB fun b hb=>?_|refine vC (fun hl=>?_) fun i kv vv hi=>?_|refine vE ?_|refine vG ?_|refine vH ?_|((first|refine vD ?_ ?_|refine vF ?_ ?_|refine vI ?_ ?_)<;>intro hc<;>try simp only [vL] at hc)|refine vJ fun hg=>?_|refine vK fun hg=>?_|refine vT ?_|refine vN ‹_› ?_|(refine vQ ?_ fun x hx=>?_;·first|omega|(simp only [vM] at *;omega))|((first|refine vO ?_ ?_|refine vR ?_ ‹_› ?_|refine vS ?_ fun x hx=>?_|refine vP ?_ ?_);·first|omega|(simp only [vM] at *;omega))|refine vW ⟨by omega,by omega⟩ ?_|(refine vU ?_ ?_;·kernel_rfl)|refine vX ?_|refine vY ?_|refine vZ ?_|refine FindS.mk _ ‹_› ?_|refine vP (show (_:BitVec 64)≠_ by decide) ?_));all_goals try conv=>whnf
   all_goals try omega
   exact ⟨k+1,[],[],by (first|omega|(simp only [vM] at *;omega)),by (first|omega|(simp only [vM] at *;omega)),by (refine ⟨rfl,rfl,rfl,?_,?_⟩;repeat' first|exact trivial|exact rfl|exact ⟨_,rfl⟩|exact .inl rfl|exact .inr (.inl ⟨rfl,rfl⟩)|exact .inr (.inr ⟨rfl,rfl⟩)|refine And.intro ?_ ?_|refine ⟨_,rfl,?_⟩|decide|exact of_decide_eq_true rfl)⟩
  ·(repeat' ((conv=>whnf);first|refine vA ?_|refine vB fun b hb=>?_|refine vC (fun hl=>?_) fun i kv vv hi=>?_|refine vE ?_|refine vG ?_|refine vH ?_|((first|refine vD ?_ ?_|refine vF ?_ ?_|refine vI ?_ ?_)<;>intro hc<;>try simp only [vL] at hc)|refine vJ fun hg=>?_|refine vK fun hg=>?_|refine vT ?_|refine vN ‹_› ?_|(refine vQ ?_ fun x hx=>?_;·first|omega|(simp only [vM] at *;omega))|((first|refine vO ?_ ?_|refine vR ?_ ‹_› ?_|refine vS ?_ fun x hx=>?_|refine vP ?_ ?_);·first|omega|(simp only [vM] at *;omega))|refine vW ⟨by omega,by omega⟩ ?_|(refine vU ?_ ?_;·kernel_rfl)|refine vX ?_|refine vY ?_|refine vZ ?_|refine FindS.mk _ ‹_› ?_|refine vP (show (_:BitVec 64)≠_ by decide) ?_));all_goals try conv=>whnf
   all_goals omega
def pairE (a b:List Int) (v w:Nat):Bool:=decide (at0 a v=at0 a w∧at0 b v=at0 b w)
abbrev pkD (x y:Int):D := .agg [.int .i64 x,.int .i64 y]
def firstAt (a b:List Int) (k:Nat) (x y:Int):Option Nat:=(List.range k).find? fun j=>decide (at0 a j=x∧at0 b j=y)
def FirstM (a b:List Int) (k:Nat) (es:List (D×D)):Prop := ∀ x y,findD es (pkD x y)=some ((firstAt a b k x y).map fun (j:Nat)=>D.int .i64 (j:Int))
theorem findD_append (k:D) (l:List (D×D)) : ∀ es:List (D×D),findD es k=some none→findD (es++l) k=findD l k
 | [],_=>rfl
 | (a,v)::r,h=>by
  simp only [findD] at h
  show findD ((a,v)::(r++l)) k=_
  simp only [findD]
  split at h
  ·cases h
  ·exact findD_append k l r h
  ·cases h
theorem findD_found (k:D) (l:List (D×D)) : ∀ (es:List (D×D)) (x:D),findD es k=some (some x)→findD (es++l) k=some (some x)
 | [],_,h=>by cases h
 | (a,v)::r,x,h=>by
  simp only [findD] at h
  show findD ((a,v)::(r++l)) k=_
  simp only [findD]
  split at h
  ·exact h
  ·exact findD_found k l r x h
  ·cases h
theorem pk_eqk (x y x' y':Int):D.eqk (pkD x y) (pkD x' y')=some (decide (x=x')&&(decide (y=y')&&true)):=rfl
theorem firstAt_succ (a b:List Int) (k:Nat) (x y:Int):firstAt a b (k+1) x y=match firstAt a b k x y with
  | some j=>some j
  | none=>if at0 a k=x∧at0 b k=y then some k else none:=by
 unfold firstAt
 rw [List.range_succ,List.find?_append]
 cases h:(List.range k).find? fun j=>decide (at0 a j=x∧at0 b j=y) with
 | some j=>rfl
 | none =>
  show (none:Option Nat).or _=_
  rw [Option.none_or]
  simp only [List.find?]
  by_cases e:at0 a k=x∧at0 b k=y
  ·rw [if_pos e,decide_eq_true e]
  ·rw [if_neg e,decide_eq_false e]
theorem firstM_same {a b:List Int} {k j:Nat} {es:List (D×D)} (h:FirstM a b k es) (hf:firstAt a b k (at0 a k) (at0 b k)=some j):FirstM a b (k+1) es:=by
 intro x y
 rw [h x y,firstAt_succ]
 cases e:firstAt a b k x y with
 | some i=>rfl
 | none =>
  show _=some (Option.map _ (if at0 a k=x∧at0 b k=y then some k else none))
  rw [if_neg]
  rintro ⟨rfl,rfl⟩;rw [hf] at e;cases e
theorem firstM_new {a b:List Int} {k:Nat} {es:List (D×D)} (h:FirstM a b k es) (hf:firstAt a b k (at0 a k) (at0 b k)=none):FirstM a b (k+1) (es++[(pkD (at0 a k) (at0 b k),.int .i64 (k:Int))]):=by
 intro x y
 rw [firstAt_succ]
 cases e:firstAt a b k x y with
 | some i=>exact findD_found _ _ _ _ (by rw [h x y,e];rfl)
 | none =>
  rw [findD_append _ _ _ (by rw [h x y,e];rfl)]
  show _=some (Option.map _ (if at0 a k=x∧at0 b k=y then some k else none))
  simp only [findD,pk_eqk]
  by_cases e1:at0 a k=x∧at0 b k=y
  ·obtain ⟨rfl,rfl⟩:=e1
   simp
  ·rw [if_neg e1]
   by_cases e2:x=at0 a k
   ·have e3 : ¬ y=at0 b k:=fun e3=>e1 ⟨e2.symm,e3.symm⟩
    simp [e2,e3]
   ·simp [e2]
theorem lowE_pair (a b:List Int) (k:Nat):lowE (pairE a b) k=(firstAt a b k (at0 a k) (at0 b k)).getD k:=rfl
theorem set_low {e:Nat→Nat→Bool} {n k j:Nat} (h:lowE e k=j):(((List.range n).map fun i=>D.int .i64 (if i < k then (lowE e i:Int) else 0)).set k (D.int .i64 (j:Int)))=(List.range n).map fun i=>D.int .i64 (if i < k+1 then (lowE e i:Int) else 0):=by
 refine (set_range _).trans (map_range_congr fun u hu=>?_)
 by_cases e1:u=k
 ·subst e1;rw [if_pos rfl,if_pos (by omega),h]
 ·rw [if_neg e1]
  by_cases e2:u < k
  ·rw [if_pos e2,if_pos (by omega)]
  ·rw [if_neg e2,if_neg (by omega)]
theorem fn_divide (a b:List Int) (hl:b.length=a.length) (hn:a.length≤64):Fn Tryz.prog T f_partition_divide [.d (dI a),.d (dI b)] [] (.d (dI (ptL a.length (lowE (pairE a b))))) []:=by
 refine fn_dataR hmix k_partition_divide (by show 2≤48;decide) ?_
 (repeat' ((conv=>whnf);first|refine vA ?_|refine vB fun b hb=>?_|refine vC (fun hl=>?_) fun i kv vv hi=>?_|refine vE ?_|refine vG ?_|refine vH ?_|((first|refine vD ?_ ?_|refine vF ?_ ?_|refine vI ?_ ?_)<;>intro hc<;>try simp only [vL] at hc)|refine vJ fun hg=>?_|refine vK fun hg=>?_|refine vT ?_|refine vN ‹_› ?_|(refine vQ ?_ fun x hx=>?_;·first|omega|(simp only [vM] at *;omega))|((first|refine vO ?_ ?_|refine vR ?_ ‹_› ?_|refine vS ?_ fun x hx=>?_|refine vP ?_ ?_);·first|omega|(simp only [vM] at *;omega))|refine vW ⟨by omega,by omega⟩ ?_|(refine vU ?_ ?_;·kernel_rfl)|refine vX ?_|refine vY ?_|refine vZ ?_|refine FindS.mk _ ‹_› ?_|refine vP (show (_:BitVec 64)≠_ by decide) ?_));all_goals try conv=>whnf
 refine loop_mem (fun ((k,es,zs):Nat×List (D×D)×List D)=>[(0,.d (dI a)),(1,.d (dI b)),(5,.map 0),(6,.own 1),(16,.d (.int .i64 ((a.map (D.int .i64)).length:Int))),(17,.d (.int .i64 ((k:Int))))]) (fun ((k,es,zs):Nat×List (D×D)×List D)=>[(0,some (.map es)),(1,some (.row 1 zs))]) 2 (fun ((k,es,zs):Nat×List (D×D)×List D)=>k≤a.length∧FirstM a b k es∧zs=(List.range a.length).map fun i=>D.int .i64 (if i < k then (lowE (pairE a b) i:Int) else 0)) (fun ((k,es,zs):Nat×List (D×D)×List D)=>a.length - k) ((0,[],List.replicate (((a.map (D.int .i64)).length:Int)).toNat (D.int .i64 0))) [(0,0),(1,1)] [] (⟨by simp,fun x y=>by simp [findD,firstAt],by simp only [Nat.not_lt_zero,if_false];rw [List.length_map,Int.toNat_natCast];exact replicate_range _ _⟩) (by (refine ⟨rfl,rfl,rfl,?_,?_⟩;repeat' first|exact trivial|exact rfl|exact ⟨_,rfl⟩|exact .inl rfl|exact .inr (.inl ⟨rfl,rfl⟩)|exact .inr (.inr ⟨rfl,rfl⟩)|refine And.intro ?_ ?_|refine ⟨_,rfl,?_⟩|decide|exact of_decide_eq_true rfl)) ?_
 rintro ⟨k,es,zs⟩ ⟨hk,hM,rfl⟩
 by_cases hkl:k < a.length
 ·obtain ⟨x,e1⟩ : ∃ x,a[k]? = some x:=⟨_,List.getElem?_eq_getElem hkl⟩
  obtain ⟨y,e2⟩ : ∃ y,b[k]? = some y:=⟨_,List.getElem?_eq_getElem (by omega)⟩
  have f1:at0 a k=x:=at0_of e1
  have f2:at0 b k=y:=at0_of e2
  cases hf:firstAt a b k x y with
  | some j =>
   have hfd:findD es (pkD x y)=some (some (.int .i64 (j:Int))):=by rw [hM x y,hf];rfl
   (repeat' ((conv=>whnf);first|refine vA ?_|refine vB fun b hb=>?_|refine vC (fun hl=>?_) fun i kv vv hi=>?_|refine vE ?_|refine vG ?_|refine vH ?_|((first|refine vD ?_ ?_|refine vF ?_ ?_|refine vI ?_ ?_)<;>intro hc<;>try simp only [vL] at hc)|refine vJ fun hg=>?_|refine vK fun hg=>?_|refine vT ?_|refine vN ‹_› ?_|(refine vQ ?_ fun x hx=>?_;·first|omega|(simp only [vM] at *;omega))|((first|refine vO ?_ ?_|refine vR ?_ ‹_› ?_|refine vS ?_ fun x hx=>?_|refine vP ?_ ?_);·first|omega|(simp only [vM] at *;omega))|refine vW ⟨by omega,by omega⟩ ?_|(refine vU ?_ ?_;·kernel_rfl)|refine vX ?_|refine vY ?_|refine vZ ?_|refine FindS.mk _ ‹_› ?_|refine vP (show (_:BitVec 64)≠_ by decide) ?_));all_goals try conv=>whnf
   ·have hlo:lowE (pairE a b) k=j:=by rw [lowE_pair,f1,f2,hf];rfl
    refine ⟨(k+1,es,_),[(0,0),(1,1)],[],?_,?_,by (refine ⟨rfl,rfl,rfl,?_,?_⟩;repeat' first|exact trivial|exact rfl|exact ⟨_,rfl⟩|exact .inl rfl|exact .inr (.inl ⟨rfl,rfl⟩)|exact .inr (.inr ⟨rfl,rfl⟩)|refine And.intro ?_ ?_|refine ⟨_,rfl,?_⟩|decide|exact of_decide_eq_true rfl)⟩
    ·exact ⟨by (first|omega|(simp only [vM] at *;omega)),firstM_same hM (by rw [f1,f2];exact hf),set_low hlo⟩
    ·(first|omega|(simp only [vM] at *;omega))
   all_goals omega
  | none =>
   have hfd:findD es (pkD x y)=some none:=by rw [hM x y,hf];rfl
   have hfn:findD (es++[(pkD x y,.int .i64 (k:Int))]) (pkD x y)=some (some (.int .i64 (k:Int))):=by rw [findD_append _ _ _ hfd];simp [findD,pk_eqk]
   (repeat' ((conv=>whnf);first|refine vA ?_|refine vB fun b hb=>?_|refine vC (fun hl=>?_) fun i kv vv hi=>?_|refine vE ?_|refine vG ?_|refine vH ?_|((first|refine vD ?_ ?_|refine vF ?_ ?_|refine vI ?_ ?_)<;>intro hc<;>try simp only [vL] at hc)|refine vJ fun hg=>?_|refine vK fun hg=>?_|refine vT ?_|refine vN ‹_› ?_|(refine vQ ?_ fun x hx=>?_;·first|omega|(simp only [vM] at *;omega))|((first|refine vO ?_ ?_|refine vR ?_ ‹_› ?_|refine vS ?_ fun x hx=>?_|refine vP ?_ ?_);·first|omega|(simp only [vM] at *;omega))|refine vW ⟨by omega,by omega⟩ ?_|(refine vU ?_ ?_;·kernel_rfl)|refine vX ?_|refine vY ?_|refine vZ ?_|refine FindS.mk _ ‹_› ?_|refine vP (show (_:BitVec 64)≠_ by decide) ?_));all_goals try conv=>whnf
   ·have hlo:lowE (pairE a b) k=k:=by rw [lowE_pair,f1,f2,hf];rfl
    refine ⟨(k+1,_,_),[(0,0),(1,1)],[],?_,?_,by (refine ⟨rfl,rfl,rfl,?_,?_⟩;repeat' first|exact trivial|exact rfl|exact ⟨_,rfl⟩|exact .inl rfl|exact .inr (.inl ⟨rfl,rfl⟩)|exact .inr (.inr ⟨rfl,rfl⟩)|refine And.intro ?_ ?_|refine ⟨_,rfl,?_⟩|decide|exact of_decide_eq_true rfl)⟩
    ·exact ⟨by (first|omega|(simp only [vM] at *;omega)),by subst f1 f2;exact firstM_new hM hf,set_low hlo⟩
    ·(first|omega|(simp only [vM] at *;omega))
   all_goals omega
 ·(repeat' ((conv=>whnf);first|refine vA ?_|refine vB fun b hb=>?_|refine vC (fun hl=>?_) fun i kv vv hi=>?_|refine vE ?_|refine vG ?_|refine vH ?_|((first|refine vD ?_ ?_|refine vF ?_ ?_|refine vI ?_ ?_)<;>intro hc<;>try simp only [vL] at hc)|refine vJ fun hg=>?_|refine vK fun hg=>?_|refine vT ?_|refine vN ‹_› ?_|(refine vQ ?_ fun x hx=>?_;·first|omega|(simp only [vM] at *;omega))|((first|refine vO ?_ ?_|refine vR ?_ ‹_› ?_|refine vS ?_ fun x hx=>?_|refine vP ?_ ?_);·first|omega|(simp only [vM] at *;omega))|refine vW ⟨by omega,by omega⟩ ?_|(refine vU ?_ ?_;·kernel_rfl)|refine vX ?_|refine vY ?_|refine vZ ?_|refine FindS.mk _ ‹_› ?_|refine vP (show (_:BitVec 64)≠_ by decide) ?_));all_goals try conv=>whnf
  ·omega
  ·have e0:k=a.length:=by omega
   subst e0
   refine congrArg (fun l=>some (D.arr 1 l)) ?_
   unfold ptL
   rw [List.map_map]
   exact map_range_congr fun u hu=>by rw [if_pos hu];rfl
theorem fn_Split {n:Nat} {q:Nat→Nat} (hq:Cano n q) (hn:n≤64) (keys:List Int) (hl:keys.length=n):Fn Tryz.prog T f_partition_Split [.d (dI (ptL n q)),.d (dI keys)] [] (.d (.tup [dI (ptL n (lowE (pairE (ptL n q) keys))),.int .i64 0])) []:=by
 have hp:=ptL_len (n:=n) (q:=q)
 have cd:=fn_divide (T:=T) (ptL n q) keys (by omega) (by omega)
 rw [hp] at cd
 refine fn_dataR hmix k_partition_Split (by show 2≤20;decide) ?_
 (repeat' ((conv=>whnf);first|refine vA ?_|refine vB fun b hb=>?_|refine vC (fun hl=>?_) fun i kv vv hi=>?_|refine vE ?_|refine vG ?_|refine vH ?_|((first|refine vD ?_ ?_|refine vF ?_ ?_|refine vI ?_ ?_)<;>intro hc<;>try simp only [vL] at hc)|refine vJ fun hg=>?_|refine vK fun hg=>?_|refine vT ?_|refine vN ‹_› ?_|(refine vQ ?_ fun x hx=>?_;·first|omega|(simp only [vM] at *;omega))|((first|refine vO ?_ ?_|refine vR ?_ ‹_› ?_|refine vS ?_ fun x hx=>?_|refine vP ?_ ?_);·first|omega|(simp only [vM] at *;omega))|refine vW ⟨by omega,by omega⟩ ?_|(refine vU ?_ ?_;·kernel_rfl)|refine vX ?_|refine vY ?_|refine vZ ?_|refine yD (fn_pCheck hq hn) ⟨⟨rfl,rfl⟩,rfl⟩ rfl ?_|refine yN cd ⟨⟨rfl,rfl⟩,⟨rfl,rfl⟩,rfl⟩ ?_|refine FindS.mk _ ‹_› ?_|refine vP (show (_:BitVec 64)≠_ by decide) ?_));all_goals try conv=>whnf
 ·omega
 ·rfl
end Go.Ab
namespace Go.Ab
open Go Go.Proofs
set_option linter.unusedVariables false
set_option linter.unusedSimpArgs false
theorem least_ex {K:Nat→Prop} {R:Nat→Int} (h0 : ∀ i,K i→0≤R i) : ∀ (n:Nat) (i:Nat),K i→(R i).toNat≤n → ∃ j,K j ∧ ∀ u,K u→R j≤R u:=by
 intro n
 induction n with
 | zero=>intro i hi hn;exact ⟨i,hi,fun u hu=>by have:=h0 i hi;have:=h0 u hu;omega⟩
 | succ n ih =>
  intro i hi hn
  by_cases h : ∃ u,K u∧R u < R i
  ·obtain ⟨u,h1,h2⟩:=h
   exact ih u h1 (by have:=h0 u h1;have:=h0 i hi;omega)
  ·exact ⟨i,hi,fun u hu=>by
    apply Classical.byContradiction
    intro hn
    exact h ⟨u,hu,by omega⟩⟩
section
variable {p:PM} {a w:Int} (hat:At p a w)
include hat
theorem cellL_bit {i:Nat} : (cellL p a w).getLsbD i=true↔i < p.W.toNat∧at0 (rowAt p.cell a.toNat) i=at0 (rowAt p.cell a.toNat) w.toNat:=by
 obtain ⟨-,-,h1,-,h3,-⟩:=hat.rows
 rw [cellL,if_pos hat,cellSet,setTo_bit]
 simp only [Bool.and_eq_true,decide_eq_true_eq,beq_iff_eq]
 constructor
 ·rintro ⟨⟨-,h4⟩,h5⟩;exact ⟨by omega,h5⟩
 ·rintro ⟨h4,h5⟩;exact ⟨⟨by omega,by omega⟩,h5⟩
theorem rank_nonneg {i:Nat} (h:(cellL p a w).getLsbD i=true):0≤at0 (rowAt p.rank a.toNat) i:=by
 obtain ⟨-,-,h1,h2,h3,-⟩:=hat.rows
 have hg:=checkL_good hat.ok
 have h4:=(cellL_bit hat).1 h
 have ha:=hat.a0
 have ha':=hat.a1
 exact ((hg.ranked a.toNat (by omega)) i (by omega)).1
end
end Go.Ab
namespace Go.Ab
open Go Go.Proofs
set_option linter.unusedSimpArgs false
set_option linter.unusedVariables false
set_option maxRecDepth 10000
set_option maxHeartbeats 4000000
variable {T:Nat→Obj→Prop}
abbrev bI (x:Int):D := .box [.int .i64 x]
abbrev bU (x:BitVec 64):D := .box [.u64 x]
abbrev bP (p:PM):D := .box [.int .i64 p.W,dU p.val,dII p.cell,dII p.rank]
def knowsL (p:PM) (a:Int) (s:BitVec 64):BitVec 64:=setTo (fun w=>decide (cellL p a w &&& ~~~s=0#64)) p.W.toNat
def believesL (p:PM) (a:Int) (c s:BitVec 64):BitVec 64:=setTo (fun w=>decide (bestL p a w c &&& ~~~s=0#64)) p.W.toNat
def safelyL (p:PM) (a:Int) (s:BitVec 64):BitVec 64:=setTo (fun w=>decide ((weakerL p a).1.getD w 0#64 &&& ~~~s=0#64)) p.W.toNat
end Go.Ab
namespace Go.Ab
set_option linter.unusedVariables false
set_option linter.unusedSimpArgs false
structure Nd where
 op:Int
 i:Int
 e:Int
 g:Int
 x:Int
 y:Int
 deriving DecidableEq,Inhabited
structure Hd where
 op:Int
 i:Int
 e:Int
 g:Int
 deriving DecidableEq,Inhabited
def Nd.hd (n:Nd):Hd:=⟨n.op,n.i,n.e,n.g⟩
def isOp (op:Int):Bool:=decide (1≤op∧op≤21)
def useX (op:Int):Bool:=decide (4≤op∧op≤21)
def useY (op:Int):Bool:=decide (5≤op∧op≤8∨op=13∨op=14∨op=16∨op=19∨op=21)
def useFact (op:Int):Bool:=decide (op=3)
def useAgent (op:Int):Bool:=decide (op=9∨op=10∨op=14∨op=15)
def useEvent (op:Int):Bool:=decide (op=17)
def useGroup (op:Int):Bool:=decide (11≤op∧op≤13)
def fragOf (op:Int):Int :=
 if op=9∨op=10 then 1 else if op=11 then 2 else if op=12 then 4 else if op=13 then 8 else if op=14 then 16 else if op=15 then 32 else if op=16 then 64 else if op=17 then 128 else
 if 18≤op∧op≤21 then 256 else 0
theorem useX_of_useY {op:Int} (h:useY op=true):useX op=true:=by
 simp only [useX,useY,decide_eq_true_eq] at h ⊢;omega
def opdOk (used:Bool) (f at_:Int):Bool:=used&&decide (0≤f)&&decide (f < at_) || !used&&decide (f=0)
def outside (used:Bool) (v lo hi:Int):Bool:=used&&(decide (v < lo)||decide (hi < v))
def nErr (n:Nd) (at_:Int):Int :=
 if isOp n.op=false then 10 else
 if opdOk (useX n.op) n.x at_=false∨opdOk (useY n.op) n.y at_=false then 3 else
 if (!(useFact n.op||useAgent n.op||useEvent n.op)&&decide (n.i≠0)||(!useEvent n.op&&decide (n.e≠0))||(!useGroup n.op&&decide (n.g≠0)))=true then 3 else
 if (outside (useFact n.op) n.i 0 7||outside (useAgent n.op) n.i 0 3||outside (useEvent n.op) n.i 0 7||outside (useEvent n.op) n.e 0 7||outside (useGroup n.op) n.g 1 15)=true then 2 else 0
def fErrGo:List Nd→Nat→Int
 | [],_=>0
 | n::r,k=>if nErr n k≠0 then nErr n k else fErrGo r (k+1)
def fErr (f:List Nd):Int:=if f.length=0 then 3 else if 200 < f.length then 8 else fErrGo f 0
def Okay (f:List Nd):Prop := ∀ (k:Nat) n,f[k]? = some n→nErr n k=0
theorem fErrGo_ok : ∀ (f:List Nd) (k:Nat),fErrGo f k=0 ↔ ∀ (j:Nat) n,f[j]? = some n→nErr n (k+j:Nat)=0
 | [],k=>by simp [fErrGo]
 | n::r,k=>by
  unfold fErrGo
  constructor
  ·intro h
   split at h
   ·contradiction
   ·rename_i h0
    intro j m hj
    cases j with
    | zero=>simp at hj;subst hj;simpa using h0
    | succ j =>
     have:=(fErrGo_ok r (k+1)).1 h j m (by simpa using hj)
     rwa [show k+1+j=k+(j+1) by omega] at this
  ·intro h
   have h0:=h 0 n (by simp)
   rw [if_neg (by simpa using h0)]
   refine (fErrGo_ok r (k+1)).2 fun j m hj=>?_
   have:=h (j+1) m (by simpa using hj)
   rwa [show k+(j+1)=k+1+j by omega] at this
theorem fErr_ok {f:List Nd} : fErr f=0↔0 < f.length∧f.length≤200∧Okay f:=by
 unfold fErr Okay
 have:=fErrGo_ok f 0
 simp only [Nat.zero_add] at this
 by_cases h1:f.length=0
 ·rw [if_pos h1];omega
 ·rw [if_neg h1]
  by_cases h2:200 < f.length
  ·rw [if_pos h2];omega
  ·rw [if_neg h2,this]
   exact ⟨fun h=>⟨by omega,by omega,h⟩,fun h=>h.2.2⟩
theorem nErr_ok {n:Nd} {a:Int} (h:nErr n a=0):isOp n.op=true∧(useX n.op=true→0≤n.x∧n.x < a)∧(useX n.op=false→n.x=0)∧(useY n.op=true→0≤n.y∧n.y < a)∧(useY n.op=false→n.y=0) ∧
  (useFact n.op=true→0≤n.i∧n.i≤7)∧(useAgent n.op=true→0≤n.i∧n.i≤3)∧(useEvent n.op=true→0≤n.i∧n.i≤7∧0≤n.e∧n.e≤7)∧(useGroup n.op=true→1≤n.g∧n.g≤15) ∧
  (useFact n.op=false→useAgent n.op=false→useEvent n.op=false→n.i=0)∧(useEvent n.op=false→n.e=0)∧(useGroup n.op=false→n.g=0):=by
 unfold nErr at h
 split at h
 ·cases h
 ·rename_i h1
  split at h
  ·cases h
  ·rename_i h2
   split at h
   ·cases h
   ·rename_i h3
    split at h
    ·cases h
    ·rename_i h4
     generalize useX n.op=a1 at *
     generalize useY n.op=a2 at *
     generalize useFact n.op=a3 at *
     generalize useAgent n.op=a4 at *
     generalize useEvent n.op=a5 at *
     generalize useGroup n.op=a6 at *
     refine ⟨by simpa using h1,?_⟩
     simp only [opdOk,outside] at h2 h3 h4
     cases a1<;>cases a2<;>cases a3<;>cases a4<;>cases a5<;>cases a6<;>simp at h2 h3 h4 ⊢ <;> omega
theorem nErr_of {n:Nd} {a:Int} (h:isOp n.op=true∧(useX n.op=true→0≤n.x∧n.x < a)∧(useX n.op=false→n.x=0)∧(useY n.op=true→0≤n.y∧n.y < a)∧(useY n.op=false→n.y=0) ∧
  (useFact n.op=true→0≤n.i∧n.i≤7)∧(useAgent n.op=true→0≤n.i∧n.i≤3)∧(useEvent n.op=true→0≤n.i∧n.i≤7∧0≤n.e∧n.e≤7)∧(useGroup n.op=true→1≤n.g∧n.g≤15) ∧
  (useFact n.op=false→useAgent n.op=false→useEvent n.op=false→n.i=0)∧(useEvent n.op=false→n.e=0)∧(useGroup n.op=false→n.g=0)):nErr n a=0:=by
 unfold nErr
 generalize useX n.op=a1 at *
 generalize useY n.op=a2 at *
 generalize useFact n.op=a3 at *
 generalize useAgent n.op=a4 at *
 generalize useEvent n.op=a5 at *
 generalize useGroup n.op=a6 at *
 rw [if_neg (by simp [h.1]),if_neg,if_neg,if_neg]
 all_goals
  try simp only [opdOk,outside]
  cases a1<;>cases a2<;>cases a3<;>cases a4<;>cases a5<;>cases a6<;>simp at h ⊢ <;> omega
structure FSt where
 out:List Nd
 done:List (Nat×Nat)
def put (l:List Nd) (x:Nd):Nat×List Nd:=match l.idxOf? x with
 | some k=>(k,l)
 | none=>(l.length,l++[x])
def fin (f:List Nd):Nat→Nat→FSt→Nat×FSt
 | 0,_,s=>(0,s)
 | k+1,i,s=>match s.done.lookup i with
  | some r=>(r,s)
  | none =>
   let n:=f.getD i default
   let a:=cond (useX n.op) (fin f k n.x.toNat s) (n.x.toNat,s)
   let b:=cond (useY n.op) (fin f k n.y.toNat a.2) (n.y.toNat,a.2)
   let p:=put b.2.out { n with x:=a.1,y:=b.1 }
   (p.1,⟨p.2,b.2.done++[(i,p.1)]⟩)
def compactL (f:List Nd) (root:Nat):List Nd:=(fin f (root+1) root ⟨[],[]⟩).2.out
inductive Tm where
 | z (h:Hd)
 | u (h:Hd) (x:Tm)
 | b (h:Hd) (x y:Tm)
def tm (f:List Nd):Nat→Nat→Tm
 | 0,_ => .z default
 | k+1,i =>
  let n:=f.getD i default
  cond (useY n.op) (.b n.hd (tm f k n.x.toNat) (tm f k n.y.toNat)) (cond (useX n.op) (.u n.hd (tm f k n.x.toNat)) (.z n.hd))
def tmOf (f:List Nd) (i:Nat):Tm:=tm f (i+1) i
theorem okay_at {f:List Nd} (hf:Okay f) {i:Nat} (hi:i < f.length):nErr (f.getD i default) i=0:=hf i _ (by simp [hi])
theorem okay_x {f:List Nd} (hf:Okay f) {i:Nat} (hi:i < f.length) (h:useX (f.getD i default).op=true):0≤(f.getD i default).x∧(f.getD i default).x.toNat < i:=by
 have:=(nErr_ok (okay_at hf hi)).2.1 h;omega
theorem okay_y {f:List Nd} (hf:Okay f) {i:Nat} (hi:i < f.length) (h:useY (f.getD i default).op=true):0≤(f.getD i default).y∧(f.getD i default).y.toNat < i:=by
 have:=(nErr_ok (okay_at hf hi)).2.2.2.1 h;omega
theorem tm_fuel {f:List Nd} (hf:Okay f) : ∀ (k k' i:Nat),i < f.length→i < k→i < k'→tm f k i=tm f k' i
 | 0,_,_,_,h,_=>by omega
 | _+1,0,_,_,_,h=>by omega
 | k+1,k'+1,i,hi,h1,h2=>by
  unfold tm
  simp only
  cases hy:useY (f.getD i default).op with
  | true =>
   have e1:=okay_x hf hi (useX_of_useY hy)
   have e2:=okay_y hf hi hy
   simp only [cond_true]
   rw [tm_fuel hf k k' _ (by omega) (by omega) (by omega),tm_fuel hf k k' (f.getD i default).y.toNat (by omega) (by omega) (by omega)]
  | false =>
   simp only [cond_false]
   cases hx:useX (f.getD i default).op with
   | true =>
    have e1:=okay_x hf hi hx
    simp only [cond_true]
    rw [tm_fuel hf k k' _ (by omega) (by omega) (by omega)]
   | false=>rfl
theorem tmOf_eq {f:List Nd} (hf:Okay f) {i:Nat} (hi:i < f.length):tmOf f i=cond (useY (f.getD i default).op) (.b (f.getD i default).hd (tmOf f (f.getD i default).x.toNat) (tmOf f (f.getD i default).y.toNat)) (cond (useX (f.getD i default).op) (.u (f.getD i default).hd (tmOf f (f.getD i default).x.toNat)) (.z (f.getD i default).hd)):=by
 unfold tmOf
 rw [tm]
 try simp only
 cases hy:useY (f.getD i default).op with
 | true =>
  have e1:=okay_x hf hi (useX_of_useY hy)
  have e2:=okay_y hf hi hy
  simp only [cond_true]
  rw [tm_fuel hf i _ _ (by omega) (by omega) (Nat.lt_succ_self _),tm_fuel hf i _ (f.getD i default).y.toNat (by omega) (by omega) (Nat.lt_succ_self _)]
 | false =>
  simp only [cond_false]
  cases hx:useX (f.getD i default).op with
  | true =>
   have e1:=okay_x hf hi hx
   simp only [cond_true]
   rw [tm_fuel hf i _ _ (by omega) (by omega) (Nat.lt_succ_self _)]
  | false=>rfl
theorem tm_append {f g:List Nd} (hf:Okay f) : ∀ (k i:Nat),i < f.length→tm (f++g) k i=tm f k i
 | 0,_,_=>rfl
 | k+1,i,hi=>by
  unfold tm
  simp only
  have e:(f++g).getD i default=f.getD i default:=by simp [List.getD,List.getElem?_append_left hi]
  rw [e]
  cases hy:useY (f.getD i default).op with
  | true =>
   have e1:=okay_x hf hi (useX_of_useY hy)
   have e2:=okay_y hf hi hy
   simp only [cond_true]
   rw [tm_append hf k _ (by omega),tm_append hf k (f.getD i default).y.toNat (by omega)]
  | false =>
   simp only [cond_false]
   cases hx:useX (f.getD i default).op with
   | true =>
    have e1:=okay_x hf hi hx
    simp only [cond_true]
    rw [tm_append hf k _ (by omega)]
   | false=>rfl
theorem tmOf_append {f g:List Nd} (hf:Okay f) {i:Nat} (hi:i < f.length):tmOf (f++g) i=tmOf f i:=tm_append hf _ _ hi
def Tm.all (p:Hd→Prop):Tm→Prop
 | .z h=>p h
 | .u h x=>p h∧x.all p
 | .b h x y=>p h∧x.all p∧y.all p
def Tm.size:Tm→Nat
 | .z _=>1
 | .u _ x=>x.size+1
 | .b _ x y=>x.size+y.size+1
structure HdOk (h:Hd):Prop where
 op:isOp h.op=true
 fact:useFact h.op=true→0≤h.i∧h.i≤7
 agent:useAgent h.op=true→0≤h.i∧h.i≤3
 event:useEvent h.op=true→0≤h.i∧h.i≤7∧0≤h.e∧h.e≤7
 group:useGroup h.op=true→1≤h.g∧h.g≤15
 i0:useFact h.op=false→useAgent h.op=false→useEvent h.op=false→h.i=0
 e0:useEvent h.op=false→h.e=0
 g0:useGroup h.op=false→h.g=0
theorem nErr_iff {n:Nd} {a:Int} : nErr n a=0↔HdOk n.hd∧(useX n.op=true→0≤n.x∧n.x < a)∧(useX n.op=false→n.x=0)∧(useY n.op=true→0≤n.y∧n.y < a)∧(useY n.op=false→n.y=0):=by
 constructor
 ·intro h
  obtain ⟨h1,h2,h3,h4,h5,h6,h7,h8,h9,h10,h11,h12⟩:=nErr_ok h
  exact ⟨⟨h1,h6,h7,h8,h9,h10,h11,h12⟩,h2,h3,h4,h5⟩
 ·rintro ⟨⟨h1,h6,h7,h8,h9,h10,h11,h12⟩,h2,h3,h4,h5⟩
  exact nErr_of ⟨h1,h2,h3,h4,h5,h6,h7,h8,h9,h10,h11,h12⟩
def Tm.ok:Tm→Prop
 | .z h=>HdOk h∧useX h.op=false∧useY h.op=false
 | .u h x=>HdOk h∧useX h.op=true∧useY h.op=false∧x.ok
 | .b h x y=>HdOk h∧useX h.op=true∧useY h.op=true∧x.ok∧y.ok
theorem tmOf_ok {f:List Nd} (hf:Okay f) : ∀ (n i:Nat),i < n→i < f.length→(tmOf f i).ok
 | 0,_,h,_=>by omega
 | n+1,i,h,hi=>by
  rw [tmOf_eq hf hi]
  have h0:=(nErr_iff.1 (okay_at hf hi)).1
  cases hy:useY (f.getD i default).op with
  | true =>
   have e1:=okay_x hf hi (useX_of_useY hy)
   have e2:=okay_y hf hi hy
   exact ⟨h0,useX_of_useY hy,hy,tmOf_ok hf n _ (by omega) (by omega),tmOf_ok hf n _ (by omega) (by omega)⟩
  | false =>
   cases hx:useX (f.getD i default).op with
   | true =>
    have e1:=okay_x hf hi hx
    exact ⟨h0,hx,hy,tmOf_ok hf n _ (by omega) (by omega)⟩
   | false=>exact ⟨h0,hx,hy⟩
def nd (h:Hd) (x y:Nat):Nd:=⟨h.op,h.i,h.e,h.g,x,y⟩
def finT:Tm→List Nd→Nat×List Nd
 | .z h,l=>put l (nd h 0 0)
 | .u h x,l=>put (finT x l).2 (nd h (finT x l).1 0)
 | .b h x y,l=>put (finT y (finT x l).2).2 (nd h (finT x l).1 (finT y (finT x l).2).1)
theorem put_found {l:List Nd} {x:Nd} {k:Nat} (h:l.idxOf? x=some k):put l x=(k,l):=by unfold put;rw [h]
theorem put_new {l:List Nd} {x:Nd} (h:l.idxOf? x=none):put l x=(l.length,l++[x]):=by unfold put;rw [h]
theorem idx_append {l m:List Nd} {x:Nd} {k:Nat} (h:l.idxOf? x=some k):(l++m).idxOf? x=some k:=by
 simp only [List.idxOf?] at h ⊢
 rw [List.findIdx?_append,h];rfl
theorem idx_get {l:List Nd} {x:Nd} {k:Nat} (h:l.idxOf? x=some k):l[k]? = some x:=by
 simp only [List.idxOf?] at h
 obtain ⟨h1,h2,h3⟩:=List.findIdx?_eq_some_iff_getElem.1 h
 simp at h2
 simp [h1,h2]
theorem idx_self {l:List Nd} {x:Nd} (h:l.idxOf? x=none):(l++[x]).idxOf? x=some l.length:=by
 simp only [List.idxOf?] at h ⊢
 rw [List.findIdx?_append,h]
 simp
theorem put_ext (l:List Nd) (x:Nd):(∃ m,(put l x).2=l++m)∧(put l x).2.idxOf? x=some (put l x).1:=by
 cases h:l.idxOf? x with
 | some k=>rw [put_found h];exact ⟨⟨[],by simp⟩,h⟩
 | none=>rw [put_new h];exact ⟨⟨[x],rfl⟩,idx_self h⟩
theorem finT_ext : ∀ (t:Tm) (l:List Nd),∃ m,(finT t l).2=l++m
 | .z h,l=>(put_ext _ _).1
 | .u h x,l=>by
  obtain ⟨m,hm⟩:=finT_ext x l
  obtain ⟨m',hm'⟩:=(put_ext (finT x l).2 (nd h (finT x l).1 0)).1
  exact ⟨m++m',by rw [finT,hm',hm,List.append_assoc]⟩
 | .b h x y,l=>by
  obtain ⟨m,hm⟩:=finT_ext x l
  obtain ⟨m2,hm2⟩:=finT_ext y (finT x l).2
  obtain ⟨m',hm'⟩:=(put_ext (finT y (finT x l).2).2 (nd h (finT x l).1 (finT y (finT x l).2).1)).1
  exact ⟨m++m2++m',by rw [finT,hm',hm2,hm,List.append_assoc,List.append_assoc,List.append_assoc]⟩
def HasT (t:Tm) (l:List Nd) (r:Nat):Prop:=finT t l=(r,l)
theorem HasT.mono : ∀ {t:Tm} {l:List Nd} {r:Nat} (m:List Nd),HasT t l r→HasT t (l++m) r
 | .z h,l,r,m,hh=>by
  unfold HasT finT at *
  cases hi:l.idxOf? (nd h 0 0) with
  | some k=>rw [put_found hi] at hh;cases hh;rw [put_found (idx_append hi)]
  | none=>rw [put_new hi] at hh;have:=congrArg (fun p=>p.2.length) hh;simp at this
 | .u h x,l,r,m,hh=>by
  unfold HasT at *
  obtain ⟨a,ha⟩:=finT_ext x l
  obtain ⟨b,hb⟩:=(put_ext (finT x l).2 (nd h (finT x l).1 0)).1
  have e:a=[]∧b=[]:=by
   have:(finT (.u h x) l).2=l++a++b:=by rw [finT,hb,ha]
   rw [hh] at this
   have:=congrArg List.length this
   simp only [List.length_append] at this
   exact ⟨List.length_eq_zero_iff.1 (by omega),List.length_eq_zero_iff.1 (by omega)⟩
  obtain ⟨rfl,rfl⟩:=e
  rw [List.append_nil] at ha
  have hx:HasT x l (finT x l).1:=Prod.ext rfl ha
  have hx':=HasT.mono m hx
  unfold HasT at hx'
  rw [finT,ha] at hh
  rw [finT,hx']
  cases hi:l.idxOf? (nd h (finT x l).1 0) with
  | some k=>rw [put_found hi] at hh;cases hh;exact put_found (idx_append hi)
  | none=>rw [put_new hi] at hh;have:=congrArg (fun p=>p.2.length) hh;simp at this
 | .b h x y,l,r,m,hh=>by
  unfold HasT at *
  obtain ⟨a,ha⟩:=finT_ext x l
  obtain ⟨c,hc⟩:=finT_ext y (finT x l).2
  obtain ⟨b,hb⟩:=(put_ext (finT y (finT x l).2).2 (nd h (finT x l).1 (finT y (finT x l).2).1)).1
  have e:a=[]∧c=[]∧b=[]:=by
   have:(finT (.b h x y) l).2=l++a++c++b:=by rw [finT,hb,hc,ha]
   rw [hh] at this
   have:=congrArg List.length this
   simp only [List.length_append] at this
   exact ⟨List.length_eq_zero_iff.1 (by omega),List.length_eq_zero_iff.1 (by omega),List.length_eq_zero_iff.1 (by omega)⟩
  obtain ⟨rfl,rfl,rfl⟩:=e
  rw [List.append_nil] at ha hc
  rw [ha] at hc
  have hx:HasT x l (finT x l).1:=Prod.ext rfl ha
  have hy:HasT y l (finT y l).1:=Prod.ext rfl hc
  have hx':=HasT.mono m hx
  have hy':=HasT.mono m hy
  unfold HasT at hx' hy'
  rw [finT,ha,hc] at hh
  rw [finT,hx']
  simp only
  rw [hy']
  cases hi:l.idxOf? (nd h (finT x l).1 (finT y l).1) with
  | some k=>rw [put_found hi] at hh;cases hh;exact put_found (idx_append hi)
  | none=>rw [put_new hi] at hh;have:=congrArg (fun p=>p.2.length) hh;simp at this
theorem finT_has : ∀ (t:Tm) (l:List Nd),HasT t (finT t l).2 (finT t l).1
 | .z h,l=>by
  unfold HasT finT
  exact put_found (put_ext _ _).2
 | .u h x,l=>by
  obtain ⟨m,hm⟩:=(put_ext (finT x l).2 (nd h (finT x l).1 0)).1
  have h1:=(finT_has x l).mono m
  rw [← hm] at h1
  unfold HasT at *
  rw [finT,finT,h1]
  exact put_found (put_ext _ _).2
 | .b h x y,l=>by
  obtain ⟨m,hm⟩:=(put_ext (finT y (finT x l).2).2 (nd h (finT x l).1 (finT y (finT x l).2).1)).1
  obtain ⟨m2,hm2⟩:=finT_ext y (finT x l).2
  have h1:=((finT_has x l).mono m2).mono m
  rw [← hm2] at h1
  have h2:=(finT_has y (finT x l).2).mono m
  rw [← hm] at h1 h2
  unfold HasT at *
  rw [finT,finT,h1]
  simp only
  rw [h2]
  exact put_found (put_ext _ _).2
theorem put_lt (l:List Nd) (x:Nd):(put l x).1 < (put l x).2.length:=by
 have:=idx_get (put_ext l x).2
 exact (List.getElem?_eq_some_iff.1 this).1
theorem finT_lt : ∀ (t:Tm) (l:List Nd),(finT t l).1 < (finT t l).2.length
 | .z _,_=>put_lt _ _
 | .u _ _,_=>put_lt _ _
 | .b _ _ _,_=>put_lt _ _
theorem put_okay {l:List Nd} {x:Nd} (hl:Okay l) (h:nErr x l.length=0):Okay (put l x).2:=by
 cases hi:l.idxOf? x with
 | some k=>rw [put_found hi];exact hl
 | none =>
  rw [put_new hi]
  intro k n hk
  simp only [List.getElem?_append] at hk
  split at hk
  ·exact hl k n hk
  ·rename_i h1
   have:k=l.length:=by
    have:=(List.getElem?_eq_some_iff.1 hk).1;simp at this;omega
   subst this
   simp at hk;subst hk;exact h
theorem put_tree {l:List Nd} {x:Nd} (hl:Okay l) (h:nErr x l.length=0):(put l x).2.getD (put l x).1 default=x:=by
 have:=idx_get (put_ext l x).2
 simp [List.getD,this]
theorem nat_of {k:Nat} : ((k:Nat):Int).toNat=k:=by omega
theorem finT_okay : ∀ (t:Tm) (l:List Nd),t.ok→Okay l→Okay (finT t l).2∧tmOf (finT t l).2 (finT t l).1=t
 | .z h,l,ht,hl=>by
  have hn:nErr (nd h 0 0) l.length=0:=nErr_iff.2 ⟨ht.1,fun e=>by have:=ht.2.1;simp [nd] at e;simp [this] at e,fun _=>rfl,fun e=>by have:=ht.2.2;simp [nd] at e;simp [this] at e,fun _=>rfl⟩
  have h1:=put_okay hl hn
  refine ⟨h1,?_⟩
  have h2:=tmOf_eq h1 (put_lt l (nd h 0 0))
  rw [put_tree hl hn] at h2
  rw [finT,h2]
  simp only [nd,ht.2.1,ht.2.2,cond_false,Nd.hd]
 | .u h x,l,ht,hl=>by
  obtain ⟨a1,a2⟩:=finT_okay x l ht.2.2.2 hl
  have a3:=finT_lt x l
  have hn:nErr (nd h (finT x l).1 0) (finT x l).2.length=0:=nErr_iff.2 ⟨ht.1,fun e=>⟨by simp [nd],by simp only [nd];omega⟩,fun e=>by have:=ht.2.1;simp [nd] at e;simp [this] at e,fun e=>by have:=ht.2.2.1;simp [nd] at e;simp [this] at e,fun _=>rfl⟩
  have h1:=put_okay a1 hn
  refine ⟨h1,?_⟩
  have h2:=tmOf_eq h1 (put_lt (finT x l).2 (nd h (finT x l).1 0))
  rw [put_tree a1 hn] at h2
  obtain ⟨m,hm⟩:=(put_ext (finT x l).2 (nd h (finT x l).1 0)).1
  rw [finT,h2]
  simp only [nd,ht.2.1,ht.2.2.1,cond_false,cond_true,Nd.hd,nat_of]
  have h3:tmOf (put (finT x l).2 (nd h (finT x l).1 0)).2 (finT x l).1=x:=by rw [hm,tmOf_append a1 a3,a2]
  simp only [nd] at h3
  rw [h3]
 | .b h x y,l,ht,hl=>by
  obtain ⟨a1,a2⟩:=finT_okay x l ht.2.2.2.1 hl
  have a3:=finT_lt x l
  obtain ⟨b1,b2⟩:=finT_okay y (finT x l).2 ht.2.2.2.2 a1
  have b3:=finT_lt y (finT x l).2
  obtain ⟨m2,hm2⟩:=finT_ext y (finT x l).2
  have hn:nErr (nd h (finT x l).1 (finT y (finT x l).2).1) (finT y (finT x l).2).2.length=0:=nErr_iff.2 ⟨ht.1,fun e=>⟨by simp [nd],by simp only [nd];rw [hm2,List.length_append];omega⟩,
   fun e=>by have:=ht.2.1;simp [nd] at e;simp [this] at e,fun e=>⟨by simp [nd],by simp only [nd];omega⟩,fun e=>by have:=ht.2.2.1;simp [nd] at e;simp [this] at e⟩
  have h1:=put_okay b1 hn
  refine ⟨h1,?_⟩
  have h2:=tmOf_eq h1 (put_lt (finT y (finT x l).2).2 (nd h (finT x l).1 (finT y (finT x l).2).1))
  rw [put_tree b1 hn] at h2
  obtain ⟨m,hm⟩:=(put_ext (finT y (finT x l).2).2 (nd h (finT x l).1 (finT y (finT x l).2).1)).1
  rw [finT,h2]
  simp only [nd,ht.2.1,ht.2.2.1,cond_false,cond_true,Nd.hd,nat_of]
  have h3:tmOf (put (finT y (finT x l).2).2 (nd h (finT x l).1 (finT y (finT x l).2).1)).2 (finT x l).1=x:=by
   rw [hm,tmOf_append b1 (by rw [hm2,List.length_append];omega),hm2,tmOf_append a1 a3,a2]
  have h4:tmOf (put (finT y (finT x l).2).2 (nd h (finT x l).1 (finT y (finT x l).2).1)).2 (finT y (finT x l).2).1=y:=by
   rw [hm,tmOf_append b1 b3,b2]
  simp only [nd] at h3 h4
  rw [h3,h4]
theorem put_all (p:Hd→Prop) (l:List Nd) (x:Nd):(∀ n∈(put l x).2,p n.hd)↔(∀ n∈l,p n.hd)∧p x.hd:=by
 cases hi:l.idxOf? x with
 | some k =>
  rw [put_found hi]
  have:=List.mem_of_getElem? (idx_get hi)
  exact ⟨fun h=>⟨h,h x this⟩,fun h=>h.1⟩
 | none =>
  rw [put_new hi]
  simp only [List.mem_append,List.mem_singleton]
  exact ⟨fun h=>⟨fun n hn=>h n (.inl hn),h x (.inr rfl)⟩,fun h n hn=>hn.elim (h.1 n) (fun e=>e▸h.2)⟩
theorem finT_all (p:Hd→Prop) : ∀ (t:Tm) (l:List Nd),(∀ n∈(finT t l).2,p n.hd)↔(∀ n∈l,p n.hd)∧t.all p
 | .z h,l=>put_all p l _
 | .u h x,l=>by
  rw [finT,put_all,finT_all p x l,Tm.all]
  exact ⟨fun ⟨⟨a,b⟩,c⟩=>⟨a,c,b⟩,fun ⟨a,c,b⟩=>⟨⟨a,b⟩,c⟩⟩
 | .b h x y,l=>by
  rw [finT,put_all,finT_all p y _,finT_all p x l,Tm.all]
  exact ⟨fun ⟨⟨⟨a,b⟩,d⟩,c⟩=>⟨a,c,b,d⟩,fun ⟨a,c,b,d⟩=>⟨⟨⟨a,b⟩,d⟩,c⟩⟩
theorem all_size : ∀ (t:Tm) (l:List Nd) (r:Nat),t.ok→Okay l→l.length≤r→r < (finT t l).2.length→(tmOf (finT t l).2 r).size≤t.size∧(r+1 < (finT t l).2.length→(tmOf (finT t l).2 r).size < t.size)
 | .z h,l,r,ht,hl,h1,h2=>by
  obtain ⟨o1,o2⟩:=finT_okay (.z h) l ht hl
  have:(finT (.z h) l).1=r ∧ ¬ r+1 < (finT (.z h) l).2.length:=by
   unfold finT at h2 ⊢
   cases hi:l.idxOf? (nd h 0 0) with
   | some k=>rw [put_found hi] at h2;simp at h2;omega
   | none=>rw [put_new hi] at h2 ⊢;simp at h2 ⊢;omega
  rw [← this.1,o2]
  rw [this.1]
  exact ⟨Nat.le_refl _,fun h=>absurd h this.2⟩
 | .u h x,l,r,ht,hl,h1,h2=>by
  obtain ⟨o1,o2⟩:=finT_okay (.u h x) l ht hl
  obtain ⟨a1,a2⟩:=finT_okay x l ht.2.2.2 hl
  have ih:=all_size x l r ht.2.2.2 hl h1
  by_cases hr:r < (finT x l).2.length
  ·obtain ⟨m,hm⟩:=(put_ext (finT x l).2 (nd h (finT x l).1 0)).1
   have e:tmOf (finT (.u h x) l).2 r=tmOf (finT x l).2 r:=by rw [finT,hm,tmOf_append a1 hr]
   rw [e]
   have:=(ih hr).1
   simp only [Tm.size]
   omega
  ·have:(finT (.u h x) l).1=r ∧ ¬ r+1 < (finT (.u h x) l).2.length:=by
    unfold finT at h2 ⊢
    cases hi:(finT x l).2.idxOf? (nd h (finT x l).1 0) with
    | some k=>rw [put_found hi] at h2;simp at h2;omega
    | none=>rw [put_new hi] at h2 ⊢;simp at h2 ⊢;omega
   rw [← this.1,o2,this.1]
   exact ⟨Nat.le_refl _,fun h=>absurd h this.2⟩
 | .b h x y,l,r,ht,hl,h1,h2=>by
  obtain ⟨o1,o2⟩:=finT_okay (.b h x y) l ht hl
  obtain ⟨a1,a2⟩:=finT_okay x l ht.2.2.2.1 hl
  obtain ⟨b1,b2⟩:=finT_okay y (finT x l).2 ht.2.2.2.2 a1
  have ih:=all_size x l r ht.2.2.2.1 hl h1
  obtain ⟨m2,hm2⟩:=finT_ext y (finT x l).2
  obtain ⟨m,hm⟩:=(put_ext (finT y (finT x l).2).2 (nd h (finT x l).1 (finT y (finT x l).2).1)).1
  by_cases hr:r < (finT x l).2.length
  ·have e:tmOf (finT (.b h x y) l).2 r=tmOf (finT x l).2 r:=by
    rw [finT,hm,tmOf_append b1 (by rw [hm2,List.length_append];omega),hm2,tmOf_append a1 hr]
   rw [e]
   have:=(ih hr).1
   simp only [Tm.size]
   omega
  ·have ih2:=all_size y (finT x l).2 r ht.2.2.2.2 a1 (by omega)
   by_cases hr2:r < (finT y (finT x l).2).2.length
   ·have e:tmOf (finT (.b h x y) l).2 r=tmOf (finT y (finT x l).2).2 r:=by
     rw [finT,hm,tmOf_append b1 hr2]
    rw [e]
    have:=(ih2 hr2).1
    simp only [Tm.size]
    omega
   ·have:(finT (.b h x y) l).1=r ∧ ¬ r+1 < (finT (.b h x y) l).2.length:=by
     unfold finT at h2 ⊢
     cases hi:(finT y (finT x l).2).2.idxOf? (nd h (finT x l).1 (finT y (finT x l).2).1) with
     | some k=>rw [put_found hi] at h2;simp at h2;omega
     | none=>rw [put_new hi] at h2 ⊢;simp at h2 ⊢;omega
    rw [← this.1,o2,this.1]
    exact ⟨Nat.le_refl _,fun h=>absurd h this.2⟩
theorem okay_nil:Okay []:=fun k n h=>by simp at h
theorem finT_last {t:Tm} (ht:t.ok):(finT t []).1+1=(finT t []).2.length:=by
 have h1:=finT_lt t []
 have h2:=(finT_okay t [] ht okay_nil).2
 by_cases h:(finT t []).1+1 < (finT t []).2.length
 ·have:=(all_size t [] (finT t []).1 ht okay_nil (by simp) h1).2 h
  rw [h2] at this;omega
 ·omega
end Go.Ab
namespace Go.Ab
set_option linter.unusedVariables false
set_option linter.unusedSimpArgs false
structure FInv (f:List Nd) (s:FSt):Prop where
 has : ∀ i r,s.done.lookup i=some r→HasT (tmOf f i) s.out r
 rng : ∀ p∈s.done,p.1 < f.length
 keys:(s.done.map Prod.fst).Nodup
 len:s.out.length≤s.done.length
theorem lookup_not {d:List (Nat×Nat)} {i:Nat} (h:d.lookup i=none) : ∀ p∈d,p.1≠i:=by
 induction d with
 | nil=>simp
 | cons p d ih =>
  obtain ⟨a,b⟩:=p
  simp only [List.lookup] at h
  split at h
  ·cases h
  ·rename_i e
   intro q hq
   rcases List.mem_cons.1 hq with rfl|hq
   ·intro h';subst h';simp at e
   ·exact ih h q hq
theorem lookup_append {d:List (Nat×Nat)} {i j r q:Nat} (h:(d++[(i,r)]).lookup j=some q):d.lookup j=some q∨(j=i∧q=r∧d.lookup j=none):=by
 induction d with
 | nil =>
  simp only [List.nil_append,List.lookup] at h
  split at h
  ·rename_i e;simp at e;cases h;exact .inr ⟨e,rfl,rfl⟩
  ·cases h
 | cons p d ih =>
  obtain ⟨a,b⟩:=p
  simp only [List.cons_append,List.lookup] at h ⊢
  split at h
  ·exact .inl h
  ·exact ih h
theorem fin_spec {f:List Nd} (hf:Okay f) : ∀ (k i:Nat) (s:FSt),i < k→i < f.length→FInv f s →
  FInv f (fin f k i s).2∧(fin f k i s).1=(finT (tmOf f i) s.out).1∧(fin f k i s).2.out=(finT (tmOf f i) s.out).2∧(∃ l,(fin f k i s).2.done=s.done++l ∧ ∀ p∈l,p.1≤i)
 | 0,i,s,h,_,_=>by omega
 | k+1,i,s,hk,hi,hs=>by
  unfold fin
  cases hd:s.done.lookup i with
  | some r =>
   have:=hs.has i r hd
   unfold HasT at this
   refine ⟨hs,?_,?_,[],by simp,by simp⟩
   ·rw [this]
   ·rw [this]
  | none =>
   simp only
   have key : ∀ (a b:Nat) (s2:FSt),FInv f s2→(∃ l,s2.done=s.done++l ∧ ∀ p∈l,p.1 < i)→finT (tmOf f i) s.out=put s2.out (nd (f.getD i default).hd a b) →
     (∃ m,s2.out=s.out++m) →
     FInv f ⟨(put s2.out (nd (f.getD i default).hd a b)).2,s2.done++[(i,(put s2.out (nd (f.getD i default).hd a b)).1)]⟩∧(put s2.out (nd (f.getD i default).hd a b)).1=(finT (tmOf f i) s.out).1 ∧
     (put s2.out (nd (f.getD i default).hd a b)).2=(finT (tmOf f i) s.out).2∧(∃ l,s2.done++[(i,(put s2.out (nd (f.getD i default).hd a b)).1)]=s.done++l ∧ ∀ p∈l,p.1≤i):=by
    intro a b s2 h2 hl hT hm
    obtain ⟨l,hl1,hl2⟩:=hl
    obtain ⟨m,hm⟩:=(put_ext s2.out (nd (f.getD i default).hd a b)).1
    have hni : ∀ p∈s2.done,p.1≠i:=by
     intro p hp
     rw [hl1,List.mem_append] at hp
     rcases hp with hp|hp
     ·exact lookup_not hd p hp
     ·have:=hl2 p hp;omega
    refine ⟨⟨fun j r hj=>?_,fun p hp=>?_,?_,?_⟩,by rw [hT],by rw [hT],l++[(i,(put s2.out (nd (f.getD i default).hd a b)).1)],by rw [hl1,List.append_assoc],fun p hp=>?_⟩
    ·rcases lookup_append hj with h|⟨rfl,rfl,-⟩
     ·have:=(h2.has j r h).mono m
      rw [← hm] at this;exact this
     ·rw [← hT];exact finT_has _ _
    ·rcases List.mem_append.1 hp with hp|hp
     ·exact h2.rng p hp
     ·simp at hp;subst hp;exact hi
    ·simp only [List.map_append,List.map_cons,List.map_nil]
     rw [List.nodup_append]
     refine ⟨h2.keys,by simp,fun x hx y hy=>?_⟩
     simp at hy;subst hy
     obtain ⟨p,hp,rfl⟩:=List.mem_map.1 hx
     exact hni p hp
    ·have:=h2.len
     simp only [List.length_append,List.length_cons,List.length_nil]
     cases hx:s2.out.idxOf? (nd (f.getD i default).hd a b) with
     | some k=>rw [put_found hx];simp only;omega
     | none=>rw [put_new hx];simp only [List.length_append,List.length_cons,List.length_nil];omega
    ·rcases List.mem_append.1 hp with hp|hp
     ·have:=hl2 p hp;omega
     ·simp at hp;subst hp;exact Nat.le_refl _
   have hT:=tmOf_eq hf hi
   have hn:=nErr_iff.1 (okay_at hf hi)
   cases hy:useY (f.getD i default).op with
   | true =>
    have hx:=useX_of_useY hy
    have e1:=okay_x hf hi hx
    have e2:=okay_y hf hi hy
    simp only [hy,hx,cond_true] at hT ⊢
    obtain ⟨a1,a2,a3,la,a4,a5⟩:=fin_spec hf k (f.getD i default).x.toNat s (by omega) (by omega) hs
    obtain ⟨b1,b2,b3,lb,b4,b5⟩:=fin_spec hf k (f.getD i default).y.toNat (fin f k (f.getD i default).x.toNat s).2 (by omega) (by omega) a1
    obtain ⟨m1,hm1⟩:=finT_ext (tmOf f (f.getD i default).x.toNat) s.out
    obtain ⟨m2,hm2⟩:=finT_ext (tmOf f (f.getD i default).y.toNat) (fin f k (f.getD i default).x.toNat s).2.out
    refine key _ _ _ b1 ⟨la++lb,by rw [b4,a4,List.append_assoc],fun p hp=>?_⟩ ?_ ⟨m1++m2,by rw [b3,hm2,a3,hm1,List.append_assoc]⟩
    ·rcases List.mem_append.1 hp with hp|hp
     ·have:=a5 p hp;omega
     ·have:=b5 p hp;omega
    ·rw [hT,finT,b3,b2,a3,a2]
   | false =>
    cases hx:useX (f.getD i default).op with
    | true =>
     have e1:=okay_x hf hi hx
     simp only [hy,hx,cond_true,cond_false] at hT ⊢
     obtain ⟨a1,a2,a3,la,a4,a5⟩:=fin_spec hf k (f.getD i default).x.toNat s (by omega) (by omega) hs
     obtain ⟨m1,hm1⟩:=finT_ext (tmOf f (f.getD i default).x.toNat) s.out
     have e0:(f.getD i default).y.toNat=0:=by rw [hn.2.2.2.2 hy];rfl
     refine key _ _ _ a1 ⟨la,a4,fun p hp=>by have:=a5 p hp;omega⟩ ?_ ⟨m1,by rw [a3,hm1]⟩
     rw [hT,finT,a2,a3,e0]
    | false =>
     simp only [hy,hx,cond_true,cond_false] at hT ⊢
     have e0:(f.getD i default).y.toNat=0:=by rw [hn.2.2.2.2 hy];rfl
     have e1:(f.getD i default).x.toNat=0:=by rw [hn.2.2.1 hx];rfl
     refine key _ _ _ hs ⟨[],by simp,by simp⟩ ?_ ⟨[],by simp⟩
     rw [hT,finT,e0,e1]
theorem inv_nil (f:List Nd):FInv f ⟨[],[]⟩:=⟨fun i r h=>by simp at h,by simp,by simp,by simp⟩
theorem fnodup_le {l:List Nat} {n:Nat} (h:l.Nodup) (hn : ∀ x∈l,x < n):l.length≤n:=by
 have h2:l ⊆ List.range n:=fun x hx=>List.mem_range.2 (hn x hx)
 have:=List.Nodup.length_le_of_subset h h2
 simpa using this
structure Canon (t:Tm) (c:List Nd):Prop where
 ok:Okay c
 pos:0 < c.length
 tree:tmOf c (c.length - 1)=t
 all : ∀ p:Hd→Prop,(∀ n∈c,p n.hd)↔t.all p
theorem canonT {t:Tm} (ht:t.ok):Canon t (finT t []).2:=by
 have h1:=finT_last ht
 obtain ⟨h2,h3⟩:=finT_okay t [] ht okay_nil
 refine ⟨h2,by omega,by rw [← h1,Nat.add_sub_cancel];exact h3,fun p=>?_⟩
 rw [finT_all p t []];simp
theorem compactL_eq {f:List Nd} (hf:Okay f) {i:Nat} (hi:i < f.length):compactL f i=(finT (tmOf f i) []).2∧(compactL f i).length≤f.length∧(fin f (i+1) i ⟨[],[]⟩).1+1=(compactL f i).length:=by
 obtain ⟨a1,a2,a3,a4⟩:=fin_spec hf (i+1) i ⟨[],[]⟩ (by omega) hi (inv_nil f)
 refine ⟨a3,?_,?_⟩
 ·have h1:=a1.len
  have h2:=fnodup_le a1.keys (n:=f.length) (fun x hx=>by obtain ⟨p,hp,rfl⟩:=List.mem_map.1 hx;exact a1.rng p hp)
  rw [List.length_map] at h2
  unfold compactL;omega
 ·unfold compactL
  rw [a2,a3]
  exact finT_last (tmOf_ok hf (i+1) i (by omega) hi)
theorem compactL_canon {f:List Nd} (hf:Okay f) {i:Nat} (hi:i < f.length):Canon (tmOf f i) (compactL f i):=by
 rw [(compactL_eq hf hi).1];exact canonT (tmOf_ok hf (i+1) i (by omega) hi)
def sets {β:Type} (v:Hd→β→β→β) (d:β):List Nd→List β→List β
 | [],acc=>acc
 | n::r,acc=>sets v d r (acc++[v n.hd (acc.getD n.x.toNat d) (acc.getD n.y.toNat d)])
def ev {β:Type} (v:Hd→β→β→β) (d:β):Tm→β
 | .z h=>v h d d
 | .u h x=>v h (ev v d x) d
 | .b h x y=>v h (ev v d x) (ev v d y)
structure Uses {β:Type} (v:Hd→β→β→β):Prop where
 x : ∀ h a b c,useX h.op=false→v h a c=v h b c
 y : ∀ h a b c,useY h.op=false→v h c a=v h c b
theorem sets_go {β:Type} {v:Hd→β→β→β} {d:β} (hv:Uses v) {f:List Nd} (hf:Okay f) : ∀ (l:List Nd) (acc:List β),f.drop acc.length=l→acc.length≤f.length→(∀ i,i < acc.length→acc.getD i d=ev v d (tmOf f i)) →
  ∀ i,i < f.length→(sets v d l acc).getD i d=ev v d (tmOf f i)
 | [],acc,h1,h2,h3,i,hi=>by
  have:acc.length=f.length:=by
   have:=congrArg List.length h1;simp at this;omega
  exact h3 i (by omega)
 | n::r,acc,h1,h2,h3,i,hi=>by
  have hlt:acc.length < f.length:=by
   have:=congrArg List.length h1;simp at this;omega
  have hn:f.getD acc.length default=n:=by
   have:=congrArg (fun l=>l[0]?) h1
   simp at this
   simp [List.getD,this]
  rw [sets]
  refine sets_go hv hf r _ ?_ (by simp;omega) (fun j hj=>?_) i hi
  ·simp only [List.length_append,List.length_cons,List.length_nil]
   have:=congrArg List.tail h1
   simpa using this
  ·by_cases hj2:j < acc.length
   ·rw [show (acc++[v n.hd (acc.getD n.x.toNat d) (acc.getD n.y.toNat d)]).getD j d=acc.getD j d by simp [List.getD,List.getElem?_append_left hj2]]
    exact h3 j hj2
   ·simp at hj
    have e:j=acc.length:=by omega
    subst e
    rw [show (acc++[v n.hd (acc.getD n.x.toNat d) (acc.getD n.y.toNat d)]).getD acc.length d=v n.hd (acc.getD n.x.toNat d) (acc.getD n.y.toNat d) by simp [List.getD]]
    rw [tmOf_eq hf hlt,hn]
    cases hy:useY n.op with
    | true =>
     have hx:=useX_of_useY hy
     have e1:=okay_x hf hlt (by rw [hn];exact hx)
     have e2:=okay_y hf hlt (by rw [hn];exact hy)
     rw [hn] at e1 e2
     simp only [cond_true,ev]
     rw [h3 _ e1.2,h3 _ e2.2]
    | false =>
     cases hx:useX n.op with
     | true =>
      have e1:=okay_x hf hlt (by rw [hn];exact hx)
      rw [hn] at e1
      simp only [cond_true,cond_false,ev]
      rw [h3 _ e1.2]
      exact hv.y _ _ _ _ hy
     | false =>
      simp only [cond_false,ev]
      rw [hv.x _ _ d _ hx,hv.y _ _ d _ hy]
theorem sets_last {β:Type} {v:Hd→β→β→β} {d:β} (hv:Uses v) {t:Tm} {c:List Nd} (hc:Canon t c):(sets v d c []).getD (c.length - 1) d=ev v d t:=by
 have hp:=hc.pos
 rw [sets_go hv hc.ok c [] (by simp) (by simp) (fun i hi=>by simp at hi) (c.length - 1) (by omega),hc.tree]
end Go.Ab
namespace Go.Ab
open Go Go.Proofs
set_option linter.unusedSimpArgs false
set_option linter.unusedVariables false
set_option maxRecDepth 10000
set_option maxHeartbeats 4000000
variable {T:Nat→Obj→Prop}
theorem TestS.yes {b:Bool} {p q:Prop} (hb:b=true) (h:p):TestS b p q:=⟨fun _=>h,fun e=>by rw [hb] at e;cases e⟩
theorem TestS.no {b:Bool} {p q:Prop} (hb:b=false) (h:q):TestS b p q:=⟨fun e=>(by rw [hb] at e;cases e),fun _=>h⟩
abbrev dNd (n:Nd):D := .agg [.int .i64 n.op,.int .i64 n.i,.int .i64 n.e,.int .i64 n.g,.int .i64 n.x,.int .i64 n.y]
abbrev dF (f:List Nd):D := .arr 6 (f.map dNd)
abbrev dUse (op:Int):D := .agg [.bool (useX op),.bool (useY op),.bool (useFact op),.bool (useAgent op),.bool (useGroup op),.bool (useEvent op),.int .i64 (fragOf op)]
def nErrB (ok ux uy fa ag ev gr:Bool) (n:Nd) (at_:Int):Int :=
 if ok=false then 10 else
 if opdOk ux n.x at_=false∨opdOk uy n.y at_=false then 3 else
 if (!(fa||ag||ev)&&decide (n.i≠0)||(!ev&&decide (n.e≠0))||(!gr&&decide (n.g≠0)))=true then 3 else
 if (outside fa n.i 0 7||outside ag n.i 0 3||outside ev n.i 0 7||outside ev n.e 0 7||outside gr n.g 1 15)=true then 2 else 0
end Go.Ab
namespace Go.Ab
open Go Go.Proofs
set_option linter.unusedSimpArgs false
set_option linter.unusedVariables false
set_option maxRecDepth 10000
set_option maxHeartbeats 4000000
variable {T:Nat→Obj→Prop}
abbrev dDone (d:List (Nat×Nat)):List (D×D):=d.map fun p=>(D.int .i64 (p.1:Int),D.int .i64 (p.2:Int))
def dNum (l:List Nd) (k:Nat):List (D×D):=match l with
 | []=>[]
 | n::r=>(dNd n,.int .i64 (k:Int))::dNum r (k+1)
abbrev finFn:V := .fn f_formula_compact_1 [.ptr 0 0,.ptr 1 0,.ptr 2 0,.ptr 3 0,.ptr 4 0]
abbrev finOb (f:List Nd) (out:V) (s:FSt):List Ob:=[.box [.map 5],.box [.d (dF f)],.box [finFn],.box [.map 6],.box [out],.map (dDone s.done),.map (dNum s.out 0)]
abbrev finVs (i:Int):List V:=[.d (.int .i64 i),.ptr 0 0,.ptr 1 0,.ptr 2 0,.ptr 3 0,.ptr 4 0]
abbrev finUp (f:List Nd) (s:FSt):List (Option Ob):=[some (.box [.map 5]),some (.box [.d (dF f)]),some (.box [finFn]),some (.box [.map 6]),some (.box [.own 8]),some (.map (dDone s.done)),some (.map (dNum s.out 0)),none,some (.row 6 (s.out.map dNd))]
abbrev finUp0 (f:List Nd) (s:FSt):List (Option Ob):=[some (.box [.map 5]),some (.box [.d (dF f)]),some (.box [finFn]),some (.box [.map 6]),some (.box [.own 7]),some (.map (dDone s.done)),some (.map (dNum s.out 0)),some (.row 6 (s.out.map dNd))]
end Go.Ab
namespace Go.Ab
set_option linter.unusedVariables false
set_option linter.unusedSimpArgs false
def uni (m:Hd→Nat) (c:List Nd):Nat:=c.foldl (fun s n=>s|||m n.hd) 0
theorem uni_go (m:Hd→Nat) : ∀ (c:List Nd) (s:Nat) (i:Nat),(c.foldl (fun s n=>s|||m n.hd) s).testBit i=(s.testBit i||c.any fun n=>(m n.hd).testBit i)
 | [],s,i=>by simp
 | n::r,s,i=>by simp only [List.foldl_cons,uni_go m r,Nat.testBit_or,List.any_cons,Bool.or_assoc]
theorem uni_bit (m:Hd→Nat) (c:List Nd) (i:Nat):(uni m c).testBit i=c.any fun n=>(m n.hd).testBit i:=by
 unfold uni;rw [uni_go];simp
theorem uni_lt (m:Hd→Nat) {b:Nat} : ∀ {c:List Nd},uni m c < 2 ^ b ↔ ∀ n∈c,m n.hd < 2 ^ b:=by
 intro c
 constructor
 ·intro h n hn
  refine Nat.lt_pow_two_of_testBit _ fun i hi=>?_
  have h1:=Nat.testBit_lt_two_pow (Nat.lt_of_lt_of_le h (Nat.pow_le_pow_right (by omega) hi))
  rw [uni_bit] at h1
  exact Bool.eq_false_iff.2 fun h2=>by
   have:(c.any fun n=>(m n.hd).testBit i)=true:=List.any_eq_true.2 ⟨n,hn,h2⟩
   rw [this] at h1;cases h1
 ·intro h
  refine Nat.lt_pow_two_of_testBit _ fun i hi=>?_
  rw [uni_bit]
  refine List.any_eq_false.2 fun n hn=>?_
  have:=Nat.testBit_lt_two_pow (Nat.lt_of_lt_of_le (h n hn) (Nat.pow_le_pow_right (by omega) hi))
  simp [this]
theorem ofIntK {k:IntKind} {a:Nat} (h:a < 2 ^ k.bits):(BitVec.ofInt k.bits (a:Int)).toNat=a:=by
 rw [BitVec.toNat_ofInt,Int.emod_eq_of_lt (Int.natCast_nonneg a) (show (a:Int) < ((2 ^ k.bits:Nat):Int) from Int.ofNat_lt.2 h)]
 rfl
theorem wrap_nat {a:Nat} (h:a < 2 ^ 63):IntKind.wrap .i64 (a:Int)=a:=wrap_inR ⟨by omega,by omega⟩
theorem bits_or {a b:Nat} (ha:a < 2 ^ 63) (hb:b < 2 ^ 63):bitsI .i64 (fun p q=>p|||q) (a:Int) (b:Int)=((a|||b:Nat):Int):=by
 unfold bitsI
 rw [BitVec.toNat_or,ofIntK (k := .i64) (by simp [IntKind.bits];omega),ofIntK (k := .i64) (by simp [IntKind.bits];omega)]
 exact wrap_nat (Nat.or_lt_two_pow ha hb)
theorem bits_andNot {a b:Nat} (ha:a < 2 ^ 63) (hb:b < 2 ^ 63):bitsI .i64 (fun p q=>p &&& ~~~q) (a:Int) (b:Int)=0 ↔ ∀ i,a.testBit i=true→b.testBit i=true:=by
 unfold bitsI
 have h64 : ∀ {a:Nat},a < 2 ^ 63→a < 2 ^ 64:=fun h=>by omega
 have e:(BitVec.ofInt IntKind.i64.bits (a:Int) &&& ~~~BitVec.ofInt IntKind.i64.bits (b:Int)).toNat < 2 ^ 63:=by
  rw [BitVec.toNat_and,ofIntK (k := .i64) (h64 ha)]
  exact Nat.lt_of_le_of_lt Nat.and_le_left ha
 rw [wrap_nat e]
 have e2:(((BitVec.ofInt IntKind.i64.bits (a:Int) &&& ~~~BitVec.ofInt IntKind.i64.bits (b:Int)).toNat:Nat):Int)=0↔(BitVec.ofInt IntKind.i64.bits (a:Int) &&& ~~~BitVec.ofInt IntKind.i64.bits (b:Int))=0#_:=by
  constructor
  ·intro h;exact BitVec.eq_of_toNat_eq (by simpa using (show (BitVec.ofInt IntKind.i64.bits (a:Int) &&& ~~~BitVec.ofInt IntKind.i64.bits (b:Int)).toNat=0 by omega))
  ·intro h;rw [h];simp
 rw [e2]
 have bit : ∀ {c:Nat},c < 2 ^ 63 → ∀ i,(BitVec.ofInt IntKind.i64.bits (c:Int)).getLsbD i=c.testBit i:=fun {c} hc i=>by
  rw [← BitVec.testBit_toNat,ofIntK (k := .i64) (h64 hc)]
 constructor
 ·intro h i hi
  have h2:=congrArg (fun x=>x.getLsbD i) h
  have hlt:i < 64:=by
   refine Nat.lt_of_not_le fun hle=>?_
   have:=Nat.testBit_lt_two_pow (Nat.lt_of_lt_of_le (h64 ha) (Nat.pow_le_pow_right (by omega) hle))
   rw [this] at hi;cases hi
  simp only [BitVec.getLsbD_and,BitVec.getLsbD_not,bit ha,bit hb,hi,Bool.true_and,BitVec.getLsbD_zero] at h2
  have:decide (i < IntKind.i64.bits)=true:=decide_eq_true hlt
  rw [this] at h2
  simpa using h2
 ·intro h
  apply BitVec.eq_of_getLsbD_eq
  intro i hi
  simp only [BitVec.getLsbD_and,BitVec.getLsbD_not,bit ha,bit hb,BitVec.getLsbD_zero]
  cases ha':a.testBit i with
  | false=>simp
  | true=>simp [h i ha']
def fragN (h:Hd):Nat:=(fragOf h.op).toNat
def factN (h:Hd):Nat:=if useFact h.op=true then 2 ^ h.i.toNat else 0
def agentN (h:Hd):Nat:=if useAgent h.op=true then 2 ^ h.i.toNat else h.g.toNat
theorem fragN_lt (h:Hd):fragN h < 2 ^ 9:=by
 unfold fragN fragOf
 repeat' split
 all_goals decide
end Go.Ab
namespace Go.Ab
open Go Go.Proofs
set_option linter.unusedSimpArgs false
set_option linter.unusedVariables false
set_option maxRecDepth 10000
set_option maxHeartbeats 4000000
variable {T:Nat→Obj→Prop}
def everyK (p:PM) (g:Nat) (s:BitVec 64) (k:Nat):BitVec 64:=(List.range k).foldl (fun o (a:Nat)=>if g.testBit a=true then o&&&knowsL p (a:Int) s else o) (allL p.W)
def everyL (p:PM) (g:Nat) (s:BitVec 64):BitVec 64:=everyK p g s p.cell.length
theorem everyK_succ (p:PM) (g:Nat) (s:BitVec 64) (k:Nat):everyK p g s (k+1)=if g.testBit k=true then everyK p g s k&&&knowsL p (k:Int) s else everyK p g s k:=by
 rw [everyK,List.range_succ,List.foldl_append];rfl
end Go.Ab
namespace Go.Ab
open Go Go.Proofs
set_option linter.unusedSimpArgs false
set_option linter.unusedVariables false
set_option maxRecDepth 10000
set_option maxHeartbeats 4000000
variable {T:Nat→Obj→Prop}
theorem sub_iff {x s:BitVec 64} : x &&& ~~~s=0#64 ↔ ∀ i,x.getLsbD i=true→s.getLsbD i=true:=by
 rw [zero_iff]
 constructor
 ·intro h i hi
  have h1:=h i
  rw [BitVec.getLsbD_and,BitVec.getLsbD_not,hi,Bool.true_and] at h1
  have:i < 64:=BitVec.lt_of_getLsbD hi
  simpa [this] using h1
 ·intro h i
  rw [BitVec.getLsbD_and,BitVec.getLsbD_not]
  cases hx:x.getLsbD i with
  | false=>simp
  | true=>simp [h i hx]
theorem u_ext {x y:BitVec 64} (h : ∀ i,x.getLsbD i=true↔y.getLsbD i=true):x=y :=
 BitVec.eq_of_getLsbD_eq fun i _=>Bool.eq_iff_iff.2 (h i)
theorem set_bit {n:Nat} (hn:n≤64) {f:Nat→Bool} {w:Nat} : (setTo f n).getLsbD w=true↔w < n∧f w=true:=by
 rw [setTo_bit]
 simp only [Bool.and_eq_true,decide_eq_true_eq]
 exact ⟨fun h=>⟨h.1.2,h.2⟩,fun h=>⟨⟨by omega,h.1⟩,h.2⟩⟩
theorem set_is {n:Nat} (hn:n≤64) {P:Nat→Prop} [DecidablePred P] {w:Nat} : (setTo (fun w=>decide (P w)) n).getLsbD w=true↔w < n∧P w:=by
 rw [set_bit hn,decide_eq_true_eq]
def InC (p:PM) (a w v:Nat):Prop:=v < p.W.toNat∧at0 (rowAt p.cell a) v=at0 (rowAt p.cell a) w
def rkA (p:PM) (a w:Nat):Int:=at0 (rowAt p.rank a) w
section
variable {p:PM} (hg:Good p) (hc0:checkL p=0)
include hc0
theorem at_of {a w:Nat} (ha:a < p.cell.length) (hw:w < p.W.toNat):At p a w:=⟨hc0,by omega,by omega,by omega,by omega⟩
theorem W64:p.W.toNat≤64:=by have:=(checkL_good hc0).w2;omega
theorem all_bit {i:Nat} : (allL p.W).getLsbD i=true↔i < p.W.toNat:=by
 have h1:=(checkL_good hc0).w1
 have h2:=W64 hc0
 by_cases h:i < 64
 ·rw [allL_bit (by omega) h,decide_eq_true_eq];omega
 ·exact ⟨fun h'=>absurd (BitVec.lt_of_getLsbD h') h,fun h'=>by omega⟩
theorem cell_bit {a w i:Nat} (ha:a < p.cell.length) (hw:w < p.W.toNat):(cellL p a w).getLsbD i=true↔InC p a w i:=cellL_bit (at_of hc0 ha hw)
theorem knows_bit {a:Nat} (ha:a < p.cell.length) {s:BitVec 64} {w:Nat} : (knowsL p a s).getLsbD w=true↔w < p.W.toNat ∧ ∀ v,InC p a w v→s.getLsbD v=true:=by
 unfold knowsL
 rw [set_is (W64 hc0)]
 refine and_congr_right fun hw=>?_
 rw [sub_iff]
 exact ⟨fun h v hv=>h v ((cell_bit hc0 ha hw).2 hv),fun h v hv=>h v ((cell_bit hc0 ha hw).1 hv)⟩
def Suc (p:PM) (g w v:Nat):Prop:=w < p.W.toNat ∧ ∃ a,a < p.cell.length∧g.testBit a=true∧InC p a w v
omit hc0 in
theorem Suc.lt {g w v:Nat} (h:Suc p g w v):v < p.W.toNat:=by obtain ⟨_,a,_,_,h⟩:=h;exact h.1
theorem everyK_bit {g:Nat} {s:BitVec 64} {w:Nat} : ∀ k,k≤p.cell.length→((everyK p g s k).getLsbD w=true↔w < p.W.toNat ∧ ∀ a,a < k→g.testBit a=true → ∀ v,InC p a w v→s.getLsbD v=true)
 | 0,_=>by
  show (allL p.W).getLsbD w=true↔_
  rw [all_bit hc0]
  exact ⟨fun h=>⟨h,fun a h=>by omega⟩,fun h=>h.1⟩
 | k+1,hk=>by
  have ih:=everyK_bit (g:=g) (s:=s) (w:=w) k (by omega)
  rw [everyK_succ]
  split
  ·rename_i hb
   rw [BitVec.getLsbD_and,Bool.and_eq_true,ih,knows_bit hc0 (by omega)]
   constructor
   ·rintro ⟨⟨h1,h2⟩,-,h3⟩
    refine ⟨h1,fun a ha hga v hv=>?_⟩
    by_cases e:a=k
    ·subst e;exact h3 v hv
    ·exact h2 a (by omega) hga v hv
   ·rintro ⟨h1,h2⟩
    exact ⟨⟨h1,fun a ha=>h2 a (by omega)⟩,h1,h2 k (by omega) hb⟩
  ·rename_i hb
   rw [ih]
   constructor
   ·rintro ⟨h1,h2⟩
    refine ⟨h1,fun a ha hga v hv=>?_⟩
    by_cases e:a=k
    ·subst e;exact absurd hga hb
    ·exact h2 a (by omega) hga v hv
   ·rintro ⟨h1,h2⟩
    exact ⟨h1,fun a ha=>h2 a (by omega)⟩
theorem every_bit {g:Nat} {s:BitVec 64} {w:Nat} : (everyL p g s).getLsbD w=true↔w < p.W.toNat ∧ ∀ v,Suc p g w v→s.getLsbD v=true:=by
 rw [everyL,everyK_bit hc0 _ (Nat.le_refl _)]
 refine and_congr_right fun hw=>?_
 exact ⟨fun h v ⟨_,a,h1,h2,h3⟩=>h a h1 h2 v h3,fun h a h1 h2 v h3=>h v ⟨hw,a,h1,h2,h3⟩⟩
end
inductive CP (p:PM) (g:Nat) (c:BitVec 64):Nat→Nat→Prop where
 | base {w v:Nat} : Suc p g w v→c.getLsbD v=true→CP p g c w v
 | step {w u v:Nat} : CP p g c w u→Suc p g u v→c.getLsbD v=true→CP p g c w v
theorem CP.pre {p:PM} {g:Nat} {c:BitVec 64} {w u v:Nat} (h:Suc p g w u) (hu:c.getLsbD u=true) (hp:CP p g c u v):CP p g c w v:=by
 induction hp with
 | base h1 h2=>exact .step (.base h hu) h1 h2
 | step _ h1 h2 ih=>exact .step ih h1 h2
noncomputable def commonL (p:PM) (g:Nat) (c s:BitVec 64):BitVec 64:=setTo (fun w => @decide (∀ v,CP p g c w v→s.getLsbD v=true) (Classical.propDecidable _)) p.W.toNat
theorem common_bit {p:PM} (hc0:checkL p=0) {g:Nat} {c s:BitVec 64} {w:Nat} : (commonL p g c s).getLsbD w=true↔w < p.W.toNat ∧ ∀ v,CP p g c w v→s.getLsbD v=true:=by
 unfold commonL
 rw [set_bit (W64 hc0),@decide_eq_true_eq _ (Classical.propDecidable _)]
def stepL (p:PM) (g:Nat) (c s out:BitVec 64):BitVec 64:=everyL p g (allL p.W &&& ~~~c|||s&&&out)
theorem step_bit {p:PM} (hc0:checkL p=0) {g:Nat} {c s out:BitVec 64} {w:Nat} : (stepL p g c s out).getLsbD w=true↔w < p.W.toNat ∧ ∀ v,Suc p g w v→c.getLsbD v=true→s.getLsbD v=true∧out.getLsbD v=true:=by
 unfold stepL
 rw [every_bit hc0]
 refine and_congr_right fun hw=>forall_congr' fun v=>?_
 constructor
 ·intro h h1 h2
  have h3:=h h1
  rw [BitVec.getLsbD_or,BitVec.getLsbD_and,BitVec.getLsbD_and,BitVec.getLsbD_not,h2] at h3
  simpa using h3
 ·intro h h1
  have hv:=h1.lt
  have h64:=W64 hc0
  rw [BitVec.getLsbD_or,BitVec.getLsbD_and,BitVec.getLsbD_and,BitVec.getLsbD_not,(all_bit hc0).2 hv]
  cases hcv:c.getLsbD v with
  | false=>simp;omega
  | true=>simp [h h1 hcv]
structure Com (p:PM) (g:Nat) (c s out:BitVec 64):Prop where
 lo : ∀ w,(commonL p g c s).getLsbD w=true→out.getLsbD w=true
 dec : ∀ w,(stepL p g c s out).getLsbD w=true→out.getLsbD w=true
 all : ∀ w,out.getLsbD w=true→w < p.W.toNat
theorem Com.start {p:PM} (hc0:checkL p=0) (g:Nat) (c s:BitVec 64):Com p g c s (allL p.W) :=
 ⟨fun w h=>(all_bit hc0).2 ((common_bit hc0).1 h).1,fun w h=>(all_bit hc0).2 ((step_bit hc0).1 h).1,fun w h=>(all_bit hc0).1 h⟩
theorem Com.next {p:PM} (hc0:checkL p=0) {g:Nat} {c s out:BitVec 64} (h:Com p g c s out):Com p g c s (stepL p g c s out) where
 lo w hw:=by
  obtain ⟨h1,h2⟩:=(common_bit hc0).1 hw
  refine (step_bit hc0).2 ⟨h1,fun v hv hcv=>⟨h2 v (.base hv hcv),h.lo v ((common_bit hc0).2 ⟨hv.lt,fun u hu=>h2 u (hu.pre hv hcv)⟩)⟩⟩
 dec w hw:=by
  obtain ⟨h1,h2⟩:=(step_bit hc0).1 hw
  exact (step_bit hc0).2 ⟨h1,fun v hv hcv=>⟨(h2 v hv hcv).1,h.dec v (h2 v hv hcv).2⟩⟩
 all w hw:=((step_bit hc0).1 hw).1
theorem Com.done {p:PM} (hc0:checkL p=0) {g:Nat} {c s out:BitVec 64} (h:Com p g c s out) (e:stepL p g c s out=out):out=commonL p g c s:=by
 refine u_ext fun w=>⟨fun hw=>(common_bit hc0).2 ⟨h.all w hw,fun v hv=>?_⟩,h.lo w⟩
 have key : ∀ v,CP p g c w v→s.getLsbD v=true∧out.getLsbD v=true:=fun v hv=>by
  induction hv with
  | base h1 h2=>rw [← e] at hw;exact ((step_bit hc0).1 hw).2 _ h1 h2
  | step _ h1 h2 ih =>
   have ih:=ih.2
   rw [← e] at ih
   exact ((step_bit hc0).1 ih).2 _ h1 h2
 exact (key v hv).1
end Go.Ab
namespace Go.Ab
open Go Go.Proofs
set_option linter.unusedSimpArgs false
set_option linter.unusedVariables false
set_option maxRecDepth 10000
set_option maxHeartbeats 4000000
variable {T:Nat→Obj→Prop}
noncomputable def valL (p:PM) (h:Hd) (x y:BitVec 64):BitVec 64 :=
 if h.op=1 then allL p.W else if h.op=3 then p.val.getD h.i.toNat 0#64 else if h.op=4 then allL p.W &&& ~~~x else if h.op=5 then x&&&y else if h.op=6 then x|||y else if h.op=7 then allL p.W &&& ~~~x|||y else
 if h.op=8 then allL p.W &&& ~~~(x ^^^ y) else if h.op=9 then knowsL p h.i x else if h.op=10 then allL p.W &&& ~~~knowsL p h.i (allL p.W &&& ~~~x) else if h.op=11 then everyL p h.g.toNat x else
 if h.op=13 then commonL p h.g.toNat x y else if h.op=14 then believesL p h.i x y else if h.op=15 then safelyL p h.i x else 0#64
end Go.Ab
namespace Go.Ab
open Go Go.Proofs
set_option linter.unusedSimpArgs false
set_option linter.unusedVariables false
set_option maxRecDepth 10000
set_option maxHeartbeats 4000000
set_option maxHeartbeats 40000000
variable {T:Nat→Obj→Prop}
end Go.Ab
namespace Go.Ab
open Go Go.Proofs
set_option linter.unusedSimpArgs false
set_option linter.unusedVariables false
set_option maxRecDepth 10000
set_option maxHeartbeats 4000000
set_option maxHeartbeats 40000000
variable {T:Nat→Obj→Prop}
end Go.Ab
namespace Go.Ab
open Go Go.Proofs
set_option linter.unusedSimpArgs false
set_option linter.unusedVariables false
set_option maxRecDepth 10000
set_option maxHeartbeats 4000000
set_option maxHeartbeats 40000000
variable {T:Nat→Obj→Prop}
end Go.Ab
namespace Go.Ab
open Go Go.Proofs
set_option linter.unusedSimpArgs false
set_option linter.unusedVariables false
set_option maxRecDepth 10000
set_option maxHeartbeats 4000000
set_option maxHeartbeats 40000000
variable {T:Nat→Obj→Prop}
end Go.Ab
namespace Go.Ab
open Go Go.Proofs
set_option linter.unusedSimpArgs false
set_option linter.unusedVariables false
set_option maxRecDepth 10000
set_option maxHeartbeats 4000000
set_option maxHeartbeats 40000000
variable {T:Nat→Obj→Prop}
end Go.Ab
namespace Go.Ab
open Go Go.Proofs
set_option linter.unusedSimpArgs false
set_option linter.unusedVariables false
set_option maxRecDepth 10000
set_option maxHeartbeats 4000000
set_option maxHeartbeats 40000000
variable {T:Nat→Obj→Prop}
end Go.Ab
namespace Go.Ab
open Go Go.Proofs
set_option linter.unusedSimpArgs false
set_option linter.unusedVariables false
set_option maxRecDepth 10000
set_option maxHeartbeats 4000000
variable {T:Nat→Obj→Prop}
end Go.Ab
namespace Go.Ab
open Go Go.Proofs
set_option linter.unusedSimpArgs false
set_option linter.unusedVariables false
set_option maxRecDepth 10000
set_option maxHeartbeats 4000000
variable {T:Nat→Obj→Prop}
def subL (f:List Nd) (i:Int):List Nd:=if fErr f≠0∨i < 0∨(f.length:Int)≤i then [] else compactL f i.toNat
def cL (f:List Nd):List Nd:=if fErr f≠0 then [] else compactL f (f.length - 1)
theorem cL_canon {f:List Nd} (h:fErr f=0):Canon (tmOf f (f.length - 1)) (cL f)∧(cL f).length≤f.length:=by
 obtain ⟨h1,h2,h3⟩:=fErr_ok.1 h
 unfold cL
 rw [if_neg (by omega)]
 exact ⟨compactL_canon h3 (by omega),(compactL_eq h3 (by omega)).2.1⟩
theorem pow_small {i:Int} (h0:0≤i) (h7:i≤7):(-9223372036854775808≤(1:Int) * 2 ^ (min i.toNat IntKind.i64.bits)∧(1:Int) * 2 ^ (min i.toNat IntKind.i64.bits)≤9223372036854775807)∧((2 ^ i.toNat:Nat):Int)=(1:Int) * 2 ^ (min i.toNat IntKind.i64.bits):=by
 have:i=0∨i=1∨i=2∨i=3∨i=4∨i=5∨i=6∨i=7:=by omega
 rcases this with rfl|rfl|rfl|rfl|rfl|rfl|rfl|rfl<;>decide
def belowL (m:Nat) (n:Int):Bool:=decide (31≤n∨m < 2 ^ n.toNat)
def fitsL (f:List Nd) (agents facts:Int):Bool:=decide (fErr f=0)&&belowL (uni agentN (cL f)) agents&&belowL (uni factN (cL f)) facts
end Go.Ab
namespace Go.Ab
open Go Go.Proofs
set_option linter.unusedSimpArgs false
set_option linter.unusedVariables false
set_option maxRecDepth 10000
set_option maxHeartbeats 4000000
variable {T:Nat→Obj→Prop}
theorem uses_valL (p:PM):Uses (valL p) where
 x h a b c hx:=by
  have : ¬(4≤h.op∧h.op≤21):=by simpa [useX] using hx
  unfold valL
  repeat (rw [if_neg (show ¬h.op=4 by omega)])
  by_cases h1:h.op=1
  ·simp [h1]
  ·by_cases h3:h.op=3
   ·simp [h3]
   ·simp only [h1,h3,if_false,show ¬h.op=5 by omega,show ¬h.op=6 by omega,show ¬h.op=7 by omega,show ¬h.op=8 by omega,show ¬h.op=9 by omega,show ¬h.op=10 by omega,show ¬h.op=11 by omega,show ¬h.op=13 by omega,show ¬h.op=14 by omega,show ¬h.op=15 by omega]
 y h a b c hy:=by
  have : ¬(5≤h.op∧h.op≤8∨h.op=13∨h.op=14∨h.op=16∨h.op=19∨h.op=21):=by simpa [useY] using hy
  unfold valL
  simp only [show ¬h.op=5 by omega,show ¬h.op=6 by omega,show ¬h.op=7 by omega,show ¬h.op=8 by omega,show ¬h.op=13 by omega,show ¬h.op=14 by omega,if_false]
noncomputable def holdsL (p:PM) (f:List Nd):BitVec 64×Int :=
 if checkL p≠0 then (0#64,checkL p) else if fErr f≠0 then (0#64,fErr f) else if bitsI .i64 (fun p q=>p &&& ~~~q) (uni fragN (cL f):Int) 59≠0 then (0#64,10) else
 if fitsL f p.cell.length p.val.length=false then (0#64,2) else ((sets (valL p) 0#64 (cL f) []).getD ((cL f).length - 1) 0#64,0)
abbrev dUE (x:BitVec 64×Int):D := .tup [.u64 x.1,.int .i64 x.2]
end Go.Ab
namespace Go.Ab
open Go Go.Proofs
set_option linter.unusedSimpArgs false
set_option linter.unusedVariables false
set_option maxRecDepth 10000
set_option maxHeartbeats 4000000
variable {T:Nat→Obj→Prop}
def reqL (p:PM) (a:Int) (s:BitVec 64):Int:=if checkL p≠0 then checkL p else if a < 0∨p.cell.length≤a∨s &&& ~~~allL p.W≠0#64 then 2 else 0
def BelievesL (p:PM) (a:Int) (c s:BitVec 64):BitVec 64×Int:=if reqL p a (c|||s)≠0 then (0#64,reqL p a (c|||s)) else (believesL p a c s,0)
def StrongP (p:PM) (a:Int) (s:BitVec 64) (w:Nat):Prop:=(∀ u,u < p.W.toNat → ∀ v,v < p.W.toNat→(cellL p a w&&&s).getLsbD u=true→(cellL p a w &&& ~~~s).getLsbD v=true→at0 (rowAt p.rank a.toNat) u < at0 (rowAt p.rank a.toNat) v)∧cellL p a w&&&s≠0#64
instance (p:PM) (a:Int) (s:BitVec 64) (w:Nat):Decidable (StrongP p a s w):=by unfold StrongP;exact inferInstance
def StrongL (p:PM) (a:Int) (s:BitVec 64):BitVec 64×Int:=if reqL p a s≠0 then (0#64,reqL p a s) else (setTo (fun w=>decide (StrongP p a s w)) p.W.toNat,0)
noncomputable def atL (p:PM) (w:Int) (f:List Nd):Bool×Int:=if (holdsL p f).2≠0 then (false,(holdsL p f).2) else if w < 0∨p.W≤w then (false,2) else ((holdsL p f).1.getLsbD w.toNat,0)
abbrev dBE (x:Bool×Int):D := .tup [.bool x.1,.int .i64 x.2]
end Go.Ab
namespace Go.Ab
set_option linter.unusedVariables false
set_option linter.unusedSimpArgs false
def shiftN (k:Nat) (n:Nd):Nd := { n with x:=if useX n.op=true then n.x+k else n.x,y:=if useY n.op=true then n.y+k else n.y }
def addL (f c:List Nd):List Nd:=f++c.map (shiftN f.length)
theorem nErr_shift {n:Nd} {j:Int} {k:Nat} (hj:0≤j) (h:nErr n j=0):nErr (shiftN k n) (k+j)=0:=by
 obtain ⟨h1,h2,h3,h4,h5⟩:=nErr_iff.1 h
 refine nErr_iff.2 ⟨h1,fun e=>?_,fun e=>?_,fun e=>?_,fun e=>?_⟩
 ·have e:useX n.op=true:=e
  have:=h2 e
  simp only [shiftN,e,if_true];omega
 ·have e:useX n.op=false:=e
  have:=h3 e
  simp only [shiftN,e];simpa using this
 ·have e:useY n.op=true:=e
  have:=h4 e
  simp only [shiftN,e,if_true];omega
 ·have e:useY n.op=false:=e
  have:=h5 e
  simp only [shiftN,e];simpa using this
theorem addL_okay {f c:List Nd} (hf:Okay f) (hc:Okay c):Okay (addL f c):=by
 intro k n hk
 unfold addL at hk
 rw [List.getElem?_append] at hk
 split at hk
 ·exact hf k n hk
 ·rename_i h
  rw [List.getElem?_map,Option.map_eq_some_iff] at hk
  obtain ⟨m,hm,rfl⟩:=hk
  have:=nErr_shift (k:=f.length) (by omega) (hc _ m hm)
  rwa [show ((f.length:Nat):Int)+((k - f.length:Nat):Int)=k by omega] at this
theorem addL_tree {f c:List Nd} (hf:Okay f) (hc:Okay c) : ∀ (m j:Nat),j < m→j < c.length→tmOf (addL f c) (f.length+j)=tmOf c j
 | 0,j,h,_=>by omega
 | m+1,j,h,hj=>by
  have ho:=addL_okay hf hc
  have hl:f.length+j < (addL f c).length:=by simp [addL];omega
  have hg:(addL f c).getD (f.length+j) default=shiftN f.length (c.getD j default):=by
   simp [addL,List.getD,hj]
  rw [tmOf_eq ho hl,tmOf_eq hc hj,hg]
  have eo:(shiftN f.length (c.getD j default)).op=(c.getD j default).op:=rfl
  have eh:(shiftN f.length (c.getD j default)).hd=(c.getD j default).hd:=rfl
  rw [eo,eh]
  cases hy:useY (c.getD j default).op with
  | true =>
   have hx:=useX_of_useY hy
   have e1:=okay_x hc hj hx
   have e2:=okay_y hc hj hy
   have x1:(shiftN f.length (c.getD j default)).x.toNat=f.length+(c.getD j default).x.toNat:=by simp only [shiftN,hx,if_true];omega
   have y1:(shiftN f.length (c.getD j default)).y.toNat=f.length+(c.getD j default).y.toNat:=by simp only [shiftN,hy,if_true];omega
   simp only [cond_true]
   rw [x1,y1,addL_tree hf hc m _ (by omega) (by omega),addL_tree hf hc m _ (by omega) (by omega)]
  | false =>
   cases hx:useX (c.getD j default).op with
   | true =>
    have e1:=okay_x hc hj hx
    have x1:(shiftN f.length (c.getD j default)).x.toNat=f.length+(c.getD j default).x.toNat:=by simp only [shiftN,hx,if_true];omega
    simp only [cond_true,cond_false]
    rw [x1,addL_tree hf hc m _ (by omega) (by omega)]
   | false=>rfl
theorem addL_old {f c:List Nd} (hf:Okay f) {j:Nat} (hj:j < f.length):tmOf (addL f c) j=tmOf f j:=tmOf_append hf hj
def buildGo:Nat→List Nd→Nd→List (List Nd)→Option (Nd×List Nd)
 | _,f,x,[]=>some (x,f)
 | k,f,x,o::r=>if fErr o≠0 then none else
  buildGo (k+1) (addL f (cL o)) (if k=0 then { x with x:=((addL f (cL o)).length:Int) - 1 } else { x with y:=((addL f (cL o)).length:Int) - 1 }) r
def finishL (x:Nd) (f:List Nd):List Nd:=if nErr x f.length≠0 then [] else if 200 < (compactL (f++[x]) f.length).length then [] else compactL (f++[x]) f.length
def buildL (x:Nd) (os:List (List Nd)):List Nd:=match buildGo 0 [] x os with
 | none=>[]
 | some (x,f)=>finishL x f
structure IsF (f:List Nd) (t:Tm):Prop where
 ok:fErr f=0
 tree:tmOf f (f.length - 1)=t
theorem isF_of {f:List Nd} (h:fErr f=0):IsF f (tmOf f (f.length - 1)):=⟨h,rfl⟩
theorem IsF.canon {f:List Nd} {t:Tm} (h:IsF f t):Canon t (cL f)∧(cL f).length≤f.length:=by
 have:=cL_canon h.ok
 rwa [h.tree] at this
theorem finish_isF {x:Nd} {f:List Nd} (hf:Okay f) (hx:nErr x f.length=0) (hl:f.length≤199):IsF (finishL x f) (tmOf (f++[x]) f.length)∧(finishL x f).length≤f.length+1:=by
 have hok:Okay (f++[x]):=by
  intro k n hk
  rw [List.getElem?_append] at hk
  split at hk
  ·exact hf k n hk
  ·rename_i h1
   have:k=f.length:=by have:=(List.getElem?_eq_some_iff.1 hk).1;simp at this;omega
   subst this
   simp at hk;subst hk;exact hx
 have hlt:f.length < (f++[x]).length:=by simp
 have h1:=compactL_canon hok hlt
 have h2:=(compactL_eq hok hlt).2.1
 simp only [List.length_append,List.length_cons,List.length_nil] at h2
 have e:finishL x f=compactL (f++[x]) f.length:=by
  unfold finishL
  rw [if_neg (by omega),if_neg (by omega)]
 rw [e]
 exact ⟨⟨fErr_ok.2 ⟨h1.pos,by omega,h1.ok⟩,h1.tree⟩,h2⟩
theorem root_eq {x:Nd} {f:List Nd} (hf:Okay f) (hx:nErr x f.length=0):tmOf (f++[x]) f.length=cond (useY x.op) (.b x.hd (tmOf f x.x.toNat) (tmOf f x.y.toNat)) (cond (useX x.op) (.u x.hd (tmOf f x.x.toNat)) (.z x.hd)):=by
 have hok:Okay (f++[x]):=by
  intro k n hk
  rw [List.getElem?_append] at hk
  split at hk
  ·exact hf k n hk
  ·rename_i h1
   have:k=f.length:=by have:=(List.getElem?_eq_some_iff.1 hk).1;simp at this;omega
   subst this
   simp at hk;subst hk;exact hx
 have hg:(f++[x]).getD f.length default=x:=by simp [List.getD]
 obtain ⟨-,h2,-,h4,-⟩:=nErr_iff.1 hx
 rw [tmOf_eq hok (by simp),hg]
 cases hy:useY x.op with
 | true =>
  have hxx:=useX_of_useY hy
  have e1:=h2 hxx
  have e2:=h4 hy
  simp only [cond_true]
  rw [tmOf_append hf (by omega),tmOf_append hf (by omega)]
 | false =>
  cases hxx:useX x.op with
  | true =>
   have e1:=h2 hxx
   simp only [cond_true,cond_false]
   rw [tmOf_append hf (by omega)]
  | false=>rfl
theorem build_one {h:Hd} (hh:HdOk h) (hx:useX h.op=true) (hy:useY h.op=false) {o:List Nd} {t:Tm} (ho:IsF o t) (hl:o.length≤199):IsF (buildL ⟨h.op,h.i,h.e,h.g,0,0⟩ [o]) (.u h t)∧(buildL ⟨h.op,h.i,h.e,h.g,0,0⟩ [o]).length≤o.length+1:=by
 obtain ⟨c1,c2⟩:=ho.canon
 have hp:=c1.pos
 have e0:(addL [] (cL o)).length=(cL o).length:=by simp [addL]
 have hok:=addL_okay okay_nil c1.ok
 have ht:tmOf (addL [] (cL o)) ((cL o).length - 1)=t:=by
  have:=addL_tree (f:=[]) okay_nil c1.ok (cL o).length ((cL o).length - 1) (by omega) (by omega)
  rw [List.length_nil,Nat.zero_add] at this
  rw [this];exact c1.tree
 have hn:nErr ⟨h.op,h.i,h.e,h.g,((addL [] (cL o)).length:Int) - 1,0⟩ (addL [] (cL o)).length=0:=nErr_iff.2 ⟨hh,fun _=>by simp only;omega,fun e=>by simp [hx] at e,fun e=>by simp [hy] at e,fun _=>rfl⟩
 have e:buildL ⟨h.op,h.i,h.e,h.g,0,0⟩ [o]=finishL ⟨h.op,h.i,h.e,h.g,((addL [] (cL o)).length:Int) - 1,0⟩ (addL [] (cL o)):=by
  simp [buildL,buildGo,ho.ok]
 have h1:=finish_isF hok hn (by omega)
 rw [root_eq hok hn] at h1
 simp only [hx,hy,cond_false,cond_true] at h1
 rw [show (((addL [] (cL o)).length:Int) - 1).toNat=(cL o).length - 1 by omega,ht] at h1
 rw [e]
 exact ⟨h1.1,by have:=h1.2;omega⟩
theorem build_two {h:Hd} (hh:HdOk h) (hy:useY h.op=true) {o q:List Nd} {t u:Tm} (ho:IsF o t) (hq:IsF q u) (hl:o.length+q.length≤199):IsF (buildL ⟨h.op,h.i,h.e,h.g,0,0⟩ [o,q]) (.b h t u)∧(buildL ⟨h.op,h.i,h.e,h.g,0,0⟩ [o,q]).length≤o.length+q.length+1:=by
 have hx:=useX_of_useY hy
 obtain ⟨c1,c2⟩:=ho.canon
 obtain ⟨d1,d2⟩:=hq.canon
 have hp:=c1.pos
 have hp2:=d1.pos
 have e0:(addL [] (cL o)).length=(cL o).length:=by simp [addL]
 have hok:=addL_okay okay_nil c1.ok
 have hok2:=addL_okay hok d1.ok
 have e2:(addL (addL [] (cL o)) (cL q)).length=(cL o).length+(cL q).length:=by rw [addL,List.length_append,List.length_map,e0]
 have ht:tmOf (addL (addL [] (cL o)) (cL q)) ((cL o).length - 1)=t:=by
  rw [addL_old hok (by omega)]
  have:=addL_tree (f:=[]) okay_nil c1.ok (cL o).length ((cL o).length - 1) (by omega) (by omega)
  rw [List.length_nil,Nat.zero_add] at this
  rw [this];exact c1.tree
 have hu:tmOf (addL (addL [] (cL o)) (cL q)) ((cL o).length+(cL q).length - 1)=u:=by
  have:=addL_tree hok d1.ok (cL q).length ((cL q).length - 1) (by omega) (by omega)
  rw [e0,show (cL o).length+((cL q).length - 1)=(cL o).length+(cL q).length - 1 by omega] at this
  rw [this];exact d1.tree
 have hn:nErr ⟨h.op,h.i,h.e,h.g,((addL [] (cL o)).length:Int) - 1,((addL (addL [] (cL o)) (cL q)).length:Int) - 1⟩ (addL (addL [] (cL o)) (cL q)).length=0 :=
  nErr_iff.2 ⟨hh,fun _=>by simp only;omega,fun e=>by simp [hx] at e,fun _=>by simp only;omega,fun e=>by simp [hy] at e⟩
 have e:buildL ⟨h.op,h.i,h.e,h.g,0,0⟩ [o,q]=finishL ⟨h.op,h.i,h.e,h.g,((addL [] (cL o)).length:Int) - 1,((addL (addL [] (cL o)) (cL q)).length:Int) - 1⟩ (addL (addL [] (cL o)) (cL q)):=by
  simp [buildL,buildGo,ho.ok,hq.ok]
 have h1:=finish_isF hok2 hn (by omega)
 rw [root_eq hok2 hn] at h1
 simp only [hy,cond_true] at h1
 rw [show (((addL [] (cL o)).length:Int) - 1).toNat=(cL o).length - 1 by omega,show (((addL (addL [] (cL o)) (cL q)).length:Int) - 1).toNat=(cL o).length+(cL q).length - 1 by omega,ht,hu] at h1
 rw [e]
 exact ⟨h1.1,by have:=h1.2;omega⟩
theorem build_bad2 {x:Nd} {o q:List Nd} (h:fErr o≠0∨fErr q≠0):buildL x [o,q]=[]:=by
 by_cases h1:fErr o=0
 ·have h2:=h.resolve_left (by omega)
  simp [buildL,buildGo,h1,h2]
 ·simp [buildL,buildGo,h1]
end Go.Ab
namespace Go.Ab
open Go
set_option linter.unusedVariables false
set_option linter.unusedSimpArgs false
def Allow (h:Hd):Prop := ∀ i,(fragN h).testBit i=true→(59:Nat).testBit i=true
def FitH (p:PM) (h:Hd):Prop:=agentN h < 2 ^ p.cell.length∧factN h < 2 ^ p.val.length
theorem lang_iff {c:List Nd} {t:Tm} (hc:Canon t c):bitsI .i64 (fun p q=>p &&& ~~~q) (uni fragN c:Int) 59=0↔t.all Allow:=by
 have hu:uni fragN c < 2 ^ 63:=Nat.lt_trans ((uni_lt fragN).2 fun n _=>fragN_lt n.hd) (by decide)
 have:=bits_andNot (b:=59) hu (by decide)
 rw [show ((59:Nat):Int)=59 from rfl] at this
 rw [this,← hc.all]
 constructor
 ·intro h n hn i hi
  exact h i (by rw [uni_bit];exact List.any_eq_true.2 ⟨n,hn,hi⟩)
 ·intro h i hi
  rw [uni_bit,List.any_eq_true] at hi
  obtain ⟨n,hn,hi⟩:=hi
  exact h n hn i hi
theorem all_and {p q:Hd→Prop} : ∀ {t:Tm},t.all (fun h=>p h∧q h)↔t.all p∧t.all q
 | .z h=>Iff.rfl
 | .u h x=>by
  simp only [Tm.all,all_and (t:=x)]
  exact ⟨fun ⟨⟨a,b⟩,c,d⟩=>⟨⟨a,c⟩,b,d⟩,fun ⟨⟨a,c⟩,b,d⟩=>⟨⟨a,b⟩,c,d⟩⟩
 | .b h x y=>by
  simp only [Tm.all,all_and (t:=x),all_and (t:=y)]
  exact ⟨fun ⟨⟨a,b⟩,⟨c,d⟩,e,f⟩=>⟨⟨a,c,e⟩,b,d,f⟩,fun ⟨⟨a,c,e⟩,b,d,f⟩=>⟨⟨a,b⟩,⟨c,d⟩,e,f⟩⟩
theorem fits_iff {p:PM} (hg:Good p) {f:List Nd} {t:Tm} (hf:IsF f t):fitsL f p.cell.length p.val.length=true↔t.all (FitH p):=by
 have h4:=hg.n4
 have h8:=hg.v8
 have hc:=hf.canon.1
 unfold FitH
 rw [all_and,← hc.all,← hc.all,← uni_lt agentN,← uni_lt factN]
 simp only [fitsL,belowL,Bool.and_eq_true,decide_eq_true_eq,Int.toNat_natCast]
 constructor
 ·rintro ⟨⟨-,h1⟩,h2⟩
  exact ⟨h1.resolve_left (by omega),h2.resolve_left (by omega)⟩
 ·rintro ⟨h1,h2⟩
  exact ⟨⟨hf.ok,.inr h1⟩,.inr h2⟩
theorem holds_ok {p:PM} {f:List Nd} {t:Tm} (hf:IsF f t) (hc0:checkL p=0) (h1:t.all Allow) (h2:t.all (FitH p)):holdsL p f=(ev (valL p) 0#64 t,0):=by
 have hc:=hf.canon.1
 have hg:=checkL_good hc0
 rw [holdsL,if_neg (not_not_intro hc0),if_neg (not_not_intro hf.ok),if_neg (not_not_intro ((lang_iff hc).2 h1)),if_neg (by rw [(fits_iff hg hf).2 h2];decide),sets_last (uses_valL p) hc]
theorem holds_inv {p:PM} {f:List Nd} (h:(holdsL p f).2=0):checkL p=0 ∧ ∃ t,IsF f t∧t.all Allow∧t.all (FitH p)∧(holdsL p f).1=ev (valL p) 0#64 t:=by
 by_cases hc0:checkL p=0
 ·by_cases hf0:fErr f=0
  ·have hf:=isF_of hf0
   have hg:=checkL_good hc0
   have hc:=hf.canon.1
   by_cases h1:bitsI .i64 (fun p q=>p &&& ~~~q) (uni fragN (cL f):Int) 59=0
   ·cases h2:fitsL f p.cell.length p.val.length with
    | true =>
     have a1:=(lang_iff hc).1 h1
     have a2:=(fits_iff hg hf).1 h2
     exact ⟨hc0,_,hf,a1,a2,by rw [holds_ok hf hc0 a1 a2]⟩
    | false=>rw [holdsL,if_neg (not_not_intro hc0),if_neg (not_not_intro hf0),if_neg (not_not_intro h1),if_pos h2] at h;cases h
   ·rw [holdsL,if_neg (not_not_intro hc0),if_neg (not_not_intro hf0),if_pos h1] at h;cases h
  ·rw [holdsL,if_neg (not_not_intro hc0),if_pos hf0] at h;exact absurd h hf0
 ·rw [holdsL,if_pos hc0] at h;exact absurd h hc0
structure OkT (p:PM) (f:List Nd) (t:Tm):Prop where
 isF:IsF f t
 lang:t.all Allow
 fit:t.all (FitH p)
theorem OkT.holds {p:PM} {f:List Nd} {t:Tm} (h:OkT p f t) (hc0:checkL p=0):holdsL p f=(ev (valL p) 0#64 t,0):=holds_ok h.isF hc0 h.lang h.fit
theorem okT_of {p:PM} {f:List Nd} (h:(holdsL p f).2=0) : ∃ t,OkT p f t∧(holdsL p f).1=ev (valL p) 0#64 t:=by
 obtain ⟨-,t,h1,h2,h3,h4⟩:=holds_inv h
 exact ⟨t,⟨h1,h2,h3⟩,h4⟩
theorem OkT.unary {p:PM} {f:List Nd} {t:Tm} (hf:OkT p f t) {h:Hd} (hh:HdOk h) (hx:useX h.op=true) (hy:useY h.op=false) (ha:Allow h) (hp:FitH p h) (hl:f.length≤199) :
  OkT p (buildL ⟨h.op,h.i,h.e,h.g,0,0⟩ [f]) (.u h t):=⟨(build_one hh hx hy hf.isF hl).1,⟨ha,hf.lang⟩,⟨hp,hf.fit⟩⟩
theorem OkT.binary {p:PM} {f g:List Nd} {t u:Tm} (hf:OkT p f t) (hg:OkT p g u) {h:Hd} (hh:HdOk h) (hy:useY h.op=true) (ha:Allow h) (hp:FitH p h) (hl:f.length+g.length≤199) :
  OkT p (buildL ⟨h.op,h.i,h.e,h.g,0,0⟩ [f,g]) (.b h t u):=⟨(build_two hh hy hf.isF hg.isF hl).1,⟨ha,hf.lang,hg.lang⟩,⟨hp,hf.fit,hg.fit⟩⟩
theorem allow_of {h:Hd} (hf:fragN h=0∨fragN h=1∨fragN h=2∨fragN h=8∨fragN h=16∨fragN h=32):Allow h:=by
 intro i hi
 have key : ∀ k,(2 ^ k).testBit i=true→i=k:=fun k hk=>by
  rw [Nat.testBit_two_pow] at hk;exact (of_decide_eq_true hk).symm
 rcases hf with e|e|e|e|e|e<;>rw [e] at hi
 ·simp at hi
 ·have:=key 0 hi;subst this;decide
 ·have:=key 1 hi;subst this;decide
 ·have:=key 3 hi;subst this;decide
 ·have:=key 4 hi;subst this;decide
 ·have:=key 5 hi;subst this;decide
theorem agent_hd {op:Int} (ho:op=9∨op=10∨op=14∨op=15) {p:PM} (hg:Good p) {a:Nat} (ha:a < p.cell.length):HdOk ⟨op,a,0,0⟩∧Allow ⟨op,a,0,0⟩∧FitH p ⟨op,a,0,0⟩:=by
 have h4:=hg.n4
 have hag:useAgent op=true:=decide_eq_true (by omega)
 have hfa:useFact op=false:=decide_eq_false (by omega)
 have hev:useEvent op=false:=decide_eq_false (by omega)
 have hgr:useGroup op=false:=decide_eq_false (by omega)
 refine ⟨⟨decide_eq_true (by simp only;omega),fun e=>?_,fun _=>⟨by simp only;omega,by simp only;omega⟩,fun e=>?_,fun e=>?_,fun _ e=>?_,fun _=>rfl,fun _=>rfl⟩,allow_of ?_,?_,?_⟩
 ·simp [hfa] at e
 ·simp [hev] at e
 ·simp [hgr] at e
 ·simp [hag] at e
 ·show fragN ⟨op,0,0,0⟩=0∨fragN ⟨op,0,0,0⟩=1∨fragN ⟨op,0,0,0⟩=2∨fragN ⟨op,0,0,0⟩=8∨fragN ⟨op,0,0,0⟩=16∨fragN ⟨op,0,0,0⟩=32
  rcases ho with rfl|rfl|rfl|rfl<;>decide
 ·rw [agentN,if_pos (show useAgent (Hd.mk op a 0 0).op=true from hag)]
  exact Nat.pow_lt_pow_right (by omega) (by simp only;omega)
 ·rw [factN,if_neg (show ¬useFact (Hd.mk op a 0 0).op=true by simp [hfa])]
  exact Nat.two_pow_pos _
theorem conn_hd {op:Int} (ho:op=1∨op=2∨op=4∨op=5∨op=6∨op=7∨op=8) {p:PM} : HdOk ⟨op,0,0,0⟩∧Allow ⟨op,0,0,0⟩∧FitH p ⟨op,0,0,0⟩:=by
 have hag:useAgent op=false:=decide_eq_false (by omega)
 have hfa:useFact op=false:=decide_eq_false (by omega)
 have hev:useEvent op=false:=decide_eq_false (by omega)
 have hgr:useGroup op=false:=decide_eq_false (by omega)
 refine ⟨⟨decide_eq_true (by simp only;omega),fun e=>?_,fun e=>?_,fun e=>?_,fun e=>?_,fun _ _ _=>rfl,fun _=>rfl,fun _=>rfl⟩,allow_of ?_,?_,?_⟩
 ·simp [hfa] at e
 ·simp [hag] at e
 ·simp [hev] at e
 ·simp [hgr] at e
 ·rcases ho with rfl|rfl|rfl|rfl|rfl|rfl|rfl<;>decide
 ·rw [agentN,if_neg (show ¬useAgent (Hd.mk op 0 0 0).op=true by simp [hag])]
  exact Nat.two_pow_pos _
 ·rw [factN,if_neg (show ¬useFact (Hd.mk op 0 0 0).op=true by simp [hfa])]
  exact Nat.two_pow_pos _
end Go.Ab
namespace Go.Ab
open Go
set_option linter.unusedVariables false
set_option linter.unusedSimpArgs false
structure Fm (p:PM) (f:List Nd) (x:BitVec 64) (n:Nat):Prop where
 ok : ∃ t,OkT p f t∧ev (valL p) 0#64 t=x
 len:f.length≤n
theorem Fm.holds {p:PM} {f:List Nd} {x:BitVec 64} {n:Nat} (h:Fm p f x n) (hc0:checkL p=0):holdsL p f=(x,0):=by
 obtain ⟨t,h1,h2⟩:=h.ok
 rw [h1.holds hc0,h2]
theorem Fm.of {p:PM} {f:List Nd} {n:Nat} (h:(holdsL p f).2=0) (hl:f.length≤n):Fm p f (holdsL p f).1 n:=by
 obtain ⟨t,h1,h2⟩:=okT_of h
 exact ⟨⟨t,h1,h2.symm⟩,hl⟩
theorem Fm.un {p:PM} {f:List Nd} {x:BitVec 64} {n:Nat} (h:Fm p f x n) {hd:Hd} (hh:HdOk hd∧Allow hd∧FitH p hd) (hx:useX hd.op=true) (hy:useY hd.op=false) (hn:n≤199) :
  Fm p (buildL ⟨hd.op,hd.i,hd.e,hd.g,0,0⟩ [f]) (valL p hd x 0#64) (n+1):=by
 obtain ⟨t,h1,h2⟩:=h.ok
 have h3:=h.len
 exact ⟨⟨_,h1.unary hh.1 hx hy hh.2.1 hh.2.2 (by omega),by rw [ev,h2]⟩,by have:=(build_one hh.1 hx hy h1.isF (by omega)).2;omega⟩
theorem Fm.bi {p:PM} {f g:List Nd} {x y:BitVec 64} {n m:Nat} (h:Fm p f x n) (h':Fm p g y m) {hd:Hd} (hh:HdOk hd∧Allow hd∧FitH p hd) (hy:useY hd.op=true) (hn:n+m≤199) :
  Fm p (buildL ⟨hd.op,hd.i,hd.e,hd.g,0,0⟩ [f,g]) (valL p hd x y) (n+m+1):=by
 obtain ⟨t,h1,h2⟩:=h.ok
 obtain ⟨u,g1,g2⟩:=h'.ok
 have h3:=h.len
 have g3:=h'.len
 exact ⟨⟨_,h1.binary g1 hh.1 hy hh.2.1 hh.2.2 (by omega),by rw [ev,h2,g2]⟩,by have:=(build_two hh.1 hy h1.isF g1.isF (by omega)).2;omega⟩
section
variable {p:PM} (hc0:checkL p=0) {f g:List Nd} {x y:BitVec 64} {n m:Nat}
include hc0
theorem Fm.belief {a:Nat} (h:Fm p f x n) (h':Fm p g y m) (ha:a < p.cell.length) (hn:n+m≤199):Fm p (buildL ⟨14,a,0,0,0,0⟩ [f,g]) (believesL p a x y) (n+m+1) :=
 h.bi h' (hd:=⟨14,a,0,0⟩) (agent_hd (by decide) (checkL_good hc0) ha) (by simp only;decide) hn
omit hc0 in
theorem Fm.not (h:Fm p f x n) (hn:n≤199):Fm p (buildL ⟨4,0,0,0,0,0⟩ [f]) (allL p.W &&& ~~~x) (n+1) :=
 h.un (hd:=⟨4,0,0,0⟩) (conn_hd (by decide)) (by decide) (by decide) hn
omit hc0 in
theorem Fm.and (h:Fm p f x n) (h':Fm p g y m) (hn:n+m≤199):Fm p (buildL ⟨5,0,0,0,0,0⟩ [f,g]) (x&&&y) (n+m+1) :=
 h.bi h' (hd:=⟨5,0,0,0⟩) (conn_hd (by decide)) (by decide) hn
omit hc0 in
theorem Fm.imp (h:Fm p f x n) (h':Fm p g y m) (hn:n+m≤199):Fm p (buildL ⟨7,0,0,0,0,0⟩ [f,g]) (allL p.W &&& ~~~x|||y) (n+m+1) :=
 h.bi h' (hd:=⟨7,0,0,0⟩) (conn_hd (by decide)) (by decide) hn
theorem Fm.under2 {hd:Hd} (hh:HdOk hd) (hy:useY hd.op=true) (hl:f.length≤n) (hm:g.length≤m) (hn:n+m≤199) (h0:(holdsL p (buildL ⟨hd.op,hd.i,hd.e,hd.g,0,0⟩ [f,g])).2=0):Fm p f (holdsL p f).1 n∧Fm p g (holdsL p g).1 m:=by
 obtain ⟨-,t',a1,a2,a3,a4⟩:=holds_inv h0
 have bad:fErr f≠0∨fErr g≠0→False:=fun h=>by
  have e:buildL ⟨hd.op,hd.i,hd.e,hd.g,0,0⟩ [f,g]=[]:=build_bad2 h
  have:=a1.ok
  rw [e] at this
  cases this
 by_cases hf0:fErr f=0
 ·by_cases hg0:fErr g=0
  ·have hf:=isF_of hf0
   have hg:=isF_of hg0
   have hb:=(build_two hh hy hf hg (by omega)).1
   have e:t' = .b hd (tmOf f (f.length - 1)) (tmOf g (g.length - 1)):=a1.tree.symm.trans hb.tree
   subst e
   exact ⟨.of (congrArg Prod.snd (holds_ok hf hc0 a2.2.1 a3.2.1)) hl,.of (congrArg Prod.snd (holds_ok hg hc0 a2.2.2 a3.2.2)) hm⟩
  ·exact (bad (.inr hg0)).elim
 ·exact (bad (.inl hf0)).elim
theorem Fm.under {hd:Hd} (hh:HdOk hd) (hy:useY hd.op=true) (h':Fm p g y m) (hl:f.length≤n) (hn:n+m≤199) (h0:(holdsL p (buildL ⟨hd.op,hd.i,hd.e,hd.g,0,0⟩ [f,g])).2=0):Fm p f (holdsL p f).1 n :=
 (Fm.under2 hc0 hh hy hl h'.len hn h0).1
end
section
variable {p:PM} (hc0:checkL p=0) {a:Nat} (ha:a < p.cell.length)
include hc0 ha
omit hc0 ha in
theorem InC.same {w v u:Nat} (h:InC p a w v):InC p a w u↔InC p a v u:=by
 unfold InC at *
 exact and_congr_right fun _=>⟨fun e=>e.trans h.2.symm,fun e=>e.trans h.2⟩
end
end Go.Ab
namespace Go.Ab
open Go
set_option linter.unusedVariables false
set_option linter.unusedSimpArgs false
structure Mn (p:PM) (a:Nat) (c:BitVec 64) (w v:Nat):Prop where
 cell:InC p a w v
 cond:c.getLsbD v=true
 best : ∀ u,InC p a w u→c.getLsbD u=true→rkA p a v≤rkA p a u
section
variable {p:PM} (hc0:checkL p=0) {a:Nat} (ha:a < p.cell.length)
include hc0 ha
theorem rk_nonneg {w:Nat} (hw:w < p.W.toNat) {v:Nat} (hv:InC p a w v):0≤rkA p a v :=
 rank_nonneg (at_of hc0 ha hw) ((cell_bit hc0 ha hw).2 hv)
end
end Go.Ab
namespace Go.Ab
open Go
set_option linter.unusedVariables false
set_option linter.unusedSimpArgs false
structure BisP (p p':PM) (Z:Nat→Nat→Prop):Prop where
 n:p.cell.length=p'.cell.length
 lt : ∀ {v v'},Z v v'→v < p.W.toNat∧v' < p'.W.toNat
 fact : ∀ {v v'},Z v v' → ∀ i,(p.val.getD i 0#64).getLsbD v=true↔(p'.val.getD i 0#64).getLsbD v'=true
 cf : ∀ {a v v' u},a < p.cell.length→Z v v'→InC p a v u → ∃ u',InC p' a v' u'∧Z u u'
 cb : ∀ {a v v' u'},a < p.cell.length→Z v v'→InC p' a v' u' → ∃ u,InC p a v u∧Z u u'
 sf : ∀ {a v v' u},a < p.cell.length→Z v v'→InC p a v u→rkA p a u≤rkA p a v → ∃ u',InC p' a v' u'∧rkA p' a u'≤rkA p' a v'∧Z u u'
 sb : ∀ {a v v' u'},a < p.cell.length→Z v v'→InC p' a v' u'→rkA p' a u'≤rkA p' a v' → ∃ u,InC p a v u∧rkA p a u≤rkA p a v∧Z u u'
theorem BisP.symm {p p':PM} {Z:Nat→Nat→Prop} (B:BisP p p' Z):BisP p' p (fun v' v=>Z v v') where
 n:=B.n.symm
 lt h:=(B.lt h).symm
 fact h i:=(B.fact h i).symm
 cf ha h hu:=B.cb (by have:=B.n;omega) h hu
 cb ha h hu:=B.cf (by have:=B.n;omega) h hu
 sf ha h hu hr:=B.sb (by have:=B.n;omega) h hu hr
 sb ha h hu hr:=B.sf (by have:=B.n;omega) h hu hr
def Agree (Z:Nat→Nat→Prop) (x x':BitVec 64):Prop := ∀ v v',Z v v'→(x.getLsbD v=true↔x'.getLsbD v'=true)
theorem Agree.symm {Z:Nat→Nat→Prop} {x x':BitVec 64} (h:Agree Z x x'):Agree (fun v' v=>Z v v') x' x:=fun v' v hz=>(h v v' hz).symm
section
variable {p p':PM} {Z:Nat→Nat→Prop} (hc0:checkL p=0) (hc0':checkL p'=0) (B:BisP p p' Z)
include hc0 hc0' B
omit hc0' in
theorem best_back {a:Nat} (ha:a < p.cell.length) {c c':BitVec 64} (hc:Agree Z c c') {v v' u':Nat} (hz:Z v v') (h:Mn p' a c' v' u') : ∃ u,Mn p a c v u∧Z u u':=by
 have hv:=(B.lt hz).1
 obtain ⟨u0,hu0,hz0⟩:=B.cb ha hz h.cell
 obtain ⟨u,⟨h1,h2⟩,h3⟩:=least_ex (K:=fun i=>InC p a v i∧Z i u') (R:=rkA p a) (fun i hi=>rk_nonneg hc0 ha hv hi.1) (rkA p a u0).toNat u0 ⟨hu0,hz0⟩ (Nat.le_refl _)
 refine ⟨u,⟨h1,(hc u u' h2).2 h.cond,fun t ht htc=>?_⟩,h2⟩
 rcases Int.lt_or_le (rkA p a t) (rkA p a u) with hlt|hle
 ·exfalso
  have htu:InC p a u t:=⟨ht.1,by have:=ht.2;have:=h1.2;omega⟩
  obtain ⟨t',ht',hrt,hzt⟩:=B.sf ha h2 htu (by omega)
  have hct':InC p' a v' t':=⟨ht'.1,by have:=ht'.2;have:=h.cell.2;omega⟩
  have hge:=h.best t' hct' ((hc t t' hzt).1 htc)
  have hut:InC p' a t' u':=⟨h.cell.1,ht'.2.symm⟩
  obtain ⟨w,hw,hrw,hzw⟩:=B.sb ha hzt hut (by omega)
  have hcw:InC p a v w:=⟨hw.1,by have:=hw.2;have:=ht.2;omega⟩
  have:=h3 w ⟨hcw,hzw⟩
  omega
 ·exact hle
end
end Go.Ab
namespace Go.Ab
open Go Go.Proofs
set_option linter.unusedSimpArgs false
set_option linter.unusedVariables false
set_option maxRecDepth 10000
set_option maxHeartbeats 4000000
variable {T:Nat→Obj→Prop}
def cmp2 (r c:List (BitVec 64)) (w v:Nat):Bool:=rb r w v||rb c w v
def ConnP (r c:List (BitVec 64)):Prop:=HasP r 2∧HasP r 4 ∧ ∀ w,w < r.length → ∀ v,v < r.length→cmp2 r c w v=true → ∀ i,cmp2 r c w i=true→cmp2 r c v i=true
noncomputable def connB (r c:List (BitVec 64)):Bool := @decide (ConnP r c) (Classical.propDecidable _)
theorem connB_iff {r c:List (BitVec 64)} : connB r c=true↔ConnP r c:=by simp [connB]
end Go.Ab
namespace Go.Ab
open Go Go.Proofs
set_option linter.unusedSimpArgs false
set_option linter.unusedVariables false
set_option maxRecDepth 10000
set_option maxHeartbeats 4000000
variable {T:Nat→Obj→Prop}
def ltU (x y:BitVec 64):Bool:=decide (x.toNat < y.toNat)
abbrev rowu64 (d:Array ((BitVec 64))):Ob := .row 1 (d.toList.map D.u64)
end Go.Ab
namespace Go.Ab
open Go Go.Proofs
set_option linter.unusedSimpArgs false
set_option linter.unusedVariables false
set_option maxRecDepth 10000
set_option maxHeartbeats 4000000
variable {T:Nat→Obj→Prop}
abbrev box1u64 (s:Nat):Ob := .box [.d (.int .i64 (s:Int))]
end Go.Ab
namespace Go.Proofs
def Tryz.lays129_ren:Go.Shelf.Ren:=⟨fun|129=>159|n=>n,fun|53=>44|3=>3|4=>4|46=>101|5=>5|9=>9|n=>n,fun|n=>n⟩
theorem Tryz.lays129:Go.Proofs.Lays.n129 Tryz.prog Tryz.lays129_ren := {
 mixed:=by kernel_rfl
 f129:=Tryz.func159.trans (congrArg some (by kernel_rfl))
 t3:=Tryz.underlying3
 a3:=Tryz.isAgg3
 z3:=Tryz.sizeOf3
 v3:=Tryz.zeroValue3
 t4:=Tryz.underlying4
 a4:=Tryz.isAgg4
 z4:=Tryz.sizeOf4
 v4:=Tryz.zeroValue4
 t5:=Tryz.underlying5
 a5:=Tryz.isAgg5
 z5:=Tryz.sizeOf5
 v5:=Tryz.zeroValue5
 t9:=Tryz.underlying9
 a9:=Tryz.isAgg9
 z9:=Tryz.sizeOf9
 v9:=Tryz.zeroValue9
 t46:=Tryz.underlying101
 a46:=Tryz.isAgg101
 z46:=Tryz.sizeOf101
 v46:=Tryz.zeroValue101
 t53:=Tryz.underlying44
 a53:=Tryz.isAgg44
 z53:=Tryz.sizeOf44
 v53:=Tryz.zeroValue44 }
end Go.Proofs
namespace Go.Ab
open Go Go.Proofs
set_option linter.unusedSimpArgs false
set_option linter.unusedVariables false
set_option maxRecDepth 10000
set_option maxHeartbeats 4000000
variable {T:Nat→Obj→Prop}
theorem call_len64:callable Tryz.prog f_math_bits_Len64:=⟨_,Tryz.func159,by kernel_rfl,by kernel_rfl⟩
theorem fn_Len64 (x:BitVec 64):Fn Tryz.prog T f_math_bits_Len64 [.d (.u64 x)] [] (.d (.int .i64 (Sort.bitsLen x.toNat:Int))) []:=by
 refine fn_pure (ds:=[.u64 x]) call_len64 fun w args hw hsz hargs=>?_
 obtain ⟨X,hX⟩:=hargs 0 (by simp)
 have ha:args = #[.int .u64 (x.toNat:Int)]:=by
  have h0:args.getD 0 undef = .int .u64 (x.toNat:Int):=by
   generalize args.getD 0 undef=y at hX
   cases hX;rfl
  obtain ⟨l⟩:=args
  match l,hsz with
  | [y],_=>rw [← h0];rfl
 rw [ha]
 have:=Any.bits_Len64 Tryz.lays129 (x.toNat:Int) w (by omega) (by have:=x.isLt;omega)
 refine this.mono fun e w' he=>⟨_,he.1,he.2,fun X=>?_⟩
 rw [Int.toNat_natCast,Go.Proofs.bitLen_eq _ x.isLt]
 exact .int _ _ (by decide)
theorem fn_Len (x:BitVec 64):Fn Tryz.prog T f_math_bits_Len [.d (.u64 x)] [] (.d (.int .i64 (Sort.bitsLen x.toNat:Int))) []:=by
 refine fn_dataR hmix k_math_bits_Len (by show 1≤8;decide) ?_
 (repeat' ((conv=>whnf);first|refine vT ?_|refine vX ?_|refine yD (fn_Len64 _) ⟨⟨rfl,rfl⟩,rfl⟩ rfl ?_));all_goals try conv=>whnf
end Go.Ab
namespace Go.Ab
open Go Go.Proofs
set_option linter.unusedSimpArgs false
set_option linter.unusedVariables false
set_option maxRecDepth 10000
set_option maxHeartbeats 4000000
variable {T:Nat→Obj→Prop}
def xnB (r:BitVec 64):BitVec 64 :=
 let r:=r ^^^ (r <<< (13#64).toNat)
 let r:=r ^^^ (r >>> (7#64).toNat)
 r ^^^ (r <<< (17#64).toNat)
def otherOf (l:Nat) (r:UInt64):Nat :=
 let o:=r.toNat&&&((1 <<< Sort.bitsLen l) - 1)
 if o ≥ l then o - l else o
def brk {α:Type} [Inhabited α] (d:Array α) (a b:Nat):Nat→UInt64×Array α
 | 0=>(UInt64.ofNat (b - a),d)
 | k+1=>Sort.breakStep a (b - a) (1 <<< Sort.bitsLen (b - a)) (brk d a b k) (a+(b - a) / 4 * 2 - 1+k)
section
variable {α:Type} [Inhabited α] {lt:α→α→Bool}
end
section
variable {α:Type} [Inhabited α] {p:α→Bool}
end
section
open Go.Sort
variable {α:Type} [Inhabited α] (lt:α→α→Bool)
def pdqTail (d:Array α) (a b p lim:Nat) (wb wp:Bool):Array α :=
 if a > 0∧lt d[a - 1]! d[p]! = false then pdq lt (partitionEqual lt d a b p).2 (partitionEqual lt d a b p).1 b lim wb wp
 else if (partition lt d a b p).1 - a < b - (partition lt d a b p).1 then
  pdq lt (pdq lt (partition lt d a b p).2.2 a (partition lt d a b p).1 lim true true) ((partition lt d a b p).1+1) b lim (decide ((partition lt d a b p).1 - a ≥ (b - a) / 8)) (partition lt d a b p).2.1
 else pdq lt (pdq lt (partition lt d a b p).2.2 ((partition lt d a b p).1+1) b lim true true) a (partition lt d a b p).1 lim (decide (b - (partition lt d a b p).1 ≥ (b - a) / 8)) (partition lt d a b p).2.1
def pdqD (d:Array α) (a b p lim:Nat) (wb wp:Bool) (hint:Hint):Array α :=
 if wb=true∧wp=true∧hint = .increasing then (if (partialInsertionSort lt d a b).2=true then (partialInsertionSort lt d a b).1 else pdqTail lt (partialInsertionSort lt d a b).1 a b p lim wb wp)
 else pdqTail lt d a b p lim wb wp
def pdqC (d:Array α) (a b lim:Nat) (wb wp:Bool):Array α :=
 if (choosePivot lt d a b).2 = .decreasing then pdqD lt (reverseRange d a b) a b ((b - 1) - ((choosePivot lt d a b).1 - a)) lim wb wp .increasing
 else pdqD lt d a b (choosePivot lt d a b).1 lim wb wp (choosePivot lt d a b).2
variable {lt}
theorem pareq_range {d:Array α} {a b p:Nat} (hab:a < b) (hb:b≤d.size):a < (partitionEqual lt d a b p).1∧(partitionEqual lt d a b p).1≤b∧(partitionEqual lt d a b p).2.size=d.size:=by
 obtain ⟨h1,h2,h3,_⟩:=partEqLoop_spec lt a b (b - 1+1 - (a+1)) (a+1) (b - 1) (Sort.swp d a p) (Nat.le_refl _) (by omega) (by omega) (by omega) (by rw [Ab.swp_size];exact hb) (fun t _ _=>by omega) (fun t _ _=>by omega)
 exact ⟨h1,h2,by rw [show (partitionEqual lt d a b p).2=(partEqLoop lt a (a+1) (b - 1) (Sort.swp d a p)).2 from rfl,h3.1,Ab.swp_size]⟩
theorem pdq_tail (hS:SWO lt) {d:Array α} {a b p lim:Nat} {wb wp:Bool} (ha:a≤p) (hp:p < b) (hb:b≤d.size) :
  (if a > 0 && !lt d[a - 1]! d[p]! then
   match partitionEqual lt d a b p with
   | (mid,d4)=>if _h:a < mid∧mid≤b then pdq lt d4 mid b lim wb wp else d4
  else
   match partition lt d a b p with
   | (mid,ap,d4) =>
    if _h:a≤mid∧mid < b then
     if mid - a < b - mid then pdq lt (pdq lt d4 a mid lim true true) (mid+1) b lim (decide (mid - a ≥ (b - a) / 8)) ap
     else pdq lt (pdq lt d4 (mid+1) b lim true true) a mid lim (decide (b - mid ≥ (b - a) / 8)) ap
    else d4)=pdqTail lt d a b p lim wb wp:=by
 obtain ⟨e1,e2,_⟩:=pareq_range (lt:=lt) (p:=p) (show a < b by omega) hb
 obtain ⟨q1,q2,_⟩:=partition_holds lt hS d a b p ha hp hb
 unfold pdqTail
 by_cases h:a > 0∧lt d[a - 1]! d[p]! = false
 ·rw [if_pos h,if_pos (by simpa using h)]
  exact dif_pos ⟨e1,e2⟩
 ·rw [if_neg h,if_neg (by simpa using h)]
  exact dif_pos ⟨q1,q2⟩
theorem shiftDown_size : ∀ {j:Nat} {d:Array α},(Sort.shiftDown lt j d).size=d.size
 | 0,d=>rfl
 | j+1,d=>by
  unfold Sort.shiftDown
  split
  ·rfl
  ·rw [shiftDown_size,Ab.swp_size]
theorem shiftUp_size {b:Nat} : ∀ (n j:Nat) (d:Array α),b - j≤n→(Sort.shiftUp lt b j d).size=d.size
 | 0,j,d,h=>by rw [Sort.shiftUp,if_neg (by omega)]
 | n+1,j,d,h=>by
  rw [Sort.shiftUp]
  split
  ·split
   ·rfl
   ·rw [shiftUp_size n _ _ (by omega),Ab.swp_size]
  ·rfl
theorem pins_size' {a b:Nat} : ∀ (s i:Nat) (d:Array α),(Sort.partialIns lt a b s i d).1.size=d.size
 | 0,i,d=>rfl
 | s+1,i,d=>by
  rw [Sort.partialIns_succ]
  split
  ·rfl
  ·split
   ·rfl
   ·rw [pins_size' s]
    unfold Sort.fixUp Sort.fixDown
    split<;>split<;>simp [shiftUp_size _ _ _ (Nat.le_refl _),shiftDown_size,Ab.swp_size]
theorem pins_size {a b:Nat} {d:Array α} : (Sort.partialInsertionSort lt d a b).1.size=d.size:=pins_size' _ _ _
theorem pdq_go (hS:SWO lt) {d:Array α} {a b limit:Nat} {wb wp:Bool} (h12 : ¬b - a≤12) (h0:limit≠0) (hb:b≤d.size) :
  pdq lt d a b limit wb wp=if wb=true then pdqC lt d a b limit wb wp else pdqC lt (breakPatterns d a b) a b (limit - 1) wb wp:=by
 have key : ∀ (d1:Array α) (lim:Nat),d1.size=d.size →
   (if (if (wb&&wp&&decide ((if (choosePivot lt d1 a b).2 = .decreasing then Hint.increasing else (choosePivot lt d1 a b).2) = .increasing))=true then partialInsertionSort lt (if (choosePivot lt d1 a b).2 = .decreasing then reverseRange d1 a b else d1) a b else ((if (choosePivot lt d1 a b).2 = .decreasing then reverseRange d1 a b else d1),false)).2=true then
    (if (wb&&wp&&decide ((if (choosePivot lt d1 a b).2 = .decreasing then Hint.increasing else (choosePivot lt d1 a b).2) = .increasing))=true then partialInsertionSort lt (if (choosePivot lt d1 a b).2 = .decreasing then reverseRange d1 a b else d1) a b else ((if (choosePivot lt d1 a b).2 = .decreasing then reverseRange d1 a b else d1),false)).1
   else pdqTail lt (if (wb&&wp&&decide ((if (choosePivot lt d1 a b).2 = .decreasing then Hint.increasing else (choosePivot lt d1 a b).2) = .increasing))=true then partialInsertionSort lt (if (choosePivot lt d1 a b).2 = .decreasing then reverseRange d1 a b else d1) a b else ((if (choosePivot lt d1 a b).2 = .decreasing then reverseRange d1 a b else d1),false)).1 a b
    (if (choosePivot lt d1 a b).2 = .decreasing then (b - 1) - ((choosePivot lt d1 a b).1 - a) else (choosePivot lt d1 a b).1) lim wb wp)=pdqC lt d1 a b lim wb wp:=by
  intro d1 lim _
  unfold pdqC pdqD
  by_cases hc:(choosePivot lt d1 a b).2 = .decreasing
  ·simp only [hc,if_true]
   by_cases hw:wb=true∧wp=true
   ·simp [hw.1,hw.2]
   ·have:(wb&&wp)=false:=by
     cases wb<;>cases wp<;>simp_all
    simp [this,hw]
  ·simp only [hc,if_false]
   by_cases hw:wb=true∧wp=true∧(choosePivot lt d1 a b).2 = .increasing
   ·simp [hw.1,hw.2.1,hw.2.2]
   ·have:(wb&&wp&&decide ((choosePivot lt d1 a b).2 = .increasing))=false:=by
     cases wb<;>cases wp<;>simp_all
    simp only [this,Bool.false_eq_true,if_false,if_neg hw]
 have fin : ∀ (d1:Array α) (lim:Nat),PermIn a b d d1→(let c:=choosePivot lt d1 a b
  let d2:=if c.2 = .decreasing then reverseRange d1 a b else d1
  let pivot:=if c.2 = .decreasing then (b - 1) - (c.1 - a) else c.1
  let hint:=if c.2 = .decreasing then Hint.increasing else c.2
  let pi:=if wb&&wp&&hint = .increasing then partialInsertionSort lt d2 a b else (d2,false)
  if pi.2 then pi.1 else
  let d3:=pi.1
  if a > 0 && !lt d3[a - 1]! d3[pivot]! then
   match partitionEqual lt d3 a b pivot with
   | (mid,d4)=>if _h:a < mid∧mid≤b then pdq lt d4 mid b lim wb wp else d4
  else
   match partition lt d3 a b pivot with
   | (mid,ap,d4) =>
    if _h:a≤mid∧mid < b then
     if mid - a < b - mid then pdq lt (pdq lt d4 a mid lim true true) (mid+1) b lim (decide (mid - a ≥ (b - a) / 8)) ap
     else pdq lt (pdq lt d4 (mid+1) b lim true true) a mid lim (decide (b - mid ≥ (b - a) / 8)) ap
    else d4)=pdqC lt d1 a b lim wb wp:=by
  intro d1 lim hp1
  rw [← key d1 lim hp1.1]
  have hc:=choosePivot_holds lt d1 a b (by omega)
  have hpv:=pivot_range hc.1 hc.2 ((choosePivot lt d1 a b).2 = .decreasing)
  have hr:(if (choosePivot lt d1 a b).2 = .decreasing then reverseRange d1 a b else d1).size=d.size:=by
   split
   ·rw [(reverseRange_holds d1 a b (by omega) (by rw [hp1.1];exact hb)).1,hp1.1]
   ·exact hp1.1
  refine ite_congr rfl (fun _=>rfl) fun _=>pdq_tail hS ?_ ?_ ?_
  ·exact hpv.1
  ·exact hpv.2
  ·by_cases hw:(wb&&wp&&decide ((if (choosePivot lt d1 a b).2 = .decreasing then Hint.increasing else (choosePivot lt d1 a b).2) = .increasing))=true
   ·rw [if_pos hw,pins_size,hr];exact hb
   ·rw [if_neg hw]
    show b≤(if (choosePivot lt d1 a b).2 = .decreasing then reverseRange d1 a b else d1).size
    rw [hr];exact hb
 rw [Sort.pdq,if_neg h12,if_neg h0]
 cases wb with
 | true=>exact fin d limit (permIn_refl d a b)
 | false=>exact fin (breakPatterns d a b) (limit - 1) (breakPatterns_holds d a b (by omega) hb)
theorem insO_size {a b:Nat} : ∀ (n i:Nat) (d:Array α),b - i≤n→(Sort.insOuter lt a b i d).size=d.size
 | 0,i,d,h=>by rw [Ab.insOuter_stop (by omega)]
 | n+1,i,d,h=>by
  by_cases h1:i < b
  ·rw [Ab.insOuter_step h1,insO_size n _ _ (by omega),Ab.insInner_size]
  ·rw [Ab.insOuter_stop h1]
theorem pop_size {first:Nat} : ∀ (k:Nat) (d:Array α),(Sort.heapPop lt first k d).size=d.size
 | 0,d=>rfl
 | k+1,d=>by rw [Sort.heapPop,pop_size k,Ab.siftDown_size,Ab.swp_size]
theorem pdq_size (hS:SWO lt) : ∀ (N:Nat) (d:Array α) (a b limit:Nat) (wb wp:Bool),b - a≤N→a≤b→b≤d.size→(pdq lt d a b limit wb wp).size=d.size:=by
 intro N
 induction N using Nat.strongRecOn with
 | _ N ih =>
 intro d a b limit wb wp hN hab hb
 by_cases h12:b - a≤12
 ·rw [Sort.pdq,if_pos h12];exact insO_size _ _ _ (Nat.le_refl _)
 by_cases h0:limit=0
 ·rw [Sort.pdq,if_neg h12,if_pos h0,Sort.heapSort,pop_size,Ab.build_size]
 have tail : ∀ (u:Array α) (p lim:Nat),u.size=d.size→a≤p→p < b→(pdqTail lt u a b p lim wb wp).size=d.size:=by
  intro u p lim hu h1 h2
  obtain ⟨e1,e2,e3⟩:=pareq_range (lt:=lt) (p:=p) (show a < b by omega) (show b≤u.size by omega)
  obtain ⟨q1,q2,q3,_⟩:=partition_holds lt hS u a b p h1 h2 (by omega)
  unfold pdqTail
  split
  ·rw [ih (b - (partitionEqual lt u a b p).1) (by omega) _ _ _ _ _ _ (Nat.le_refl _) e2 (by omega),e3,hu]
  ·split
   ·rw [ih (b - ((partition lt u a b p).1+1)) (by omega) _ _ _ _ _ _ (Nat.le_refl _) (by omega) (by rw [ih ((partition lt u a b p).1 - a) (by omega) _ _ _ _ _ _ (Nat.le_refl _) q1 (by rw [q3.1];omega),q3.1];omega),
     ih ((partition lt u a b p).1 - a) (by omega) _ _ _ _ _ _ (Nat.le_refl _) q1 (by rw [q3.1];omega),q3.1,hu]
   ·rw [ih ((partition lt u a b p).1 - a) (by omega) _ _ _ _ _ _ (Nat.le_refl _) (by omega) (by rw [ih (b - ((partition lt u a b p).1+1)) (by omega) _ _ _ _ _ _ (Nat.le_refl _) (by omega) (by rw [q3.1];omega),q3.1];omega),
     ih (b - ((partition lt u a b p).1+1)) (by omega) _ _ _ _ _ _ (Nat.le_refl _) (by omega) (by rw [q3.1];omega),q3.1,hu]
 have goD : ∀ (u:Array α) (p lim:Nat) (hint:Hint),u.size=d.size→a≤p→p < b→(pdqD lt u a b p lim wb wp hint).size=d.size:=by
  intro u p lim hint hu h1 h2
  unfold pdqD
  split
  ·split
   ·rw [pins_size,hu]
   ·exact tail _ _ _ (by rw [pins_size,hu]) h1 h2
  ·exact tail _ _ _ hu h1 h2
 have goC : ∀ (u:Array α) (lim:Nat),u.size=d.size→(pdqC lt u a b lim wb wp).size=d.size:=by
  intro u lim hu
  have hc:=choosePivot_holds lt u a b (by omega)
  unfold pdqC
  split
  ·refine goD _ _ _ _ (by rw [(reverseRange_holds u a b hab (by omega)).1,hu]) (by omega) (by omega)
  ·exact goD _ _ _ _ hu hc.1 hc.2
 rw [pdq_go hS h12 h0 hb]
 split
 ·exact goC _ _ rfl
 ·exact goC _ _ (breakPatterns_holds d a b hab hb).1
end
end Go.Ab
namespace Go.Ab
open Go Go.Proofs
set_option linter.unusedSimpArgs false
set_option linter.unusedVariables false
set_option maxRecDepth 10000
set_option maxHeartbeats 4000000
variable {T:Nat→Obj→Prop}
end Go.Ab
namespace Go.Ab
open Go Go.Proofs
set_option linter.unusedSimpArgs false
set_option linter.unusedVariables false
set_option maxRecDepth 10000
set_option maxHeartbeats 4000000
variable {T:Nat→Obj→Prop}
end Go.Ab
namespace Go.Ab
open Go Go.Proofs
set_option linter.unusedSimpArgs false
set_option linter.unusedVariables false
set_option maxRecDepth 10000
set_option maxHeartbeats 4000000
variable {T:Nat→Obj→Prop}
end Go.Ab
namespace Go.Ab
open Go Go.Proofs
set_option linter.unusedSimpArgs false
set_option linter.unusedVariables false
set_option maxRecDepth 10000
set_option maxHeartbeats 4000000
variable {T:Nat→Obj→Prop}
theorem swo_u64:Sort.SWO ltU:=⟨fun x=>by simp [ltU],fun x y z h1 h2=>by simp [ltU] at *;omega,fun x y z h1 h2=>by simp [ltU] at *;omega⟩
end Go.Ab
namespace Go.Ab
open Go Go.Proofs
set_option linter.unusedSimpArgs false
set_option linter.unusedVariables false
set_option maxRecDepth 10000
set_option maxHeartbeats 4000000
section
variable {α:Type} [Inhabited α] [DecidableEq α]
def ddA (d:Array α):Nat→List α
 | 0=>[]
 | n+1=>if 0 < n∧d[n]! = d[n - 1]! then ddA d n else ddA d n++[d[n]!]
def Steps (d:Array α):Prop := ∀ j,0 < j→j < d.size→d[j]! ≠ d[j - 1]!
theorem take_next {d:Array α} {n:Nat} (h:n < d.size):d.toList.take (n+1)=d.toList.take n++[d[n]!]:=by
 rw [List.take_add_one,arr_get h];rfl
theorem dd_take {d:Array α} : ∀ {n:Nat},n≤d.size→(∀ j,0 < j→j < n→d[j]! ≠ d[j - 1]!)→ddA d n=d.toList.take n
 | 0,_,_=>rfl
 | n+1,h,hs=>by
  rw [ddA,if_neg (fun hh=>hs n hh.1 (by omega) hh.2),dd_take (by omega) (fun j h0 h1=>hs j h0 (by omega)),take_next (by omega)]
theorem dd_start {d:Array α} {k:Nat} (h0:0 < k) (h1:k < d.size) (hk : ∀ j,0 < j→j < k→d[j]! ≠ d[j - 1]!) (he:d[k]! = d[k - 1]!):d.toList.take k=ddA d (k+1):=by
 rw [ddA,if_pos ⟨h0,he⟩,dd_take (by omega) hk]
theorem set_take {e:Array α} {a:Nat} {x:α} (h:a < e.size):(e.setIfInBounds a x).toList.take (a+1)=e.toList.take a++[x]:=by
 have hl:a < e.toList.length:=by simpa using h
 rw [Array.toList_setIfInBounds,List.take_add_one,List.getElem?_set_self hl,List.take_set_of_le (Nat.le_refl a)];rfl
theorem set_get {e:Array α} {a j:Nat} {x:α} (h:a≠j):(e.setIfInBounds a x)[j]! = e[j]! := by
 simp [getElem!_def,Array.getElem?_setIfInBounds_ne h]
theorem dd_keep {d:Array α} {n:Nat} (h:0 < n) (he:d[n]! = d[n - 1]!):ddA d (n+1)=ddA d n:=by rw [ddA,if_pos ⟨h,he⟩]
theorem dd_add {d:Array α} {n:Nat} (he:d[n]! ≠ d[n - 1]!):ddA d (n+1)=ddA d n++[d[n]!]:=by rw [ddA,if_neg (fun h=>he h.2)]
theorem cut_row {enc:α→D} {e:Array α} {z:D} {a n:Nat} (h:a≤e.size):((List.take a (e.toList.map enc))++(List.replicate n z++List.drop (a+n) (e.toList.map enc))).take a=(e.toList.take a).map enc:=by
 rw [List.take_append_of_le_length (by simp;omega),List.take_take,Nat.min_self,List.map_take]
end
end Go.Ab
namespace Go.Ab
open Go Go.Proofs
set_option linter.unusedSimpArgs false
set_option linter.unusedVariables false
set_option maxRecDepth 10000
set_option maxHeartbeats 4000000
variable {T:Nat→Obj→Prop}
end Go.Ab
namespace Go.Ab
open Go Go.Proofs
set_option linter.unusedSimpArgs false
set_option linter.unusedVariables false
set_option maxRecDepth 10000
set_option maxHeartbeats 4000000
variable {T:Nat→Obj→Prop}
def finU (zs:List (BitVec 64)):List (BitVec 64):=ddA (Sort.sort ltU zs.toArray) (Sort.sort ltU zs.toArray).size
def uAt (r:List (BitVec 64)) (w:Nat):BitVec 64:=r.getD w 0
def relN (n:Int) (r:List (BitVec 64)):Int:=if n < 0∨64 < n then 2 else if (r.length:Int)≠n then 3 else if r.any (bad n) then 1 else 0
def cellR (r:List (BitVec 64)):List Int:=(List.range r.length).map fun w=>(Lib.ctz 64 (uAt r w|||uAt (revL r) w).toNat:Int)
def belowQ (r:List (BitVec 64)) (w n:Nat):List (BitVec 64):=((List.range n).filter fun v=>rb r w v && !rb r v w).map (uAt r)
def rankR (r:List (BitVec 64)):List Int:=(List.range r.length).map fun w=>((finU (belowQ r w r.length)).length:Int)
noncomputable def newL (W:Int) (val:List (BitVec 64)) (acc:List (List (BitVec 64))):PM×Int :=
 if shapeL W acc.length val≠0 then (⟨0,[],[],[]⟩,shapeL W acc.length val) else if acc.any (fun r=>decide (relN W r≠0)) then (⟨0,[],[],[]⟩,3) else
  if acc.any (fun r => !connB r (revL r)) then (⟨0,[],[],[]⟩,12) else (⟨W,val,acc.map cellR,acc.map rankR⟩,0)
abbrev dPI (x:PM×Int):D := .tup [dPM x.1,.int .i64 x.2]
theorem relN_ok {n:Int} {r:List (BitVec 64)} (h:relN n r=0):(r.length:Int)=n∧relCheck r=0:=by
 unfold relN at h
 split at h
 ·cases h
 ·split at h
  ·cases h
  ·rename_i h1 h2
   have e:(r.length:Int)=n:=by omega
   subst e
   refine ⟨rfl,?_⟩
   unfold relCheck
   split at h
   ·cases h
   ·rename_i h3
    rw [if_neg (by omega),if_neg (by simpa using h3)]
abbrev cD (r:List (BitVec 64)):D:=dI (cellR r)
abbrev rD (r:List (BitVec 64)):D:=dI (rankR r)
abbrev box0:Ob := .box [.d (.int .i64 0),.nils 1,.nils 1,.nils 1]
end Go.Ab
namespace Go.Ab
open Go Go.Proofs
set_option linter.unusedSimpArgs false
set_option linter.unusedVariables false
set_option maxRecDepth 10000
set_option maxHeartbeats 4000000
variable {T:Nat→Obj→Prop}
abbrev obs3 (p:PM) (a v:Int):List Ob:=[boxPM p,.box [.d (.int .i64 a)],.box [.d (.int .i64 v)]]
abbrev obs3' (p:PM) (a v:Int):List (Option Ob):=[some (boxPM p),some (.box [.d (.int .i64 a)]),some (.box [.d (.int .i64 v)])]
end Go.Ab
namespace Go.Ab
open Go Go.Proofs
set_option linter.unusedSimpArgs false
set_option linter.unusedVariables false
set_option maxRecDepth 10000
set_option maxHeartbeats 4000000
variable {T:Nat→Obj→Prop}
def wsL (s:BitVec 64) (n:Nat):List Int:=((List.range n).filter fun i=>s.getLsbD i).map fun i:Nat=>(i:Int)
def packN (v:BitVec 64) (ws:List Int):Nat→BitVec 64
 | 0=>0
 | n+1=>packN v ws n|||(((v >>> (at0 ws n).toNat)&&&1#64) <<< n)
def cell2 (p:PM) (ws:List Int) (a:Nat):List Int:=ws.map fun v=>findL (fun x:Int=>decide (at0 (rowAt p.cell a) x.toNat=at0 (rowAt p.cell a) v.toNat)) ws
def rank2 (p:PM) (ws:List Int) (a:Nat):List Int:=ws.map fun v=>at0 (rowAt p.rank a) v.toNat
def rank3 (p:PM) (ws:List Int) (a:Nat):List Int:=(List.range ws.length).map fun j=>findL (fun y=>at0 (rank2 p ws a) j==y) (ranksOf (cell2 p ws a) (rank2 p ws a) (at0 (cell2 p ws a) j))
def restPM (p:PM) (ws:List Int):PM:=⟨ws.length,p.val.map fun v=>packN v ws ws.length,(List.range p.cell.length).map (cell2 p ws),(List.range p.cell.length).map (rank3 p ws)⟩
def restL (p:PM) (s:BitVec 64):PM×List Int×Int :=
 if checkL p≠0 then (⟨0,[],[],[]⟩,[],checkL p) else if s &&& ~~~(allL p.W)≠0 then (⟨0,[],[],[]⟩,[],2) else if s=0 then (⟨0,[],[],[]⟩,[],6) else (restPM p (wsL s p.W.toNat),wsL s p.W.toNat,0)
abbrev dPLI (x:PM×List Int×Int):D := .tup [dPM x.1,dI x.2.1,.int .i64 x.2.2]
def RanksOwn (T:Nat→Obj→Prop):Prop := ∀ cell rank:List Int,cell.length≤rank.length→rank.length≤64 →
 Fn Tryz.prog T f_plaus_ranks [.own 0,.own 1] [.row 1 (cell.map (D.int .i64)),.row 1 (rank.map (D.int .i64))] (.d (.map (ranksD cell rank))) [some (.row 1 (cell.map (D.int .i64))),some (.row 1 (rank.map (D.int .i64)))]
end Go.Ab
namespace Go.Ab
open Go Go.Proofs Go.MapKept
set_option linter.unusedVariables false
set_option linter.unusedSimpArgs false
abbrev GI := List (Int × List Int)
theorem find_int : ∀ (l : List MapEntry) (ks : List Int) (i : Nat) (c : Int), ks.length = l.length → (∀ j, j < ks.length → (l.getD j default).key = .int .i64 (ks.getD j 0)) →
    (c ∉ ks ∧ Instr.findNow (.int .i64) (.int .i64 c) l i = some none) ∨ ∃ j, j < ks.length ∧ ks.getD j 0 = c ∧ Instr.findNow (.int .i64) (.int .i64 c) l i = some (some (i + j, (l.getD j default).val))
  | [], [], i, c, _, _ => .inl ⟨by simp, rfl⟩
  | [], _ :: _, _, _, h, _ => by simp at h
  | _ :: _, [], _, _, h, _ => by simp at h
  | e :: l, k :: ks, i, c, h, hk => by
    have h0 : e.key = .int .i64 k := by simpa using hk 0 (by simp)
    have hs : Instr.sameNow (.int .i64) (.int .i64 c) e.key = some (decide (c = k)) := by rw [h0]; simp [Instr.sameNow, int_beq]
    by_cases hc : c = k
    · refine .inr ⟨0, by simp, by simp [hc], ?_⟩
      subst hc
      simp [Instr.findNow, hs]
    · rcases find_int l ks (i + 1) c (by simpa using h) (fun j hj => by simpa using hk (j + 1) (by simpa using hj)) with ⟨h1, h2⟩ | ⟨j, h1, h2, h3⟩
      · exact .inl ⟨by simp [hc, h1], by simp [Instr.findNow, hs, hc, h2]⟩
      · exact .inr ⟨j + 1, by simpa using h1, by simpa using h2, by simp [Instr.findNow, hs, hc, h3]; omega⟩
theorem run_store {w : World} {m : Nat} {es : Array MapEntry} {clock : Nat} (hm : w.heap[m]? = some (.map es clock)) {c : Int} {v : Value} {r : Option (Nat × Value)} (hf : Instr.findNow (.int .i64) (.int .i64 c) es.toList 0 = some r)
    (hr : ∀ j u, r = some (j, u) → j < es.size ∧ (es.getD j default).key = .int .i64 c) :
    (Instr.mapUpdate 90 (.map (some m)) (.int .i64 c) v).run Tryz.prog w = .ok () { w with heap := w.heap.setIfInBounds m (match r with
      | none => .map (es.push { key := .int .i64 c, val := v, born := clock }) (clock + 1)
      | some p => .map (es.modify p.1 fun e => { e with key := .int .i64 c, val := v }) clock) } := by
  have hik : IsKey (.int .i64) (.int .i64 c) := rfl
  have hck := fun b => run_checkKey (w := w) Tryz.underlying3 hik b 9999
  have hfk := run_findKey (w := w) Tryz.underlying3 hf
  cases r with
  | none =>
    have hset := run_setObj_map (P := Tryz.prog) (.map (es.push { key := .int .i64 c, val := v, born := clock }) (clock + 1)) hm
    simp [Instr.mapUpdate, run_underlying Tryz.underlying90, run_getMap hm, hck, hfk, hset]
  | some p =>
    obtain ⟨j, u⟩ := p
    obtain ⟨hj, hkj⟩ := hr j u rfl
    have hold : ((es[j]?).map (·.key)).getD (.int .i64 c) = .int .i64 c := by
      rw [← hkj]; simp [Array.getD_eq_getD_getElem?, hj]
    have hset := run_setObj_map (P := Tryz.prog) (.map (es.modify j fun e => { e with key := .int .i64 c, val := v }) clock) hm
    simp [Instr.mapUpdate, run_underlying Tryz.underlying90, run_getMap hm, hck, hfk, hold, Instr.keyThatStays, sameBits_key hik, hset]
structure Grp (O : World → Value → Nat → List Int → Prop) (w : World) (m : Nat) (gs : GI) (es : Array MapEntry) (clock : Nat) (blk : Nat → Nat) : Prop where
  heap : w.heap[m]? = some (.map es clock)
  st : Stamps es clock
  size : es.size = gs.length
  key : ∀ i, i < gs.length → (es.getD i default).key = .int .i64 (gs.getD i default).1
  val : ∀ i, i < gs.length → O w (es.getD i default).val (blk i) (gs.getD i default).2
  apart : ∀ i j, i < gs.length → j < gs.length → blk i = blk j → i = j
section
variable {O : World → Value → Nat → List Int → Prop} {w : World} {m : Nat} {gs : GI} {es : Array MapEntry} {clock : Nat} {blk : Nat → Nat}
theorem Grp.find (h : Grp O w m gs es clock blk) (c : Int) : (c ∉ gs.map Prod.fst ∧ Instr.findNow (.int .i64) (.int .i64 c) es.toList 0 = some none) ∨
    ∃ j, j < gs.length ∧ (gs.getD j default).1 = c ∧ Instr.findNow (.int .i64) (.int .i64 c) es.toList 0 = some (some (j, (es.getD j default).val)) := by
  have hg : ∀ j, j < gs.length → (gs.map Prod.fst).getD j 0 = (gs.getD j default).1 := fun j hj => by simp [List.getD, hj]
  rcases find_int es.toList (gs.map Prod.fst) 0 c (by simp [h.size]) (fun j hj => by
    rw [List.length_map] at hj
    rw [getD_toList, h.key j hj, hg j hj]) with h1 | ⟨j, h1, h2, h3⟩
  · exact .inl h1
  · rw [List.length_map] at h1
    rw [hg j h1] at h2
    refine .inr ⟨j, h1, h2, ?_⟩
    rw [h3, Nat.zero_add, getD_toList]
theorem run_lookup_now {P : Program} {w : World} {t kt e : TypeId} {d : TypeDesc} {kv : Value} (ht : P.underlying t = some (.map kt e)) (hkd : P.underlying kt = some d) (hik : IsKey d kv) {zv : Value} (hz : ∀ w, (zeroValue e).run P w = .ok zv w)
    {ok : Bool} {m : Nat} {ents : Array MapEntry} {clock : Nat} (hm : w.heap[m]? = some (.map ents clock)) {r : Option (Nat × Value)} (hf : Instr.findNow d kv ents.toList 0 = some r) :
    (Instr.lookup t (.map (some m)) kv ok).run P w = .ok (if ok then .tuple #[foundV r zv, .bool r.isSome] else foundV r zv) w := by
  have hfk := run_findKey (w := w) hkd hf
  have hck : ∀ b, (Instr.checkKey b 10000 kt kv).run P w = .ok () w := fun b => run_checkKey hkd hik b 9999
  cases r with
  | none => simp [Instr.lookup, run_underlying ht, run_getMap hm, hck, hfk, hz, foundV]
  | some p => obtain ⟨i, v⟩ := p; simp [Instr.lookup, run_underlying ht, run_getMap hm, hck, hfk, foundV]
theorem lookG_none {w : World} {m : Nat} {es : Array MapEntry} {clock : Nat} (h : w.heap[m]? = some (.map es clock)) {c : Int} (hf : Instr.findNow (.int .i64) (.int .i64 c) es.toList 0 = some none) : (Instr.lookup 90 (.map (some m)) (.int .i64 c) false).run Tryz.prog w = .ok (.slice none 0 0) w := by
  have hz : ∀ w, (zeroValue 28).run Tryz.prog w = .ok (.slice none 0 0) w := fun w => by kernel_rfl
  simpa [foundV] using run_lookup_now (ok := false) Tryz.underlying90 Tryz.underlying3 (show IsKey (.int .i64) (.int .i64 c) from rfl) hz h hf
theorem lookG_some {w : World} {m : Nat} {es : Array MapEntry} {clock : Nat} (h : w.heap[m]? = some (.map es clock)) {c : Int} {j : Nat} {v : Value} (hf : Instr.findNow (.int .i64) (.int .i64 c) es.toList 0 = some (some (j, v))) : (Instr.lookup 90 (.map (some m)) (.int .i64 c) false).run Tryz.prog w = .ok v w := by
  have hz : ∀ w, (zeroValue 28).run Tryz.prog w = .ok (.slice none 0 0) w := fun w => by kernel_rfl
  simpa [foundV] using run_lookup_now (ok := false) Tryz.underlying90 Tryz.underlying3 (show IsKey (.int .i64) (.int .i64 c) from rfl) hz h hf
theorem gset_get {i j : Nat} {x : Int × List Int} (hi : i < gs.length) : (gs.set i x).getD j default = if j = i then x else gs.getD j default := by
  by_cases h : j = i
  · subst h; simp [List.getD, hi]
  · rw [if_neg h]; simp [List.getD, Ne.symm h]
theorem gadd_get {j : Nat} {x : Int × List Int} (hj : j < gs.length + 1) : (gs ++ [x]).getD j default = if j = gs.length then x else gs.getD j default := by
  by_cases h : j = gs.length
  · subst h; simp [List.getD]
  · rw [if_neg h]; simp [List.getD, List.getElem?_append_left (show j < gs.length by omega)]
theorem Grp.set {w1 : World} (h : Grp O w m gs es clock blk) {c : Int} {i : Nat} {u v : Value} {g : Nat} {zs : List Int} (hi : i < gs.length) (hc : (gs.getD i default).1 = c)
    (hf : Instr.findNow (.int .i64) (.int .i64 c) es.toList 0 = some (some (i, u))) (hm : w1.heap[m]? = some (.map es clock))
    (hv : ∀ o, O { w1 with heap := w1.heap.setIfInBounds m o } v g zs)
    (ho : ∀ o j, j < gs.length → j ≠ i → O { w1 with heap := w1.heap.setIfInBounds m o } (es.getD j default).val (blk j) (gs.getD j default).2) (hg : ∀ j, j < gs.length → j ≠ i → blk j ≠ g) :
    ∃ es', (Instr.mapUpdate 90 (.map (some m)) (.int .i64 c) v).run Tryz.prog w1 = .ok () { w1 with heap := w1.heap.setIfInBounds m (.map es' clock) } ∧
      Grp O { w1 with heap := w1.heap.setIfInBounds m (.map es' clock) } m (gs.set i (c, zs)) es' clock (fun j => if j = i then g else blk j) ∧ ∀ j, j < gs.length → (es'.getD j default).born = (es.getD j default).born := by
  have hj : i < es.size := by rw [h.size]; exact hi
  have hmod : ∀ j, (es.modify i fun e => { e with key := .int .i64 c, val := v }).getD j default = if j = i then { key := .int .i64 c, val := v, born := (es.getD i default).born } else es.getD j default := fun j => modify_getD hj
  refine ⟨es.modify i fun e => { e with key := .int .i64 c, val := v }, run_store hm hf (fun j u' e => ?_), ⟨?_, ?_, ?_, fun j hj' => ?_, fun j hj' => ?_, fun j k hj' hk' e => ?_⟩, fun j hj' => ?_⟩
  · cases e; exact ⟨hj, by rw [h.key i hi, hc]⟩
  · simp [lt_of_block hm]
  · refine ⟨fun p q hp hq he => ?_, fun p hp => ?_⟩
    · simp only [Array.size_modify] at hp hq
      rw [hmod, hmod] at he
      refine h.st.inj p q hp hq ?_
      split at he <;> split at he <;> simp_all
    · simp only [Array.size_modify] at hp
      rw [hmod p]
      by_cases e : p = i
      · rw [if_pos e]; exact h.st.lt i hj
      · rw [if_neg e]; exact h.st.lt p hp
  · simp [h.size]
  · rw [List.length_set] at hj'
    rw [hmod, gset_get hi]
    split
    · rfl
    · exact h.key j hj'
  · rw [List.length_set] at hj'
    rw [hmod, gset_get hi]
    split
    · exact hv _
    · exact ho _ j hj' ‹_›
  · rw [List.length_set] at hj' hk'
    by_cases e1 : j = i <;> by_cases e2 : k = i
    · omega
    · rw [if_pos e1, if_neg e2] at e; exact absurd e.symm (hg k hk' e2)
    · rw [if_neg e1, if_pos e2] at e; exact absurd e (hg j hj' e1)
    · rw [if_neg e1, if_neg e2] at e; exact h.apart j k hj' hk' e
  · rw [hmod j]
    by_cases e : j = i
    · rw [if_pos e, e]
    · rw [if_neg e]
theorem Grp.add {w1 : World} (h : Grp O w m gs es clock blk) {c : Int} {v : Value} {g : Nat} {zs : List Int}
    (hf : Instr.findNow (.int .i64) (.int .i64 c) es.toList 0 = some none) (hm : w1.heap[m]? = some (.map es clock))
    (hv : ∀ o, O { w1 with heap := w1.heap.setIfInBounds m o } v g zs)
    (ho : ∀ o j, j < gs.length → O { w1 with heap := w1.heap.setIfInBounds m o } (es.getD j default).val (blk j) (gs.getD j default).2) (hg : ∀ j, j < gs.length → blk j ≠ g) :
    ∃ es', (Instr.mapUpdate 90 (.map (some m)) (.int .i64 c) v).run Tryz.prog w1 = .ok () { w1 with heap := w1.heap.setIfInBounds m (.map es' (clock + 1)) } ∧
      Grp O { w1 with heap := w1.heap.setIfInBounds m (.map es' (clock + 1)) } m (gs ++ [(c, zs)]) es' (clock + 1) (fun j => if j = gs.length then g else blk j) := by
  have hget : ∀ j, (es.push { key := .int .i64 c, val := v, born := clock }).getD j default = if j = gs.length then { key := .int .i64 c, val := v, born := clock } else es.getD j default := by
    intro j
    rw [← h.size]
    simp only [Array.getD_eq_getD_getElem?, Array.getElem?_push]
    split <;> rfl
  refine ⟨es.push { key := .int .i64 c, val := v, born := clock }, run_store hm hf (fun j u' e => by cases e), ⟨?_, stamps_push h.st _ _, ?_, fun j hj' => ?_, fun j hj' => ?_, fun j k hj' hk' e => ?_⟩⟩
  · simp [lt_of_block hm]
  · simp [h.size]
  · simp only [List.length_append, List.length_cons, List.length_nil] at hj'
    rw [hget, gadd_get hj']
    split
    · rfl
    · exact h.key j (by omega)
  · simp only [List.length_append, List.length_cons, List.length_nil] at hj'
    rw [hget, gadd_get hj']
    split
    · exact hv _
    · exact ho _ j (by omega)
  · simp only [List.length_append, List.length_cons, List.length_nil] at hj' hk'
    by_cases e1 : j = gs.length <;> by_cases e2 : k = gs.length
    · omega
    · rw [if_pos e1, if_neg e2] at e; exact absurd e.symm (hg k (by omega))
    · rw [if_neg e1, if_pos e2] at e; exact absurd e (hg j (by omega))
    · rw [if_neg e1, if_neg e2] at e; exact h.apart j k (by omega) (by omega) e
end
end Go.Ab
namespace Go.Ab
open Go Go.Proofs
set_option linter.unusedSimpArgs false
set_option linter.unusedVariables false
set_option maxRecDepth 10000
set_option maxHeartbeats 4000000
variable {T:Nat→Obj→Prop}
abbrev rowint (d:Array (Int)):Ob := .row 1 (d.toList.map (D.int .i64))
end Go.Ab
namespace Go.Ab
open Go Go.Proofs
set_option linter.unusedSimpArgs false
set_option linter.unusedVariables false
set_option maxRecDepth 10000
set_option maxHeartbeats 4000000
variable {T:Nat→Obj→Prop}
abbrev box1int (s:Nat):Ob := .box [.d (.int .i64 (s:Int))]
end Go.Ab
namespace Go.Ab
open Go Go.Proofs
set_option linter.unusedSimpArgs false
set_option linter.unusedVariables false
set_option maxRecDepth 10000
set_option maxHeartbeats 4000000
variable {T:Nat→Obj→Prop}
end Go.Ab
namespace Go.Ab
open Go Go.Proofs
set_option linter.unusedSimpArgs false
set_option linter.unusedVariables false
set_option maxRecDepth 10000
set_option maxHeartbeats 4000000
variable {T:Nat→Obj→Prop}
end Go.Ab
namespace Go.Ab
open Go Go.Proofs
set_option linter.unusedSimpArgs false
set_option linter.unusedVariables false
set_option maxRecDepth 10000
set_option maxHeartbeats 4000000
variable {T:Nat→Obj→Prop}
end Go.Ab
namespace Go.Ab
open Go Go.Proofs
set_option linter.unusedSimpArgs false
set_option linter.unusedVariables false
set_option maxRecDepth 10000
set_option maxHeartbeats 4000000
variable {T:Nat→Obj→Prop}
end Go.Ab
namespace Go.Ab
open Go Go.Proofs
set_option linter.unusedSimpArgs false
set_option linter.unusedVariables false
set_option maxRecDepth 10000
set_option maxHeartbeats 4000000
variable {T:Nat→Obj→Prop}
set_option maxHeartbeats 1000000 in
theorem fn_Compact_id_int (d:Array Int) (hs:d.size≤536870912) (hd:Steps d):Fn Tryz.prog T f_slices_Compact_Lint_int_ [.own 0] [rowint d] (.own 0) [some (rowint d)]:=by
 have hln:d.toList.length=d.size:=Array.length_toList
 refine fn_introR hmix k_slices_Compact_Lint_int_ (by show 1≤61;decide) _ (fun e env mem n h=>h) ?_
 (repeat' ((conv=>whnf);first|refine vA ?_|(refine vF ?_ ?_<;>intro hc<;>try simp only [vL] at hc)|refine vJ fun hg=>?_));all_goals try conv=>whnf
 ·refine ⟨trivial,_,[(0,0)],[],rfl,.inl (by (repeat' exact rfl)),⟨by rfl,by rfl,by rfl,trivial,by (repeat' first|exact trivial|exact rfl|refine And.intro ?_ ?_|refine ⟨_,rfl,?_⟩|exact of_decide_eq_true rfl)⟩,by (repeat' first|exact trivial|exact rfl|refine And.intro ?_ ?_)⟩
 refine loop_mem (fun (i:Int)=>[(0,.own 0),(3,.d (.int .i64 (i))),(ghostAt,.own 0)]) (fun (i:Int)=>[(0,some (rowint d))]) 1 (fun (i:Int) => ∃ k:Nat,i=k∧0 < k∧k≤d.size) (fun (i:Int)=>(d.size - i).toNat) (1) [(0,0)] [] (⟨1,rfl,by omega,by omega⟩) (by (refine ⟨rfl,rfl,rfl,?_,?_⟩;repeat' first|exact trivial|exact rfl|refine And.intro ?_ ?_|refine ⟨_,rfl,?_⟩|decide)) ?_
 rintro _ ⟨k,rfl,hk0,hk1⟩
 (repeat' ((conv=>whnf);first|refine vA ?_|(refine vF ?_ ?_<;>intro hc<;>try simp only [vL] at hc)|refine vJ fun hg=>?_|(refine vQ ?_ fun x hx=>?_;·omega)|((first|refine vO ?_ ?_|refine vP ?_ ?_);·first|omega|(simp only [vM] at *;omega))|(refine vU ?_ ?_;·kernel_rfl)|fail));all_goals try conv=>whnf
 ·have g1:=arr_eq (arr_at k ‹d.toList[(k:Int).toNat]? = some _› rfl)
  have g2:=arr_eq (arr_at (k - 1) ‹d.toList[((k:Int) - 1).toNat]? = some _› (by omega))
  exact absurd (g1.1.trans (‹_=_›.trans g2.1.symm)) (hd k hk0 g1.2)
 ·refine ⟨_,[(0,0)],[],?_,?_,by (refine ⟨rfl,rfl,rfl,?_,?_⟩;repeat' first|exact trivial|exact rfl|refine And.intro ?_ ?_|refine ⟨_,rfl,?_⟩|decide)⟩
  ·exact ⟨k+1,by omega,by omega,by omega⟩
  ·(omega)
 ·refine ⟨trivial,_,[(0,0)],[],rfl,.inl (by (repeat' exact rfl)),⟨by rfl,by rfl,by rfl,trivial,by (repeat' first|exact trivial|exact rfl|refine And.intro ?_ ?_|refine ⟨_,rfl,?_⟩|exact of_decide_eq_true rfl)⟩,by (repeat' first|exact trivial|exact rfl|refine And.intro ?_ ?_)⟩
set_option maxHeartbeats 1000000 in
theorem fn_Compact_cut_int (d:Array Int) (hs:d.size≤536870912) (hd : ¬Steps d):Fn Tryz.prog T f_slices_Compact_Lint_int_ [.own 0] [rowint d] (.own 1) [none,some (.row 1 ((ddA d d.size).map (D.int .i64)))]:=by
 generalize hR:(ddA d d.size).map (D.int .i64)=R
 have hln:d.toList.length=d.size:=Array.length_toList
 refine fn_introR hmix k_slices_Compact_Lint_int_ (by show 1≤61;decide) _ (fun e env mem n h=>h) ?_
 (repeat' ((conv=>whnf);first|refine vA ?_|(refine vF ?_ ?_<;>intro hc<;>try simp only [vL] at hc)|refine vJ fun hg=>?_));all_goals try conv=>whnf
 ·exact absurd (fun j hj0 hj1=>by omega) hd
 refine loop_mem (fun (i:Int)=>[(0,.own 0),(3,.d (.int .i64 (i))),(ghostAt,.own 0)]) (fun (i:Int)=>[(0,some (rowint d))]) 1 (fun (i:Int) => ∃ k:Nat,i=k∧0 < k∧k≤d.size ∧ ∀ j,0 < j→j < k→d[j]! ≠ d[j - 1]!) (fun (i:Int)=>(d.size - i).toNat) (1) [(0,0)] [] (⟨1,rfl,by omega,by omega,fun j _ _=>by omega⟩) (by (refine ⟨rfl,rfl,rfl,?_,?_⟩;repeat' first|exact trivial|exact rfl|refine And.intro ?_ ?_|refine ⟨_,rfl,?_⟩|decide)) ?_
 rintro _ ⟨k,rfl,hk0,hk1,hk⟩
 (repeat' ((conv=>whnf);first|refine vA ?_|(refine vF ?_ ?_<;>intro hc<;>try simp only [vL] at hc)|refine vJ fun hg=>?_|(refine vQ ?_ fun x hx=>?_;·omega)|((first|refine vO ?_ ?_|refine vP ?_ ?_);·first|omega|(simp only [vM] at *;omega))|(refine vU ?_ ?_;·kernel_rfl)|fail));all_goals try conv=>whnf
 ·have g1:=arr_eq (arr_at k ‹d.toList[(k:Int).toNat]? = some _› rfl)
  have g2:=arr_eq (arr_at (k - 1) ‹d.toList[((k:Int) - 1).toNat]? = some _› (by omega))
  have hkk:d[k]! = d[k - 1]! := g1.1.trans (‹_=_›.trans g2.1.symm)
  refine loop_mem (fun ((w,q,xs):Int×Int×List D)=>[(0,.own 0),(3,.d (.int .i64 (w))),(4,.view 0 k ((d.toList.map (D.int .i64)).length - k)),(5,.d (.int .i64 (q))),(ghostAt,.own 0)]) (fun ((w,q,xs):Int×Int×List D)=>[(0,some (.row 1 xs))]) 1 (fun ((w,q,xs):Int×Int×List D) => ∃ (a b:Nat) (e:Array Int),w=a∧q=b∧xs=e.toList.map (D.int .i64)∧0 < b∧k+b≤d.size∧a < k+b∧e.size=d.size∧e.toList.take a=ddA d (k+b) ∧ ∀ j,k+b - 1≤j→j < d.size→e[j]! = d[j]!) (fun ((w,q,xs):Int×Int×List D)=>(d.size - k - q).toNat) (((k:Int),(1:Int),d.toList.map (D.int .i64))) [(0,0)] [] (⟨k,1,d,rfl,rfl,rfl,by omega,by omega,by omega,rfl,dd_start hk0 g1.2 hk hkk,fun _ _ _=>rfl⟩) (by (refine ⟨rfl,rfl,rfl,?_,?_⟩;repeat' first|exact trivial|exact rfl|refine And.intro ?_ ?_|refine ⟨_,rfl,?_⟩|decide)) ?_
  rintro ⟨_,_,_⟩ ⟨a,b,e,rfl,rfl,rfl,hb0,hb1,hab,he,ha,hj⟩
  have hle:e.toList.length=e.size:=Array.length_toList
  (repeat' ((conv=>whnf);first|refine vA ?_|((first|refine vD ?_ ?_|refine vF ?_ ?_)<;>intro hc<;>try simp only [vL] at hc)|refine vN ‹_› ?_|(refine vQ ?_ fun x hx=>?_;·omega)|((first|refine vO ?_ ?_|refine vP ?_ ?_);·first|omega|(simp only [vM] at *;omega))|(refine vU ?_ ?_;·kernel_rfl)|fail));all_goals try conv=>whnf
  ·have h1:=arr_eq ‹e.toList[k+((b:Nat):Int).toNat]? = some _›
   have h2:=arr_eq (arr_at (i:=((k+b - 1:Nat):Int)) (k+b - 1) (by rw [← ‹e.toList[k+(((b:Nat):Int) - 1).toNat]? = some _›];congr 1;omega) rfl)
   simp only [Int.toNat_natCast] at h1
   have e1:=hj (k+b) (by omega) (by omega)
   have e2:=hj (k+b - 1) (by omega) (by omega)
   refine ⟨(_,_,_),[(0,0)],[],?_,?_,by (refine ⟨rfl,rfl,rfl,?_,?_⟩;repeat' first|exact trivial|exact rfl|refine And.intro ?_ ?_|refine ⟨_,rfl,?_⟩|decide)⟩
   ·exact ⟨a+1,b+1,e.setIfInBounds a e[k+b]!,by omega,by omega,by rw [h1.1];simp [List.map_set],by omega,by omega,by omega,by simp [he],
     by rw [set_take (by omega),ha,← Nat.add_assoc,dd_add (by rw [← e1,← e2,h1.1,h2.1];assumption),e1],
     fun j h0 h1=>by rw [set_get (by omega)];exact hj j (by omega) h1⟩
   ·((simp only [vM] at *;omega))
  ·have h1:=arr_eq ‹e.toList[k+((b:Nat):Int).toNat]? = some _›
   have h2:=arr_eq (arr_at (i:=((k+b - 1:Nat):Int)) (k+b - 1) (by rw [← ‹e.toList[k+(((b:Nat):Int) - 1).toNat]? = some _›];congr 1;omega) rfl)
   simp only [Int.toNat_natCast] at h1
   have e1:=hj (k+b) (by omega) (by omega)
   have e2:=hj (k+b - 1) (by omega) (by omega)
   refine ⟨(_,_,_),[(0,0)],[],?_,?_,by (refine ⟨rfl,rfl,rfl,?_,?_⟩;repeat' first|exact trivial|exact rfl|refine And.intro ?_ ?_|refine ⟨_,rfl,?_⟩|decide)⟩
   ·exact ⟨a,b+1,e,rfl,by omega,rfl,by omega,by omega,by omega,he,
     by rw [ha,← Nat.add_assoc,dd_keep (by omega) (by rw [← e1,← e2,h1.1,h2.1];assumption)],
     fun j h0 h1=>hj j (by omega) h1⟩
   ·((simp only [vM] at *;omega))
  ·have hE:=cut_row (enc:=(D.int .i64)) (e:=e) (z:=(D.int .i64) 0) (a:=a) (n:=(e.toList.map (D.int .i64)).length - a) (by omega)
   rw [ha,show k+b=d.size by omega,hR] at hE
   subst hE
   refine NeedS.mk (by simp only [List.length_append,List.length_take,List.length_replicate,List.length_drop,List.length_map,hle];omega) ?_
   (repeat' ((conv=>whnf);fail));all_goals try conv=>whnf
   refine ⟨trivial,_,[(1,1)],[],rfl,.inl (by (repeat' exact rfl)),⟨by rfl,by rfl,by rfl,trivial,by (repeat' first|exact trivial|exact rfl|refine And.intro ?_ ?_|refine ⟨_,rfl,?_⟩|exact of_decide_eq_true rfl)⟩,by (repeat' first|exact trivial|refine And.intro ?_ ?_)⟩
 ·refine ⟨_,[(0,0)],[],?_,?_,by (refine ⟨rfl,rfl,rfl,?_,?_⟩;repeat' first|exact trivial|exact rfl|refine And.intro ?_ ?_|refine ⟨_,rfl,?_⟩|decide)⟩
  ·exact ⟨k+1,by omega,by omega,by omega,fun j h0 h1=>by
    by_cases hjk:j=k
    ·subst hjk
     have g1:=arr_eq (arr_at j ‹d.toList[(j:Int).toNat]? = some _› rfl)
     have g2:=arr_eq (arr_at (j - 1) ‹d.toList[((j:Int) - 1).toNat]? = some _› (by omega))
     rw [g1.1,g2.1];assumption
    ·exact hk j h0 (by omega)⟩
  ·(omega)
 ·exact absurd (fun j h0 h1=>hk j h0 (by omega)) hd
end Go.Ab
namespace Go.Ab
open Go Go.Proofs Go.MapKept
set_option linter.unusedVariables false
set_option linter.unusedSimpArgs false
variable {T : Nat → Obj → Prop}
def O2 (base : Nat) (w : World) (v : Value) (g : Nat) (zs : List Int) : Prop := ∃ cap c e, v = .slice (some ⟨g, 0, none⟩) zs.length cap ∧ base ≤ g ∧ w.heap[g]? = some (.cells c e (0, 0)) ∧ zs.length ≤ cap ∧ cap ≤ c.size ∧ zs.length ≤ 536870912 ∧
  ∀ j, j < zs.length → c.getD j undef = .int .i64 (zs.getD j 0)
def rowI (zs : List Int) : Ob := .row 1 (zs.map (D.int .i64))
theorem O2.kept {base : Nat} {w w' : World} {v : Value} {g : Nat} {zs : List Int} (h : O2 base w v g zs) (hg : w'.heap[g]? = w.heap[g]?) : O2 base w' v g zs := by
  obtain ⟨cap, c, e, h1, h2, h3, h4⟩ := h
  exact ⟨cap, c, e, h1, h2, hg.trans h3, h4⟩
def cBase (T : Nat → Obj → Prop) (w : World) (g : Nat) : Base where
  w0 := w
  O := fun b => b < w.heap.size ∧ b ≠ g
  R := fun b => b = g
  nt := 0
  pin := fun b o => T b o ∧ w.heap[b]? = some o ∧ b ≠ g
  pinO := fun b o h => ⟨lt_of_block h.2.1, h.2.2⟩
  ghost := fun _ => undef
  small := Nat.zero_le _
  dfr := []
  inv := fun _ _ _ _ => True
  stab := fun _ _ _ _ _ _ _ _ _ _ _ _ => trivial
  mono := fun _ _ _ _ _ _ _ => trivial
theorem cSim {base : Nat} {w : World} {v : Value} {g : Nat} {zs : List Int} (h : O2 base w v g zs) :
    Sim (cBase T w g) (fun _ => .undef) (memG [some (rowI zs)]) (fun i => 1 ≤ i) (fun _ => some g) ⟨#[], []⟩ w ∧
    VSim (fun _ => some g) (memG [some (rowI zs)]) (fun i => 1 ≤ i) ((cBase T w g).X (fun _ => some g) (memG [some (rowI zs)])) w (.own 0) v := by
  obtain ⟨cap, c, e, rfl, h2, h3, h4, h5, h6, h7⟩ := h
  have hm : ∀ i, memG [some (rowI zs)] i = if i = 0 then some (rowI zs) else none := fun i => by
    match i with
    | 0 => rfl
    | i + 1 => rfl
  have e0 : ∀ i, memG [some (rowI zs)] i ≠ none → i = 0 := fun i hi => by
    rw [hm] at hi
    by_cases h : i = 0
    · exact h
    · rw [if_neg h] at hi; exact absurd rfl hi
  refine ⟨⟨fun t => .undef _, fun id ob hid => ?_, fun i j b hi hj _ _ => by rw [e0 i hi, e0 j hj], fun id b hi hb => ?_, fun id hid => by rw [hm, if_neg (by omega)], ⟨rfl, rfl, rfl, Nat.le_refl _, fun _ _ _ => rfl, fun b c e h => ⟨c, h, rfl⟩⟩, ⟨rfl, rfl⟩, fun b hb => hb.1, fun b o h => h.2.1, fun _ _ _ => trivial⟩, ?_⟩
  · rw [hm] at hid
    by_cases h : id = 0
    · rw [if_pos h] at hid
      cases hid
      refine .row 1 (zs.map (D.int .i64)) g c e rfl h3 (by rw [List.length_map]; omega) (by rw [List.length_map]; omega) (fun x hx => ?_) (fun i j hi hj => ?_)
      · obtain ⟨y, -, rfl⟩ := List.mem_map.1 hx
        rfl
      · rw [List.length_map] at hi
        have : j = 0 := by omega
        subst this
        rw [Nat.mul_one, Nat.add_zero, h7 i hi]
        rw [show (zs.map (D.int .i64)).getD i .nil = .int .i64 (zs.getD i 0) by simp [List.getD, hi]]
        exact .int .i64 _ (by simp)
    · rw [if_neg h] at hid; cases hid
  · cases hb
    exact ⟨fun h => h.2 rfl, .inl rfl⟩
  · have := VSim.own (σ := fun _ => some g) (M := memG [some (rowI zs)]) (F := fun i => 1 ≤ i) (X := (cBase T w g).X (fun _ => some g) (memG [some (rowI zs)])) (w := w) 0 1 (zs.map (D.int .i64)) g cap c e rfl rfl h3 (by rw [List.length_map]; omega) (by omega)
    rwa [List.length_map] at this
theorem kept_grown {w w' : World} {g : Nat} (h : Kept (fun b => b = g) w w') : w.grownBy w' (some g) :=
  ⟨h.os, h.tape, h.output, h.size, fun b hb hne => h.block b hb (fun e => hne (by rw [e]))⟩
theorem row_out {σ : Nat → Option Nat} {M : Nat → Option Ob} {F X : Nat → Prop} {w : World} {id : Nat} {ys : List Int} {v : Value} (hV : VSim σ M F X w (.own id) v) (hO : ObSim σ M F X w id (rowI ys)) (hm : M id = some (rowI ys)) (hl : ys.length ≤ 536870912) (h0 : ys ≠ []) :
    ∃ g, σ id = some g ∧ O2 0 w v g ys := by
  have hlen : (ys.map (D.int .i64)).length = ys.length := List.length_map _
  unfold rowI at hm hO
  have pos : 0 < ys.length := List.length_pos_iff.2 h0
  cases hV with
  | ownDead _ ad l c h1 => rw [hm] at h1; cases h1
  | ownNil _ s h1 => rw [hm] at h1; simp at h1; exact absurd h1.2 h0
  | own _ s xs b cap c e h1 h2 h3 h4 h5 =>
    rw [hm] at h1
    simp only [Option.some.injEq, Ob.row.injEq] at h1
    obtain ⟨rfl, rfl⟩ := h1
    refine ⟨b, h2, cap, c, e, by rw [hlen], Nat.zero_le _, h3, by omega, by omega, hl, fun j hj => ?_⟩
    generalize hxs : ys.map (D.int .i64) = xs at hO hlen
    cases hO with
    | nilrow s h => rw [List.length_nil] at hlen; omega
    | row s xs' b' c' e' g1 g2 g3 g4 g5 g6 =>
      rw [h2] at g1; cases g1
      rw [h3] at g2; cases g2
      have := g6 j 0 (by omega) (by omega)
      rw [Nat.mul_one, Nat.add_zero, ← hxs, show (ys.map (D.int .i64)).getD j .nil = .int .i64 (ys.getD j 0) by simp [List.getD, hj]] at this
      generalize c.getD j undef = z at this ⊢
      cases this; rfl
theorem call_row {f : Nat} {zs ys : List Int} {id : Nat} {obs' : List (Option Ob)} (hf : Fn Tryz.prog T f [.own 0] [rowI zs] (.own id) obs') (hid : memG obs' id = some (rowI ys)) (hl : ys.length ≤ 536870912) (h0 : ys ≠ [])
    {base : Nat} {w : World} {v : Value} {g : Nat} (h : O2 base w v g zs) (hT : ∀ b o, T b o → w.heap[b]? = some o ∧ b ≠ g) (hb : base ≤ w.heap.size) :
    Calls Tryz.prog f #[v] w fun e w' => ∃ v' g', e = .returned v' ∧ O2 base w' v' g' ys ∧ (g' = g ∨ w.heap.size ≤ g') ∧ w.grownBy w' (some g) := by
  obtain ⟨hS, hV⟩ := cSim (T := T) h
  have hbg : base ≤ g := by obtain ⟨_, _, _, _, h2, _⟩ := h; exact h2
  intro cs
  obtain ⟨v', w', σ', ⟨fr, hc, hfn, hlk⟩, hS', hV', -⟩ := hf.2 (cBase T w g) (fun _ => some g) ⟨#[], []⟩ w #[v] (fun b o ht => ⟨ht, hT b o ht⟩) (fun _ _ _ _ => trivial) hS rfl (fun i hi => by
    match i, hi with
    | 0, _ => exact hV) cs
  obtain ⟨g', hg', cap, c, e, q1, -, q2⟩ := row_out hV' (hS'.mem id _ hid) hid hl h0
  have hmine := (hS'.mine id g' (by rw [hid]; simp) hg').2
  refine ⟨.returned v', w', fr, ⟨v', g', rfl, ⟨cap, c, e, q1, ?_, q2⟩, hmine, kept_grown hS'.kept⟩, hc, hfn, hlk⟩
  rcases hmine with rfl | h
  · exact hbg
  · exact Nat.le_trans hb h
end Go.Ab
