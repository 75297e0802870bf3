/- A part of the proofs of this seat: functions and their contracts. -/
import Derived.Test.YtmnbcipineblbaaGreatDoorMC
import Derived.Test.YtmnbcipineblbaaGreatDoorProg
import Derived.Lib.TrailingZeros
import Derived.Sort.AssemblyPlain
set_option linter.unusedVariables false
set_option linter.unusedSimpArgs false
set_option linter.unusedSectionVars false
namespace Go.Ab.K
open Go
abbrev t:=Arg.t
abbrev c:=Arg.c
abbrev n (x:Int):V := .d (.int .i64 x)
abbrev u (x:BitVec 64):V := .d (.u64 x)
abbrev m (x:Nat):CO := .mv (.t x)
abbrev pf (x y:Nat):CO := .pick (.t x) (.t y) (.c .bf)
abbrev pt (x y:Nat):CO := .pick (.t x) (.c .bt) (.t y)
abbrev b (o:BinOp) (x y:Nat):CO := .bin o (.t x) (.t y)
abbrev bc (o:BinOp) (x:Nat) (y:V):CO := .bin o (.t x) (.c y)
abbrev l (x:Nat):CO := .load none (.t x)
abbrev la (k x:Nat):CO := .load (some k) (.t x)
abbrev f (o x:Nat):CO := .faddr o (.t x)
abbrev ia (s x i:Nat):CO := .iaddr s (.t x) (.t i)
abbrev e (x k:Nat):CO := .ext (.t x) k
abbrev ln (x:Nat):CO := .len (.t x)
abbrev o (d:Nat) (x:CO):COp:=⟨some d,none,x⟩
abbrev w (x:CO):COp:=⟨none,none,x⟩
abbrev g (d k:Nat) (v:Bool) (x:CO):COp:=⟨some d,some (k,v),x⟩
abbrev gw (k:Nat) (v:Bool) (x:CO):COp:=⟨none,some (k,v),x⟩
abbrev i (x:Nat) (p r:CC):CC := .cond (.t x) p r
def q:List CC→CC
 | [] => .skip
 | [x]=>x
 | x::y::r => .seq x (q (y::r))
end Go.Ab.K
namespace Go.Ab
open Go K
def zfT:Nat:=10
def zcT:Nat:=11
def ze1:Nat:=12
def zeg:Nat:=14
def zdo:Nat:=16
def zeC:Nat:=23
def ze4:Nat:=24
def zeF:Nat:=25
def zeN:Nat:=27
def zeK:Nat:=29
def zlp:Nat:=31
def zf0:Nat:=33
def zgd:Nat:=34
def ze2:Nat:=35
def zdn:Nat:=40
def zij:Nat:=48
def zc9:Nat:=51
def zeh:Nat:=52
def zeE:Nat:=53
def zdT:Nat:=54
def ze5:Nat:=55
def zZ:Nat:=56
def z1:Nat:=57
def zdr:Nat:=58
def zdK:Nat:=59
def zel:Nat:=60
def zdq:Nat:=61
def zeM:Nat:=63
def zeL:Nat:=64
def zek:Nat:=65
def zge:Nat:=66
def zii:Nat:=67
def zku:Nat:=69
def zd2:Nat:=70
def zgl:Nat:=71
def zfS:Nat:=72
def zdm:Nat:=73
def zaG:Nat:=78
def zih:Nat:=79
def zaL:Nat:=84
def zcU:Nat:=96
def zcV:Nat:=97
def zfW:Nat:=98
def ze6:Nat:=99
def ze7:Nat:=100
def zeO:Nat:=101
def zfX:Nat:=102
def zdU:Nat:=103
def zfZ:Nat:=104
def zeH:Nat:=105
def zej:Nat:=107
def zfU:Nat:=108
def zmT:Nat:=109
def zbG:Nat:=111
def zgk:Nat:=112
def zfR:Nat:=113
def zbN:Nat:=114
def zfY:Nat:=117
def zdd:Nat:=124
def zx:Nat:=140
def zeI:Nat:=141
def zeJ:Nat:=142
def zeG:Nat:=144
def zmJ:Nat:=145
def zcy:Nat:=159
def zdp:Nat:=165
def zei:Nat:=175
def zb5:Nat:=176
def zk3:CFn:=⟨31,[.tmp 4],(q [(.reg [o 2 (.box 4 (t 0)),o 4 (.mv (c .bf))]),
 (.reg [o 5 (f 0 2),o 6 (l 5),o 7 (m 1),o 8 (b .leq 6 7),o 9 (m 8),g 10 9 true (f 1 2),g 11 9 true (l 10),g 12 9 true (ln 11),g 13 9 true (bc .leq 12 (n 10)),o 14 (pf 9 13),o 15 (m 14),g 16 15 true (f 2 2),g 17 15 true (l 16),g 18 15 true (ln 17),g 19 15 true (bc .leq 18 (n 6)),o 20 (pf 15 19),o 21 (m 20),g 22 21 true (f 3 2),g 23 21 true (l 22),g 24 21 true (ln 23),g 25 21 true (bc .leq 24 (n 6)),o 26 (pf 21 25),o 27 (m 26),g 28 27 true (la 4 2),g 29 27 true (.call 33 [(t 28)]),o 30 (pf 27 29),o 4 (m 30)]),
 .ret])⟩
def zky:CFn:=⟨25,[.tmp 4,.tmp 5],(q [(.reg [o 2 (.box 4 (t 0)),o 4 (.mv (c (.nils 1))),o 5 (.mv (c (n 0)))]),
 (q [(.reg [o 8 (la 4 2),o 9 (.call 34 [(t 8)]),o 6 (m 9)]),
 (.reg [o 10 (m 6),o 11 (bc .neq 10 (n 0))]),
 (i 11 (q [(.reg [o 12 (m 6),o 4 (.mv (c (.nils 1))),o 5 (m 12)]),
 .ret]) .skip)]),
 (q [(.reg [o 13 (m 1),o 14 (bc .lss 13 (n 0))]),
 (i 14 (q [(.reg [o 4 (.mv (c (.nils 1))),o 5 (.mv (c (n 2)))]),
 .ret]) .skip)]),
 (.reg [o 15 (la 4 2),o 16 (.call 35 [(t 15)]),o 7 (m 16)]),
 (.reg [o 17 (m 7),o 18 (m 1),o 19 (m 7),o 20 (ln 19),o 21 (bc .sub 20 (n 1)),o 22 (.mm false (t 18) (t 21)),o 23 (ia 1 17 22),o 24 (l 23),o 4 (m 24),o 5 (.mv (c (n 0)))]),
 .ret])⟩
def zh2:CFn:=⟨8,[.tmp 2,.tmp 3],(q [(.reg [o 1 (.box 4 (t 0)),o 2 (.mv (c (.nils 1))),o 3 (.mv (c (n 0)))]),
 (.reg [o 4 (la 4 1),o 5 (.call 12 [(t 4),(c (n 64))]),o 6 (e 5 0),o 7 (e 5 1),o 2 (m 6),o 3 (m 7)]),
 .ret])⟩
def zgY:CFn:=⟨26,[.tmp 4],(q [(.reg [o 4 (.mv (c .bf))]),
 (q [(.reg [o 6 (m 0),o 7 (ln 6),o 8 (m 1),o 9 (ln 8),o 10 (b .neq 7 9)]),
 (i 10 (q [(.reg [o 4 (.mv (c .bf))]),
 .ret]) .skip)]),
 (q [(.reg [o 11 (m 0),o 12 (ln 11),o 13 (.mv (c (n 0)))]),
 (.block 0 (.loop (q [(.reg [o 14 (b .lss 13 12)]),
 (i 14 .skip (.exit 0)),
 (.block 1 (q [(.reg [o 15 (m 13),o 5 (m 15)]),
 (.regd [o 16 (m 0),o 17 (m 5),o 18 (ia 1 16 17),o 19 (l 18),o 20 (m 1),o 21 (m 5),o 22 (ia 1 20 21),o 23 (l 22),o 24 (b .neq 19 23)] [0,0,3,7,0,0,48,112,255]),
 (i 24 (q [(.reg [o 4 (.mv (c .bf))]),
 .ret]) .skip)])),
 (.reg [o 25 (bc .add 13 (n 1)),o 13 (m 25)])])))]),
 (.reg [o 4 (.mv (c .bt))]),
 .ret])⟩
def zjg:CFn:=⟨26,[.tmp 2],(q [(.reg [o 2 (.mv (c (n 0)))]),
 (q [(.reg [o 5 (m 0),o 6 (ln 5),o 7 (bc .eql 6 (n 0))]),
 (i 7 (q [(.reg [o 2 (.mv (c (n 3)))]),
 .ret]) .skip)]),
 (q [(.reg [o 8 (m 0),o 9 (ln 8),o 10 (bc .gtr 9 (n 200))]),
 (i 10 (q [(.reg [o 2 (.mv (c (n 8)))]),
 .ret]) .skip)]),
 (q [(.reg [o 3 (.mv (c (n 0)))]),
 (.block 0 (.loop (q [(q [(.reg [o 11 (m 3),o 12 (m 0),o 13 (ln 12),o 14 (b .lss 11 13)]),
 (i 14 .skip (.exit 0))]),
 (.block 1 (q [(.reg [o 17 (m 0),o 18 (m 3),o 19 (ia 6 17 18),o 20 (la 6 19),o 21 (m 3),o 22 (.call 51 [(t 20),(t 21)]),o 4 (m 22)]),
 (.reg [o 23 (m 4),o 24 (bc .neq 23 (n 0))]),
 (i 24 (q [(.reg [o 25 (m 4),o 2 (m 25)]),
 .ret]) .skip)])),
 (.reg [o 15 (m 3),o 16 (bc .add 15 (n 1)),o 3 (m 16)])])))]),
 (.reg [o 2 (.mv (c (n 0)))]),
 .ret])⟩
def zkC:CFn:=⟨42,[.tmp 6],(q [(.reg [o 6 (.mv (c .bf))]),
 (q [(.reg [o 9 (m 0),o 10 (.call 23 [(t 9)]),o 11 (bc .neq 10 (n 0))]),
 (i 11 (q [(.reg [o 6 (.mv (c .bf))]),
 .ret]) .skip)]),
 (q [(.reg [o 7 (.mv (c (n 0)))]),
 (.block 0 (.loop (q [(q [(.reg [o 12 (m 7),o 13 (bc .lss 12 (n 4))]),
 (i 13 .skip (.exit 0))]),
 (.block 1 (q [(.reg [o 16 (m 0),o 17 (.call 52 [(t 16)]),o 18 (m 7),o 19 (b .shr 17 18),o 20 (bc .rem 19 (n 2)),o 21 (bc .eql 20 (n 1)),o 22 (m 21),g 23 22 true (m 7),g 24 22 true (m 1),g 25 22 true (b .geq 23 24),o 26 (pf 22 25)]),
 (i 26 (q [(.reg [o 6 (.mv (c .bf))]),
 .ret]) .skip)])),
 (.reg [o 14 (m 7),o 15 (bc .add 14 (n 1)),o 7 (m 15)])])))]),
 (q [(.reg [o 8 (.mv (c (n 0)))]),
 (.block 2 (.loop (q [(q [(.reg [o 27 (m 8),o 28 (bc .lss 27 (n 8))]),
 (i 28 .skip (.exit 2))]),
 (.block 3 (q [(.reg [o 31 (m 0),o 32 (.call 53 [(t 31)]),o 33 (m 8),o 34 (b .shr 32 33),o 35 (bc .rem 34 (n 2)),o 36 (bc .eql 35 (n 1)),o 37 (m 36),g 38 37 true (m 8),g 39 37 true (m 2),g 40 37 true (b .geq 38 39),o 41 (pf 37 40)]),
 (i 41 (q [(.reg [o 6 (.mv (c .bf))]),
 .ret]) .skip)])),
 (.reg [o 29 (m 8),o 30 (bc .add 29 (n 1)),o 8 (m 30)])])))]),
 (.reg [o 6 (.mv (c .bt))]),
 .ret])⟩
def zjj:CFn:=⟨23,[.tmp 2],(q [(.reg [o 2 (.mv (c (n 0)))]),
 (.reg [o 6 (m 0),o 7 (.call 54 [(t 6)]),o 3 (m 7)]),
 (.reg [o 4 (.mv (c (n 0)))]),
 (q [(.reg [o 5 (.mv (c (n 0)))]),
 (.block 0 (.loop (q [(q [(.reg [o 8 (m 5),o 9 (m 3),o 10 (ln 9),o 11 (b .lss 8 10)]),
 (i 11 .skip (.exit 0))]),
 (.block 1 (.reg [o 14 (m 4),o 15 (m 3),o 16 (m 5),o 17 (ia 6 15 16),o 18 (f 0 17),o 19 (l 18),o 20 (.call 55 [(t 19)]),o 21 (b .or 14 20),o 4 (m 21)])),
 (.reg [o 12 (m 5),o 13 (bc .add 12 (n 1)),o 5 (m 13)])])))]),
 (.reg [o 22 (m 4),o 2 (m 22)]),
 .ret])⟩
def zjv:CFn:=⟨126,[.tmp 4,.tmp 5],(q [(.reg [o 2 (.box 4 (t 0)),o 4 (.mv (c (u 0))),o 5 (.mv (c (n 0)))]),
 (.reg [o 13 (la 4 2),o 14 (.call 29 [(t 13)]),o 6 (m 14)]),
 (q [(.reg [o 15 (m 6),o 16 (bc .neq 15 (n 0))]),
 (i 16 (q [(.reg [o 17 (m 6),o 4 (.mv (c (u 0))),o 5 (m 17)]),
 .ret]) .skip)]),
 (.reg [o 18 (m 1),o 19 (.call 23 [(t 18)]),o 6 (m 19)]),
 (q [(.reg [o 20 (m 6),o 21 (bc .neq 20 (n 0))]),
 (i 21 (q [(.reg [o 22 (m 6),o 4 (.mv (c (u 0))),o 5 (m 22)]),
 .ret]) .skip)]),
 (q [(.reg [o 23 (m 1),o 24 (.call 25 [(t 23)]),o 25 (bc .andNot 24 (n 59)),o 26 (bc .neq 25 (n 0))]),
 (i 26 (q [(.reg [o 4 (.mv (c (u 0))),o 5 (.mv (c (n 10)))]),
 .ret]) .skip)]),
 (q [(.reg [o 27 (m 1),o 28 (f 2 2),o 29 (l 28),o 30 (ln 29),o 31 (f 1 2),o 32 (l 31),o 33 (ln 32),o 34 (.call 24 [(t 27),(t 30),(t 33)]),o 35 (.un .not (t 34))]),
 (i 35 (q [(.reg [o 4 (.mv (c (u 0))),o 5 (.mv (c (n 2)))]),
 .ret]) .skip)]),
 (.reg [o 36 (la 4 2),o 37 (.call 58 [(t 36)]),o 38 (m 1),o 39 (.call 54 [(t 38)]),o 7 (.alloc [(n 0),(.nils 1),(.nils 1)]),w (.store 3 (t 7) (t 37)),o 8 (m 39)]),
 (.reg [o 9 (.mv (c (.nils 1)))]),
 (q [(.reg [o 10 (.mv (c (n 0)))]),
 (.block 0 (.loop (q [(q [(.reg [o 40 (m 10),o 41 (m 8),o 42 (ln 41),o 43 (b .lss 40 42)]),
 (i 43 .skip (.exit 0))]),
 (.block 1 (q [(.reg [o 11 (.mv (c (u 0))),o 12 (.mv (c (u 0)))]),
 (q [(.reg [o 46 (m 8),o 47 (m 10),o 48 (ia 6 46 47),o 49 (f 0 48),o 50 (l 49),o 51 (.call 56 [(t 50)])]),
 (i 51 (.reg [o 52 (m 9),o 53 (m 8),o 54 (m 10),o 55 (ia 6 53 54),o 56 (f 4 55),o 57 (l 56),o 58 (ia 1 52 57),o 59 (l 58),o 11 (m 59)]) .skip)]),
 (q [(.reg [o 60 (m 8),o 61 (m 10),o 62 (ia 6 60 61),o 63 (f 0 62),o 64 (l 63),o 65 (.call 57 [(t 64)])]),
 (i 65 (.reg [o 66 (m 9),o 67 (m 8),o 68 (m 10),o 69 (ia 6 67 68),o 70 (f 5 69),o 71 (l 70),o 72 (ia 1 66 71),o 73 (l 72),o 12 (m 73)]) .skip)]),
 (.reg [o 74 (m 8),o 75 (m 10),o 76 (ia 6 74 75),o 77 (f 0 76),o 78 (l 77),o 79 (bc .eql 78 (n 14))]),
 (i 79 (.regd [o 80 (m 9),o 81 (la 4 2),o 82 (m 8),o 83 (m 10),o 84 (ia 6 82 83),o 85 (f 1 84),o 86 (l 85),o 87 (m 11),o 88 (m 12),o 89 (.call 59 [(t 81),(t 86),(t 87),(t 88)]),o 90 (.bslice 1 1 [(u 0)] [(0,(t 89))]),o 91 (.app 1 8 (t 80) (t 90)),o 9 (m 91)] [0,0,0,0,12,28,60,0,0,510,1022,2047,4095]) (q [(.reg [o 92 (m 8),o 93 (m 10),o 94 (ia 6 92 93),o 95 (f 0 94),o 96 (l 95),o 97 (bc .eql 96 (n 15))]),
 (i 97 (.regd [o 98 (m 9),o 99 (la 4 2),o 100 (m 8),o 101 (m 10),o 102 (ia 6 100 101),o 103 (f 1 102),o 104 (l 103),o 105 (m 11),o 106 (.call 60 [(t 99),(t 104),(t 105)]),o 107 (.bslice 1 1 [(u 0)] [(0,(t 106))]),o 108 (.app 1 8 (t 98) (t 107)),o 9 (m 108)] [0,0,0,0,12,28,60,0,254,510,1023,2047]) (.regd [o 109 (m 9),o 110 (la 3 7),o 111 (m 8),o 112 (m 10),o 113 (ia 6 111 112),o 114 (la 6 113),o 115 (m 11),o 116 (m 12),o 117 (.call 61 [(t 110),(t 114),(t 115),(t 116)]),o 118 (.bslice 1 1 [(u 0)] [(0,(t 117))]),o 119 (.app 1 8 (t 109) (t 118)),o 9 (m 119)] [0,0,0,0,12,28,0,0,254,510,1023,2047]))]))])),
 (.reg [o 44 (m 10),o 45 (bc .add 44 (n 1)),o 10 (m 45)])])))]),
 (.reg [o 120 (m 9),o 121 (m 9),o 122 (ln 121),o 123 (bc .sub 122 (n 1)),o 124 (ia 1 120 123),o 125 (l 124),o 4 (m 125),o 5 (.mv (c (n 0)))]),
 .ret])⟩
def zjs:CFn:=⟨85,[.tmp 2],(q [(.reg [o 1 (.box 4 (t 0)),o 2 (.mv (c (n 0)))]),
 (q [(.reg [o 7 (f 0 1),o 8 (l 7),o 9 (f 2 1),o 10 (l 9),o 11 (ln 10),o 12 (f 1 1),o 13 (l 12),o 14 (.call 63 [(t 8),(t 11),(t 13)]),o 3 (m 14)]),
 (.reg [o 15 (m 3),o 16 (bc .neq 15 (n 0))]),
 (i 16 (q [(.reg [o 17 (m 3),o 2 (m 17)]),
 .ret]) .skip)]),
 (q [(.reg [o 18 (f 3 1),o 19 (l 18),o 20 (ln 19),o 21 (f 2 1),o 22 (l 21),o 23 (ln 22),o 24 (b .neq 20 23)]),
 (i 24 (q [(.reg [o 2 (.mv (c (n 3)))]),
 .ret]) .skip)]),
 (q [(.reg [o 4 (.mv (c (n 0)))]),
 (.block 0 (.loop (q [(q [(.reg [o 25 (m 4),o 26 (f 2 1),o 27 (l 26),o 28 (ln 27),o 29 (b .lss 25 28)]),
 (i 29 .skip (.exit 0))]),
 (.block 1 (q [(.regd [o 32 (f 2 1),o 33 (l 32),o 34 (m 4),o 35 (ia 1 33 34),o 36 (l 35),o 37 (ln 36),o 38 (f 0 1),o 39 (l 38),o 40 (b .neq 37 39),o 41 (m 40),g 42 41 false (f 3 1),g 43 41 false (l 42),g 44 41 false (m 4),g 45 41 false (ia 1 43 44),g 46 41 false (l 45),g 47 41 false (ln 46),g 48 41 false (f 0 1),g 49 41 false (l 48),g 50 41 false (b .neq 47 49),o 51 (pt 41 50)] [0,1,0,7,15,31,0,64,255,511,1023,2047,1023,8191,16383,32767,1023,66559,262143,524287]),
 (i 51 (q [(.reg [o 2 (.mv (c (n 3)))]),
 .ret]) .skip)])),
 (.reg [o 30 (m 4),o 31 (bc .add 30 (n 1)),o 4 (m 31)])])))]),
 (q [(.reg [o 5 (.mv (c (n 0)))]),
 (.block 2 (.loop (q [(q [(.reg [o 52 (m 5),o 53 (f 2 1),o 54 (l 53),o 55 (ln 54),o 56 (b .lss 52 55)]),
 (i 56 .skip (.exit 2))]),
 (.block 3 (q [(.reg [o 59 (f 2 1),o 60 (l 59),o 61 (m 5),o 62 (ia 1 60 61),o 63 (l 62),o 64 (.call 64 [(t 63)]),o 65 (.un .not (t 64))]),
 (i 65 (q [(.reg [o 2 (.mv (c (n 1)))]),
 .ret]) .skip)])),
 (.reg [o 57 (m 5),o 58 (bc .add 57 (n 1)),o 5 (m 58)])])))]),
 (q [(.reg [o 6 (.mv (c (n 0)))]),
 (.block 4 (.loop (q [(q [(.reg [o 66 (m 6),o 67 (f 2 1),o 68 (l 67),o 69 (ln 68),o 70 (b .lss 66 69)]),
 (i 70 .skip (.exit 4))]),
 (.block 5 (q [(.regd [o 73 (f 2 1),o 74 (l 73),o 75 (m 6),o 76 (ia 1 74 75),o 77 (l 76),o 78 (f 3 1),o 79 (l 78),o 80 (m 6),o 81 (ia 1 79 80),o 82 (l 81),o 83 (.call 65 [(t 77),(t 82)]),o 84 (.un .not (t 83))] [0,1,0,7,15,0,32,0,224,480,1023,2047]),
 (i 84 (q [(.reg [o 2 (.mv (c (n 9)))]),
 .ret]) .skip)])),
 (.reg [o 71 (m 6),o 72 (bc .add 71 (n 1)),o 6 (m 72)])])))]),
 (.reg [o 2 (.mv (c (n 0)))]),
 .ret])⟩
def zrd:CFn:=⟨16,[.tmp 6],(q [(.reg [o 3 (.box 4 (t 0)),o 6 (.mv (c (u 0)))]),
 (q [(.reg [o 7 (la 4 3),o 8 (m 1),o 9 (m 2),o 10 (.call 66 [(t 7),(t 8),(t 9)]),o 11 (.un .not (t 10))]),
 (i 11 (q [(.reg [o 6 (.mv (c (u 0)))]),
 .ret]) .skip)]),
 (.reg [o 12 (la 4 3),o 13 (m 1),o 14 (m 2),o 15 (.call 67 [(t 12),(t 13),(t 14)]),o 6 (m 15)]),
 .ret])⟩
def zlc:CFn:=⟨49,[.tmp 2],(q [(.reg [o 1 (.box 4 (t 0)),o 2 (.mv (c .bf))]),
 (q [(.reg [o 5 (f 1 1),o 6 (l 5),o 7 (ln 6),o 8 (bc .gtr 7 (n 20)),o 9 (m 8),g 10 9 false (f 2 1),g 11 9 false (l 10),g 12 9 false (ln 11),g 13 9 false (bc .gtr 12 (n 8)),o 14 (pt 9 13),o 15 (m 14),g 16 15 false (f 3 1),g 17 15 false (l 16),g 18 15 false (ln 17),g 19 15 false (bc .gtr 18 (n 8)),o 20 (pt 15 19)]),
 (i 20 (q [(.reg [o 2 (.mv (c .bf))]),
 .ret]) .skip)]),
 (q [(.reg [o 3 (.mv (c (n 0)))]),
 (.block 0 (.loop (q [(q [(.reg [o 21 (m 3),o 22 (f 2 1),o 23 (l 22),o 24 (ln 23),o 25 (b .lss 21 24)]),
 (i 25 .skip (.exit 0))]),
 (.block 1 (q [(.reg [o 28 (f 2 1),o 29 (l 28),o 30 (m 3),o 31 (ia 1 29 30),o 32 (l 31),o 33 (ln 32),o 34 (bc .gtr 33 (n 20))]),
 (i 34 (q [(.reg [o 2 (.mv (c .bf))]),
 .ret]) .skip)])),
 (.reg [o 26 (m 3),o 27 (bc .add 26 (n 1)),o 3 (m 27)])])))]),
 (q [(.reg [o 4 (.mv (c (n 0)))]),
 (.block 2 (.loop (q [(q [(.reg [o 35 (m 4),o 36 (f 3 1),o 37 (l 36),o 38 (ln 37),o 39 (b .lss 35 38)]),
 (i 39 .skip (.exit 2))]),
 (.block 3 (q [(.reg [o 42 (f 3 1),o 43 (l 42),o 44 (m 4),o 45 (ia 1 43 44),o 46 (l 45),o 47 (ln 46),o 48 (bc .gtr 47 (n 20))]),
 (i 48 (q [(.reg [o 2 (.mv (c .bf))]),
 .ret]) .skip)])),
 (.reg [o 40 (m 4),o 41 (bc .add 40 (n 1)),o 4 (m 41)])])))]),
 (.reg [o 2 (.mv (c .bt))]),
 .ret])⟩
def zqs:CFn:=⟨123,[.tmp 2],(q [(.reg [o 1 (.box 4 (t 0)),o 2 (.mv (c (n 0)))]),
 (q [(.reg [o 14 (f 0 1),o 15 (l 14),o 16 (f 2 1),o 17 (l 16),o 18 (ln 17),o 19 (f 1 1),o 20 (l 19),o 21 (.call 69 [(t 15),(t 18),(t 20)]),o 3 (m 21)]),
 (.reg [o 22 (m 3),o 23 (bc .neq 22 (n 0))]),
 (i 23 (q [(.reg [o 24 (m 3),o 2 (m 24)]),
 .ret]) .skip)]),
 (q [(.reg [o 25 (f 3 1),o 26 (l 25),o 27 (ln 26),o 28 (f 2 1),o 29 (l 28),o 30 (ln 29),o 31 (b .neq 27 30)]),
 (i 31 (q [(.reg [o 2 (.mv (c (n 3)))]),
 .ret]) .skip)]),
 (q [(.reg [o 32 (f 2 1),o 33 (l 32),o 34 (ln 33),o 35 (.mv (c (n 0)))]),
 (.block 0 (.loop (q [(.reg [o 36 (b .lss 35 34)]),
 (i 36 .skip (.exit 0)),
 (.block 1 (q [(.reg [o 37 (m 35),o 4 (m 37)]),
 (.regd [o 38 (f 2 1),o 39 (l 38),o 40 (m 4),o 41 (ia 1 39 40),o 42 (l 41),o 43 (ln 42),o 44 (f 0 1),o 45 (l 44),o 46 (b .neq 43 45),o 47 (m 46),g 48 47 false (f 3 1),g 49 47 false (l 48),g 50 47 false (m 4),g 51 47 false (ia 1 49 50),g 52 47 false (l 51),g 53 47 false (ln 52),g 54 47 false (f 0 1),g 55 47 false (l 54),g 56 47 false (b .neq 53 55),o 57 (pt 47 56)] [0,1,0,7,15,31,0,64,255,511,1023,2047,1023,8191,16383,32767,1023,66559,262143,524287]),
 (i 57 (q [(.reg [o 2 (.mv (c (n 3)))]),
 .ret]) .skip)])),
 (.reg [o 58 (bc .add 35 (n 1)),o 35 (m 58)])])))]),
 (q [(.reg [o 59 (f 2 1),o 60 (l 59),o 61 (ln 60),o 62 (.mv (c (n 0)))]),
 (.block 2 (.loop (q [(.reg [o 63 (b .lss 62 61)]),
 (i 63 .skip (.exit 2)),
 (.block 3 (q [(.reg [o 64 (ia 1 60 62),o 65 (l 64),o 6 (m 65)]),
 (.reg [o 66 (m 6),o 67 (ln 66),o 68 (.mv (c (n 0)))]),
 (.block 4 (.loop (q [(.reg [o 69 (b .lss 68 67)]),
 (i 69 .skip (.exit 4)),
 (.block 5 (q [(.reg [o 70 (m 68),o 71 (ia 1 66 68),o 72 (l 71),o 7 (m 70),o 8 (m 72)]),
 (.reg [o 73 (m 8),o 74 (bc .lss 73 (n 0)),o 75 (m 74),g 76 75 false (m 8),g 77 75 false (m 7),g 78 75 false (b .gtr 76 77),o 79 (pt 75 78),o 80 (m 79),g 81 80 false (m 6),g 82 80 false (m 8),g 83 80 false (ia 1 81 82),g 84 80 false (l 83),g 85 80 false (m 8),g 86 80 false (b .neq 84 85),o 87 (pt 80 86)]),
 (i 87 (q [(.reg [o 2 (.mv (c (n 1)))]),
 .ret]) .skip)])),
 (.reg [o 88 (bc .add 68 (n 1)),o 68 (m 88)])])))])),
 (.reg [o 89 (bc .add 62 (n 1)),o 62 (m 89)])])))]),
 (q [(.reg [o 90 (f 2 1),o 91 (l 90),o 92 (ln 91),o 93 (.mv (c (n 0)))]),
 (.block 6 (.loop (q [(.reg [o 94 (b .lss 93 92)]),
 (i 94 .skip (.exit 6)),
 (.block 7 (q [(.reg [o 95 (m 93),o 96 (ia 1 91 93),o 97 (l 96),o 9 (m 95),o 10 (m 97)]),
 (.reg [o 98 (m 10),o 99 (f 3 1),o 100 (l 99),o 101 (m 9),o 102 (ia 1 100 101),o 103 (l 102),o 104 (.call 70 [(t 98),(t 103)]),o 105 (.range (t 104))]),
 (.block 8 (.loop (q [(.reg [o 106 (.next (t 105)),o 107 (e 106 0)]),
 (i 107 .skip (.exit 8)),
 (.block 9 (q [(.reg [o 108 (.entry (t 105)),o 109 (e 108 1),o 12 (m 109)]),
 (.reg [o 110 (m 12),o 111 (ln 110),o 112 (.mv (c (n 0)))]),
 (.block 10 (.loop (q [(.reg [o 113 (b .lss 112 111)]),
 (i 113 .skip (.exit 10)),
 (.block 11 (q [(.reg [o 114 (m 112),o 13 (m 114)]),
 (.reg [o 115 (m 12),o 116 (m 13),o 117 (ia 1 115 116),o 118 (l 117),o 119 (m 13),o 120 (b .neq 118 119)]),
 (i 120 (q [(.reg [o 2 (.mv (c (n 9)))]),
 .ret]) .skip)])),
 (.reg [o 121 (bc .add 112 (n 1)),o 112 (m 121)])])))]))])))])),
 (.reg [o 122 (bc .add 93 (n 1)),o 93 (m 122)])])))]),
 (.reg [o 2 (.mv (c (n 0)))]),
 .ret])⟩
def zkz:CFn:=⟨30,[.tmp 2],(q [(.reg [o 1 (.box 4 (t 0)),o 2 (.mv (c (.nils 1)))]),
 (.regd [o 8 (f 0 1),o 9 (l 8),o 10 (.mkslice 1 8 [(n 0)] (t 9) (t 9)),o 11 (la 4 1),o 12 (.call 72 [(t 11)]),o 13 (.call 71 [(t 10),(t 12)]),o 7 (m 13),o 14 (e 7 0),o 15 (e 7 1),o 3 (m 14),o 4 (m 15)] [0,1,3,0,8,31,63,127,127,255,1023]),
 (.reg [o 16 (m 3),o 17 (.bslice 1 1 [(.nils 1)] [(0,(t 16))]),o 5 (m 17)]),
 (.block 0 (.loop (.block 1 (q [(.reg [o 18 (la 4 1),o 19 (m 3),o 20 (.call 73 [(t 18),(t 19)]),o 6 (m 20)]),
 (q [(.reg [o 21 (m 6),o 22 (m 3),o 23 (.call 16 [(t 21),(t 22)])]),
 (i 23 (q [(.reg [o 24 (m 5),o 2 (m 24)]),
 .ret]) .skip)]),
 (.reg [o 25 (m 5),o 26 (m 6),o 27 (.bslice 1 1 [(.nils 1)] [(0,(t 26))]),o 28 (.app 1 24 (t 25) (t 27)),o 5 (m 28)]),
 (.reg [o 29 (m 6),o 3 (m 29)])]))))])⟩
def zk2:CFn:=⟨4,[.tmp 2],(q [(.reg [o 1 (.box 4 (t 0)),o 2 (.mv (c (.d .nil)))]),
 (.reg [o 3 (.fnew zaG [(t 1)]),o 2 (m 3)]),
 .ret])⟩
def zkE:CFn:=⟨169,[.tmp 4],(q [(.reg [o 2 (.box 6 (t 0)),o 4 (.mv (c (n 0)))]),
 (q [(.reg [o 6 (f 0 2),o 7 (l 6),o 8 (bc .lss 7 (n 1)),o 9 (m 8),g 10 9 false (f 0 2),g 11 9 false (l 10),g 12 9 false (bc .gtr 11 (n 21)),o 13 (pt 9 12)]),
 (i 13 (q [(.reg [o 4 (.mv (c (n 10)))]),
 .ret]) .skip)]),
 (q [(.reg [o 14 (f 0 2),o 15 (l 14),o 16 (.call 56 [(t 15)]),o 17 (m 16),g 18 17 true (f 4 2),g 19 17 true (l 18),g 20 17 true (bc .lss 19 (n 0)),g 21 17 true (m 20),g 22 21 false (f 4 2),g 23 21 false (l 22),g 24 21 false (m 1),g 25 21 false (b .geq 23 24),g 26 17 true (pt 21 25),o 27 (pf 17 26),o 28 (m 27),g 29 28 false (f 0 2),g 30 28 false (l 29),g 31 28 false (.call 56 [(t 30)]),g 32 28 false (.un .not (t 31)),g 33 28 false (m 32),g 34 33 true (f 4 2),g 35 33 true (l 34),g 36 33 true (bc .neq 35 (n 0)),g 37 28 false (pf 33 36),o 38 (pt 28 37)]),
 (i 38 (q [(.reg [o 4 (.mv (c (n 3)))]),
 .ret]) .skip)]),
 (q [(.reg [o 39 (f 0 2),o 40 (l 39),o 41 (.call 57 [(t 40)]),o 42 (m 41),g 43 42 true (f 5 2),g 44 42 true (l 43),g 45 42 true (bc .lss 44 (n 0)),g 46 42 true (m 45),g 47 46 false (f 5 2),g 48 46 false (l 47),g 49 46 false (m 1),g 50 46 false (b .geq 48 49),g 51 42 true (pt 46 50),o 52 (pf 42 51),o 53 (m 52),g 54 53 false (f 0 2),g 55 53 false (l 54),g 56 53 false (.call 57 [(t 55)]),g 57 53 false (.un .not (t 56)),g 58 53 false (m 57),g 59 58 true (f 5 2),g 60 58 true (l 59),g 61 58 true (bc .neq 60 (n 0)),g 62 53 false (pf 58 61),o 63 (pt 53 62)]),
 (i 63 (q [(.reg [o 4 (.mv (c (n 3)))]),
 .ret]) .skip)]),
 (.reg [o 64 (f 0 2),o 65 (l 64),o 66 (bc .eql 65 (n 3)),o 67 (m 66),g 68 67 false (f 0 2),g 69 67 false (l 68),g 70 67 false (.call 96 [(t 69)]),o 71 (pt 67 70),o 72 (m 71),g 73 72 false (f 0 2),g 74 72 false (l 73),g 75 72 false (bc .eql 74 (n 17)),o 76 (pt 72 75),o 5 (m 76)]),
 (q [(.reg [o 77 (m 5),o 78 (.un .not (t 77)),o 79 (m 78),g 80 79 true (f 1 2),g 81 79 true (l 80),g 82 79 true (bc .neq 81 (n 0)),o 83 (pf 79 82),o 84 (m 83),g 85 84 false (f 0 2),g 86 84 false (l 85),g 87 84 false (bc .neq 86 (n 17)),g 88 84 false (m 87),g 89 88 true (f 2 2),g 90 88 true (l 89),g 91 88 true (bc .neq 90 (n 0)),g 92 84 false (pf 88 91),o 93 (pt 84 92),o 94 (m 93),g 95 94 false (f 0 2),g 96 94 false (l 95),g 97 94 false (.call 97 [(t 96)]),g 98 94 false (.un .not (t 97)),g 99 94 false (m 98),g 100 99 true (f 3 2),g 101 99 true (l 100),g 102 99 true (bc .neq 101 (n 0)),g 103 94 false (pf 99 102),o 104 (pt 94 103)]),
 (i 104 (q [(.reg [o 4 (.mv (c (n 3)))]),
 .ret]) .skip)]),
 (q [(.reg [o 105 (f 0 2),o 106 (l 105),o 107 (bc .eql 106 (n 3)),o 108 (m 107),g 109 108 true (f 1 2),g 110 108 true (l 109),g 111 108 true (bc .lss 110 (n 0)),g 112 108 true (m 111),g 113 112 false (f 1 2),g 114 112 false (l 113),g 115 112 false (bc .geq 114 (n 8)),g 116 108 true (pt 112 115),o 117 (pf 108 116),o 118 (m 117),g 119 118 false (f 0 2),g 120 118 false (l 119),g 121 118 false (.call 96 [(t 120)]),g 122 118 false (m 121),g 123 122 true (f 1 2),g 124 122 true (l 123),g 125 122 true (bc .lss 124 (n 0)),g 126 122 true (m 125),g 127 126 false (f 1 2),g 128 126 false (l 127),g 129 126 false (bc .geq 128 (n 4)),g 130 122 true (pt 126 129),g 131 118 false (pf 122 130),o 132 (pt 118 131)]),
 (i 132 (q [(.reg [o 4 (.mv (c (n 2)))]),
 .ret]) .skip)]),
 (q [(.reg [o 133 (f 0 2),o 134 (l 133),o 135 (bc .eql 134 (n 17)),o 136 (m 135),g 137 136 true (f 1 2),g 138 136 true (l 137),g 139 136 true (bc .lss 138 (n 0)),g 140 136 true (m 139),g 141 140 false (f 1 2),g 142 140 false (l 141),g 143 140 false (bc .geq 142 (n 8)),g 144 136 true (pt 140 143),g 145 136 true (m 144),g 146 145 false (f 2 2),g 147 145 false (l 146),g 148 145 false (bc .lss 147 (n 0)),g 149 136 true (pt 145 148),g 150 136 true (m 149),g 151 150 false (f 2 2),g 152 150 false (l 151),g 153 150 false (bc .geq 152 (n 8)),g 154 136 true (pt 150 153),o 155 (pf 136 154)]),
 (i 155 (q [(.reg [o 4 (.mv (c (n 2)))]),
 .ret]) .skip)]),
 (q [(.reg [o 156 (f 0 2),o 157 (l 156),o 158 (.call 97 [(t 157)]),o 159 (m 158),g 160 159 true (f 3 2),g 161 159 true (l 160),g 162 159 true (bc .lss 161 (n 1)),g 163 159 true (m 162),g 164 163 false (f 3 2),g 165 163 false (l 164),g 166 163 false (bc .geq 165 (n 16)),g 167 159 true (pt 163 166),o 168 (pf 159 167)]),
 (i 168 (q [(.reg [o 4 (.mv (c (n 2)))]),
 .ret]) .skip)]),
 (.reg [o 4 (.mv (c (n 0)))]),
 .ret])⟩
def zh3:CFn:=⟨36,[.tmp 2],(q [(.reg [o 2 (.mv (c (n 0)))]),
 (.reg [o 6 (m 0),o 7 (.call 54 [(t 6)]),o 3 (m 7)]),
 (.reg [o 4 (.mv (c (n 0)))]),
 (q [(.reg [o 5 (.mv (c (n 0)))]),
 (.block 0 (.loop (q [(q [(.reg [o 8 (m 5),o 9 (m 3),o 10 (ln 9),o 11 (b .lss 8 10)]),
 (i 11 .skip (.exit 0))]),
 (.block 1 (q [(q [(.reg [o 14 (m 3),o 15 (m 5),o 16 (ia 6 14 15),o 17 (f 0 16),o 18 (l 17),o 19 (.call 96 [(t 18)])]),
 (i 19 (.reg [o 20 (m 4),o 21 (m 3),o 22 (m 5),o 23 (ia 6 21 22),o 24 (f 1 23),o 25 (l 24),o 26 (.bin .shl (c (n 1)) (t 25)),o 27 (b .or 20 26),o 4 (m 27)]) .skip)]),
 (.reg [o 28 (m 4),o 29 (m 3),o 30 (m 5),o 31 (ia 6 29 30),o 32 (f 3 31),o 33 (l 32),o 34 (b .or 28 33),o 4 (m 34)])])),
 (.reg [o 12 (m 5),o 13 (bc .add 12 (n 1)),o 5 (m 13)])])))]),
 (.reg [o 35 (m 4),o 2 (m 35)]),
 .ret])⟩
def zji:CFn:=⟨29,[.tmp 2],(q [(.reg [o 2 (.mv (c (n 0)))]),
 (.reg [o 6 (m 0),o 7 (.call 54 [(t 6)]),o 3 (m 7)]),
 (.reg [o 4 (.mv (c (n 0)))]),
 (q [(.reg [o 5 (.mv (c (n 0)))]),
 (.block 0 (.loop (q [(q [(.reg [o 8 (m 5),o 9 (m 3),o 10 (ln 9),o 11 (b .lss 8 10)]),
 (i 11 .skip (.exit 0))]),
 (.block 1 (q [(.reg [o 14 (m 3),o 15 (m 5),o 16 (ia 6 14 15),o 17 (f 0 16),o 18 (l 17),o 19 (bc .eql 18 (n 3))]),
 (i 19 (.reg [o 20 (m 4),o 21 (m 3),o 22 (m 5),o 23 (ia 6 21 22),o 24 (f 1 23),o 25 (l 24),o 26 (.bin .shl (c (n 1)) (t 25)),o 27 (b .or 20 26),o 4 (m 27)]) .skip)])),
 (.reg [o 12 (m 5),o 13 (bc .add 12 (n 1)),o 5 (m 13)])])))]),
 (.reg [o 28 (m 4),o 2 (m 28)]),
 .ret])⟩
def zhK:CFn:=⟨8,[.tmp 2],(q [(.reg [o 2 (.mv (c (.nils 6)))]),
 (.reg [o 3 (m 0),o 4 (m 0),o 5 (ln 4),o 6 (bc .sub 5 (n 1)),o 7 (.call 98 [(t 3),(t 6)]),o 2 (m 7)]),
 .ret])⟩
def zkD:CFn:=⟨21,[.tmp 2],(q [(.reg [o 2 (.mv (c (n 0)))]),
 (q [(.reg [o 3 (m 0),o 4 (bc .eql 3 (n 9)),o 5 (m 4),g 6 5 false (m 0),g 7 5 false (bc .eql 6 (n 10)),o 8 (pt 5 7)]),
 (i 8 (q [(.reg [o 2 (.mv (c (n 1)))]),
 .ret]) .skip)]),
 (q [(.reg [o 9 (m 0),o 10 (bc .geq 9 (n 11)),o 11 (m 10),g 12 11 true (m 0),g 13 11 true (bc .leq 12 (n 17)),o 14 (pf 11 13)]),
 (i 14 (q [(.reg [o 15 (m 0),o 16 (bc .sub 15 (n 11)),o 17 (bc .add 16 (n 1)),o 18 (.bin .shl (c (n 1)) (t 17)),o 2 (m 18)]),
 .ret]) .skip)]),
 (q [(.reg [o 19 (m 0),o 20 (bc .geq 19 (n 18))]),
 (i 20 (q [(.reg [o 2 (.mv (c (n 256)))]),
 .ret]) .skip)]),
 (.reg [o 2 (.mv (c (n 0)))]),
 .ret])⟩
def zjk:CFn:=⟨9,[.tmp 2],(q [(.reg [o 2 (.mv (c .bf))]),
 (.reg [o 3 (m 0),o 4 (bc .geq 3 (n 4)),o 5 (m 4),g 6 5 true (m 0),g 7 5 true (bc .leq 6 (n 21)),o 8 (pf 5 7),o 2 (m 8)]),
 .ret])⟩
def zjl:CFn:=⟨29,[.tmp 2],(q [(.reg [o 2 (.mv (c .bf))]),
 (.reg [o 3 (m 0),o 4 (bc .geq 3 (n 5)),o 5 (m 4),g 6 5 true (m 0),g 7 5 true (bc .leq 6 (n 8)),o 8 (pf 5 7),o 9 (m 8),g 10 9 false (m 0),g 11 9 false (bc .eql 10 (n 13)),o 12 (pt 9 11),o 13 (m 12),g 14 13 false (m 0),g 15 13 false (bc .eql 14 (n 14)),o 16 (pt 13 15),o 17 (m 16),g 18 17 false (m 0),g 19 17 false (bc .eql 18 (n 16)),o 20 (pt 17 19),o 21 (m 20),g 22 21 false (m 0),g 23 21 false (bc .eql 22 (n 19)),o 24 (pt 21 23),o 25 (m 24),g 26 25 false (m 0),g 27 25 false (bc .eql 26 (n 21)),o 28 (pt 25 27),o 2 (m 28)]),
 .ret])⟩
def zgZ:CFn:=⟨55,[.cell 2 (some 3)],(q [(.reg [o 1 (.box 4 (t 0)),o 2 (.alloc [(n 0),(.nils 1),(.nils 1)])]),
 (.reg [o 8 (f 0 1),o 9 (l 8),o 10 (.build [(n 0),(.nils 1),(.nils 1)] [(0,1,(t 9))]),o 3 (.alloc [(n 0),(.nils 1),(.nils 1)]),w (.store 3 (t 3) (t 10))]),
 (q [(.reg [o 4 (.mv (c (n 0)))]),
 (.block 0 (.loop (q [(q [(.reg [o 11 (m 4),o 12 (f 1 1),o 13 (l 12),o 14 (ln 13),o 15 (b .lss 11 14)]),
 (i 15 .skip (.exit 0))]),
 (.block 1 (.regd [o 18 (f 1 3),o 19 (l 18),o 20 (f 1 1),o 21 (l 20),o 22 (m 4),o 23 (ia 1 21 22),o 24 (l 23),o 25 (.bslice 1 1 [(u 0)] [(0,(t 24))]),o 26 (.app 1 8 (t 19) (t 25)),o 27 (f 1 3),w (.store 1 (t 27) (t 26))] [0,1,0,4,0,28,60,124,255,511,1023])),
 (.reg [o 16 (m 4),o 17 (bc .add 16 (n 1)),o 4 (m 17)])])))]),
 (q [(.reg [o 5 (.mv (c (n 0)))]),
 (.block 2 (.loop (q [(q [(.reg [o 28 (m 5),o 29 (f 2 1),o 30 (l 29),o 31 (ln 30),o 32 (b .lss 28 31)]),
 (i 32 .skip (.exit 2))]),
 (.block 3 (q [(.reg [o 6 (.mv (c (.nils 1)))]),
 (q [(.reg [o 7 (.mv (c (n 0)))]),
 (.block 4 (.loop (q [(q [(.reg [o 35 (m 7),o 36 (f 0 1),o 37 (l 36),o 38 (b .lss 35 37)]),
 (i 38 .skip (.exit 4))]),
 (.block 5 (.reg [o 41 (m 6),o 42 (la 4 1),o 43 (m 5),o 44 (m 7),o 45 (.call 99 [(t 42),(t 43),(t 44)]),o 46 (.bslice 1 1 [(u 0)] [(0,(t 45))]),o 47 (.app 1 8 (t 41) (t 46)),o 6 (m 47)])),
 (.reg [o 39 (m 7),o 40 (bc .add 39 (n 1)),o 7 (m 40)])])))]),
 (.reg [o 48 (f 2 3),o 49 (l 48),o 50 (m 6),o 51 (.bslice 1 1 [(.nils 1)] [(0,(t 50))]),o 52 (.app 1 24 (t 49) (t 51)),o 53 (f 2 3),w (.store 1 (t 53) (t 52))])])),
 (.reg [o 33 (m 5),o 34 (bc .add 33 (n 1)),o 5 (m 34)])])))]),
 (.reg [o 54 (la 3 3),w (.store 3 (t 2) (t 54))]),
 .ret])⟩
def zhl:CFn:=⟨30,[.tmp 8],(q [(.reg [o 4 (.box 4 (t 0)),o 8 (.mv (c (u 0)))]),
 (.reg [o 9 (.mv (c (u 0)))]),
 (q [(.reg [o 10 (.mv (c (n 0)))]),
 (.block 0 (.loop (q [(q [(.reg [o 11 (m 10),o 12 (f 0 4),o 13 (l 12),o 14 (b .lss 11 13)]),
 (i 14 .skip (.exit 0))]),
 (.block 1 (q [(.reg [o 17 (la 4 4),o 18 (m 1),o 19 (m 10),o 20 (m 2),o 21 (.call 100 [(t 17),(t 18),(t 19),(t 20)]),o 22 (m 3),o 23 (b .andNot 21 22),o 24 (bc .eql 23 (u 0))]),
 (i 24 (.reg [o 25 (m 9),o 26 (m 10),o 27 (.bin .shl (c (u 1)) (t 26)),o 28 (b .or 25 27),o 9 (m 28)]) .skip)])),
 (.reg [o 15 (m 10),o 16 (bc .add 15 (n 1)),o 10 (m 16)])])))]),
 (.reg [o 29 (m 9),o 8 (m 29)]),
 .ret])⟩
def zh8:CFn:=⟨27,[.tmp 6],(q [(.reg [o 3 (.box 4 (t 0)),o 6 (.mv (c (u 0)))]),
 (.reg [o 7 (.mv (c (u 0)))]),
 (q [(.reg [o 8 (.mv (c (n 0)))]),
 (.block 0 (.loop (q [(q [(.reg [o 9 (m 8),o 10 (f 0 3),o 11 (l 10),o 12 (b .lss 9 11)]),
 (i 12 .skip (.exit 0))]),
 (.block 1 (q [(.reg [o 15 (la 4 3),o 16 (m 1),o 17 (m 8),o 18 (.call 101 [(t 15),(t 16),(t 17)]),o 19 (m 2),o 20 (b .andNot 18 19),o 21 (bc .eql 20 (u 0))]),
 (i 21 (.reg [o 22 (m 7),o 23 (m 8),o 24 (.bin .shl (c (u 1)) (t 23)),o 25 (b .or 22 24),o 7 (m 25)]) .skip)])),
 (.reg [o 13 (m 8),o 14 (bc .add 13 (n 1)),o 8 (m 14)])])))]),
 (.reg [o 26 (m 7),o 6 (m 26)]),
 .ret])⟩
def zlb:CFn:=⟨92,[.tmp 8],(q [(.reg [o 4 (.box 3 (t 0)),o 5 (.box 6 (t 1)),o 8 (.mv (c (u 0)))]),
 (.reg [o 10 (f 0 4),o 11 (l 10),o 12 (.call 102 [(t 11)]),o 9 (m 12)]),
 (q [(.reg [o 13 (f 0 5),o 14 (l 13),o 15 (bc .eql 14 (n 3))]),
 (i 15 (q [(.reg [o 16 (f 1 4),o 17 (l 16),o 18 (f 1 5),o 19 (l 18),o 20 (ia 1 17 19),o 21 (l 20),o 8 (m 21)]),
 .ret]) .skip)]),
 (q [(.reg [o 22 (f 0 5),o 23 (l 22),o 24 (bc .leq 23 (n 8))]),
 (i 24 (q [(.reg [o 25 (f 0 5),o 26 (l 25),o 27 (m 2),o 28 (m 3),o 29 (m 9),o 30 (.call 103 [(t 26),(t 27),(t 28),(t 29)]),o 8 (m 30)]),
 .ret]) .skip)]),
 (q [(.reg [o 31 (f 0 5),o 32 (l 31),o 33 (bc .eql 32 (n 9))]),
 (i 33 (q [(.regd [o 34 (f 2 4),o 35 (l 34),o 36 (f 1 5),o 37 (l 36),o 38 (ia 1 35 37),o 39 (l 38),o 40 (f 0 4),o 41 (l 40),o 42 (m 2),o 43 (.call 104 [(t 39),(t 41),(t 42)]),o 8 (m 43)] [0,1,0,4,15,31,0,64,0,511,1023]),
 .ret]) .skip)]),
 (q [(.reg [o 44 (f 0 5),o 45 (l 44),o 46 (bc .eql 45 (n 10))]),
 (i 46 (q [(.regd [o 47 (m 9),o 48 (f 2 4),o 49 (l 48),o 50 (f 1 5),o 51 (l 50),o 52 (ia 1 49 51),o 53 (l 52),o 54 (f 0 4),o 55 (l 54),o 56 (m 9),o 57 (m 2),o 58 (b .andNot 56 57),o 59 (.call 104 [(t 53),(t 55),(t 58)]),o 60 (b .andNot 47 59),o 8 (m 60)] [0,0,2,0,8,30,62,0,128,0,0,1536,4094,8191,16383]),
 .ret]) .skip)]),
 (q [(.reg [o 61 (f 0 5),o 62 (l 61),o 63 (bc .eql 62 (n 11))]),
 (i 63 (q [(.regd [o 64 (la 3 4),o 65 (f 3 5),o 66 (l 65),o 67 (.call 105 [(t 64),(t 66)]),o 68 (f 0 4),o 69 (l 68),o 70 (m 2),o 71 (.call 104 [(t 67),(t 69),(t 70)]),o 8 (m 71)] [0,0,2,7,0,16,0,127,255]),
 .ret]) .skip)]),
 (q [(.reg [o 72 (f 0 5),o 73 (l 72),o 74 (bc .eql 73 (n 12))]),
 (i 74 (q [(.regd [o 75 (la 3 4),o 76 (f 3 5),o 77 (l 76),o 78 (.call 106 [(t 75),(t 77)]),o 79 (f 0 4),o 80 (l 79),o 81 (m 2),o 82 (.call 104 [(t 78),(t 80),(t 81)]),o 8 (m 82)] [0,0,2,7,0,16,0,127,255]),
 .ret]) .skip)]),
 (.regd [o 83 (la 3 4),o 84 (f 3 5),o 85 (l 84),o 86 (.call 105 [(t 83),(t 85)]),o 87 (f 0 4),o 88 (l 87),o 89 (m 2),o 90 (m 3),o 91 (.call 107 [(t 86),(t 88),(t 89),(t 90)]),o 8 (m 91)] [0,0,2,7,0,16,0,0,255,511]),
 .ret])⟩
def zju:CFn:=⟨35,[.tmp 6],(q [(.reg [o 6 (.mv (c (n 0)))]),
 (q [(.reg [o 8 (m 0),o 9 (bc .lss 8 (n 1)),o 10 (m 9),g 11 10 false (m 0),g 12 10 false (bc .gtr 11 (n 64)),o 13 (pt 10 12)]),
 (i 13 (q [(.reg [o 6 (.mv (c (n 2)))]),
 .ret]) .skip)]),
 (q [(.reg [o 14 (m 2),o 15 (ln 14),o 16 (bc .gtr 15 (n 8)),o 17 (m 16),g 18 17 false (m 1),g 19 17 false (bc .gtr 18 (n 4)),o 20 (pt 17 19)]),
 (i 20 (q [(.reg [o 6 (.mv (c (n 8)))]),
 .ret]) .skip)]),
 (q [(.reg [o 7 (.mv (c (n 0)))]),
 (.block 0 (.loop (q [(q [(.reg [o 21 (m 7),o 22 (m 2),o 23 (ln 22),o 24 (b .lss 21 23)]),
 (i 24 .skip (.exit 0))]),
 (.block 1 (q [(.regd [o 27 (m 2),o 28 (m 7),o 29 (ia 1 27 28),o 30 (l 29),o 31 (m 0),o 32 (.call 108 [(t 31)]),o 33 (b .andNot 30 32),o 34 (bc .neq 33 (u 0))] [0,0,3,7,0,16,63,127]),
 (i 34 (q [(.reg [o 6 (.mv (c (n 3)))]),
 .ret]) .skip)])),
 (.reg [o 25 (m 7),o 26 (bc .add 25 (n 1)),o 7 (m 26)])])))]),
 (.reg [o 6 (.mv (c (n 0)))]),
 .ret])⟩
def zjt:CFn:=⟨30,[.tmp 2],(q [(.reg [o 2 (.mv (c .bf))]),
 (q [(.reg [o 3 (.mv (c (n 0)))]),
 (.block 0 (.loop (q [(q [(.reg [o 5 (m 3),o 6 (m 0),o 7 (ln 6),o 8 (b .lss 5 7)]),
 (i 8 .skip (.exit 0))]),
 (.block 1 (q [(.reg [o 11 (m 0),o 12 (m 3),o 13 (ia 1 11 12),o 14 (l 13),o 4 (m 14)]),
 (.reg [o 15 (m 4),o 16 (bc .lss 15 (n 0)),o 17 (m 16),g 18 17 false (m 4),g 19 17 false (m 3),g 20 17 false (b .gtr 18 19),o 21 (pt 17 20),o 22 (m 21),g 23 22 false (m 0),g 24 22 false (m 4),g 25 22 false (ia 1 23 24),g 26 22 false (l 25),g 27 22 false (m 4),g 28 22 false (b .neq 26 27),o 29 (pt 22 28)]),
 (i 29 (q [(.reg [o 2 (.mv (c .bf))]),
 .ret]) .skip)])),
 (.reg [o 9 (m 3),o 10 (bc .add 9 (n 1)),o 3 (m 10)])])))]),
 (.reg [o 2 (.mv (c .bt))]),
 .ret])⟩
def zh7:CFn:=⟨56,[.tmp 4],(q [(.reg [o 4 (.mv (c .bf))]),
 (q [(.reg [o 5 (.mv (c (n 0)))]),
 (.block 0 (.loop (q [(q [(.reg [o 8 (m 5),o 9 (m 0),o 10 (ln 9),o 11 (b .lss 8 10)]),
 (i 11 .skip (.exit 0))]),
 (.block 1 (q [(q [(.reg [o 14 (m 1),o 15 (m 5),o 16 (ia 1 14 15),o 17 (l 16),o 18 (bc .lss 17 (n 0))]),
 (i 18 (q [(.reg [o 4 (.mv (c .bf))]),
 .ret]) .skip)]),
 (.reg [o 19 (m 1),o 20 (m 5),o 21 (ia 1 19 20),o 22 (l 21),o 23 (bc .eql 22 (n 0)),o 6 (m 23)]),
 (q [(.reg [o 7 (.mv (c (n 0)))]),
 (.block 2 (.loop (q [(q [(.reg [o 24 (m 7),o 25 (m 0),o 26 (ln 25),o 27 (b .lss 24 26)]),
 (i 27 .skip (.exit 2))]),
 (.block 3 (.regd [o 30 (m 6),o 31 (m 30),g 32 31 false (m 0),g 33 31 false (m 7),g 34 31 false (ia 1 32 33),g 35 31 false (l 34),g 36 31 false (m 0),g 37 31 false (m 5),g 38 31 false (ia 1 36 37),g 39 31 false (l 38),g 40 31 false (b .eql 35 39),g 41 31 false (m 40),g 42 41 true (m 1),g 43 41 true (m 7),g 44 41 true (ia 1 42 43),g 45 41 true (l 44),g 46 41 true (m 1),g 47 41 true (m 5),g 48 41 true (ia 1 46 47),g 49 41 true (l 48),g 50 41 true (bc .sub 49 (n 1)),g 51 41 true (b .eql 45 50),g 52 31 false (pf 41 51),o 53 (pt 31 52),o 6 (m 53)] [0,1,3,3,15,31,3,3,195,451,1023,2047,4095,4095,16383,32767,4095,4095,200703,462847,987135,2097151,4194303,8388607,16777215])),
 (.reg [o 28 (m 7),o 29 (bc .add 28 (n 1)),o 7 (m 29)])])))]),
 (.reg [o 54 (m 6),o 55 (.un .not (t 54))]),
 (i 55 (q [(.reg [o 4 (.mv (c .bf))]),
 .ret]) .skip)])),
 (.reg [o 12 (m 5),o 13 (bc .add 12 (n 1)),o 5 (m 13)])])))]),
 (.reg [o 4 (.mv (c .bt))]),
 .ret])⟩
def zqt:CFn:=⟨31,[.tmp 6],(q [(.reg [o 3 (.box 4 (t 0)),o 6 (.mv (c .bf))]),
 (.reg [o 7 (la 4 3),o 8 (.call 34 [(t 7)]),o 9 (bc .eql 8 (n 0)),o 10 (m 9),g 11 10 true (m 1),g 12 10 true (bc .geq 11 (n 0)),o 13 (pf 10 12),o 14 (m 13),g 15 14 true (m 1),g 16 14 true (f 2 3),g 17 14 true (l 16),g 18 14 true (ln 17),g 19 14 true (b .lss 15 18),o 20 (pf 14 19),o 21 (m 20),g 22 21 true (m 2),g 23 21 true (bc .geq 22 (n 0)),o 24 (pf 21 23),o 25 (m 24),g 26 25 true (m 2),g 27 25 true (f 0 3),g 28 25 true (l 27),g 29 25 true (b .lss 26 28),o 30 (pf 25 29),o 6 (m 30)]),
 .ret])⟩
def zo4:CFn:=⟨37,[.tmp 6],(q [(.reg [o 3 (.box 4 (t 0)),o 6 (.mv (c (u 0)))]),
 (.reg [o 7 (.mv (c (u 0)))]),
 (q [(.reg [o 10 (f 2 3),o 11 (l 10),o 12 (m 1),o 13 (ia 1 11 12),o 14 (l 13),o 15 (ln 14),o 16 (.mv (c (n 0)))]),
 (.block 0 (.loop (q [(.reg [o 17 (b .lss 16 15)]),
 (i 17 .skip (.exit 0)),
 (.block 1 (q [(.reg [o 18 (m 16),o 19 (ia 1 14 16),o 20 (l 19),o 8 (m 18),o 9 (m 20)]),
 (.reg [o 21 (m 9),o 22 (f 2 3),o 23 (l 22),o 24 (m 1),o 25 (ia 1 23 24),o 26 (l 25),o 27 (m 2),o 28 (ia 1 26 27),o 29 (l 28),o 30 (b .eql 21 29)]),
 (i 30 (.reg [o 31 (m 7),o 32 (m 8),o 33 (.bin .shl (c (u 1)) (t 32)),o 34 (b .or 31 33),o 7 (m 34)]) .skip)])),
 (.reg [o 35 (bc .add 16 (n 1)),o 16 (m 35)])])))]),
 (.reg [o 36 (m 7),o 6 (m 36)]),
 .ret])⟩
def zqu:CFn:=⟨34,[.tmp 6],(q [(.reg [o 6 (.mv (c (n 0)))]),
 (q [(.reg [o 9 (m 0),o 10 (bc .lss 9 (n 1)),o 11 (m 10),g 12 11 false (m 0),g 13 11 false (bc .gtr 12 (n 64)),o 14 (pt 11 13)]),
 (i 14 (q [(.reg [o 6 (.mv (c (n 2)))]),
 .ret]) .skip)]),
 (q [(.reg [o 15 (m 2),o 16 (ln 15),o 17 (bc .gtr 16 (n 8)),o 18 (m 17),g 19 18 false (m 1),g 20 18 false (bc .gtr 19 (n 4)),o 21 (pt 18 20)]),
 (i 21 (q [(.reg [o 6 (.mv (c (n 8)))]),
 .ret]) .skip)]),
 (q [(.reg [o 22 (m 2),o 23 (ln 22),o 24 (.mv (c (n 0)))]),
 (.block 0 (.loop (q [(.reg [o 25 (b .lss 24 23)]),
 (i 25 .skip (.exit 0)),
 (.block 1 (q [(.reg [o 26 (ia 1 22 24),o 27 (l 26),o 8 (m 27)]),
 (.reg [o 28 (m 8),o 29 (m 0),o 30 (.call 109 [(t 29)]),o 31 (b .andNot 28 30),o 32 (bc .neq 31 (u 0))]),
 (i 32 (q [(.reg [o 6 (.mv (c (n 3)))]),
 .ret]) .skip)])),
 (.reg [o 33 (bc .add 24 (n 1)),o 24 (m 33)])])))]),
 (.reg [o 6 (.mv (c (n 0)))]),
 .ret])⟩
def zmI:CFn:=⟨20,[.tmp 4,.tmp 5],(q [(.reg [o 4 (.mv (c (.nils 1))),o 5 (.mv (c (n 0)))]),
 (q [(.reg [o 7 (m 0),o 8 (.call 112 [(t 7)]),o 6 (m 8)]),
 (.reg [o 9 (m 6),o 10 (bc .neq 9 (n 0))]),
 (i 10 (q [(.reg [o 11 (m 6),o 4 (.mv (c (.nils 1))),o 5 (m 11)]),
 .ret]) .skip)]),
 (q [(.reg [o 12 (m 0),o 13 (ln 12),o 14 (m 1),o 15 (ln 14),o 16 (b .neq 13 15)]),
 (i 16 (q [(.reg [o 4 (.mv (c (.nils 1))),o 5 (.mv (c (n 3)))]),
 .ret]) .skip)]),
 (.reg [o 17 (m 0),o 18 (m 1),o 19 (.call 113 [(t 17),(t 18)]),o 4 (m 19),o 5 (.mv (c (n 0)))]),
 .ret])⟩
def zk0:CFn:=⟨39,[.tmp 2],(q [(.reg [o 1 (.box 4 (t 0)),o 2 (.mv (c (.nils 1)))]),
 (.reg [o 7 (f 0 1),o 8 (l 7),o 9 (.mkslice 1 8 [(n 0)] (t 8) (t 8)),o 3 (m 9)]),
 (q [(.reg [o 10 (f 1 1),o 11 (l 10),o 12 (ln 11),o 13 (.mv (c (n 0)))]),
 (.block 0 (.loop (q [(.reg [o 14 (b .lss 13 12)]),
 (i 14 .skip (.exit 0)),
 (.block 1 (q [(.reg [o 15 (m 13),o 16 (ia 1 11 13),o 17 (l 16),o 4 (m 15),o 5 (m 17)]),
 (.reg [o 18 (m 3),o 19 (ln 18),o 20 (.mv (c (n 0)))]),
 (.block 2 (.loop (q [(.reg [o 21 (b .lss 20 19)]),
 (i 21 .skip (.exit 2)),
 (.block 3 (q [(.reg [o 22 (m 20),o 6 (m 22)]),
 (.regd [o 23 (m 3),o 24 (m 6),o 25 (ia 1 23 24),o 26 (l 25),o 27 (m 5),o 28 (m 6),o 29 (b .shr 27 28),o 30 (bc .and 29 (u 1)),o 31 (.conv .i64 (t 30)),o 32 (m 4),o 33 (b .shl 31 32),o 34 (b .or 26 33),o 35 (ia 1 23 24),w (.store 1 (t 35) (t 34))] [0,0,3,7,0,0,48,112,240,0,1008,2047,4095,8191])])),
 (.reg [o 36 (bc .add 20 (n 1)),o 20 (m 36)])])))])),
 (.reg [o 37 (bc .add 13 (n 1)),o 13 (m 37)])])))]),
 (.reg [o 38 (m 3),o 2 (m 38)]),
 .ret])⟩
def zk1:CFn:=⟨43,[.tmp 4],(q [(.reg [o 2 (.box 4 (t 0)),o 3 (.box 1 (t 1)),o 4 (.mv (c (.nils 1)))]),
 (.reg [o 11 (l 3),o 5 (.alloc [(.nils 1)]),w (.store 1 (t 5) (t 11))]),
 (q [(.reg [o 12 (la 4 2),o 13 (.call 40 [(t 12)])]),
 (.block 0 (.rng (t 13) [14] (.reg [o 6 (.alloc [(n 0),.bf,(.nils 1)]),w (.store 3 (t 6) (t 14))]) (.block 1 (q [(.reg [o 15 .mkmap,o 7 (.alloc [(.d .nil)]),w (.store 1 (t 7) (t 15))]),
 (.reg [o 16 (.fnew zbN [(t 3),(t 7)]),o 8 (m 16)]),
 (.reg [o 17 (l 3),o 18 (ln 17),o 19 (.mkslice 1 8 [(n 0)] (t 18) (t 18)),o 9 (m 19)]),
 (q [(.reg [o 20 (m 9),o 21 (ln 20),o 22 (.mv (c (n 0)))]),
 (.block 2 (.loop (q [(.reg [o 23 (b .lss 22 21)]),
 (i 23 .skip (.exit 2)),
 (.block 3 (q [(.reg [o 24 (m 22),o 10 (m 24)]),
 (.reg [o 25 (m 9),o 26 (m 10),o 27 (m 8),o 28 (f 2 6),o 29 (l 28),o 30 (m 10),o 31 (ia 1 29 30),o 32 (l 31),o 33 (.callv (t 27) [(t 32)]),o 34 (ia 1 25 26),w (.store 1 (t 34) (t 33))])])),
 (.reg [o 35 (bc .add 22 (n 1)),o 22 (m 35)])])))]),
 (.reg [o 37 (l 5),o 38 (m 9),o 39 (.call 71 [(t 37),(t 38)]),o 36 (m 39),o 40 (e 36 0),o 41 (e 36 1),w (.store 1 (t 5) (t 40))])]))))]),
 (.reg [o 42 (l 5),o 4 (m 42)]),
 .ret])⟩
def zjf:CFn:=⟨51,[],(q [(.reg [o 8 (f 2 1),o 9 (l 8),o 10 (ln 9),o 11 (.mv (c (n 0)))]),
 (.block 0 (.loop (q [(.reg [o 12 (b .lss 11 10)]),
 (i 12 .skip (.exit 0)),
 (.block 1 (q [(.reg [o 13 (m 11),o 3 (m 13)]),
 (.reg [o 14 (f 0 1),o 15 (l 14),o 16 (.mkslice 1 8 [(u 0)] (t 15) (t 15)),o 4 (m 16)]),
 (q [(.reg [o 17 (m 4),o 18 (ln 17),o 19 (.mv (c (n 0)))]),
 (.block 2 (.loop (q [(.reg [o 20 (b .lss 19 18)]),
 (i 20 .skip (.exit 2)),
 (.block 3 (q [(.reg [o 21 (m 19),o 5 (m 21)]),
 (.reg [o 22 (m 4),o 23 (m 5),o 24 (la 4 1),o 25 (m 3),o 26 (m 5),o 27 (.call 31 [(t 24),(t 25),(t 26)]),o 28 (ia 1 22 23),w (.store 1 (t 28) (t 27))])])),
 (.reg [o 29 (bc .add 19 (n 1)),o 19 (m 29)])])))]),
 (.reg [o 31 (la 4 1),o 32 (m 3),o 33 (.call 79 [(t 31),(t 32)]),o 30 (m 33),o 34 (e 30 0),o 35 (e 30 1),o 6 (m 34),o 7 (m 35)]),
 (.reg [o 36 (m 0),o 37 (m 3),o 38 (m 4),o 39 (.build [(n 0),.bf,(.nils 1)] [(0,1,(t 37)),(1,1,(c .bf)),(2,1,(t 38))]),o 40 (.callv (t 36) [(t 39)]),o 41 (.un .not (t 40)),o 42 (m 41),g 43 42 false (m 0),g 44 42 false (m 3),g 45 42 false (m 6),g 46 42 false (.build [(n 0),.bf,(.nils 1)] [(0,1,(t 44)),(1,1,(c .bt)),(2,1,(t 45))]),g 47 42 false (.callv (t 43) [(t 46)]),g 48 42 false (.un .not (t 47)),o 49 (pt 42 48)]),
 (i 49 .ret .skip)])),
 (.reg [o 50 (bc .add 11 (n 1)),o 11 (m 50)])])))])⟩
def zo3:CFn:=⟨84,[.tmp 4,.tmp 5],(q [(.reg [o 2 (.box 4 (t 0)),o 4 (.mv (c (.nils 1))),o 5 (.mv (c (n 0)))]),
 (q [(.reg [o 10 (la 4 2),o 11 (.call 34 [(t 10)]),o 6 (m 11)]),
 (.reg [o 12 (m 6),o 13 (bc .neq 12 (n 0))]),
 (i 13 (q [(.reg [o 14 (m 6),o 4 (.mv (c (.nils 1))),o 5 (m 14)]),
 .ret]) .skip)]),
 (q [(.reg [o 15 (m 1),o 16 (bc .lss 15 (n 0)),o 17 (m 16),g 18 17 false (m 1),g 19 17 false (f 2 2),g 20 17 false (l 19),g 21 17 false (ln 20),g 22 17 false (b .geq 18 21),o 23 (pt 17 22)]),
 (i 23 (q [(.reg [o 4 (.mv (c (.nils 1))),o 5 (.mv (c (n 2)))]),
 .ret]) .skip)]),
 (.reg [o 24 (f 0 2),o 25 (l 24),o 26 (.mkslice 1 8 [(u 0)] (t 25) (t 25)),o 7 (m 26)]),
 (q [(.reg [o 27 (m 7),o 28 (ln 27),o 29 (.mv (c (n 0)))]),
 (.block 0 (.loop (q [(.reg [o 30 (b .lss 29 28)]),
 (i 30 .skip (.exit 0)),
 (.block 1 (q [(.reg [o 31 (m 29),o 8 (m 31)]),
 (.reg [o 32 (m 7),o 33 (ln 32),o 34 (.mv (c (n 0)))]),
 (.block 2 (.loop (q [(.reg [o 35 (b .lss 34 33)]),
 (i 35 .skip (.exit 2)),
 (.block 3 (q [(.reg [o 36 (m 34),o 9 (m 36)]),
 (.regd [o 37 (f 2 2),o 38 (l 37),o 39 (m 1),o 40 (ia 1 38 39),o 41 (l 40),o 42 (m 9),o 43 (ia 1 41 42),o 44 (l 43),o 45 (f 2 2),o 46 (l 45),o 47 (m 1),o 48 (ia 1 46 47),o 49 (l 48),o 50 (m 8),o 51 (ia 1 49 50),o 52 (l 51),o 53 (b .eql 44 52),o 54 (m 53),g 55 54 true (f 3 2),g 56 54 true (l 55),g 57 54 true (m 1),g 58 54 true (ia 1 56 57),g 59 54 true (l 58),g 60 54 true (m 9),g 61 54 true (ia 1 59 60),g 62 54 true (l 61),g 63 54 true (f 3 2),g 64 54 true (l 63),g 65 54 true (m 1),g 66 54 true (ia 1 64 65),g 67 54 true (l 66),g 68 54 true (m 8),g 69 54 true (ia 1 67 68),g 70 54 true (l 69),g 71 54 true (b .leq 62 70),o 72 (pf 54 71)] [0,1,0,7,15,0,63,127,0,256,0,1792,3840,0,16128,32512,65535,131071,262143,524287,262143,2097151,4194303,262143,16777215,33554431,262143,67371007,262143,470024191,1006895103,262143,4228120575,8523087871,17179869183,34359738367]),
 (i 72 (.regd [o 73 (m 7),o 74 (m 8),o 75 (ia 1 73 74),o 76 (l 75),o 77 (m 9),o 78 (.bin .shl (c (u 1)) (t 77)),o 79 (b .or 76 78),o 80 (ia 1 73 74),w (.store 1 (t 80) (t 79))] [0,0,3,7,0,16,63,127,255]) .skip)])),
 (.reg [o 81 (bc .add 34 (n 1)),o 34 (m 81)])])))])),
 (.reg [o 82 (bc .add 29 (n 1)),o 29 (m 82)])])))]),
 (.reg [o 83 (m 7),o 4 (m 83),o 5 (.mv (c (n 0)))]),
 .ret])⟩
def zjm:CFn:=⟨17,[.tmp 2],(q [(.reg [o 2 (.mv (c .bf))]),
 (.reg [o 3 (m 0),o 4 (bc .eql 3 (n 9)),o 5 (m 4),g 6 5 false (m 0),g 7 5 false (bc .eql 6 (n 10)),o 8 (pt 5 7),o 9 (m 8),g 10 9 false (m 0),g 11 9 false (bc .eql 10 (n 14)),o 12 (pt 9 11),o 13 (m 12),g 14 13 false (m 0),g 15 13 false (bc .eql 14 (n 15)),o 16 (pt 13 15),o 2 (m 16)]),
 .ret])⟩
def zjn:CFn:=⟨9,[.tmp 2],(q [(.reg [o 2 (.mv (c .bf))]),
 (.reg [o 3 (m 0),o 4 (bc .geq 3 (n 11)),o 5 (m 4),g 6 5 true (m 0),g 7 5 true (bc .leq 6 (n 13)),o 8 (pf 5 7),o 2 (m 8)]),
 .ret])⟩
def zk6:CFn:=⟨45,[.tmp 4],(q [(.reg [o 4 (.mv (c (.nils 6)))]),
 (q [(.reg [o 7 (m 0),o 8 (.call 23 [(t 7)]),o 9 (bc .neq 8 (n 0)),o 10 (m 9),g 11 10 false (m 1),g 12 10 false (bc .lss 11 (n 0)),o 13 (pt 10 12),o 14 (m 13),g 15 14 false (m 1),g 16 14 false (m 0),g 17 14 false (ln 16),g 18 14 false (b .geq 15 17),o 19 (pt 14 18)]),
 (i 19 (q [(.reg [o 4 (.mv (c (.nils 6)))]),
 .ret]) .skip)]),
 (.reg [o 20 (.build [(.nils 6),(.nils 1)] []),o 21 (.box 2 (t 20)),o 5 (m 21)]),
 (q [(.reg [o 6 (.mv (c (n 0)))]),
 (.block 0 (.loop (q [(q [(.reg [o 22 (m 6),o 23 (m 0),o 24 (ln 23),o 25 (b .lss 22 24)]),
 (i 25 .skip (.exit 0))]),
 (.block 1 (.reg [o 28 (m 5),o 29 (m 5),o 30 (.nilck (t 29)),o 31 (f 1 30),o 32 (l 31),o 33 (.bslice 1 1 [(n 0)] [(0,(c (n (-1))))]),o 34 (.app 1 8 (t 32) (t 33)),o 35 (.nilck (t 28)),o 36 (f 1 35),w (.store 1 (t 36) (t 34))])),
 (.reg [o 26 (m 6),o 27 (bc .add 26 (n 1)),o 6 (m 27)])])))]),
 (.reg [o 37 (m 0),o 38 (m 1),o 39 (m 5),o 40 (.call 140 [(t 37),(t 38),(t 39)])]),
 (.reg [o 41 (m 5),o 42 (.nilck (t 41)),o 43 (f 0 42),o 44 (l 43),o 4 (m 44)]),
 .ret])⟩
def zkF:CFn:=⟨37,[.tmp 6],(q [(.reg [o 3 (.box 4 (t 0)),o 6 (.mv (c (u 0)))]),
 (.reg [o 7 (.mv (c (u 0)))]),
 (q [(.reg [o 8 (.mv (c (n 0)))]),
 (.block 0 (.loop (q [(q [(.reg [o 9 (m 8),o 10 (f 0 3),o 11 (l 10),o 12 (b .lss 9 11)]),
 (i 12 .skip (.exit 0))]),
 (.block 1 (q [(.regd [o 15 (f 2 3),o 16 (l 15),o 17 (m 1),o 18 (ia 1 16 17),o 19 (l 18),o 20 (m 8),o 21 (ia 1 19 20),o 22 (l 21),o 23 (f 2 3),o 24 (l 23),o 25 (m 1),o 26 (ia 1 24 25),o 27 (l 26),o 28 (m 2),o 29 (ia 1 27 28),o 30 (l 29),o 31 (b .eql 22 30)] [0,1,0,7,15,0,63,127,0,256,0,1792,3840,0,16128,32512,65535]),
 (i 31 (.reg [o 32 (m 7),o 33 (m 8),o 34 (.bin .shl (c (u 1)) (t 33)),o 35 (b .or 32 34),o 7 (m 35)]) .skip)])),
 (.reg [o 13 (m 8),o 14 (bc .add 13 (n 1)),o 8 (m 14)])])))]),
 (.reg [o 36 (m 7),o 6 (m 36)]),
 .ret])⟩
def zkG:CFn:=⟨79,[.tmp 8],(q [(.reg [o 4 (.box 4 (t 0)),o 8 (.mv (c (u 0)))]),
 (.reg [o 14 (la 4 4),o 15 (m 1),o 16 (m 2),o 17 (.call 99 [(t 14),(t 15),(t 16)]),o 18 (m 3),o 19 (b .and 17 18),o 9 (m 19)]),
 (.reg [o 10 (.mv (c (n (-1)))),o 11 (.mv (c (u 0)))]),
 (q [(.reg [o 12 (.mv (c (n 0)))]),
 (.block 0 (.loop (q [(q [(.reg [o 20 (m 12),o 21 (f 0 4),o 22 (l 21),o 23 (b .lss 20 22)]),
 (i 23 .skip (.exit 0))]),
 (.block 1 (q [(.reg [o 26 (m 9),o 27 (m 12),o 28 (.call 117 [(t 26),(t 27)]),o 29 (m 28),g 30 29 true (m 10),g 31 29 true (bc .lss 30 (n 0)),g 32 29 true (m 31),g 33 32 false (f 3 4),g 34 32 false (l 33),g 35 32 false (m 1),g 36 32 false (ia 1 34 35),g 37 32 false (l 36),g 38 32 false (m 12),g 39 32 false (ia 1 37 38),g 40 32 false (l 39),g 41 32 false (m 10),g 42 32 false (b .lss 40 41),g 43 29 true (pt 32 42),o 44 (pf 29 43)]),
 (i 44 (.reg [o 45 (f 3 4),o 46 (l 45),o 47 (m 1),o 48 (ia 1 46 47),o 49 (l 48),o 50 (m 12),o 51 (ia 1 49 50),o 52 (l 51),o 10 (m 52)]) .skip)])),
 (.reg [o 24 (m 12),o 25 (bc .add 24 (n 1)),o 12 (m 25)])])))]),
 (q [(.reg [o 13 (.mv (c (n 0)))]),
 (.block 2 (.loop (q [(q [(.reg [o 53 (m 13),o 54 (f 0 4),o 55 (l 54),o 56 (b .lss 53 55)]),
 (i 56 .skip (.exit 2))]),
 (.block 3 (q [(.reg [o 59 (m 9),o 60 (m 13),o 61 (.call 117 [(t 59),(t 60)]),o 62 (m 61),g 63 62 true (f 3 4),g 64 62 true (l 63),g 65 62 true (m 1),g 66 62 true (ia 1 64 65),g 67 62 true (l 66),g 68 62 true (m 13),g 69 62 true (ia 1 67 68),g 70 62 true (l 69),g 71 62 true (m 10),g 72 62 true (b .eql 70 71),o 73 (pf 62 72)]),
 (i 73 (.reg [o 74 (m 11),o 75 (m 13),o 76 (.bin .shl (c (u 1)) (t 75)),o 77 (b .or 74 76),o 11 (m 77)]) .skip)])),
 (.reg [o 57 (m 13),o 58 (bc .add 57 (n 1)),o 13 (m 58)])])))]),
 (.reg [o 78 (m 11),o 8 (m 78)]),
 .ret])⟩
def zjw:CFn:=⟨56,[.tmp 6],(q [(.reg [o 3 (.box 4 (t 0)),o 6 (.mv (c (u 0)))]),
 (.reg [o 7 (.mv (c (u 0)))]),
 (q [(.reg [o 8 (.mv (c (n 0)))]),
 (.block 0 (.loop (q [(q [(.reg [o 9 (m 8),o 10 (f 0 3),o 11 (l 10),o 12 (b .lss 9 11)]),
 (i 12 .skip (.exit 0))]),
 (.block 1 (q [(.regd [o 15 (f 2 3),o 16 (l 15),o 17 (m 1),o 18 (ia 1 16 17),o 19 (l 18),o 20 (m 8),o 21 (ia 1 19 20),o 22 (l 21),o 23 (f 2 3),o 24 (l 23),o 25 (m 1),o 26 (ia 1 24 25),o 27 (l 26),o 28 (m 2),o 29 (ia 1 27 28),o 30 (l 29),o 31 (b .eql 22 30),o 32 (m 31),g 33 32 true (f 3 3),g 34 32 true (l 33),g 35 32 true (m 1),g 36 32 true (ia 1 34 35),g 37 32 true (l 36),g 38 32 true (m 8),g 39 32 true (ia 1 37 38),g 40 32 true (l 39),g 41 32 true (f 3 3),g 42 32 true (l 41),g 43 32 true (m 1),g 44 32 true (ia 1 42 43),g 45 32 true (l 44),g 46 32 true (m 2),g 47 32 true (ia 1 45 46),g 48 32 true (l 47),g 49 32 true (b .leq 40 48),o 50 (pf 32 49)] [0,1,0,7,15,0,63,127,0,256,0,1792,3840,0,16128,32512,65535,131071,262143,524287,262143,2097151,4194303,262143,16777215,33554431,262143,67371007,262143,470024191,1006895103,262143,4228120575,8523087871,17179869183,34359738367]),
 (i 50 (.reg [o 51 (m 7),o 52 (m 8),o 53 (.bin .shl (c (u 1)) (t 52)),o 54 (b .or 51 53),o 7 (m 54)]) .skip)])),
 (.reg [o 13 (m 8),o 14 (bc .add 13 (n 1)),o 8 (m 14)])])))]),
 (.reg [o 55 (m 7),o 6 (m 55)]),
 .ret])⟩
def zk8:CFn:=⟨8,[.tmp 2],(q [(.reg [o 2 (.mv (c (u 0)))]),
 (q [(.reg [o 3 (m 0),o 4 (bc .geq 3 (n 64))]),
 (i 4 (q [(.reg [o 2 (.mv (c (u 18446744073709551615)))]),
 .ret]) .skip)]),
 (.reg [o 5 (m 0),o 6 (.bin .shl (c (u 1)) (t 5)),o 7 (bc .sub 6 (u 1)),o 2 (m 7)]),
 .ret])⟩
def zhL:CFn:=⟨41,[.tmp 8],(q [(.reg [o 8 (.mv (c (u 0)))]),
 (q [(.reg [o 9 (m 0),o 10 (bc .eql 9 (n 1))]),
 (i 10 (q [(.reg [o 11 (m 3),o 8 (m 11)]),
 .ret]) .skip)]),
 (q [(.reg [o 12 (m 0),o 13 (bc .eql 12 (n 4))]),
 (i 13 (q [(.reg [o 14 (m 3),o 15 (m 1),o 16 (b .andNot 14 15),o 8 (m 16)]),
 .ret]) .skip)]),
 (q [(.reg [o 17 (m 0),o 18 (bc .eql 17 (n 5))]),
 (i 18 (q [(.reg [o 19 (m 1),o 20 (m 2),o 21 (b .and 19 20),o 8 (m 21)]),
 .ret]) .skip)]),
 (q [(.reg [o 22 (m 0),o 23 (bc .eql 22 (n 6))]),
 (i 23 (q [(.reg [o 24 (m 1),o 25 (m 2),o 26 (b .or 24 25),o 8 (m 26)]),
 .ret]) .skip)]),
 (q [(.reg [o 27 (m 0),o 28 (bc .eql 27 (n 7))]),
 (i 28 (q [(.reg [o 29 (m 3),o 30 (m 1),o 31 (b .andNot 29 30),o 32 (m 2),o 33 (b .or 31 32),o 8 (m 33)]),
 .ret]) .skip)]),
 (q [(.reg [o 34 (m 0),o 35 (bc .eql 34 (n 8))]),
 (i 35 (q [(.reg [o 36 (m 3),o 37 (m 1),o 38 (m 2),o 39 (b .xor 37 38),o 40 (b .andNot 36 39),o 8 (m 40)]),
 .ret]) .skip)]),
 (.reg [o 8 (.mv (c (u 0)))]),
 .ret])⟩
def zla:CFn:=⟨26,[.tmp 6],(q [(.reg [o 6 (.mv (c (u 0)))]),
 (.reg [o 7 (.mv (c (u 0)))]),
 (q [(.reg [o 8 (.mv (c (n 0)))]),
 (.block 0 (.loop (q [(q [(.reg [o 9 (m 8),o 10 (m 1),o 11 (b .lss 9 10)]),
 (i 11 .skip (.exit 0))]),
 (.block 1 (q [(.reg [o 14 (m 0),o 15 (m 8),o 16 (ia 1 14 15),o 17 (l 16),o 18 (m 2),o 19 (b .andNot 17 18),o 20 (bc .eql 19 (u 0))]),
 (i 20 (.reg [o 21 (m 7),o 22 (m 8),o 23 (.bin .shl (c (u 1)) (t 22)),o 24 (b .or 21 23),o 7 (m 24)]) .skip)])),
 (.reg [o 12 (m 8),o 13 (bc .add 12 (n 1)),o 8 (m 13)])])))]),
 (.reg [o 25 (m 7),o 6 (m 25)]),
 .ret])⟩
def zjp:CFn:=⟨8,[.tmp 4],(q [(.reg [o 2 (.box 3 (t 0)),o 4 (.mv (c (.nils 1)))]),
 (.reg [o 5 (la 3 2),o 6 (m 1),o 7 (.call 141 [(t 5),(t 6),(c .bf)]),o 4 (m 7)]),
 .ret])⟩
def zh6:CFn:=⟨29,[.tmp 8],(q [(.reg [o 8 (.mv (c (u 0)))]),
 (.reg [o 9 (.mv (c (u 0)))]),
 (q [(.reg [o 10 (.mv (c (n 0)))]),
 (.block 0 (.loop (q [(q [(.reg [o 11 (m 10),o 12 (m 1),o 13 (b .lss 11 12)]),
 (i 13 .skip (.exit 0))]),
 (.block 1 (q [(.reg [o 16 (m 0),o 17 (m 1),o 18 (m 10),o 19 (m 2),o 20 (.call 142 [(t 16),(t 17),(t 18),(t 19)]),o 21 (m 3),o 22 (b .andNot 20 21),o 23 (bc .eql 22 (u 0))]),
 (i 23 (.reg [o 24 (m 9),o 25 (m 10),o 26 (.bin .shl (c (u 1)) (t 25)),o 27 (b .or 24 26),o 9 (m 27)]) .skip)])),
 (.reg [o 14 (m 10),o 15 (bc .add 14 (n 1)),o 10 (m 15)])])))]),
 (.reg [o 28 (m 9),o 8 (m 28)]),
 .ret])⟩
def zk4:CFn:=⟨9,[.tmp 2],(q [(.reg [o 2 (.mv (c (u 0)))]),
 (q [(.reg [o 3 (m 0),o 4 (bc .geq 3 (n 64))]),
 (i 4 (q [(.reg [o 2 (.mv (c (u 18446744073709551615)))]),
 .ret]) .skip)]),
 (.reg [o 5 (m 0),o 6 (.conv .u64 (t 5)),o 7 (.bin .shl (c (u 1)) (t 6)),o 8 (bc .sub 7 (u 1)),o 2 (m 8)]),
 .ret])⟩
def zsB:CFn:=⟨8,[.tmp 2],(q [(.reg [o 2 (.mv (c (u 0)))]),
 (q [(.reg [o 3 (m 0),o 4 (bc .geq 3 (n 64))]),
 (i 4 (q [(.reg [o 2 (.mv (c (u 18446744073709551615)))]),
 .ret]) .skip)]),
 (.reg [o 5 (m 0),o 6 (.bin .shl (c (u 1)) (t 5)),o 7 (bc .sub 6 (u 1)),o 2 (m 7)]),
 .ret])⟩
def zgc:CFn:=⟨61,[.tmp 2],(q [(.reg [o 2 (.mv (c (.nils 1)))]),
 (q [(.reg [o 6 (m 0),o 7 (ln 6),o 8 (bc .lss 7 (n 2))]),
 (i 8 (q [(.reg [o 9 (m 0),o 2 (m 9)]),
 .ret]) .skip)]),
 (q [(.reg [o 3 (.mv (c (n 1)))]),
 (.block 0 (.loop (q [(q [(.reg [o 10 (m 3),o 11 (m 0),o 12 (ln 11),o 13 (b .lss 10 12)]),
 (i 13 .skip (.exit 0))]),
 (.block 1 (q [(.regd [o 16 (m 0),o 17 (m 3),o 18 (ia 1 16 17),o 19 (l 18),o 20 (m 0),o 21 (m 3),o 22 (bc .sub 21 (n 1)),o 23 (ia 1 20 22),o 24 (l 23),o 25 (b .eql 19 24)] [0,0,3,7,0,0,32,112,240,511]),
 (i 25 (q [(.reg [o 26 (m 0),o 27 (m 3),o 28 (.slice 1 (t 26) (some (t 27)) none),o 4 (m 28)]),
 (q [(.reg [o 5 (.mv (c (n 1)))]),
 (.block 2 (.loop (q [(q [(.reg [o 29 (m 5),o 30 (m 4),o 31 (ln 30),o 32 (b .lss 29 31)]),
 (i 32 .skip (.exit 2))]),
 (.block 3 (q [(.regd [o 35 (m 4),o 36 (m 5),o 37 (ia 1 35 36),o 38 (l 37),o 39 (m 4),o 40 (m 5),o 41 (bc .sub 40 (n 1)),o 42 (ia 1 39 41),o 43 (l 42),o 44 (b .neq 38 43)] [0,0,3,7,0,0,32,112,240,511]),
 (i 44 (q [(.reg [o 45 (m 0),o 46 (m 3),o 47 (m 4),o 48 (m 5),o 49 (ia 1 47 48),o 50 (l 49),o 51 (ia 1 45 46),w (.store 1 (t 51) (t 50))]),
 (.reg [o 52 (m 3),o 53 (bc .add 52 (n 1)),o 3 (m 53)])]) .skip)])),
 (.reg [o 33 (m 5),o 34 (bc .add 33 (n 1)),o 5 (m 34)])])))]),
 (.reg [o 54 (m 0),o 55 (m 3),o 56 (.slice 1 (t 54) (some (t 55)) none),w (.clear 1 [(n 0)] (t 56))]),
 (.reg [o 57 (m 0),o 58 (m 3),o 59 (.slice 1 (t 57) none (some (t 58))),o 2 (m 59)]),
 .ret]) .skip)])),
 (.reg [o 14 (m 3),o 15 (bc .add 14 (n 1)),o 3 (m 15)])])))]),
 (.reg [o 60 (m 0),o 2 (m 60)]),
 .ret])⟩
def zmH:CFn:=⟨31,[.tmp 2],(q [(.reg [o 2 (.mv (c (n 0)))]),
 (q [(.reg [o 5 (m 0),o 6 (ln 5),o 7 (bc .gtr 6 (n 64))]),
 (i 7 (q [(.reg [o 2 (.mv (c (n 8)))]),
 .ret]) .skip)]),
 (q [(.reg [o 8 (m 0),o 9 (ln 8),o 10 (.mv (c (n 0)))]),
 (.block 0 (.loop (q [(.reg [o 11 (b .lss 10 9)]),
 (i 11 .skip (.exit 0)),
 (.block 1 (q [(.reg [o 12 (m 10),o 13 (ia 1 8 10),o 14 (l 13),o 3 (m 12),o 4 (m 14)]),
 (.reg [o 15 (m 4),o 16 (bc .lss 15 (n 0)),o 17 (m 16),g 18 17 false (m 4),g 19 17 false (m 3),g 20 17 false (b .gtr 18 19),o 21 (pt 17 20),o 22 (m 21),g 23 22 false (m 0),g 24 22 false (m 4),g 25 22 false (ia 1 23 24),g 26 22 false (l 25),g 27 22 false (m 4),g 28 22 false (b .neq 26 27),o 29 (pt 22 28)]),
 (i 29 (q [(.reg [o 2 (.mv (c (n 3)))]),
 .ret]) .skip)])),
 (.reg [o 30 (bc .add 10 (n 1)),o 10 (m 30)])])))]),
 (.reg [o 2 (.mv (c (n 0)))]),
 .ret])⟩
def zkZ:CFn:=⟨48,[.tmp 4],(q [(.reg [o 4 (.mv (c (.nils 1)))]),
 (.reg [o 11 .mkmap,o 5 (m 11)]),
 (.reg [o 12 (m 0),o 13 (ln 12),o 14 (.mkslice 1 8 [(n 0)] (t 13) (t 13)),o 6 (m 14)]),
 (q [(.reg [o 15 (m 0),o 16 (ln 15),o 17 (.mv (c (n 0)))]),
 (.block 0 (.loop (q [(.reg [o 18 (b .lss 17 16)]),
 (i 18 .skip (.exit 0)),
 (.block 1 (q [(.reg [o 19 (m 17),o 7 (m 19)]),
 (.regd [o 20 (m 0),o 21 (m 7),o 22 (ia 1 20 21),o 23 (l 22),o 24 (m 1),o 25 (m 7),o 26 (ia 1 24 25),o 27 (l 26),o 28 (.build [(n 0),(n 0)] [(0,1,(t 23)),(1,1,(t 27))]),o 8 (.alloc [(n 0),(n 0)]),w (.store 2 (t 8) (t 28))] [0,0,3,7,0,0,48,112,255,0,1023]),
 (q [(.reg [o 30 (m 5),o 31 (la 2 8),o 32 (.look (.agg [(.int .i64),(.int .i64)]) [(n 0)] (t 30) (t 31) true),o 29 (m 32),o 33 (e 29 0),o 34 (e 29 1),o 9 (m 33),o 10 (m 34)]),
 (.reg [o 35 (m 10),o 36 (.un .not (t 35))]),
 (i 36 (.reg [o 37 (m 5),o 38 (la 2 8),o 39 (m 7),w (.mupd (.agg [(.int .i64),(.int .i64)]) (t 37) (t 38) (t 39))]) .skip)]),
 (.reg [o 40 (m 6),o 41 (m 7),o 42 (m 5),o 43 (la 2 8),o 44 (.look (.agg [(.int .i64),(.int .i64)]) [(n 0)] (t 42) (t 43) false),o 45 (ia 1 40 41),w (.store 1 (t 45) (t 44))])])),
 (.reg [o 46 (bc .add 17 (n 1)),o 17 (m 46)])])))]),
 (.reg [o 47 (m 6),o 4 (m 47)]),
 .ret])⟩
def zje:CFn:=⟨41,[.tmp 4],(q [(.reg [o 4 (.mv (c (n 0)))]),
 (.reg [o 5 (.mv (c (u 0)))]),
 (q [(.reg [o 10 (l 1),o 11 (ln 10),o 12 (.mv (c (n 0)))]),
 (.block 0 (.loop (q [(.reg [o 13 (b .lss 12 11)]),
 (i 13 .skip (.exit 0)),
 (.block 1 (q [(.reg [o 14 (m 12),o 15 (ia 1 10 12),o 16 (l 15),o 6 (m 14),o 7 (m 16)]),
 (.reg [o 17 (m 5),o 18 (m 0),o 19 (m 6),o 20 (b .shr 18 19),o 21 (bc .and 20 (u 1)),o 22 (m 7),o 23 (b .shl 21 22),o 24 (b .or 17 23),o 5 (m 24)])])),
 (.reg [o 25 (bc .add 12 (n 1)),o 12 (m 25)])])))]),
 (q [(.reg [o 27 (l 2),o 28 (m 5),o 29 (.look (.int .u64) [(n 0)] (t 27) (t 28) true),o 26 (m 29),o 30 (e 26 0),o 31 (e 26 1),o 8 (m 30),o 9 (m 31)]),
 (.reg [o 32 (m 9),o 33 (.un .not (t 32))]),
 (i 33 (.reg [o 34 (l 2),o 35 (m 5),o 36 (l 2),o 37 (.lenm (t 36)),w (.mupd (.int .u64) (t 34) (t 35) (t 37))]) .skip)]),
 (.reg [o 38 (l 2),o 39 (m 5),o 40 (.look (.int .u64) [(n 0)] (t 38) (t 39) false),o 4 (m 40)]),
 .ret])⟩
def zk9:CFn:=⟨18,[.tmp 4],(q [(.reg [o 4 (.mv (c .bf))]),
 (.reg [o 5 (m 1),o 6 (bc .geq 5 (n 0)),o 7 (m 6),g 8 7 true (m 1),g 9 7 true (bc .lss 8 (n 64)),o 10 (pf 7 9),o 11 (m 10),g 12 11 true (m 0),g 13 11 true (m 1),g 14 11 true (b .shr 12 13),g 15 11 true (bc .rem 14 (u 2)),g 16 11 true (bc .eql 15 (u 1)),o 17 (pf 11 16),o 4 (m 17)]),
 .ret])⟩
def zod:CFn:=⟨8,[.tmp 2],(q [(.reg [o 2 (.mv (c (n 0)))]),
 (.cond (c .bf) (q [(.reg [o 3 (m 0),o 4 (.conv .u32 (t 3)),o 5 (.call 158 [(t 4)]),o 2 (m 5)]),
 .ret]) .skip),
 (.reg [o 6 (m 0),o 7 (.call 159 [(t 6)]),o 2 (m 7)]),
 .ret])⟩
def zh4:CFn:=⟨67,[.tmp 6],(q [(.reg [o 6 (.mv (c (n 0)))]),
 (q [(.reg [o 8 (m 2),o 9 (.nilck (t 8)),o 10 (f 1 9),o 11 (l 10),o 12 (m 1),o 13 (ia 1 11 12),o 14 (l 13),o 15 (bc .geq 14 (n 0))]),
 (i 15 (q [(.reg [o 16 (m 2),o 17 (.nilck (t 16)),o 18 (f 1 17),o 19 (l 18),o 20 (m 1),o 21 (ia 1 19 20),o 22 (l 21),o 6 (m 22)]),
 .ret]) .skip)]),
 (.reg [o 23 (m 0),o 24 (m 1),o 25 (ia 6 23 24),o 26 (la 6 25),o 7 (.alloc [(n 0),(n 0),(n 0),(n 0),(n 0),(n 0)]),w (.store 6 (t 7) (t 26))]),
 (q [(.reg [o 27 (f 0 7),o 28 (l 27),o 29 (.call 56 [(t 28)])]),
 (i 29 (.reg [o 30 (m 0),o 31 (m 0),o 32 (m 1),o 33 (ia 6 31 32),o 34 (f 4 33),o 35 (l 34),o 36 (m 2),o 37 (.call 140 [(t 30),(t 35),(t 36)]),o 38 (f 4 7),w (.store 1 (t 38) (t 37))]) .skip)]),
 (q [(.reg [o 39 (f 0 7),o 40 (l 39),o 41 (.call 57 [(t 40)])]),
 (i 41 (.reg [o 42 (m 0),o 43 (m 0),o 44 (m 1),o 45 (ia 6 43 44),o 46 (f 5 45),o 47 (l 46),o 48 (m 2),o 49 (.call 140 [(t 42),(t 47),(t 48)]),o 50 (f 5 7),w (.store 1 (t 50) (t 49))]) .skip)]),
 (.regd [o 51 (m 2),o 52 (.nilck (t 51)),o 53 (f 1 52),o 54 (l 53),o 55 (m 1),o 56 (m 2),o 57 (la 6 7),o 58 (.call 165 [(t 56),(t 57)]),o 59 (ia 1 54 55),w (.store 1 (t 59) (t 58))] [0,1,3,7,0,0,0,96,255,511]),
 (.reg [o 60 (m 2),o 61 (.nilck (t 60)),o 62 (f 1 61),o 63 (l 62),o 64 (m 1),o 65 (ia 1 63 64),o 66 (l 65),o 6 (m 66)]),
 .ret])⟩
def zjq:CFn:=⟨85,[.tmp 6],(q [(.reg [o 3 (.box 3 (t 0)),o 6 (.mv (c (.nils 1)))]),
 (q [(.reg [o 11 (la 3 3),o 12 (.call 144 [(t 11)]),o 13 (bc .neq 12 (n 0)),o 14 (m 13),g 15 14 false (m 1),g 16 14 false (bc .lss 15 (n 1)),o 17 (pt 14 16),o 18 (m 17),g 19 18 false (m 1),g 20 18 false (f 2 3),g 21 18 false (l 20),g 22 18 false (ln 21),g 23 18 false (.bin .shl (c (n 1)) (t 22)),g 24 18 false (b .geq 19 23),o 25 (pt 18 24)]),
 (i 25 (q [(.reg [o 6 (.mv (c (.nils 1)))]),
 .ret]) .skip)]),
 (.reg [o 7 (.mv (c (.nils 1)))]),
 (q [(.reg [o 8 (.mv (c (n 0)))]),
 (.block 0 (.loop (q [(q [(.reg [o 26 (m 8),o 27 (f 0 3),o 28 (l 27),o 29 (b .lss 26 28)]),
 (i 29 .skip (.exit 0))]),
 (.block 1 (q [(.reg [o 9 (.mv (c (u 0)))]),
 (q [(.reg [o 32 (m 2)]),
 (i 32 (.reg [o 33 (f 0 3),o 34 (l 33),o 35 (.call 102 [(t 34)]),o 9 (m 35)]) .skip)]),
 (q [(.reg [o 10 (.mv (c (n 0)))]),
 (.block 2 (.loop (q [(q [(.reg [o 36 (m 10),o 37 (f 2 3),o 38 (l 37),o 39 (ln 38),o 40 (b .lss 36 39)]),
 (i 40 .skip (.exit 2))]),
 (.block 3 (q [(q [(.reg [o 43 (m 1),o 44 (m 10),o 45 (b .shr 43 44),o 46 (bc .rem 45 (n 2)),o 47 (bc .eql 46 (n 1)),o 48 (m 47),g 49 48 true (m 2),o 50 (pf 48 49)]),
 (i 50 (.reg [o 51 (m 9),o 52 (f 2 3),o 53 (l 52),o 54 (m 10),o 55 (ia 1 53 54),o 56 (l 55),o 57 (m 8),o 58 (ia 1 56 57),o 59 (l 58),o 60 (b .and 51 59),o 9 (m 60)]) .skip)]),
 (.reg [o 61 (m 1),o 62 (m 10),o 63 (b .shr 61 62),o 64 (bc .rem 63 (n 2)),o 65 (bc .eql 64 (n 1)),o 66 (m 65),g 67 66 true (m 2),g 68 66 true (.un .not (t 67)),o 69 (pf 66 68)]),
 (i 69 (.reg [o 70 (m 9),o 71 (f 2 3),o 72 (l 71),o 73 (m 10),o 74 (ia 1 72 73),o 75 (l 74),o 76 (m 8),o 77 (ia 1 75 76),o 78 (l 77),o 79 (b .or 70 78),o 9 (m 79)]) .skip)])),
 (.reg [o 41 (m 10),o 42 (bc .add 41 (n 1)),o 10 (m 42)])])))]),
 (.reg [o 80 (m 7),o 81 (m 9),o 82 (.bslice 1 1 [(u 0)] [(0,(t 81))]),o 83 (.app 1 8 (t 80) (t 82)),o 7 (m 83)])])),
 (.reg [o 30 (m 8),o 31 (bc .add 30 (n 1)),o 8 (m 31)])])))]),
 (.reg [o 84 (m 7),o 6 (m 84)]),
 .ret])⟩
def zjr:CFn:=⟨40,[.tmp 8],(q [(.reg [o 8 (.mv (c (u 0)))]),
 (.reg [o 12 (m 0),o 13 (m 2),o 14 (ia 1 12 13),o 15 (l 14),o 16 (m 3),o 17 (b .and 15 16),o 9 (m 17)]),
 (q [(.reg [o 10 (.mv (c (n 0)))]),
 (.block 0 (.loop (q [(q [(.reg [o 18 (m 10),o 19 (m 1),o 20 (b .lss 18 19)]),
 (i 20 .skip (.exit 0))]),
 (.block 1 (q [(.reg [o 11 (.mv (c (n 0)))]),
 (.block 2 (.loop (q [(q [(.reg [o 23 (m 11),o 24 (m 1),o 25 (b .lss 23 24)]),
 (i 25 .skip (.exit 2))]),
 (.block 3 (q [(.reg [o 28 (m 9),o 29 (m 11),o 30 (.call 117 [(t 28),(t 29)])]),
 (i 30 (.reg [o 31 (m 9),o 32 (m 0),o 33 (m 11),o 34 (ia 1 32 33),o 35 (l 34),o 36 (m 3),o 37 (b .and 35 36),o 38 (b .or 31 37),o 9 (m 38)]) .skip)])),
 (.reg [o 26 (m 11),o 27 (bc .add 26 (n 1)),o 11 (m 27)])])))])),
 (.reg [o 21 (m 10),o 22 (bc .add 21 (n 1)),o 10 (m 22)])])))]),
 (.reg [o 39 (m 9),o 8 (m 39)]),
 .ret])⟩
def zjo:CFn:=⟨59,[.tmp 2],(q [(.reg [o 1 (.box 3 (t 0)),o 2 (.mv (c (n 0)))]),
 (q [(.reg [o 5 (f 0 1),o 6 (l 5),o 7 (bc .lss 6 (n 1)),o 8 (m 7),g 9 8 false (f 0 1),g 10 8 false (l 9),g 11 8 false (bc .gtr 10 (n 64)),o 12 (pt 8 11)]),
 (i 12 (q [(.reg [o 2 (.mv (c (n 2)))]),
 .ret]) .skip)]),
 (q [(.reg [o 13 (f 2 1),o 14 (l 13),o 15 (ln 14),o 16 (bc .gtr 15 (n 4)),o 17 (m 16),g 18 17 false (f 1 1),g 19 17 false (l 18),g 20 17 false (ln 19),g 21 17 false (bc .gtr 20 (n 8)),o 22 (pt 17 21)]),
 (i 22 (q [(.reg [o 2 (.mv (c (n 8)))]),
 .ret]) .skip)]),
 (q [(.reg [o 3 (.mv (c (n 0)))]),
 (.block 0 (.loop (q [(q [(.reg [o 23 (m 3),o 24 (f 2 1),o 25 (l 24),o 26 (ln 25),o 27 (b .lss 23 26)]),
 (i 27 .skip (.exit 0))]),
 (.block 1 (q [(.regd [o 30 (f 2 1),o 31 (l 30),o 32 (m 3),o 33 (ia 1 31 32),o 34 (l 33),o 35 (ln 34),o 36 (f 0 1),o 37 (l 36),o 38 (b .neq 35 37)] [0,1,0,7,15,31,0,64,255]),
 (i 38 (q [(.reg [o 2 (.mv (c (n 3)))]),
 .ret]) .skip)])),
 (.reg [o 28 (m 3),o 29 (bc .add 28 (n 1)),o 3 (m 29)])])))]),
 (q [(.reg [o 39 (f 1 1),o 40 (l 39),o 41 (f 0 1),o 42 (l 41),o 43 (.call 175 [(t 40),(t 42)])]),
 (i 43 (q [(.reg [o 2 (.mv (c (n 2)))]),
 .ret]) .skip)]),
 (q [(.reg [o 4 (.mv (c (n 0)))]),
 (.block 2 (.loop (q [(q [(.reg [o 44 (m 4),o 45 (f 2 1),o 46 (l 45),o 47 (ln 46),o 48 (b .lss 44 47)]),
 (i 48 .skip (.exit 2))]),
 (.block 3 (q [(.regd [o 51 (f 2 1),o 52 (l 51),o 53 (m 4),o 54 (ia 1 52 53),o 55 (l 54),o 56 (f 0 1),o 57 (l 56),o 58 (.call 175 [(t 55),(t 57)])] [0,1,0,7,15,0,32,127]),
 (i 58 (q [(.reg [o 2 (.mv (c (n 2)))]),
 .ret]) .skip)])),
 (.reg [o 49 (m 4),o 50 (bc .add 49 (n 1)),o 4 (m 50)])])))]),
 (.reg [o 2 (.mv (c (n 0)))]),
 .ret])⟩
def zk7:CFn:=⟨41,[.tmp 4],(q [(.reg [o 3 (.box 6 (t 1)),o 4 (.mv (c (n 0)))]),
 (q [(.reg [o 5 (.mv (c (n 0)))]),
 (.block 0 (.loop (q [(q [(.reg [o 6 (m 5),o 7 (m 0),o 8 (.nilck (t 7)),o 9 (f 0 8),o 10 (l 9),o 11 (ln 10),o 12 (b .lss 6 11)]),
 (i 12 .skip (.exit 0))]),
 (.block 1 (q [(.regd [o 15 (m 0),o 16 (.nilck (t 15)),o 17 (f 0 16),o 18 (l 17),o 19 (m 5),o 20 (ia 6 18 19),o 21 (la 6 20),o 22 (la 6 3),o 23 (.eqS false [(.int .i64),(.int .i64),(.int .i64),(.int .i64),(.int .i64),(.int .i64)] (t 21) (t 22))] [0,1,3,7,0,31,63,0,255]),
 (i 23 (q [(.reg [o 24 (m 5),o 4 (m 24)]),
 .ret]) .skip)])),
 (.reg [o 13 (m 5),o 14 (bc .add 13 (n 1)),o 5 (m 14)])])))]),
 (.regd [o 25 (m 0),o 26 (m 0),o 27 (.nilck (t 26)),o 28 (f 0 27),o 29 (l 28),o 30 (la 6 3),o 31 (.bslice 6 1 [(n 0),(n 0),(n 0),(n 0),(n 0),(n 0)] [(0,(t 30))]),o 32 (.app 6 48 (t 29) (t 31)),o 33 (.nilck (t 25)),o 34 (f 0 33),w (.store 1 (t 34) (t 32))] [0,0,2,6,14,0,32,126,255,511,1023]),
 (.reg [o 35 (m 0),o 36 (.nilck (t 35)),o 37 (f 0 36),o 38 (l 37),o 39 (ln 38),o 40 (bc .sub 39 (n 1)),o 4 (m 40)]),
 .ret])⟩
def zh5:CFn:=⟨20,[.tmp 4],(q [(.reg [o 4 (.mv (c .bf))]),
 (q [(.reg [o 5 (.mv (c (n 0)))]),
 (.block 0 (.loop (q [(q [(.reg [o 6 (m 5),o 7 (m 0),o 8 (ln 7),o 9 (b .lss 6 8)]),
 (i 9 .skip (.exit 0))]),
 (.block 1 (q [(.regd [o 12 (m 0),o 13 (m 5),o 14 (ia 1 12 13),o 15 (l 14),o 16 (m 1),o 17 (.call 102 [(t 16)]),o 18 (b .andNot 15 17),o 19 (bc .neq 18 (u 0))] [0,0,3,7,0,16,63,127]),
 (i 19 (q [(.reg [o 4 (.mv (c .bt))]),
 .ret]) .skip)])),
 (.reg [o 10 (m 5),o 11 (bc .add 10 (n 1)),o 5 (m 11)])])))]),
 (.reg [o 4 (.mv (c .bf))]),
 .ret])⟩
def zkA:CFn:=⟨14,[],(.block 0 (.loop (q [(q [(.reg [o 3 (l 1),o 4 (bc .neq 3 (u 0))]),
 (i 4 .skip (.exit 0))]),
 (.block 1 (q [(.reg [o 9 (m 0),o 10 (l 1),o 11 (.call 84 [(t 10)]),o 12 (.callv (t 9) [(t 11)]),o 13 (.un .not (t 12))]),
 (i 13 .ret .skip)])),
 (.reg [o 5 (l 1),o 6 (l 1),o 7 (bc .sub 6 (u 1)),o 8 (b .and 5 7),w (.store 1 (t 1) (t 8))])])))⟩
end Go.Ab
namespace Go.Ab
open Go Go.Proofs
theorem zz:Tryz.prog.follows .mixedOrders=true:=by kernel_rfl
theorem zlJ:zk Tryz.prog zfT=some zk3:=by kernel_rfl
theorem zkH:zk Tryz.prog ze1=some zky:=by kernel_rfl
theorem ziw:zk Tryz.prog zeg=some zh2:=by kernel_rfl
theorem zg8:zk Tryz.prog zdo=some zgY:=by kernel_rfl
theorem zjS:zk Tryz.prog zeC=some zjg:=by kernel_rfl
theorem zkL:zk Tryz.prog ze4=some zkC:=by kernel_rfl
theorem zjV:zk Tryz.prog zeF=some zjj:=by kernel_rfl
theorem zj7:zk Tryz.prog zeN=some zjv:=by kernel_rfl
theorem zj4:zk Tryz.prog zeK=some zjs:=by kernel_rfl
theorem zrS:zk Tryz.prog zlp=some zrd:=by kernel_rfl
theorem zlR:zk Tryz.prog zf0=some zlc:=by kernel_rfl
theorem zqw:zk Tryz.prog zgd=some zqs:=by kernel_rfl
theorem zkI:zk Tryz.prog ze2=some zkz:=by kernel_rfl
theorem zlI:zk Tryz.prog zdn=some zk2:=by kernel_rfl
theorem zkM:zk Tryz.prog zc9=some zkE:=by kernel_rfl
theorem zix:zk Tryz.prog zeh=some zh3:=by kernel_rfl
theorem zjU:zk Tryz.prog zeE=some zji:=by kernel_rfl
theorem zhQ:zk Tryz.prog zdT=some zhK:=by kernel_rfl
theorem ze8:zk Tryz.prog ze5=some zkD:=by kernel_rfl
theorem zjW:zk Tryz.prog zZ=some zjk:=by kernel_rfl
theorem zjX:zk Tryz.prog z1=some zjl:=by kernel_rfl
theorem zg9:zk Tryz.prog zdr=some zgZ:=by kernel_rfl
theorem zhm:zk Tryz.prog zdK=some zhl:=by kernel_rfl
theorem ziB:zk Tryz.prog zel=some zh8:=by kernel_rfl
theorem zlQ:zk Tryz.prog zdq=some zlb:=by kernel_rfl
theorem zj6:zk Tryz.prog zeM=some zju:=by kernel_rfl
theorem zj5:zk Tryz.prog zeL=some zjt:=by kernel_rfl
theorem ziA:zk Tryz.prog zek=some zh7:=by kernel_rfl
theorem zqx:zk Tryz.prog zge=some zqt:=by kernel_rfl
theorem zpg:zk Tryz.prog zii=some zo4:=by kernel_rfl
theorem zqy:zk Tryz.prog zku=some zqu:=by kernel_rfl
theorem zmM:zk Tryz.prog zgl=some zmI:=by kernel_rfl
theorem zlG:zk Tryz.prog zfS=some zk0:=by kernel_rfl
theorem zlH:zk Tryz.prog zdm=some zk1:=by kernel_rfl
theorem zjR:zk Tryz.prog zaG=some zjf:=by kernel_rfl
theorem zpf:zk Tryz.prog zih=some zo3:=by kernel_rfl
theorem zjY:zk Tryz.prog zcU=some zjm:=by kernel_rfl
theorem zjZ:zk Tryz.prog zcV=some zjn:=by kernel_rfl
theorem zlM:zk Tryz.prog zfW=some zk6:=by kernel_rfl
theorem zkN:zk Tryz.prog ze6=some zkF:=by kernel_rfl
theorem zkO:zk Tryz.prog ze7=some zkG:=by kernel_rfl
theorem zj8:zk Tryz.prog zeO=some zjw:=by kernel_rfl
theorem zlN:zk Tryz.prog zfX=some zk8:=by kernel_rfl
theorem zhR:zk Tryz.prog zdU=some zhL:=by kernel_rfl
theorem zlP:zk Tryz.prog zfZ=some zla:=by kernel_rfl
theorem zj1:zk Tryz.prog zeH=some zjp:=by kernel_rfl
theorem ziz:zk Tryz.prog zej=some zh6:=by kernel_rfl
theorem zlK:zk Tryz.prog zfU=some zk4:=by kernel_rfl
theorem zsR:zk Tryz.prog zmT=some zsB:=by kernel_rfl
theorem zc0:zk Tryz.prog zbG=some zgc:=by kernel_rfl
theorem zmL:zk Tryz.prog zgk=some zmH:=by kernel_rfl
theorem zlF:zk Tryz.prog zfR=some zkZ:=by kernel_rfl
theorem zjQ:zk Tryz.prog zbN=some zje:=by kernel_rfl
theorem zlO:zk Tryz.prog zfY=some zk9:=by kernel_rfl
theorem zox:zk Tryz.prog zdd=some zod:=by kernel_rfl
theorem zah:zk Tryz.prog zx=some zh4:=by kernel_rfl
theorem zj2:zk Tryz.prog zeI=some zjq:=by kernel_rfl
theorem zj3:zk Tryz.prog zeJ=some zjr:=by kernel_rfl
theorem zj0:zk Tryz.prog zeG=some zjo:=by kernel_rfl
theorem zf3:zk Tryz.prog zdp=some zk7:=by kernel_rfl
theorem ziy:zk Tryz.prog zei=some zh5:=by kernel_rfl
theorem zkJ:zk Tryz.prog zb5=some zkA:=by kernel_rfl
end Go.Ab
namespace Go.Ab
open Go Go.Proofs
set_option maxRecDepth 10000
set_option maxHeartbeats 4000000
variable {T:Nat→Obj→Prop}
def zaq (n:Int):BitVec 64:=if n ≥ 64 then -1 else (1#64 <<< n.toNat) - 1#64
theorem zrI (n:Int) (h:0≤n):Fn Tryz.prog T zmT [.d (.int .i64 n)] [] (.d (.u64 (zaq n))) []:=by
 refine zj zz zsR (by show 1≤8;decide) ?_
 (repeat' ((conv=>whnf);first|refine vA ?_|(refine vF ?_ ?_<;>intro hc<;>try simp only [vL] at hc)|refine vT ?_|(refine vP ?_ ?_;·omega)|refine vY ?_));all_goals try conv=>whnf
 ·simp [zaq, *]
 ·rw [zaq,if_neg (by omega)];rfl
theorem zrK (n:Int) (h:0≤n):Fn Tryz.prog T zfU [.d (.int .i64 n)] [] (.d (.u64 (zaq n))) []:=by
 refine zj zz zlK (by show 1≤9;decide) ?_
 (repeat' ((conv=>whnf);first|refine vA ?_|(refine vF ?_ ?_<;>intro hc<;>try simp only [vL] at hc)|refine vT ?_|refine vY ?_));all_goals try conv=>whnf
 ·simp [zaq, *]
 ·rw [zaq,if_neg (by omega)]
  have:(BitVec.ofInt 64 n).toNat=n.toNat:=by
   rw [BitVec.toNat_ofInt,Int.emod_eq_of_lt h (by omega)]
  rw [this];rfl
def bad (n:Int) (s:BitVec 64):Bool:=s &&& ~~~ (zaq n)≠0
def zaA (worlds agents:Int) (val:List (BitVec 64)):Int :=
 if worlds < 1∨64 < worlds then 2 else if 8 < val.length∨4 < agents then 8 else if val.any (bad worlds) then 3 else 0
theorem zpb (worlds agents:Int) (val:List (BitVec 64)):Fn Tryz.prog T zku [.d (.int .i64 worlds),.d (.int .i64 agents),.d (dU val)] [] (.d (.int .i64 (zaA worlds agents val))) []:=by
 refine zj zz zqy (by show 3≤34;decide) ?_
 (repeat' ((conv=>whnf);first|refine vA ?_|(refine vF ?_ ?_<;>intro hc<;>try simp only [vL] at hc)|refine vJ fun hg=>?_|refine vT ?_|refine vX ?_));all_goals try conv=>whnf
 ·simp [zaA, *]
 ·simp [zaA, *]
 ·rw [zaA,if_neg (by omega),if_pos (by omega)]
 ·rw [zaA,if_neg (by omega),if_pos (by omega)]
 ·refine zX (fun (k:Nat)=>[(0,.d (.int .i64 (worlds))),(22,.d (dU val)),(23,.d (.int .i64 ((val.map D.u64).length:Int))),(24,.d (.int .i64 ((k:Int))))]) (fun (k:Nat)=>k≤val.length∧val.any (bad worlds)=(val.drop k).any (bad worlds)) (fun (k:Nat)=>val.length - k) (0) (⟨by simp,by simp⟩) (by (repeat' first|exact trivial|exact rfl|refine And.intro ?_ ?_)) ?_
  rintro k ⟨hk,hI⟩
  (repeat' ((conv=>whnf);first|refine vA ?_|((first|refine vD ?_ ?_|refine vF ?_ ?_)<;>intro hc<;>try simp only [vL] at hc)|refine vT ?_|(refine vQ ?_ fun x hx=>?_;·omega)|(refine vO ?_ ?_;·omega)|refine vX ?_|(refine yD (zrI _ ?_) ⟨⟨rfl,rfl⟩,rfl⟩ rfl ?_;(·omega))|fail));all_goals try conv=>whnf
  ·have hb:bad worlds x=true:=by simpa [bad] using hc
   rw [zaA,if_neg (by omega),if_neg (by omega),hI,zar hx];simp [hb]
  ·have hb:bad worlds x=false:=by simpa [bad] using hc
   exact ⟨k+1,[],[],⟨by (omega),by rw [hI,zar hx];simp [hb]⟩,by (omega),by (refine ⟨rfl,rfl,rfl,?_,?_⟩;repeat' first|exact trivial|exact rfl|refine And.intro ?_ ?_)⟩
  ·rw [zaA,if_neg (by omega),if_neg (by omega),hI,List.drop_eq_nil_of_le (by omega)];simp
theorem zpd (worlds agents:Int) (val:List (BitVec 64)):Fn Tryz.prog T zeM [.d (.int .i64 worlds),.d (.int .i64 agents),.d (dU val)] [] (.d (.int .i64 (zaA worlds agents val))) []:=by
 refine zj zz zj6 (by show 3≤35;decide) ?_
 (repeat' ((conv=>whnf);first|refine vA ?_|(refine vF ?_ ?_<;>intro hc<;>try simp only [vL] at hc)|refine vJ fun hg=>?_|refine vT ?_|refine vX ?_));all_goals try conv=>whnf
 ·simp [zaA, *]
 ·simp [zaA, *]
 ·rw [zaA,if_neg (by omega),if_pos (by omega)]
 ·rw [zaA,if_neg (by omega),if_pos (by omega)]
 ·refine zX (fun (k:Nat)=>[(0,.d (.int .i64 (worlds))),(2,.d (dU val)),(7,.d (.int .i64 ((k:Int))))]) (fun (k:Nat)=>k≤val.length∧val.any (bad worlds)=(val.drop k).any (bad worlds)) (fun (k:Nat)=>val.length - k) (0) (⟨by simp,by simp⟩) (by (repeat' first|exact trivial|exact rfl|refine And.intro ?_ ?_)) ?_
  rintro k ⟨hk,hI⟩
  (repeat' ((conv=>whnf);first|refine vA ?_|((first|refine vD ?_ ?_|refine vF ?_ ?_)<;>intro hc<;>try simp only [vL] at hc)|refine vJ fun hg=>?_|refine vT ?_|(refine vQ ?_ fun x hx=>?_;·omega)|(refine vO ?_ ?_;·omega)|(refine vU ?_ ?_;·kernel_rfl)|refine vX ?_|(refine yD (zrK _ ?_) ⟨⟨rfl,rfl⟩,rfl⟩ rfl ?_;(·omega))|fail));all_goals try conv=>whnf
  ·have hb:bad worlds x=true:=by simpa [bad] using hc
   rw [zaA,if_neg (by omega),if_neg (by omega),hI,zar hx];simp [hb]
  ·have hb:bad worlds x=false:=by simpa [bad] using hc
   exact ⟨k+1,[],[],⟨by (omega),by rw [hI,zar hx];simp [hb]⟩,by (omega),by (refine ⟨rfl,rfl,rfl,?_,?_⟩;repeat' first|exact trivial|exact rfl|refine And.intro ?_ ?_)⟩
  ·rw [zaA,if_neg (by omega),if_neg (by omega),hI,List.drop_eq_nil_of_le (by omega)];simp
theorem zrE (a b:List Int):Fn Tryz.prog T zdo [.d (dI a),.d (dI b)] [] (.d (.bool (a==b))) []:=by
 refine zj zz zg8 (by show 2≤26;decide) ?_
 (repeat' ((conv=>whnf);first|refine vA ?_|(refine vD ?_ ?_<;>intro hc<;>try simp only [vL] at hc)|refine vJ fun hg=>?_|refine vT ?_|refine vZ ?_));all_goals try conv=>whnf
 ·have:a≠b:=fun e=>hc (by rw [e])
  simp [this]
 ·refine zX (fun (k:Nat)=>[(0,.d (dI a)),(1,.d (dI b)),(12,.d (.int .i64 ((a.map (D.int .i64)).length:Int))),(13,.d (.int .i64 ((k:Int))))]) (fun (k:Nat)=>k≤a.length∧(a==b)=(a.drop k==b.drop k)) (fun (k:Nat)=>a.length - k) (0) (⟨by simp,by simp⟩) (by (repeat' first|exact trivial|exact rfl|refine And.intro ?_ ?_)) ?_
  rintro k ⟨hk,hI⟩
  (repeat' ((conv=>whnf);first|refine vA ?_|((first|refine vD ?_ ?_|refine vF ?_ ?_)<;>intro hc<;>try simp only [vL] at hc)|refine vT ?_|(refine vQ ?_ fun x hx=>?_;·omega)|(refine vO ?_ ?_;·omega)|(refine vU ?_ ?_;·kernel_rfl)|refine vZ ?_));all_goals try conv=>whnf
  ·rw [hI,zar ‹a[k]? = some _›,zar ‹b[k]? = some _›];simp [hc]
  ·exact ⟨k+1,[],[],⟨by (omega),by rw [hI,zar ‹a[k]? = some _›,zar ‹b[k]? = some _›];simp [hc]⟩,by (omega),by (refine ⟨rfl,rfl,rfl,?_,?_⟩;repeat' first|exact trivial|exact rfl|refine And.intro ?_ ?_)⟩
  ·rw [hI,List.drop_eq_nil_of_le (by omega),List.drop_eq_nil_of_le (by omega)];rfl
structure PM where
 W:Int
 val:List (BitVec 64)
 cell:List (List Int)
 rank:List (List Int)
 deriving DecidableEq
abbrev dPM (p:PM):D := .agg [.int .i64 p.W,dU p.val,dII p.cell,dII p.rank]
theorem zh1 (s:BitVec 64) (n:Nat):(s >>> n)&&&1#64=1#64↔s.getLsbD n=true:=by
 constructor
 ·intro h
  have:=congrArg (fun x=>x.getLsbD 0) h
  simpa using this
 ·intro h
  apply BitVec.eq_of_getLsbD_eq
  intro i hi
  by_cases h0:i=0
  ·subst h0;simpa using h
  ·simp [h0]
theorem zgX (s:BitVec 64) (n:Nat):(s >>> n)&&&1#64=0#64↔s.getLsbD n=false:=by
 constructor
 ·intro h
  have:=congrArg (fun x=>x.getLsbD 0) h
  simpa using this
 ·intro h
  apply BitVec.eq_of_getLsbD_eq
  intro i hi
  by_cases h0:i=0
  ·subst h0;simpa using h
  ·simp [h0]
@[irreducible] def bit (s:BitVec 64) (i:Nat):Bool:=s.getLsbD i
def at0 (l:List Int) (i:Nat):Int:=l.getD i 0
theorem zw {l:List Int} {i:Nat} {x:Int} (h:l[i]? = some x):at0 l i=x:=by simp [at0,List.getD,h]
theorem ziu {l:List Int} {i:Nat} (h:i < l.length):l[i]? = some (at0 l i):=by simp [at0,List.getD,h]
abbrev zqE (cell:List Int):Prop := ∀ w,w < cell.length→0≤at0 cell w∧at0 cell w≤w∧at0 cell (at0 cell w).toNat=at0 cell w
abbrev zkT (cell rank:List Int):Prop := ∀ w,w < cell.length→0≤at0 rank w∧(at0 rank w=0 ∨ ∃ v,v < cell.length∧at0 cell v=at0 cell w∧at0 rank v=at0 rank w - 1)
theorem zwZ (cell:List Int):Fn Tryz.prog T zeL [.d (dI cell)] [] (.d (.bool (decide (zqE cell)))) []:=by
 refine zj zz zj5 (by show 1≤30;decide) ?_
 (repeat' ((conv=>whnf);first|refine vA ?_|refine vT ?_));all_goals try conv=>whnf
 refine zX (fun (k:Nat)=>[(0,.d (dI cell)),(3,.d (.int .i64 ((k:Int))))]) (fun (k:Nat)=>k≤cell.length ∧ ∀ w,w < k→0≤at0 cell w∧at0 cell w≤w∧at0 cell (at0 cell w).toNat=at0 cell w) (fun (k:Nat)=>cell.length - k) (0) (⟨by simp,by simp⟩) (by (repeat' first|exact trivial|exact rfl|refine And.intro ?_ ?_)) ?_
 rintro k ⟨hk,hI⟩
 (repeat' ((conv=>whnf);first|refine vA ?_|((first|refine vD ?_ ?_|refine vF ?_ ?_)<;>intro hc<;>try simp only [vL] at hc)|refine vJ fun hg=>?_|refine vT ?_|(refine vQ ?_ fun x hx=>?_;·omega)|((first|refine vO ?_ ?_|refine vS ?_ fun x hx=>?_);·omega)|refine vZ ?_));all_goals try conv=>whnf
 iterate 2
  ·symm;rw [decide_eq_false_iff_not];intro h
   have:=h k (by omega)
   rw [zw hx] at this;omega
 ·symm;rw [decide_eq_false_iff_not];intro h
  have:=h k (by omega)
  rw [zw ‹cell[k]? = some _›,zw hx] at this;omega
 ·have h0:=zw ‹cell[k]? = some _›
  have h1:=zw hx
  exact ⟨k+1,[],[],⟨by (omega),fun w hw=>by
   by_cases e:w=k
   ·subst e;rw [h0,h1];omega
   ·exact hI w (by omega)⟩,by (omega),by (refine ⟨rfl,rfl,rfl,?_,?_⟩;repeat' first|exact trivial|exact rfl|refine And.intro ?_ ?_)⟩
 ·symm;rw [decide_eq_true_eq];intro w hw;exact hI w (by omega)
end Go.Ab
namespace Go.Ab
open Go Go.Proofs
set_option maxRecDepth 10000
set_option maxHeartbeats 4000000
variable {T:Nat→Obj→Prop}
theorem zvm (cell rank:List Int) (hl:cell.length≤rank.length) (hr : ∀ x∈rank,inR .i64 x):Fn Tryz.prog T zek [.d (dI cell),.d (dI rank)] [] (.d (.bool (decide (zkT cell rank)))) []:=by
 refine zj zz ziA (by show 2≤56;decide) ?_
 (repeat' ((conv=>whnf);first|refine vA ?_|refine vT ?_));all_goals try conv=>whnf
 refine zX (fun (k:Nat)=>[(0,.d (dI cell)),(1,.d (dI rank)),(5,.d (.int .i64 ((k:Int))))]) (fun (k:Nat)=>k≤cell.length ∧ ∀ w,w < k→0≤at0 rank w∧(at0 rank w=0 ∨ ∃ v,v < cell.length∧at0 cell v=at0 cell w∧at0 rank v=at0 rank w - 1)) (fun (k:Nat)=>cell.length - k) (0) (⟨by simp,by simp⟩) (by (repeat' first|exact trivial|exact rfl|refine And.intro ?_ ?_)) ?_
 rintro k ⟨hk,hI⟩
 (repeat' ((conv=>whnf);first|refine vA ?_|(refine vF ?_ ?_<;>intro hc<;>try simp only [vL] at hc)|refine vJ fun hg=>?_|refine vT ?_|refine vN ‹_› ?_|(refine vQ ?_ fun x hx=>?_;·omega)|refine vZ ?_));all_goals try conv=>whnf
 ·symm;rw [decide_eq_false_iff_not];intro h
  have:=h k (by omega)
  rw [zw hx] at this;omega
 ·have hR:=hr _ (List.mem_of_getElem? hx)
  have h0:=zw hx
  obtain ⟨hR1,hR2⟩:=hR
  subst h0
  refine zX (fun ((j,b):Nat×Bool)=>[(0,.d (dI cell)),(1,.d (dI rank)),(5,.d (.int .i64 ((k:Int)))),(6,.d (.bool (b))),(7,.d (.int .i64 ((j:Int))))]) (fun ((j,b):Nat×Bool)=>j≤cell.length∧b=decide (at0 rank k=0 ∨ ∃ v,v < j∧at0 cell v=at0 cell k∧at0 rank v=at0 rank k - 1)) (fun ((j,b):Nat×Bool)=>cell.length - j) ((0,decide (at0 rank k=0))) (⟨by simp,by simp⟩) (by (repeat' first|exact trivial|exact rfl|exact .inl rfl|refine And.intro ?_ ?_)) ?_
  rintro ⟨j,b⟩ ⟨hj,hb⟩
  have step : ∀ b':Bool,(b'=true↔b=true∨(at0 cell j=at0 cell k∧at0 rank j=at0 rank k - 1))→b'=decide (at0 rank k=0 ∨ ∃ v,v < j+1∧at0 cell v=at0 cell k∧at0 rank v=at0 rank k - 1):=by
   intro b' h
   rw [Bool.eq_iff_iff,h,hb,decide_eq_true_eq,decide_eq_true_eq]
   constructor
   ·rintro ((h|⟨v,h1,h2⟩)|h)
    ·exact .inl h
    ·exact .inr ⟨v,by omega,h2⟩
    ·exact .inr ⟨j,by omega,h⟩
   ·rintro (h|⟨v,h1,h2⟩)
    ·exact .inl (.inl h)
    ·by_cases e:v=j
     ·subst e;exact .inr h2
     ·exact .inl (.inr ⟨v,by omega,h2⟩)
  (repeat' ((conv=>whnf);first|refine vA ?_|refine vE ?_|((first|refine vF ?_ ?_|refine vI ?_ ?_)<;>intro hc<;>try simp only [vL] at hc)|refine vJ fun hg=>?_|refine vT ?_|refine vN ‹_› ?_|(refine vQ ?_ fun x hx=>?_;·omega)|(refine vO ?_ ?_;·omega)|(refine vU ?_ ?_;·kernel_rfl)|refine vZ ?_));all_goals try conv=>whnf
  ·exact ⟨(j+1,true),[],[],⟨by (omega),step _ ⟨fun _ => .inl hc,fun _=>rfl⟩⟩,by ((simp only [vM] at *;omega)),by (refine ⟨rfl,rfl,rfl,?_,?_⟩;repeat' first|exact trivial|exact rfl|exact .inr (.inl ⟨rfl,rfl⟩)|refine And.intro ?_ ?_)⟩
  ·have h1:=zw ‹cell[j]? = some _›
   have h2:=zw ‹cell[k]? = some _›
   have h3:=zw hx
   exact ⟨(j+1,decide (x=at0 rank k - 1)),[],[],⟨by (omega),step _ ⟨fun h => .inr ⟨by omega,by have:=of_decide_eq_true h;omega⟩,fun h=>by
    rcases h with h|h
    ·rw [‹b=false›] at h;cases h
    ·exact decide_eq_true (by omega)⟩⟩,by ((simp only [vM] at *;omega)),by (refine ⟨rfl,rfl,rfl,?_,?_⟩;repeat' first|exact trivial|exact rfl|exact .inl rfl|refine And.intro ?_ ?_)⟩
  ·have h1:=zw ‹cell[j]? = some _›
   have h2:=zw ‹cell[k]? = some _›
   exact ⟨(j+1,false),[],[],⟨by (omega),step _ ⟨nofun,fun h=>by
    rcases h with h|h
    ·rw [‹b=false›] at h;cases h
    ·exact absurd (by omega) hc⟩⟩,by ((simp only [vM] at *;omega)),by (refine ⟨rfl,rfl,rfl,?_,?_⟩;repeat' first|exact trivial|exact rfl|exact .inr (.inr ⟨rfl,rfl⟩)|refine And.intro ?_ ?_)⟩
  ·have hbt:=of_decide_eq_true (hb.symm.trans hc)
   exact ⟨k+1,[],[],⟨by (omega),fun w hw=>by
    by_cases e:w=k
    ·subst e
     refine ⟨by omega,?_⟩
     have:=hbt
     rcases this with h|⟨v,h1,h2⟩
     ·exact .inl h
     ·exact .inr ⟨v,by omega,h2⟩
    ·exact hI w (by omega)⟩,by (omega),by (refine ⟨rfl,rfl,rfl,?_,?_⟩;repeat' first|exact trivial|exact rfl|refine And.intro ?_ ?_)⟩
  ·symm;rw [decide_eq_false_iff_not];intro h
   have h1:=of_decide_eq_false (hb.symm.trans hc)
   rcases (h k (by omega)).2 with h|⟨v,h2,h3⟩
   ·exact h1 (.inl h)
   ·exact h1 (.inr ⟨v,by omega,h3⟩)
 ·symm;rw [decide_eq_true_eq];intro w hw;exact hI w (by omega)
def zL (f:Nat→Bool):Nat→BitVec 64
 | 0=>0#64
 | k+1=>if f k then zL f k|||1#64 <<< k else zL f k
theorem ztb (k i:Nat):(1#64 <<< k).getLsbD i=(decide (i < 64)&&decide (i=k)):=by
 rw [BitVec.getLsbD_shiftLeft]
 by_cases h:i < 64
 ·by_cases h1:i < k
  ·simp [h,h1];omega
  ·by_cases h2:i=k
   ·subst h2;simp [h]
   ·have:i - k≠0:=by omega
    simp [h,h1,h2,this]
 ·simp [h]
theorem zf8 (f:Nat→Bool) : ∀ (n i:Nat),(zL f n).getLsbD i=(decide (i < 64)&&decide (i < n)&&f i)
 | 0,i=>by simp [zL]
 | n+1,i=>by
  have ih:=zf8 f n i
  unfold zL
  split
  ·rename_i h
   rw [BitVec.getLsbD_or,ih,ztb]
   by_cases h1:i=n
   ·subst h1;simp [h]
   ·by_cases h2:i < n
    ·simp [h1,h2,show i < n+1 by omega]
    ·simp [h1,h2,show ¬ i < n+1 by omega]
  ·rename_i h
   rw [ih]
   by_cases h1:i=n
   ·subst h1;simp [h]
   ·by_cases h2:i < n
    ·simp [h2,show i < n+1 by omega]
    ·simp [h2,show ¬ i < n+1 by omega]
def zgA (row:List Int) (w:Nat):BitVec 64:=zL (fun v=>at0 row v==at0 row w) row.length
theorem zu9 (p:PM) (a w:Int) (row:List Int) (ha:0≤a) (hr:p.cell[a.toNat]? = some row) (hw:0≤w) (hw':w < row.length):Fn Tryz.prog T zii [.d (dPM p),.d (.int .i64 a),.d (.int .i64 w)] [] (.d (.u64 (zgA row w.toNat))) []:=by
 refine zj zz zpg (by show 3≤37;decide) ?_
 (repeat' ((conv=>whnf);first|refine vA ?_|refine vJ fun hg=>?_|refine vT ?_|(refine vR ?_ ‹_› ?_;·omega)|fail));all_goals try conv=>whnf
 refine zu (fun ((k,s):Nat×BitVec 64)=>[(1,.d (.int .i64 (a))),(2,.d (.int .i64 (w))),(3,.ptr 0 0),(14,.d (dI row)),(15,.d (.int .i64 ((row.map (D.int .i64)).length:Int))),(7,.d (.u64 (s))),(16,.d (.int .i64 ((k:Int))))]) (fun ((k,s):Nat×BitVec 64)=>[(0,some (.box [.d (.int .i64 p.W),.d (dU p.val),.d (dII p.cell),.d (dII p.rank)]))]) 1 (fun ((k,s):Nat×BitVec 64)=>k≤row.length∧s=zL (fun v=>at0 row v==at0 row w.toNat) k) (fun ((k,s):Nat×BitVec 64)=>row.length - k) ((0,0#64)) [(0,0)] [] (⟨by simp,rfl⟩) (by (refine ⟨rfl,rfl,rfl,?_,?_⟩;repeat' first|exact trivial|exact rfl|refine And.intro ?_ ?_|refine ⟨_,rfl,?_⟩|decide)) ?_
 rintro ⟨k,s⟩ ⟨hk,hI⟩
 (repeat' ((conv=>whnf);first|refine vA ?_|(refine vF ?_ ?_<;>intro hc<;>try simp only [vL] at hc)|refine vT ?_|(refine vQ ?_ fun x hx=>?_;·omega)|((first|refine vO ?_ ?_|refine vR ?_ ‹_› ?_|refine vS ?_ fun x hx=>?_|refine vP ?_ ?_);·omega)|refine vY ?_));all_goals try conv=>whnf
 ·have h1:=zw ‹row[k]? = some _›
  have h2:=zw hx
  refine ⟨(k+1,_),[(0,0)],[],?_,?_,by (refine ⟨rfl,rfl,rfl,?_,?_⟩;repeat' first|exact trivial|exact rfl|refine And.intro ?_ ?_|refine ⟨_,rfl,?_⟩|decide)⟩
  ·exact ⟨by (omega),by rw [zL,if_pos (by simp;omega),hI];rfl⟩
  ·((simp only [vM] at *;omega))
 ·have h1:=zw ‹row[k]? = some _›
  have h2:=zw hx
  exact ⟨(k+1,s),[(0,0)],[],⟨by (omega),by rw [zL,if_neg (by simp;omega),hI]⟩,by ((simp only [vM] at *;omega)),by (refine ⟨rfl,rfl,rfl,?_,?_⟩;repeat' first|exact trivial|exact rfl|refine And.intro ?_ ?_|refine ⟨_,rfl,?_⟩|decide)⟩
 ·rw [hI,show k=row.length by omega];rfl
def zmy (rank:List Int) (s:BitVec 64) (n v:Nat):Bool:=s.getLsbD v&&decide (∀ u,u < n→s.getLsbD u=true→at0 rank v≤at0 rank u)
def zta (rank:List Int) (s:BitVec 64):BitVec 64:=zL (zmy rank s rank.length) rank.length
theorem zsT {rank:List Int} {s:BitVec 64} {n v:Nat} : zmy rank s n v=true↔s.getLsbD v=true ∧ ∀ u,u < n→s.getLsbD u=true→at0 rank v≤at0 rank u:=by
 simp [zmy]
theorem zwI {rank:List Int} {s:BitVec 64} {n i:Nat} : (zL (zmy rank s n) n).getLsbD i=true↔i < n∧s.getLsbD i=true ∧ ∀ u,u < n→s.getLsbD u=true→at0 rank i≤at0 rank u:=by
 rw [zf8]
 simp only [Bool.and_eq_true,decide_eq_true_eq,zsT]
 constructor
 ·rintro ⟨⟨_,h1⟩,h2⟩;exact ⟨h1,h2⟩
 ·rintro ⟨h1,h2⟩;exact ⟨⟨by have:=BitVec.lt_of_getLsbD h2.1;exact this,h1⟩,h2⟩
end Go.Ab
namespace Go.Ab
open Go Go.Proofs
set_option maxRecDepth 10000
set_option maxHeartbeats 4000000
variable {T:Nat→Obj→Prop}
def za (l:List (List Int)) (a:Nat):List Int:=l.getD a []
theorem zao {l:List (List Int)} {i:Nat} {x:List Int} (h:l[i]? = some x):za l i=x:=by simp [za,List.getD,h]
theorem zhz {l:List (List Int)} {i:Nat} (h:i < l.length):l[i]? = some (za l i):=by simp [za,List.getD,h]
abbrev zkR (p:PM):Prop := ∀ a,a < p.cell.length→((za p.cell a).length:Int)=p.W∧((za p.rank a).length:Int)=p.W
abbrev zd4 (p:PM):Prop := ∀ a,a < p.cell.length→zqE (za p.cell a)
abbrev zhn (p:PM):Prop := ∀ a,a < p.cell.length→zkT (za p.cell a) (za p.rank a)
def zp (p:PM):Int :=
 if zaA p.W p.cell.length p.val≠0 then zaA p.W p.cell.length p.val
 else if p.rank.length≠p.cell.length then 3
 else if ¬zkR p then 3
 else if ¬zd4 p then 1
 else if ¬zhn p then 9
 else 0
structure zww (p:PM):Prop where
 w1:1≤p.W
 w2:p.W≤64
 val : ∀ s∈p.val,bad p.W s=false
 n4:p.cell.length≤4
 v8:p.val.length≤8
 len:p.rank.length=p.cell.length
 lens:zkR p
 cells:zd4 p
 ranked:zhn p
theorem zqc {W n:Int} {val:List (BitVec 64)} (h:zaA W n val=0):1≤W∧W≤64∧val.length≤8∧n≤4 ∧ ∀ s∈val,bad W s=false:=by
 unfold zaA at h
 split at h
 ·cases h
 ·split at h
  ·cases h
  ·split at h
   ·cases h
   ·rename_i h1 h2 h3
    refine ⟨by omega,by omega,by omega,by omega,fun s hs=>?_⟩
    simp only [List.any_eq_true,not_exists,not_and] at h3
    simpa using h3 s hs
theorem zS {p:PM} (h:zp p=0):zww p:=by
 unfold zp at h
 split at h
 ·rename_i h0;exact absurd h h0
 ·rename_i h0
  obtain ⟨a1,a2,a3,a4,a5⟩:=zqc (Classical.not_not.1 h0)
  split at h
  ·cases h
  ·split at h
   ·cases h
   ·split at h
    ·cases h
    ·split at h
     ·cases h
     ·rename_i h1 h2 h3 h4
      exact ⟨a1,a2,a5,by omega,a3,Classical.not_not.1 h1,Classical.not_not.1 h2,Classical.not_not.1 h3,Classical.not_not.1 h4⟩
def zav (l:List (List Int)):Prop := ∀ r∈l,∀ x∈r,inR .i64 x
abbrev zaD (p:PM):Ob := .box [.d (.int .i64 p.W),.d (dU p.val),.d (dII p.cell),.d (dII p.rank)]
theorem zjx {p:PM} (h0:zaA p.W p.cell.length p.val=0) (h1:p.rank.length=p.cell.length) (h : ¬zkR p):zp p=3:=by
 rw [zp,if_neg (by omega),if_neg (by omega),if_pos h]
theorem znq {p:PM} (h0:zaA p.W p.cell.length p.val=0) (h1:p.rank.length=p.cell.length) (h2:zkR p) (h : ¬zd4 p):zp p=1:=by
 rw [zp,if_neg (by omega),if_neg (by omega),if_neg (not_not_intro h2),if_pos h]
theorem zrh {p:PM} (h0:zaA p.W p.cell.length p.val=0) (h1:p.rank.length=p.cell.length) (h2:zkR p) (h3:zd4 p) (h : ¬zhn p):zp p=9:=by
 rw [zp,if_neg (by omega),if_neg (by omega),if_neg (not_not_intro h2),if_neg (not_not_intro h3),if_pos h]
theorem zrg {p:PM} (h0:zaA p.W p.cell.length p.val=0) (h1:p.rank.length=p.cell.length) (h2:zkR p) (h3:zd4 p) (h4:zhn p):zp p=0:=by
 rw [zp,if_neg (by omega),if_neg (by omega),if_neg (not_not_intro h2),if_neg (not_not_intro h3),if_neg (not_not_intro h4)]
theorem ziq (p:PM) (hp:zav p.rank):Fn Tryz.prog T zeK [.d (dPM p)] [] (.d (.int .i64 (zp p))) []:=by
 refine zj zz zj4 (by show 1≤85;decide) ?_
 (repeat' ((conv=>whnf);first|refine vA ?_|(refine vD ?_ ?_<;>intro hc<;>try simp only [vL] at hc)|refine vJ fun hg=>?_|refine vT ?_|refine vX ?_|refine yD (zpd _ _ _) ⟨⟨rfl,rfl⟩,⟨rfl,rfl⟩,⟨rfl,rfl⟩,rfl⟩ rfl ?_));all_goals try conv=>whnf
 ·rw [List.length_map,zp,if_pos hc]
 ·rw [zp,if_neg (by omega),if_pos (by omega)]
 have hs0:=‹zaA p.W p.cell.length p.val=0›
 have hlr:p.rank.length=p.cell.length:=by omega
 refine zu (fun (k:Nat)=>[(1,.ptr 0 0),(4,.d (.int .i64 ((k:Int))))]) (fun (k:Nat)=>[(0,some (zaD p))]) 1 (fun (k:Nat)=>k≤p.cell.length ∧ ∀ a,a < k→((za p.cell a).length:Int)=p.W∧((za p.rank a).length:Int)=p.W) (fun (k:Nat)=>p.cell.length - k) (0) [(0,0)] [] (⟨by simp,by simp⟩) (by (refine ⟨rfl,rfl,rfl,?_,?_⟩;repeat' first|exact trivial|exact rfl|refine And.intro ?_ ?_|refine ⟨_,rfl,?_⟩|decide)) ?_
 rintro k ⟨hk,hI⟩
 (repeat' ((conv=>whnf);first|refine vA ?_|((first|refine vD ?_ ?_|refine vF ?_ ?_)<;>intro hc<;>try simp only [vL] at hc)|refine vJ fun hg=>?_|refine vT ?_|(refine vQ ?_ fun x hx=>?_;·omega)|(refine vO ?_ ?_;·omega)|(refine vU ?_ ?_;·kernel_rfl)|refine vX ?_));all_goals try conv=>whnf
 ·have h1:=zao hx
  refine (zjx hs0 hlr fun h=>?_).symm
  have:=(h k (by omega)).1
  rw [h1] at this;exact hc this
 ·have h1:=zao hx
  refine (zjx hs0 hlr fun h=>?_).symm
  have:=(h k (by omega)).2
  rw [h1] at this;exact hc this
 ·have h1:=zao ‹p.cell[k]? = some _›
  have h2:=zao ‹p.rank[k]? = some _›
  exact ⟨k+1,[(0,0)],[],⟨by (omega),fun a ha=>by
   by_cases e:a=k
   ·subst e;rw [h1,h2];omega
   ·exact hI a (by omega)⟩,by (omega),by (refine ⟨rfl,rfl,rfl,?_,?_⟩;repeat' first|exact trivial|exact rfl|refine And.intro ?_ ?_|refine ⟨_,rfl,?_⟩|decide)⟩
 have hL:zkR p:=fun a ha=>hI a (by omega)
 refine zu (fun (k:Nat)=>[(1,.ptr 0 0),(5,.d (.int .i64 ((k:Int))))]) (fun (k:Nat)=>[(0,some (zaD p))]) 1 (fun (k:Nat)=>k≤p.cell.length ∧ ∀ a,a < k→zqE (za p.cell a)) (fun (k:Nat)=>p.cell.length - k) (0) [(0,0)] [] (⟨by simp,by simp⟩) (by (refine ⟨rfl,rfl,rfl,?_,?_⟩;repeat' first|exact trivial|exact rfl|refine And.intro ?_ ?_|refine ⟨_,rfl,?_⟩|decide)) ?_
 rintro k ⟨hk,hI⟩
 (repeat' ((conv=>whnf);first|refine vA ?_|refine vE ?_|(refine vF ?_ ?_<;>intro hc<;>try simp only [vL] at hc)|refine vJ fun hg=>?_|refine vT ?_|(refine vQ ?_ fun x hx=>?_;·omega)|(refine vO ?_ ?_;·omega)|refine vX ?_|refine yD (zwZ _) ⟨⟨rfl,rfl⟩,rfl⟩ rfl ?_));all_goals try conv=>whnf
 ·have h1:=zao hx
  exact ⟨k+1,[(0,0)],[],⟨by (omega),fun a ha=>by
   by_cases e:a=k
   ·subst e;rw [h1];assumption
   ·exact hI a (by omega)⟩,by (omega),by (refine ⟨rfl,rfl,rfl,?_,?_⟩;repeat' first|exact trivial|exact rfl|refine And.intro ?_ ?_|refine ⟨_,rfl,?_⟩|decide)⟩
 ·have h1:=zao hx
  refine (znq hs0 hlr hL fun h=>hc ?_).symm
  rw [← h1];exact h k (by omega)
 have hC:zd4 p:=fun a ha=>hI a (by omega)
 refine zu (fun (k:Nat)=>[(1,.ptr 0 0),(6,.d (.int .i64 ((k:Int))))]) (fun (k:Nat)=>[(0,some (zaD p))]) 1 (fun (k:Nat)=>k≤p.cell.length ∧ ∀ a,a < k→zkT (za p.cell a) (za p.rank a)) (fun (k:Nat)=>p.cell.length - k) (0) [(0,0)] [] (⟨by simp,by simp⟩) (by (refine ⟨rfl,rfl,rfl,?_,?_⟩;repeat' first|exact trivial|exact rfl|refine And.intro ?_ ?_|refine ⟨_,rfl,?_⟩|decide)) ?_
 rintro k ⟨hk,hI⟩
 (repeat' ((conv=>whnf);first|refine vA ?_|(refine vF ?_ ?_<;>intro hc<;>try simp only [vL] at hc)|refine vJ fun hg=>?_|refine vT ?_|(refine vQ ?_ fun x hx=>?_;·omega)|refine vX ?_));all_goals try conv=>whnf
 ·have h1:=zao ‹p.cell[k]? = some _›
  have h2:=zao ‹p.rank[k]? = some _›
  have h3:=hL k (by omega)
  subst h1;subst h2
  refine zai.data (zvm (za p.cell k) (za p.rank k) (by omega) (hp _ (List.mem_of_getElem? hx))) (by (repeat refine ⟨⟨rfl,rfl⟩,?_⟩);rfl) rfl ?_
  (repeat' ((conv=>whnf);first|refine vE ?_|(refine vF ?_ ?_<;>intro hc)|refine vT ?_|(refine vO ?_ ?_;·omega)|(refine vU ?_ ?_;·kernel_rfl)|refine vX ?_));all_goals try conv=>whnf
  ·exact ⟨k+1,[(0,0)],[],⟨by (omega),fun a ha=>by
    by_cases e:a=k
    ·subst e;assumption
    ·exact hI a (by omega)⟩,by (omega),by (refine ⟨rfl,rfl,rfl,?_,?_⟩;repeat' first|exact trivial|exact rfl|refine And.intro ?_ ?_|refine ⟨_,rfl,?_⟩|decide)⟩
  ·exact (zrh hs0 hlr hL hC fun h=>hc (h k (by omega))).symm
 ·exact (zrg hs0 hlr hL hC fun a ha=>hI a (by omega)).symm
theorem zw2 (hC : ∀ p,zav p.rank→Fn Tryz.prog T zgd [.d (dPM p)] [] (.d (.int .i64 (zp p))) []) (p:PM) (hp:zav p.rank) (a w:Int):Fn Tryz.prog T zge [.d (dPM p),.d (.int .i64 a),.d (.int .i64 w)] [] (.d (.bool (decide (zp p=0∧0≤a∧a < p.cell.length∧0≤w∧w < p.W)))) []:=by
 refine zj zz zqx (by show 3≤31;decide) ?_
 (repeat' ((conv=>whnf);first|refine vA ?_|(refine vF ?_ ?_<;>intro hc<;>try simp only [vL] at hc)|refine vJ fun hg=>?_|refine vT ?_|refine vZ ?_|refine yD (hC _ hp) (by (repeat refine ⟨⟨rfl,rfl⟩,?_⟩);rfl) rfl ?_));all_goals try conv=>whnf
 ·simp [*]
 all_goals
  symm;rw [decide_eq_false_iff_not];omega
theorem zzl (p:PM):Fn Tryz.prog T zf0 [.d (dPM p)] [] (.d (.bool (decide (p.val.length≤20∧p.cell.length≤8∧p.rank.length≤8∧(∀ a,a < p.cell.length→(za p.cell a).length≤20) ∧ ∀ a,a < p.rank.length→(za p.rank a).length≤20)))) []:=by
 refine zj zz zlR (by show 1≤49;decide) ?_
 (repeat' ((conv=>whnf);first|refine vA ?_|(refine vF ?_ ?_<;>intro hc<;>try simp only [vL] at hc)|refine vJ fun hg=>?_|refine vT ?_|refine vZ ?_));all_goals try conv=>whnf
 iterate 3
  ·symm;rw [decide_eq_false_iff_not];omega
 refine zu (fun (k:Nat)=>[(1,.ptr 0 0),(3,.d (.int .i64 ((k:Int))))]) (fun (k:Nat)=>[(0,some (zaD p))]) 1 (fun (k:Nat)=>k≤p.cell.length ∧ ∀ a,a < k→(za p.cell a).length≤20) (fun (k:Nat)=>p.cell.length - k) (0) [(0,0)] [] (⟨by simp,by simp⟩) (by (refine ⟨rfl,rfl,rfl,?_,?_⟩;repeat' first|exact trivial|exact rfl|refine And.intro ?_ ?_|refine ⟨_,rfl,?_⟩|decide)) ?_
 rintro k ⟨hk,hI⟩
 (repeat' ((conv=>whnf);first|refine vA ?_|(refine vF ?_ ?_<;>intro hc<;>try simp only [vL] at hc)|refine vJ fun hg=>?_|refine vT ?_|(refine vQ ?_ fun x hx=>?_;·omega)|(refine vO ?_ ?_;·omega)|refine vZ ?_));all_goals try conv=>whnf
 ·have h1:=zao hx
  symm;rw [decide_eq_false_iff_not];intro h
  have:=h.2.2.2.1 k (by omega)
  rw [h1] at this;omega
 ·have h1:=zao hx
  exact ⟨k+1,[(0,0)],[],⟨by (omega),fun a ha=>by
   by_cases e:a=k
   ·subst e;rw [h1];omega
   ·exact hI a (by omega)⟩,by (omega),by (refine ⟨rfl,rfl,rfl,?_,?_⟩;repeat' first|exact trivial|exact rfl|refine And.intro ?_ ?_|refine ⟨_,rfl,?_⟩|decide)⟩
 have hI1 : ∀ a,a < p.cell.length→(za p.cell a).length≤20:=fun a ha=>hI a (by omega)
 refine zu (fun (k:Nat)=>[(1,.ptr 0 0),(4,.d (.int .i64 ((k:Int))))]) (fun (k:Nat)=>[(0,some (zaD p))]) 1 (fun (k:Nat)=>k≤p.rank.length ∧ ∀ a,a < k→(za p.rank a).length≤20) (fun (k:Nat)=>p.rank.length - k) (0) [(0,0)] [] (⟨by simp,by simp⟩) (by (refine ⟨rfl,rfl,rfl,?_,?_⟩;repeat' first|exact trivial|exact rfl|refine And.intro ?_ ?_|refine ⟨_,rfl,?_⟩|decide)) ?_
 rintro k ⟨hk,hI⟩
 (repeat' ((conv=>whnf);first|refine vA ?_|(refine vF ?_ ?_<;>intro hc<;>try simp only [vL] at hc)|refine vJ fun hg=>?_|refine vT ?_|(refine vQ ?_ fun x hx=>?_;·omega)|(refine vO ?_ ?_;·omega)|refine vZ ?_));all_goals try conv=>whnf
 ·have h1:=zao hx
  symm;rw [decide_eq_false_iff_not];intro h
  have:=h.2.2.2.2 k (by omega)
  rw [h1] at this;omega
 ·have h1:=zao hx
  exact ⟨k+1,[(0,0)],[],⟨by (omega),fun a ha=>by
   by_cases e:a=k
   ·subst e;rw [h1];omega
   ·exact hI a (by omega)⟩,by (omega),by (refine ⟨rfl,rfl,rfl,?_,?_⟩;repeat' first|exact trivial|exact rfl|refine And.intro ?_ ?_|refine ⟨_,rfl,?_⟩|decide)⟩
 ·symm;rw [decide_eq_true_eq];exact ⟨by omega,by omega,by omega,hI1,fun a ha=>hI a (by omega)⟩
end Go.Ab
namespace Go.Ab
open Go Go.Proofs
set_option maxRecDepth 10000
set_option maxHeartbeats 4000000
variable {T:Nat→Obj→Prop}
def zlD (x:Int):List Int→List Int
 | []=>[x]
 | y::r=>if x < y then x::y::r else if x=y then y::r else y::zlD x r
def zko:List Int→List Int
 | []=>[]
 | x::r=>zlD x (zko r)
def zy (cell:List Int):List Int:=cell.foldl (fun l c=>if c∈l then l else l++[c]) []
def zvr (cell rank:List Int) (c:Int):List Int:=((List.range cell.length).filter fun w=>at0 cell w==c).map (at0 rank)
def zaa (cell rank:List Int) (c:Int):List Int:=zko (zvr cell rank c)
abbrev zf7 (cell rank:List Int):List (D×D):=(zy cell).map fun c=>(.int .i64 c,dI (zaa cell rank c))
def zc1 (T:Nat→Obj→Prop):Prop := ∀ cell rank:List Int,cell.length≤rank.length→cell.length≤64→Fn Tryz.prog T zd2 [.d (dI cell),.d (dI rank)] [] (.d (.map (zf7 cell rank))) []
def zmp (l:List Int):Prop := ∀ i,i < l.length→at0 l i=i
instance (l:List Int):Decidable (zmp l):=inferInstanceAs (Decidable (∀ i,i < l.length→at0 l i=i))
theorem zpW {α β:Type} (f:α→β) : ∀ (l:List α) (i:Nat),(l.map f).eraseIdx i=(l.eraseIdx i).map f
 | [],_=>rfl
 | _::_,0=>rfl
 | x::l,i+1=>congrArg (f x :: ·) (zpW f l i)
abbrev zhY (l:List Int):Prop:=l.Pairwise (· < ·)
theorem znH {x y:Int} : ∀ {l:List Int},y∈zlD x l↔y=x∨y∈l
 | []=>by simp [zlD]
 | z::r=>by
  unfold zlD
  split
  ·simp
  ·split
   ·rename_i h;subst h;simp
   ·rw [List.mem_cons,znH,List.mem_cons]
    constructor
    ·rintro (h|h|h)
     ·exact .inr (.inl h)
     ·exact .inl h
     ·exact .inr (.inr h)
    ·rintro (h|h|h)
     ·exact .inr (.inl h)
     ·exact .inl h
     ·exact .inr (.inr h)
theorem znc {x:Int} : ∀ {l:List Int},zhY l→zhY (zlD x l)
 | [],_=>by simp [zlD,zhY]
 | z::r,h=>by
  unfold zlD
  obtain ⟨h1,h2⟩:=List.pairwise_cons.1 h
  split
  ·rename_i hx
   refine List.pairwise_cons.2 ⟨fun y hy=>?_,h⟩
   rcases List.mem_cons.1 hy with rfl|hy
   ·exact hx
   ·have:=h1 y hy;omega
  ·split
   ·exact h
   ·refine List.pairwise_cons.2 ⟨fun y hy=>?_,znc h2⟩
    rcases znH.1 hy with rfl|hy
    ·omega
    ·exact h1 y hy
theorem zlV {y:Int} : ∀ {l:List Int},y∈zko l↔y∈l
 | []=>by simp [zko]
 | x::r=>by rw [zko,znH,zlV,List.mem_cons]
theorem zeX : ∀ {l:List Int},zhY (zko l)
 | []=>List.Pairwise.nil
 | x::r=>znc zeX
theorem zlU {c:Int} : ∀ {l acc:List Int},c∈l.foldl (fun l c=>if c∈l then l else l++[c]) acc↔c∈acc∨c∈l
 | [],acc=>by simp
 | x::r,acc=>by
  rw [List.foldl_cons,zlU]
  split
  ·rename_i h
   rw [List.mem_cons]
   constructor
   ·rintro (h1|h1)
    ·exact .inl h1
    ·exact .inr (.inr h1)
   ·rintro (h1|rfl|h1)
    ·exact .inl h1
    ·exact .inl h
    ·exact .inr h1
  ·rw [List.mem_append,List.mem_singleton,List.mem_cons,or_assoc]
theorem zj9 {c:Int} {cell:List Int} : c∈zy cell↔c∈cell:=by
 rw [zy,zlU];simp
theorem zfH {cell rank:List Int} {c x:Int} : x∈zaa cell rank c ↔ ∃ w,w < cell.length∧at0 cell w=c∧at0 rank w=x:=by
 rw [zaa,zlV,zvr,List.mem_map]
 constructor
 ·rintro ⟨w,h,rfl⟩
  rw [List.mem_filter,List.mem_range] at h
  exact ⟨w,h.1,by simpa using h.2,rfl⟩
 ·rintro ⟨w,h1,h2,rfl⟩
  exact ⟨w,List.mem_filter.2 ⟨List.mem_range.2 h1,by simpa using h2⟩,rfl⟩
theorem zfl {l:List Int} {x:Int} : x∈l ↔ ∃ i,i < l.length∧at0 l i=x:=by
 constructor
 ·intro h
  obtain ⟨i,hi⟩:=List.getElem?_of_mem h
  exact ⟨i,(List.getElem?_eq_some_iff.1 hi).1,zw hi⟩
 ·rintro ⟨i,hi,rfl⟩
  exact List.mem_of_getElem? (ziu hi)
theorem zkj {l:List Int} (h:zhY l) {i j:Nat} (hij:i < j) (hj:j < l.length):at0 l i < at0 l j:=by
 have h1:=ziu (show i < l.length by omega)
 have h2:=ziu hj
 obtain ⟨_,e1⟩:=List.getElem?_eq_some_iff.1 h1
 obtain ⟨_,e2⟩:=List.getElem?_eq_some_iff.1 h2
 rw [← e1,← e2]
 exact List.pairwise_iff_getElem.1 h i j (by omega) hj hij
theorem zmY {l:List Int} (h:zhY l):zmp l ↔ ∀ x∈l,0≤x∧(x=0∨x - 1∈l):=by
 constructor
 ·intro hg x hx
  obtain ⟨i,hi,rfl⟩:=zfl.1 hx
  rw [hg i hi]
  refine ⟨by omega,?_⟩
  by_cases e:i=0
  ·exact .inl (by omega)
  ·exact .inr (zfl.2 ⟨i - 1,by omega,by rw [hg (i - 1) (by omega)];omega⟩)
 ·intro hc i
  induction i using Nat.strongRecOn with
  | _ i ih =>
   intro hi
   obtain ⟨h0,h1⟩:=hc _ (zfl.2 ⟨i,hi,rfl⟩)
   by_cases e:i=0
   ·subst e
    rcases h1 with h1|h1
    ·exact h1
    ·obtain ⟨j,hj,hj'⟩:=zfl.1 h1
     by_cases e:j=0
     ·subst e;omega
     ·have:=zkj h (show 0 < j by omega) hj;omega
   ·have hp:=ih (i - 1) (by omega) (by omega)
    have hr:=zkj h (show i - 1 < i by omega) hi
    rcases h1 with h1|h1
    ·omega
    ·obtain ⟨j,hj,hj'⟩:=zfl.1 h1
     have:j < i:=by
      apply Classical.byContradiction
      intro hn
      by_cases e:j=i
      ·subst e;omega
      ·have:=zkj h (show i < j by omega) hj;omega
     have:=ih j this hj
     omega
theorem zis {cell rank:List Int} : (∀ c∈zy cell,zmp (zaa cell rank c))↔zkT cell rank:=by
 constructor
 ·intro h w hw
  have hc:=h (at0 cell w) (zj9.2 (zfl.2 ⟨w,hw,rfl⟩))
  replace hc:=(zmY zeX).1 hc
  obtain ⟨h1,h2⟩:=hc (at0 rank w) (zfH.2 ⟨w,hw,rfl,rfl⟩)
  refine ⟨h1,h2.imp_right fun h3=>?_⟩
  obtain ⟨v,hv,h4,h5⟩:=zfH.1 h3
  exact ⟨v,hv,h4,h5⟩
 ·intro h c hc
  refine (zmY zeX).2 ?_
  intro x hx
  obtain ⟨w,hw,rfl,rfl⟩:=zfH.1 hx
  obtain ⟨h1,h2⟩:=h w hw
  refine ⟨h1,h2.imp_right fun ⟨v,hv,h4,h5⟩=>?_⟩
  exact zfH.2 ⟨v,hv,h4,h5⟩
theorem zdz (hR:zc1 T) (p:PM) (hp:zav p.rank):Fn Tryz.prog T zgd [.d (dPM p)] [] (.d (.int .i64 (zp p))) []:=by
 refine zj zz zqw (by show 1≤123;decide) ?_
 (repeat' ((conv=>whnf);first|refine vA ?_|(refine vD ?_ ?_<;>intro hc<;>try simp only [vL] at hc)|refine vJ fun hg=>?_|refine vT ?_|refine vX ?_|refine yD (zpb _ _ _) ⟨⟨rfl,rfl⟩,⟨rfl,rfl⟩,⟨rfl,rfl⟩,rfl⟩ rfl ?_));all_goals try conv=>whnf
 ·rw [List.length_map,zp,if_pos hc]
 ·rw [zp,if_neg (by omega),if_pos (by omega)]
 have hs0:=‹zaA p.W p.cell.length p.val=0›
 have hW64:=(zqc hs0).2.1
 have hlr:p.rank.length=p.cell.length:=by omega
 refine zu (fun (k:Nat)=>[(1,.ptr 0 0),(34,.d (.int .i64 ((p.cell.map dI).length:Int))),(35,.d (.int .i64 ((k:Int))))]) (fun (k:Nat)=>[(0,some (zaD p))]) 1 (fun (k:Nat)=>k≤p.cell.length ∧ ∀ a,a < k→((za p.cell a).length:Int)=p.W∧((za p.rank a).length:Int)=p.W) (fun (k:Nat)=>p.cell.length - k) (0) [(0,0)] [] (⟨by simp,by simp⟩) (by (refine ⟨rfl,rfl,rfl,?_,?_⟩;repeat' first|exact trivial|exact rfl|refine And.intro ?_ ?_|refine ⟨_,rfl,?_⟩|decide)) ?_
 rintro k ⟨hk,hI⟩
 (repeat' ((conv=>whnf);first|refine vA ?_|((first|refine vD ?_ ?_|refine vF ?_ ?_)<;>intro hc<;>try simp only [vL] at hc)|refine vJ fun hg=>?_|refine vT ?_|(refine vQ ?_ fun x hx=>?_;·omega)|(refine vO ?_ ?_;·omega)|(refine vU ?_ ?_;·kernel_rfl)|refine vX ?_));all_goals try conv=>whnf
 ·have h1:=zao hx
  refine (zjx hs0 hlr fun h=>?_).symm
  have:=(h k (by omega)).1
  rw [h1] at this;exact hc this
 ·have h1:=zao hx
  refine (zjx hs0 hlr fun h=>?_).symm
  have:=(h k (by omega)).2
  rw [h1] at this;exact hc this
 ·have h1:=zao ‹p.cell[k]? = some _›
  have h2:=zao ‹p.rank[k]? = some _›
  exact ⟨k+1,[(0,0)],[],⟨by (omega),fun a ha=>by
   by_cases e:a=k
   ·subst e;rw [h1,h2];omega
   ·exact hI a (by omega)⟩,by (omega),by (refine ⟨rfl,rfl,rfl,?_,?_⟩;repeat' first|exact trivial|exact rfl|refine And.intro ?_ ?_|refine ⟨_,rfl,?_⟩|decide)⟩
 have hL:zkR p:=fun a ha=>hI a (by omega)
 refine zu (fun (k:Nat)=>[(1,.ptr 0 0),(60,.d (dII p.cell)),(61,.d (.int .i64 ((p.cell.map dI).length:Int))),(62,.d (.int .i64 ((k:Int))))]) (fun (k:Nat)=>[(0,some (zaD p))]) 1 (fun (k:Nat)=>k≤p.cell.length ∧ ∀ a,a < k→zqE (za p.cell a)) (fun (k:Nat)=>p.cell.length - k) (0) [(0,0)] [] (⟨by simp,by simp⟩) (by (refine ⟨rfl,rfl,rfl,?_,?_⟩;repeat' first|exact trivial|exact rfl|refine And.intro ?_ ?_|refine ⟨_,rfl,?_⟩|decide)) ?_
 rintro k ⟨hk,hI⟩
 (repeat' ((conv=>whnf);first|refine vA ?_|(refine vF ?_ ?_<;>intro hc<;>try simp only [vL] at hc)|refine vJ fun hg=>?_|refine vT ?_|(refine vQ ?_ fun x hx=>?_;·omega)|fail));all_goals try conv=>whnf
 ·have h1:=zao hx
  subst h1
  refine zu (fun (j:Nat)=>[(1,.ptr 0 0),(60,.d (dII p.cell)),(61,.d (.int .i64 ((p.cell.map dI).length:Int))),(62,.d (.int .i64 ((k:Int)))),(6,.d (dI (za p.cell k))),(66,.d (dI (za p.cell k))),(67,.d (.int .i64 (((za p.cell k).map (D.int .i64)).length:Int))),(68,.d (.int .i64 ((j:Int))))]) (fun (j:Nat)=>[(0,some (zaD p))]) 1 (fun (j:Nat)=>j≤(za p.cell k).length ∧ ∀ w,w < j→0≤at0 (za p.cell k) w∧at0 (za p.cell k) w≤w∧at0 (za p.cell k) (at0 (za p.cell k) w).toNat=at0 (za p.cell k) w) (fun (j:Nat)=>(za p.cell k).length - j) (0) [(0,0)] [] (⟨by simp,by simp⟩) (by (refine ⟨rfl,rfl,rfl,?_,?_⟩;repeat' first|exact trivial|exact rfl|refine And.intro ?_ ?_|refine ⟨_,rfl,?_⟩|decide)) ?_
  rintro j ⟨hj,hJ⟩
  (repeat' ((conv=>whnf);first|refine vA ?_|((first|refine vD ?_ ?_|refine vF ?_ ?_)<;>intro hc<;>try simp only [vL] at hc)|refine vT ?_|(refine vQ ?_ fun x hx=>?_;·omega)|((first|refine vO ?_ ?_|refine vS ?_ fun x hx=>?_);·omega)|refine vX ?_));all_goals try conv=>whnf
  iterate 2
   ·refine (znq hs0 hlr hL fun h=>?_).symm
    have:=h k (by omega) j (by omega)
    rw [zw hx] at this;omega
  ·refine (znq hs0 hlr hL fun h=>?_).symm
   have:=h k (by omega) j (by omega)
   rw [zw ‹(za p.cell k)[j]? = some _›,zw hx] at this;omega
  ·have h0:=zw ‹(za p.cell k)[j]? = some _›
   have h1:=zw hx
   exact ⟨j+1,[(0,0)],[],⟨by (omega),fun w hw=>by
    by_cases e:w=j
    ·subst e;rw [h0,h1];omega
    ·exact hJ w (by omega)⟩,by (omega),by (refine ⟨rfl,rfl,rfl,?_,?_⟩;repeat' first|exact trivial|exact rfl|refine And.intro ?_ ?_|refine ⟨_,rfl,?_⟩|decide)⟩
  ·exact ⟨k+1,[(0,0)],[],⟨by (omega),fun a ha=>by
    by_cases e:a=k
    ·subst e;exact fun w hw=>hJ w (by omega)
    ·exact hI a (by omega)⟩,by (omega),by (refine ⟨rfl,rfl,rfl,?_,?_⟩;repeat' first|exact trivial|exact rfl|refine And.intro ?_ ?_|refine ⟨_,rfl,?_⟩|decide)⟩
 have hC:zd4 p:=fun a ha=>hI a (by omega)
 refine zu (fun (k:Nat)=>[(1,.ptr 0 0),(91,.d (dII p.cell)),(92,.d (.int .i64 ((p.cell.map dI).length:Int))),(93,.d (.int .i64 ((k:Int))))]) (fun (k:Nat)=>[(0,some (zaD p))]) 1 (fun (k:Nat)=>k≤p.cell.length ∧ ∀ a,a < k→zkT (za p.cell a) (za p.rank a)) (fun (k:Nat)=>p.cell.length - k) (0) [(0,0)] [] (⟨by simp,by simp⟩) (by (refine ⟨rfl,rfl,rfl,?_,?_⟩;repeat' first|exact trivial|exact rfl|refine And.intro ?_ ?_|refine ⟨_,rfl,?_⟩|decide)) ?_
 rintro k ⟨hk,hI⟩
 (repeat' ((conv=>whnf);first|refine vA ?_|(refine vF ?_ ?_<;>intro hc<;>try simp only [vL] at hc)|refine vT ?_|(refine vQ ?_ fun x hx=>?_;·omega)|refine vX ?_));all_goals try conv=>whnf
 ·have h1:=zao ‹p.cell[k]? = some _›
  have h2:=zao ‹p.rank[k]? = some _›
  have h3:=hL k (by omega)
  subst h1;subst h2
  refine zai.dataN (hR (za p.cell k) (za p.rank k) (by omega) (by omega)) (by (repeat refine ⟨⟨rfl,rfl⟩,?_⟩);rfl) ?_
  (repeat' ((conv=>whnf);refine vT ?_));all_goals try conv=>whnf
  refine zu (fun ((left,cur):List (D×D)×Option (D×D))=>[(1,.ptr 0 0),(91,.d (dII p.cell)),(92,.d (.int .i64 ((p.cell.map dI).length:Int))),(93,.d (.int .i64 ((k:Int)))),(105,.iter 1)]) (fun ((left,cur):List (D×D)×Option (D×D))=>[(0,some (zaD p)),(1,some (.iter left cur))]) 2 (fun ((left,cur):List (D×D)×Option (D×D)) => ∃ ks:List Int,left=ks.map (fun c=>(D.int .i64 c,dI (zaa (za p.cell k) (za p.rank k) c)))∧(∀ c∈ks,c∈zy (za p.cell k)) ∧ ∀ c∈zy (za p.cell k),c∈ks∨zmp (zaa (za p.cell k) (za p.rank k) c)) (fun ((left,cur):List (D×D)×Option (D×D))=>left.length) ((zf7 (za p.cell k) (za p.rank k),none)) [(0,0),(1,1)] [] (⟨_,rfl,fun c h=>h,fun c h => .inl h⟩) (by (refine ⟨rfl,rfl,rfl,?_,?_⟩;repeat' first|exact trivial|exact rfl|refine And.intro ?_ ?_|refine ⟨_,rfl,?_⟩|decide)) ?_
  rintro ⟨left,cur⟩ ⟨ks,hleft,hks,hdone⟩
  (repeat' ((conv=>whnf);first|refine vA ?_|refine vC (fun hl=>?_) fun i kv vv hi=>?_|refine vG ?_|refine vH ?_|refine vT ?_|(refine vO ?_ ?_;·omega)|fail));all_goals try conv=>whnf
  ·exact ⟨k+1,[(0,0)],[],⟨by (omega),fun a ha=>by
    by_cases e:a=k
    ·subst e
     rw [hl] at hleft
     have:ks=[]:=by simpa using hleft.symm
     subst this
     exact zis.1 fun c hc=>(hdone c hc).resolve_left (by simp)
    ·exact hI a (by omega)⟩,by (omega),by (refine ⟨rfl,rfl,rfl,?_,?_⟩;repeat' first|exact trivial|exact rfl|refine And.intro ?_ ?_|refine ⟨_,rfl,?_⟩|decide)⟩
  ·rw [hleft,List.getElem?_map,Option.map_eq_some_iff] at hi
   obtain ⟨c,hci,hce⟩:=hi
   cases hce
   (repeat' ((conv=>whnf);first|refine vJ fun hg=>?_|refine vT ?_));all_goals try conv=>whnf
   refine zu (fun (j:Nat)=>[(1,.ptr 0 0),(91,.d (dII p.cell)),(92,.d (.int .i64 ((p.cell.map dI).length:Int))),(93,.d (.int .i64 ((k:Int)))),(105,.iter 1),(12,.d (dI (zaa (za p.cell k) (za p.rank k) c))),(111,.d (.int .i64 (((zaa (za p.cell k) (za p.rank k) c).map (D.int .i64)).length:Int))),(112,.d (.int .i64 ((j:Int))))]) (fun (j:Nat)=>[(0,some (zaD p)),(1,some (.iter (left.eraseIdx i) (some (D.int .i64 c,dI (zaa (za p.cell k) (za p.rank k) c)))))]) 2 (fun (j:Nat)=>j≤(zaa (za p.cell k) (za p.rank k) c).length ∧ ∀ i,i < j→at0 (zaa (za p.cell k) (za p.rank k) c) i=i) (fun (j:Nat)=>(zaa (za p.cell k) (za p.rank k) c).length - j) (0) [(0,0),(1,1)] [] (⟨by simp,by simp⟩) (by (refine ⟨rfl,rfl,rfl,?_,?_⟩;repeat' first|exact trivial|exact rfl|refine And.intro ?_ ?_|refine ⟨_,rfl,?_⟩|decide)) ?_
   rintro j ⟨hj,hJ⟩
   (repeat' ((conv=>whnf);first|refine vA ?_|((first|refine vD ?_ ?_|refine vF ?_ ?_)<;>intro hc<;>try simp only [vL] at hc)|refine vT ?_|(refine vQ ?_ fun x hx=>?_;·omega)|(refine vO ?_ ?_;·omega)|refine vX ?_));all_goals try conv=>whnf
   ·refine (zrh hs0 hlr hL hC fun h=>hc ?_).symm
    have h4:=zis.2 (h k (by omega)) c (hks c (List.mem_of_getElem? hci)) j (by omega)
    rw [zw hx] at h4;exact h4
   ·have h0:=zw hx
    exact ⟨j+1,[(0,0),(1,1)],[],⟨by (omega),fun w hw=>by
     by_cases e:w=j
     ·subst e;rw [h0];omega
     ·exact hJ w (by omega)⟩,by (omega),by (refine ⟨rfl,rfl,rfl,?_,?_⟩;repeat' first|exact trivial|exact rfl|refine And.intro ?_ ?_|refine ⟨_,rfl,?_⟩|decide)⟩
   ·refine ⟨(left.eraseIdx i,some (D.int .i64 c,dI (zaa (za p.cell k) (za p.rank k) c))),[(0,0),(1,1)],[],⟨ks.eraseIdx i,?_,?_,?_⟩,?_,⟨rfl,rfl,rfl,by (repeat' first|exact trivial|exact rfl|refine And.intro ?_ ?_|refine ⟨_,rfl,?_⟩),by (repeat' first|exact trivial|exact rfl|refine And.intro ?_ ?_|refine ⟨_,rfl,?_⟩|decide)⟩⟩
    ·rw [hleft,zpW]
    ·exact fun c h=>hks c (List.mem_of_mem_eraseIdx h)
    ·intro c' h
     rcases hdone c' h with h1|h1
     ·by_cases e:c'=c
      ·subst e;exact .inr fun i hi=>hJ i (by omega)
      ·refine .inl ?_
       rw [List.mem_eraseIdx_iff_getElem?]
       obtain ⟨i',hi'⟩:=List.getElem?_of_mem h1
       exact ⟨i',fun e'=>e (by rw [e',hci] at hi';cases hi';rfl),hi'⟩
     ·exact .inr h1
    ·show (left.eraseIdx i).length < left.length
     have:i < left.length:=by
      rw [hleft,List.length_map];exact (List.getElem?_eq_some_iff.1 hci).1
     rw [List.length_eraseIdx];split<;>omega
 ·exact (zrg hs0 hlr hL hC fun a ha=>hI a (by omega)).symm
end Go.Ab
namespace Go.Ab
open Go Go.Proofs
set_option maxRecDepth 10000
set_option maxHeartbeats 4000000
variable {T:Nat→Obj→Prop}
structure At (p:PM) (a w:Int):Prop where
 ok:zp p=0
 a0:0≤a
 a1:a < p.cell.length
 w0:0≤w
 w1:w < p.W
instance (p:PM) (a w:Int):Decidable (At p a w):=decidable_of_iff (zp p=0∧0≤a∧a < p.cell.length∧0≤w∧w < p.W) ⟨fun ⟨a,b,c,d,e⟩=>⟨a,b,c,d,e⟩,fun ⟨a,b,c,d,e⟩=>⟨a,b,c,d,e⟩⟩
theorem zvc (hR:zc1 T) (p:PM) (hp:zav p.rank) (a w:Int):Fn Tryz.prog T zge [.d (dPM p),.d (.int .i64 a),.d (.int .i64 w)] [] (.d (.bool (decide (At p a w)))) []:=by
 have:=zw2 (T:=T) (fun p hp=>zdz hR p hp) p hp a w
 rwa [show decide (zp p=0∧0≤a∧a < p.cell.length∧0≤w∧w < p.W)=decide (At p a w) from by
  rw [Bool.eq_iff_iff,decide_eq_true_eq,decide_eq_true_eq]
  exact ⟨fun ⟨a,b,c,d,e⟩=>⟨a,b,c,d,e⟩,fun ⟨a,b,c,d,e⟩=>⟨a,b,c,d,e⟩⟩] at this
def zan (p:PM) (a w:Int):BitVec 64:=if At p a w then zgA (za p.cell a.toNat) w.toNat else 0#64
def zhr (p:PM) (a w:Int) (s:BitVec 64):BitVec 64:=if At p a w then zta (za p.rank a.toNat) (s&&&zgA (za p.cell a.toNat) w.toNat) else 0#64
theorem At.rows {p:PM} {a w:Int} (h:At p a w):p.cell[a.toNat]? = some (za p.cell a.toNat)∧p.rank[a.toNat]? = some (za p.rank a.toNat)∧((za p.cell a.toNat).length:Int)=p.W∧((za p.rank a.toNat).length:Int)=p.W∧p.W≤64∧a.toNat < p.cell.length∧p.rank.length=p.cell.length:=by
 have hg:=zS h.ok
 have h0:=h.a0
 have h1:=h.a1
 have hl:=hg.lens a.toNat (by omega)
 exact ⟨zhz (by omega),zhz (by rw [hg.len];omega),hl.1,hl.2,hg.w2,by omega,hg.len⟩
theorem zyw (hR:zc1 T) (p:PM) (hp:zav p.rank) (a w:Int):Fn Tryz.prog T zlp [.d (dPM p),.d (.int .i64 a),.d (.int .i64 w)] [] (.d (.u64 (zan p a w))) []:=by
 refine zj zz zrS (by show 3≤16;decide) ?_
 (repeat' ((conv=>whnf);first|refine vA ?_|refine vE ?_|(refine vF ?_ ?_<;>intro hc)|refine vT ?_|refine vY ?_|refine yD (zvc hR _ hp _ _) (by (repeat refine ⟨⟨rfl,rfl⟩,?_⟩);rfl) rfl ?_));all_goals try conv=>whnf
 ·obtain ⟨h1,-,h2,-⟩:=At.rows hc
  refine zai.data (zu9 p a w (za p.cell a.toNat) hc.a0 h1 hc.w0 (by rw [h2];exact hc.w1)) (by (repeat refine ⟨⟨rfl,rfl⟩,?_⟩);rfl) rfl ?_
  (repeat' ((conv=>whnf);first|refine vT ?_|refine vY ?_));all_goals try conv=>whnf
  rw [zan,if_pos hc]
 ·rw [zan,if_neg hc];rfl
def zbo (cell rank:List Int) (w:Nat):Nat→BitVec 64:=zL fun v=>at0 cell v==at0 cell w&&decide (at0 rank v≤at0 rank w)
def zbE (p:PM) (a:Nat):List (BitVec 64):=(List.range p.W.toNat).map fun w=>zbo (za p.cell a) (za p.rank a) w p.W.toNat
def zc5 (p:PM) (a:Int):List (BitVec 64)×Int:=if zp p≠0 then ([],zp p) else if a < 0∨(p.cell.length:Int)≤a then ([],2) else (zbE p a.toNat,0)
abbrev dUI (x:List (BitVec 64)×Int):D := .tup [dU x.1,.int .i64 x.2]
theorem zf9 {β:Type} {g:Nat→β} {n k:Nat} (x:β):((List.range n).map g).set k x=(List.range n).map fun u=>if u=k then x else g u:=by
 refine List.ext_getElem (by simp) fun i h1 h2=>?_
 rw [List.getElem_set]
 by_cases e:k=i
 ·subst e;simp
 ·simp [e,Ne.symm e]
theorem zM {β:Type} {g h:Nat→β} {n:Nat} (e : ∀ u,u < n→g u=h u):(List.range n).map g=(List.range n).map h :=
 List.map_congr_left fun u hu=>e u (List.mem_range.1 hu)
theorem zvp {n k x:Nat} (h:(List.range n)[k]? = some x):x=k:=by
 obtain ⟨h1,rfl⟩:=List.getElem?_eq_some_iff.1 h
 simp
theorem zbB {β:Type} (x:β) (n:Nat):List.replicate n x=(List.range n).map fun _=>x:=by
 refine List.ext_getElem (by simp) fun i h1 h2=>by simp
theorem zu7 (hR:zc1 T) (p:PM) (hp:zav p.rank) (a:Int):Fn Tryz.prog T zih [.d (dPM p),.d (.int .i64 a)] [] (.d (dUI (zc5 p a))) []:=by
 refine zj zz zpf (by show 2≤84;decide) ?_
 (repeat' ((conv=>whnf);first|refine vA ?_|((first|refine vD ?_ ?_|refine vF ?_ ?_)<;>intro hc<;>try simp only [vL] at hc)|refine vJ fun hg=>?_|refine vT ?_|(refine vP ?_ ?_;·omega)|refine yD (zdz hR _ hp) ⟨⟨rfl,rfl⟩,rfl⟩ rfl ?_));all_goals try conv=>whnf
 ·rw [zc5,if_pos hc];rfl
 ·rw [zc5,if_neg (by omega),if_pos (.inl hc)];rfl
 ·rw [zc5,if_neg (by omega),if_pos (.inr hc)];rfl
 have hg:=zS ‹zp p=0›
 have hw1:=hg.w1
 have hw2:=hg.w2
 have hrow:=zhz (l:=p.cell) (i:=a.toNat) (by omega)
 have hrank:=zhz (l:=p.rank) (i:=a.toNat) (by have:=hg.len;omega)
 obtain ⟨hl1,hl2⟩:=hg.lens a.toNat (by omega)
 have hlr:=hg.len
 (repeat' ((conv=>whnf);first|refine vA ?_|refine vK fun hg=>?_|refine vT ?_|(refine vP ?_ ?_;·omega)|fail));all_goals try conv=>whnf
 refine zu (fun ((k,xs):Nat×List D)=>[(1,.d (.int .i64 (a))),(2,.ptr 0 0),(7,.own 1),(28,.d (.int .i64 ((List.replicate p.W.toNat (D.u64 0#64)).length:Int))),(29,.d (.int .i64 ((k:Int))))]) (fun ((k,xs):Nat×List D)=>[(0,some (zaD p)),(1,some (.row 1 xs))]) 2 (fun ((k,xs):Nat×List D)=>k≤p.W.toNat∧xs=(List.range p.W.toNat).map fun u=>D.u64 (if u < k then zbo (za p.cell a.toNat) (za p.rank a.toNat) u p.W.toNat else 0#64)) (fun ((k,xs):Nat×List D)=>p.W.toNat - k) ((0,List.replicate p.W.toNat (D.u64 0#64))) [(0,0),(1,1)] [] (⟨by simp,by simp only [Nat.not_lt_zero,if_false];exact zbB _ _⟩) (by (refine ⟨rfl,rfl,rfl,?_,?_⟩;repeat' first|exact trivial|exact rfl|refine And.intro ?_ ?_|refine ⟨_,rfl,?_⟩|decide)) ?_
 rintro ⟨k,_⟩ ⟨hk,rfl⟩
 (repeat' ((conv=>whnf);first|refine vA ?_|(refine vF ?_ ?_<;>intro hc<;>try simp only [vL] at hc)|refine vJ fun hg=>?_|refine vT ?_));all_goals try conv=>whnf
 ·refine zu (fun ((j,xs):Nat×List D)=>[(1,.d (.int .i64 (a))),(2,.ptr 0 0),(7,.own 1),(8,.d (.int .i64 ((k:Int)))),(28,.d (.int .i64 ((List.replicate p.W.toNat (D.u64 0#64)).length:Int))),(29,.d (.int .i64 ((k:Int)))),(33,.d (.int .i64 (((List.range p.W.toNat).map fun u=>D.u64 (if u < k then zbo (za p.cell a.toNat) (za p.rank a.toNat) u p.W.toNat else 0#64)).length:Int))),(34,.d (.int .i64 ((j:Int))))]) (fun ((j,xs):Nat×List D)=>[(0,some (zaD p)),(1,some (.row 1 xs))]) 2 (fun ((j,xs):Nat×List D)=>j≤p.W.toNat∧xs=(List.range p.W.toNat).map fun u=>D.u64 (if u < k then zbo (za p.cell a.toNat) (za p.rank a.toNat) u p.W.toNat else if u=k then zbo (za p.cell a.toNat) (za p.rank a.toNat) k j else 0#64)) (fun ((j,xs):Nat×List D)=>p.W.toNat - j) ((0,_)) [(0,0),(1,1)] [] (⟨by simp,zM fun u hu=>by simp [zbo,zL]⟩) (by (refine ⟨rfl,rfl,rfl,?_,?_⟩;repeat' first|exact trivial|exact rfl|refine And.intro ?_ ?_|refine ⟨_,rfl,?_⟩|decide)) ?_
  rintro ⟨j,_⟩ ⟨hj,rfl⟩
  (repeat' ((conv=>whnf);first|refine vA ?_|(refine vF ?_ ?_<;>intro hc<;>try simp only [vL] at hc)|refine vT ?_|(refine vQ ?_ fun x hx=>?_;·first|omega|(simp only [vM] at *;omega))|((first|refine vO ?_ ?_|refine vR ?_ ‹_› ?_|refine vP ?_ ?_);·first|omega|(simp only [vM] at *;omega))|(refine vU ?_ ?_;·kernel_rfl)|fail));all_goals try conv=>whnf
  ·have h1:=zw ‹(za p.cell a.toNat)[j]? = some _›
   have h2:=zw ‹(za p.cell a.toNat)[k]? = some _›
   have h3:=zw ‹(za p.rank a.toNat)[j]? = some _›
   have h4:=zw ‹(za p.rank a.toNat)[k]? = some _›
   have hx':=zvp hx
   refine ⟨(j+1,_),[(0,0),(1,1)],[],?_,?_,by (refine ⟨rfl,rfl,rfl,?_,?_⟩;repeat' first|exact trivial|exact rfl|refine And.intro ?_ ?_|refine ⟨_,rfl,?_⟩|decide)⟩
   ·refine ⟨by (omega),(zf9 _).trans (zM fun u hu=>?_)⟩
    have e0:(at0 (za p.cell a.toNat) j==at0 (za p.cell a.toNat) k&&decide (at0 (za p.rank a.toNat) j≤at0 (za p.rank a.toNat) k))=true:=by
     simp only [Bool.and_eq_true,beq_iff_eq,decide_eq_true_eq];omega
    show (if u=k then _ else _)=_
    have hx'':x=k:=hx'
    subst hx''
    by_cases e:u=x
    ·subst e
     simp only [Nat.lt_irrefl,if_false,if_true,zbo,zL,e0];rfl
    ·rw [if_neg e];simp only [if_neg e]
   ·((simp only [vM] at *;omega))
  ·have h1:=zw ‹(za p.cell a.toNat)[j]? = some _›
   have h2:=zw ‹(za p.cell a.toNat)[k]? = some _›
   have h3:=zw ‹(za p.rank a.toNat)[j]? = some _›
   have h4:=zw ‹(za p.rank a.toNat)[k]? = some _›
   refine ⟨(j+1,_),[(0,0),(1,1)],[],?_,?_,by (refine ⟨rfl,rfl,rfl,?_,?_⟩;repeat' first|exact trivial|exact rfl|refine And.intro ?_ ?_|refine ⟨_,rfl,?_⟩|decide)⟩
   ·refine ⟨by (omega),zM fun u hu=>?_⟩
    have e0:(at0 (za p.cell a.toNat) j==at0 (za p.cell a.toNat) k&&decide (at0 (za p.rank a.toNat) j≤at0 (za p.rank a.toNat) k))=false:=by
     rw [Bool.and_eq_false_iff];right;rw [decide_eq_false_iff_not];omega
    simp only [zbo,zL,e0,Bool.false_eq_true,if_false]
   ·((simp only [vM] at *;omega))
  ·have h1:=zw ‹(za p.cell a.toNat)[j]? = some _›
   have h2:=zw ‹(za p.cell a.toNat)[k]? = some _›
   refine ⟨(j+1,_),[(0,0),(1,1)],[],?_,?_,by (refine ⟨rfl,rfl,rfl,?_,?_⟩;repeat' first|exact trivial|exact rfl|refine And.intro ?_ ?_|refine ⟨_,rfl,?_⟩|decide)⟩
   ·refine ⟨by (omega),zM fun u hu=>?_⟩
    have e0:(at0 (za p.cell a.toNat) j==at0 (za p.cell a.toNat) k&&decide (at0 (za p.rank a.toNat) j≤at0 (za p.rank a.toNat) k))=false:=by
     rw [Bool.and_eq_false_iff];left;rw [beq_eq_false_iff_ne];omega
    simp only [zbo,zL,e0,Bool.false_eq_true,if_false]
   ·((simp only [vM] at *;omega))
  ·refine ⟨(k+1,_),[(0,0),(1,1)],[],?_,?_,by (refine ⟨rfl,rfl,rfl,?_,?_⟩;repeat' first|exact trivial|exact rfl|refine And.intro ?_ ?_|refine ⟨_,rfl,?_⟩|decide)⟩
   ·refine ⟨by (omega),zM fun u hu=>?_⟩
    have e0:j=p.W.toNat:=by (omega)
    subst e0
    by_cases e:u=k
    ·subst e;simp
    ·by_cases e1:u < k
     ·simp [e1,show u < k+1 by omega]
     ·simp [e1,e,show ¬ u < k+1 by omega]
   ·((simp only [vM] at *;omega))
 ·rw [zc5,if_neg (by omega),if_neg (by omega),zbE]
  have e0:k=p.W.toNat:=by (omega)
  refine congrArg some (congrArg D.tup (congrArg (fun l=>[D.arr 1 l,D.int .i64 0]) ?_))
  rw [List.map_map]
  refine zM fun u hu=>?_
  rw [if_pos (by omega)];rfl
end Go.Ab
namespace Go.Ab
open Go Go.Proofs
set_option maxRecDepth 10000
set_option maxHeartbeats 4000000
variable {T:Nat→Obj→Prop}
structure KM where
 W:Int
 val:List (BitVec 64)
 rel:List (List (BitVec 64))
 deriving DecidableEq
abbrev dKM (m:KM):D := .agg [.int .i64 m.W,dU m.val,dUU m.rel]
abbrev zob (m:KM):Ob := .box [.d (.int .i64 m.W),.d (dU m.val),.d (dUU m.rel)]
end Go.Ab
namespace Go.Ab
open Go Go.Proofs
set_option maxRecDepth 10000
set_option maxHeartbeats 4000000
variable {T:Nat→Obj→Prop}
theorem zwD {n:Int} {i:Nat} (h1:0≤n) (hi:i < 64):(zaq n).getLsbD i=decide ((i:Int) < n):=by
 unfold zaq
 split
 ·rename_i h
  rw [show ((-1:BitVec 64))=BitVec.allOnes 64 from rfl,BitVec.getLsbD_allOnes]
  simp [hi];omega
 ·rename_i h
  obtain ⟨m,rfl⟩:=Int.eq_ofNat_of_zero_le h1
  have hm:m < 64:=by omega
  rw [show (1#64 <<< (m:Int).toNat - 1#64)=BitVec.setWidth 64 (BitVec.allOnes m) from ?_]
  ·rw [BitVec.getLsbD_setWidth,BitVec.getLsbD_allOnes];simp [hi]
  ·apply BitVec.eq_of_toNat_eq
   have h2:2 ^ m < 2 ^ 64:=Nat.pow_lt_pow_right (by omega) hm
   have h3:0 < 2 ^ m:=Nat.two_pow_pos m
   rw [BitVec.toNat_sub,BitVec.toNat_shiftLeft,BitVec.toNat_setWidth,BitVec.toNat_allOnes]
   simp only [Int.toNat_natCast,Nat.shiftLeft_eq]
   rw [show (1#64).toNat=1 from rfl,Nat.one_mul,Nat.mod_eq_of_lt h2,Nat.mod_eq_of_lt (show 2 ^ m - 1 < 2 ^ 64 by omega)]
   omega
end Go.Ab
namespace Go.Ab
open Go Go.Proofs
set_option maxRecDepth 10000
set_option maxHeartbeats 4000000
variable {T:Nat→Obj→Prop}
def zew (s:BitVec 64):List Nat:=(List.range 64).filter fun i=>s.getLsbD i
theorem zlr {p:Nat→Bool} {k:Nat} (hk:p k=true) (hlow : ∀ i,i < k→p i=false) : ∀ n,k < n→(List.range n).filter p=k::(List.range n).filter fun i=>p i&&i != k
 | 0,h=>by omega
 | n+1,h=>by
  rw [List.range_succ,List.filter_append,List.filter_append]
  by_cases e:k=n
  ·subst e
   have h1:(List.range k).filter p=[]:=by
    rw [List.filter_eq_nil_iff];intro i hi;rw [hlow i (List.mem_range.1 hi)];simp
   have h2:((List.range k).filter fun i=>p i&&i != k)=[]:=by
    rw [List.filter_eq_nil_iff];intro i hi;rw [hlow i (List.mem_range.1 hi)];simp
   rw [h1,h2]
   simp [hk]
  ·rw [zlr hk hlow n (by omega)]
   have:(n != k)=true:=by simp;omega
   have:List.filter (fun i=>p i&&i != k) [n]=List.filter p [n]:=by
    simp only [List.filter,this,Bool.and_true]
   rw [this];rfl
theorem zyH (s:BitVec 64) (h:s≠0#64):Lib.ctz 64 s.toNat < 64∧s.getLsbD (Lib.ctz 64 s.toNat)=true∧(∀ i,i < Lib.ctz 64 s.toNat→s.getLsbD i=false) ∧
  ∀ i,(s&&&(s - 1#64)).getLsbD i=(s.getLsbD i&&i != Lib.ctz 64 s.toNat):=by
 have h0:s.toNat≠0:=fun e=>h (BitVec.eq_of_toNat_eq (by simpa using e))
 have hc:Lib.ctz 64 s.toNat=Lib.ctzFrom 64 s.toNat:=by rw [Lib.ctz,if_neg h0]
 rw [hc]
 obtain ⟨m,hm,hlt⟩:=Lib.ctzFrom_spec 64 s.toNat (by omega) s.isLt
 generalize Lib.ctzFrom 64 s.toNat=k at hm hlt
 have hp:0 < 2 ^ k:=Nat.two_pow_pos k
 have hs:s.toNat=2 ^ k * (2 * m+1)+0:=hm
 have hbit : ∀ i,s.getLsbD i=if i < k then false else (2 * m+1).testBit (i - k):=fun i=>by
  rw [BitVec.getLsbD,hs,Nat.testBit_two_pow_mul_add _ hp]
  simp
 have hsub:(s - 1#64).toNat=2 ^ k * (2 * m)+(2 ^ k - 1):=by
  rw [BitVec.toNat_sub]
  have hlt':=s.isLt
  rw [hm] at hlt' ⊢
  rw [show (1#64).toNat=1 from rfl,Nat.mul_add,Nat.mul_one]
  rw [Nat.mul_add,Nat.mul_one] at hlt'
  omega
 have hbit' : ∀ i,(s - 1#64).getLsbD i=if i < k then (2 ^ k - 1).testBit i else (2 * m).testBit (i - k):=fun i=>by
  rw [BitVec.getLsbD,hsub,Nat.testBit_two_pow_mul_add _ (by omega)]
 refine ⟨hlt,?_,fun i hi=>?_,fun i=>?_⟩
 ·rw [hbit,if_neg (by omega),Nat.sub_self,Nat.testBit_zero];simp
 ·rw [hbit,if_pos hi]
 ·rw [BitVec.getLsbD_and,hbit,hbit']
  by_cases h1:i < k
  ·simp [h1]
  ·simp only [h1,if_false]
   by_cases h2:i=k
   ·subst h2;simp [Nat.testBit_zero]
   ·obtain ⟨j,hj⟩ : ∃ j,i - k=j+1:=⟨i - k - 1,by omega⟩
    rw [hj,Nat.testBit_succ,Nat.testBit_succ]
    have e1:(2 * m+1) / 2=m:=by omega
    have e2:2 * m / 2=m:=by omega
    rw [e1,e2]
    simp [h2]
theorem zmP (s:BitVec 64) (h:s≠0#64):zew s=Lib.ctz 64 s.toNat::zew (s&&&(s - 1#64)):=by
 obtain ⟨h1,h2,h3,h4⟩:=zyH s h
 rw [zew,zlr h2 h3 64 h1,zew]
 congr 1
 exact List.filter_congr fun i _=>(h4 i).symm
theorem zsA:zew 0#64=[]:=by decide
abbrev zjz (s:BitVec 64):List (List D):=(zew s).map fun (i:Nat)=>[D.int .i64 (i:Int)]
def znm (T:Nat→Obj→Prop):Prop := ∀ x:BitVec 64,Fn Tryz.prog T zaL [.d (.u64 x)] [] (.d (.int .i64 (Lib.ctz 64 x.toNat))) []
theorem zsQ (hT:znm T) (s:BitVec 64):It Tryz.prog T zb5 [.ptr 0 0] [.box [.d (.u64 s)]] (zjz s):=by
 refine zpS zz zkJ rfl (by show 2≤14;decide) fun l=>?_
 (repeat' ((conv=>whnf);refine vT ?_));all_goals try conv=>whnf
 refine zu (fun (s':BitVec 64)=>[(0,.yld l),(1,.ptr 0 0)]) (fun (s':BitVec 64)=>[(0,some (.box [.d (.u64 s')])),(1,some (.todo (some (zjz s'))))]) 2 (fun (s':BitVec 64)=>True) (fun (s':BitVec 64)=>(zew s').length) (s) [(0,0),(1,1)] [] (trivial) (by (refine ⟨rfl,rfl,rfl,?_,?_⟩;repeat' first|exact trivial|exact rfl|refine And.intro ?_ ?_|refine ⟨_,rfl,?_⟩|decide)) ?_
 rintro s' -
 (repeat' ((conv=>whnf);first|refine vA ?_|(refine vD ?_ ?_<;>intro hc)|refine vT ?_|refine yD (hT _) (by (repeat refine ⟨⟨rfl,rfl⟩,?_⟩);rfl) rfl ?_));all_goals try conv=>whnf
 ·have hd:zjz s'=[D.int .i64 (Lib.ctz 64 s'.toNat:Int)]::zjz (s'&&&(s' - 1#64)):=by
   rw [zjz,zmP s' hc];rfl
  refine ⟨rfl,[.int .i64 (Lib.ctz 64 s'.toNat)],zjz (s'&&&(s' - 1#64)),congrArg (fun l=>some (Ob.todo (some l))) hd,rfl,rfl,rfl,?_,?_⟩
  ·(repeat' ((conv=>whnf);first|refine vE ?_|refine vG ?_|refine vT ?_));all_goals try conv=>whnf
   refine ⟨s'&&&(s' - 1#64),[(0,0),(1,1)],[],trivial,?_,⟨rfl,rfl,rfl,by (repeat' first|exact trivial|exact rfl|refine And.intro ?_ ?_|refine ⟨_,rfl,?_⟩),by (repeat' first|exact trivial|exact rfl|refine And.intro ?_ ?_|refine ⟨_,rfl,?_⟩|decide)⟩⟩
   show (zew (s'&&&(s' - 1#64))).length < (zew s').length
   rw [zmP s' hc];simp
  ·(repeat' ((conv=>whnf);first|refine vE ?_|refine vH ?_|refine vT ?_));all_goals try conv=>whnf
   right;rfl
 ·left
  have:s'=0#64:=hc
  subst this
  exact congrArg (fun l:List Nat=>some (Ob.todo (some (l.map fun (i:Nat)=>[D.int .i64 (i:Int)])))) zsA
def rb (r:List (BitVec 64)) (w v:Nat):Bool:=(r.getD w 0#64).getLsbD v
theorem zzX {r:List (BitVec 64)} {w:Nat} {s:BitVec 64} (h:r[w]? = some s) (v:Nat):rb r w v=s.getLsbD v:=by simp [rb,List.getD,h]
theorem zzx {r:List (BitVec 64)} {w v:Nat} (h:r.length≤w):rb r w v=false:=by simp [rb,List.getD,h]
theorem zx2 {s:BitVec 64} : s=0#64 ↔ ∀ i,s.getLsbD i=false:=by
 constructor
 ·rintro rfl i;simp
 ·intro h;apply BitVec.eq_of_getLsbD_eq;intro i _;rw [h i];simp
end Go.Ab
namespace Go.Ab
open Go Go.Proofs
theorem zxf {K:Nat→Prop} {R:Nat→Int} (h0 : ∀ i,K i→0≤R i) : ∀ (n:Nat) (i:Nat),K i→(R i).toNat≤n → ∃ j,K j ∧ ∀ u,K u→R j≤R u:=by
 intro n
 induction n with
 | zero=>intro i hi hn;exact ⟨i,hi,fun u hu=>by have:=h0 i hi;have:=h0 u hu;omega⟩
 | succ n ih =>
  intro i hi hn
  by_cases h : ∃ u,K u∧R u < R i
  ·obtain ⟨u,h1,h2⟩:=h
   exact ih u h1 (by have:=h0 u h1;have:=h0 i hi;omega)
  ·exact ⟨i,hi,fun u hu=>by
    apply Classical.byContradiction
    intro hn
    exact h ⟨u,hu,by omega⟩⟩
section
variable {p:PM} {a w:Int} (hat:At p a w)
include hat
theorem zfN {i:Nat} : (zan p a w).getLsbD i=true↔i < p.W.toNat∧at0 (za p.cell a.toNat) i=at0 (za p.cell a.toNat) w.toNat:=by
 obtain ⟨-,-,h1,-,h3,-⟩:=hat.rows
 rw [zan,if_pos hat,zgA,zf8]
 simp only [Bool.and_eq_true,decide_eq_true_eq,beq_iff_eq]
 constructor
 ·rintro ⟨⟨-,h4⟩,h5⟩;exact ⟨by omega,h5⟩
 ·rintro ⟨h4,h5⟩;exact ⟨⟨by omega,by omega⟩,h5⟩
theorem zpy {s:BitVec 64} {i:Nat} : (zhr p a w s).getLsbD i=true↔(s.getLsbD i=true∧(zan p a w).getLsbD i=true) ∧ ∀ u,s.getLsbD u=true→(zan p a w).getLsbD u=true→at0 (za p.rank a.toNat) i≤at0 (za p.rank a.toNat) u:=by
 obtain ⟨-,-,h1,h2,h3,-⟩:=hat.rows
 have hc : ∀ i,(zgA (za p.cell a.toNat) w.toNat).getLsbD i=(zan p a w).getLsbD i:=fun i=>by rw [zan,if_pos hat]
 rw [zhr,if_pos hat,zta,zwI]
 simp only [BitVec.getLsbD_and,Bool.and_eq_true,hc]
 constructor
 ·rintro ⟨h4,h5,h6⟩
  exact ⟨h5,fun u hu hu'=>h6 u (by have:=(zfN hat).1 hu';omega) ⟨hu,hu'⟩⟩
 ·rintro ⟨h4,h5⟩
  exact ⟨by have:=(zfN hat).1 h4.2;omega,h4,fun u _ hu=>h5 u hu.1 hu.2⟩
theorem zhT {i:Nat} (h:(zan p a w).getLsbD i=true):0≤at0 (za p.rank a.toNat) i:=by
 obtain ⟨-,-,h1,h2,h3,-⟩:=hat.rows
 have hg:=zS hat.ok
 have h4:=(zfN hat).1 h
 have ha:=hat.a0
 have ha':=hat.a1
 exact ((hg.ranked a.toNat (by omega)) i (by omega)).1
end
end Go.Ab
namespace Go.Ab
open Go Go.Proofs
set_option maxRecDepth 10000
set_option maxHeartbeats 4000000
variable {T:Nat→Obj→Prop}
def zbM (p:PM) (a:Int) (s:BitVec 64):BitVec 64:=zL (fun w=>decide (zan p a w &&& ~~~s=0#64)) p.W.toNat
def zbS (p:PM) (a:Int) (c s:BitVec 64):BitVec 64:=zL (fun w=>decide (zhr p a w c &&& ~~~s=0#64)) p.W.toNat
def zbU (p:PM) (a:Int) (s:BitVec 64):BitVec 64:=zL (fun w=>decide ((zc5 p a).1.getD w 0#64 &&& ~~~s=0#64)) p.W.toNat
end Go.Ab
namespace Go.Ab
open Go Go.Proofs
set_option maxRecDepth 10000
set_option maxHeartbeats 4000000
variable {T:Nat→Obj→Prop}
theorem zai.objs {P:Program} {M:Nat→Option Ob} {n f:Nat} {vs lvs:List V} {obs:List Ob} {lv:V} {obs':List (Option Ob)} {K:V→Upd→Nat→Prop} (js:List Nat) (hf:Fn P T f lvs obs lv obs') (ha:VPasses M js [] 20 lvs vs)
  (ho:zaE M js [] obs js) (hnd:nodup js=true) (hsj:zdx js (zH M vs)=true) (hle:js.length≤obs'.length)
  (hK:K (zkg js n 20 lv) (zfA js [] n obs' false) (obs'.length - js.length)):zai (zcc P T) M n f vs K :=
 ⟨⟨_,_,_,⟨js,[],false,lvs,obs,lv,obs',hf,ha,ho,hnd,by simp [zc8],hsj,by simp [zdx],hle,nofun,rfl,rfl,rfl⟩,hK⟩⟩
section
variable {α:Type} [Inhabited α]
theorem zyj {d:Array α} {i:Nat} (h:i < d.size):d.toList[i]? = some d[i]! := by
 simp [h]
theorem zdS {d:Array α} {i:Nat} {x:α} (h:d.toList[i]? = some x):d[i]! = x∧i < d.size:=by
 obtain ⟨h1,h2⟩:=List.getElem?_eq_some_iff.1 h
 rw [Array.length_toList] at h1
 exact ⟨by simp [h1];simpa using h2,h1⟩
theorem zfL {d:Array α} {i:Int} {x:α} (k:Nat) (h:d.toList[i.toNat]? = some x) (hk:i=k):d.toList[k]? = some x:=by subst hk;exact h
theorem swp_size (d:Array α) (i j:Nat):(Sort.swp d i j).size=d.size:=by simp [Sort.swp]
variable {lt:α→α→Bool}
theorem insInner_size {a:Nat} : ∀ {j:Nat} {d:Array α},(Sort.insInner lt a j d).size=d.size
 | 0,d=>rfl
 | j+1,d=>by
  unfold Sort.insInner
  split
  ·rw [insInner_size,swp_size]
  ·rfl
theorem insOuter_stop {a b i:Nat} {d:Array α} (h : ¬i < b):Sort.insOuter lt a b i d=d:=by rw [Sort.insOuter,if_neg h]
theorem insOuter_step {a b i:Nat} {d:Array α} (h:i < b):Sort.insOuter lt a b i d=Sort.insOuter lt a b (i+1) (Sort.insInner lt a i d):=by rw [Sort.insOuter.eq_def lt a b i,if_pos h]
theorem zqe {hi first root:Nat} {d:Array α} (h:2 * root+1 ≥ hi):Sort.siftDown lt hi first root d=d:=by rw [Sort.siftDown,dif_pos h]
def zgB (lt:α→α→Bool) (hi first root:Nat) (d:Array α):Nat:=if 2 * root+1+1 < hi∧lt d[first+(2 * root+1)]! d[first+(2 * root+1)+1]! = true then 2 * root+2 else 2 * root+1
theorem zyZ {hi first root:Nat} {d:Array α} (h : ¬2 * root+1 ≥ hi):Sort.siftDown lt hi first root d =
  if lt d[first+root]! d[first+zgB lt hi first root d]! = true then Sort.siftDown lt hi first (zgB lt hi first root d) (Sort.swp d (first+root) (first+zgB lt hi first root d)) else d:=by
 rw [Sort.siftDown,dif_neg h,zgB]
 by_cases h1:2 * root+1+1 < hi∧lt d[first+(2 * root+1)]! d[first+(2 * root+1)+1]! = true
 ·rw [if_pos (by simpa using h1),if_pos h1]
  cases hb:lt d[first+root]! d[first+(2 * root+2)]! with
  | false=>simp
  | true=>simp only [Bool.not_true,Bool.false_eq_true,if_false,if_true];rw [dif_pos (by omega)]
 ·rw [if_neg (by simpa using h1),if_neg h1]
  cases hb:lt d[first+root]! d[first+(2 * root+1)]! with
  | false=>simp
  | true=>simp
theorem zqd {hi first:Nat} : ∀ (n root:Nat) (d:Array α),hi - root≤n→(Sort.siftDown lt hi first root d).size=d.size
 | 0,root,d,h=>by rw [zqe (by omega)]
 | n+1,root,d,h=>by
  by_cases h1:2 * root+1 ≥ hi
  ·rw [zqe h1]
  ·rw [zyZ h1]
   split
   ·have:root < zgB lt hi first root d:=by unfold zgB;split<;>omega
    rw [zqd n _ _ (by omega),swp_size]
   ·rfl
theorem siftDown_size {hi first root:Nat} {d:Array α} : (Sort.siftDown lt hi first root d).size=d.size:=zqd _ _ _ (Nat.le_refl _)
theorem build_size {hi first:Nat} : ∀ {k:Nat} {d:Array α},(Sort.heapBuild lt hi first k d).size=d.size
 | 0,d=>rfl
 | k+1,d=>by rw [Sort.heapBuild,build_size,siftDown_size]
end
end Go.Ab
namespace Go.Ab
structure Nd where
 op:Int
 i:Int
 e:Int
 g:Int
 x:Int
 y:Int
 deriving DecidableEq,Inhabited
structure Hd where
 op:Int
 i:Int
 e:Int
 g:Int
 deriving DecidableEq,Inhabited
def Nd.hd (n:Nd):Hd:=⟨n.op,n.i,n.e,n.g⟩
def zct (op:Int):Bool:=decide (1≤op∧op≤21)
def zR (op:Int):Bool:=decide (4≤op∧op≤21)
def zD (op:Int):Bool:=decide (5≤op∧op≤8∨op=13∨op=14∨op=16∨op=19∨op=21)
def zbD (op:Int):Bool:=decide (op=3)
def zae (op:Int):Bool:=decide (op=9∨op=10∨op=14∨op=15)
def zaU (op:Int):Bool:=decide (op=17)
def zap (op:Int):Bool:=decide (11≤op∧op≤13)
def zcZ (op:Int):Int :=
 if op=9∨op=10 then 1 else if op=11 then 2 else if op=12 then 4 else if op=13 then 8 else if op=14 then 16 else if op=15 then 32 else if op=16 then 64 else if op=17 then 128 else
 if 18≤op∧op≤21 then 256 else 0
theorem zac {op:Int} (h:zD op=true):zR op=true:=by
 simp only [zR,zD,decide_eq_true_eq] at h ⊢;omega
def zbA (used:Bool) (f at_:Int):Bool:=used&&decide (0≤f)&&decide (f < at_) || !used&&decide (f=0)
def zA (used:Bool) (v lo hi:Int):Bool:=used&&(decide (v < lo)||decide (hi < v))
def zb9 (n:Nd) (at_:Int):Int :=
 if zct n.op=false then 10 else
 if zbA (zR n.op) n.x at_=false∨zbA (zD n.op) n.y at_=false then 3 else
 if (!(zbD n.op||zae n.op||zaU n.op)&&decide (n.i≠0)||(!zaU n.op&&decide (n.e≠0))||(!zap n.op&&decide (n.g≠0)))=true then 3 else
 if (zA (zbD n.op) n.i 0 7||zA (zae n.op) n.i 0 3||zA (zaU n.op) n.i 0 7||zA (zaU n.op) n.e 0 7||zA (zap n.op) n.g 1 15)=true then 2 else 0
def zfQ:List Nd→Nat→Int
 | [],_=>0
 | n::r,k=>if zb9 n k≠0 then zb9 n k else zfQ r (k+1)
def zbt (f:List Nd):Int:=if f.length=0 then 3 else if 200 < f.length then 8 else zfQ f 0
def zam (f:List Nd):Prop := ∀ (k:Nat) n,f[k]? = some n→zb9 n k=0
theorem zlo : ∀ (f:List Nd) (k:Nat),zfQ f k=0 ↔ ∀ (j:Nat) n,f[j]? = some n→zb9 n (k+j:Nat)=0
 | [],k=>by simp [zfQ]
 | n::r,k=>by
  unfold zfQ
  constructor
  ·intro h
   split at h
   ·contradiction
   ·rename_i h0
    intro j m hj
    cases j with
    | zero=>simp at hj;subst hj;simpa using h0
    | succ j =>
     have:=(zlo r (k+1)).1 h j m (by simpa using hj)
     rwa [show k+1+j=k+(j+1) by omega] at this
  ·intro h
   have h0:=h 0 n (by simp)
   rw [if_neg (by simpa using h0)]
   refine (zlo r (k+1)).2 fun j m hj=>?_
   have:=h (j+1) m (by simpa using hj)
   rwa [show k+(j+1)=k+1+j by omega] at this
theorem zgE {f:List Nd} : zbt f=0↔0 < f.length∧f.length≤200∧zam f:=by
 unfold zbt zam
 have:=zlo f 0
 simp only [Nat.zero_add] at this
 by_cases h1:f.length=0
 ·rw [if_pos h1];omega
 ·rw [if_neg h1]
  by_cases h2:200 < f.length
  ·rw [if_pos h2];omega
  ·rw [if_neg h2,this]
   exact ⟨fun h=>⟨by omega,by omega,h⟩,fun h=>h.2.2⟩
theorem ziH {n:Nd} {a:Int} (h:zb9 n a=0):zct n.op=true∧(zR n.op=true→0≤n.x∧n.x < a)∧(zR n.op=false→n.x=0)∧(zD n.op=true→0≤n.y∧n.y < a)∧(zD n.op=false→n.y=0) ∧
  (zbD n.op=true→0≤n.i∧n.i≤7)∧(zae n.op=true→0≤n.i∧n.i≤3)∧(zaU n.op=true→0≤n.i∧n.i≤7∧0≤n.e∧n.e≤7)∧(zap n.op=true→1≤n.g∧n.g≤15) ∧
  (zbD n.op=false→zae n.op=false→zaU n.op=false→n.i=0)∧(zaU n.op=false→n.e=0)∧(zap n.op=false→n.g=0):=by
 unfold zb9 at h
 split at h
 ·cases h
 ·rename_i h1
  split at h
  ·cases h
  ·rename_i h2
   split at h
   ·cases h
   ·rename_i h3
    split at h
    ·cases h
    ·rename_i h4
     generalize zR n.op=a1 at *
     generalize zD n.op=a2 at *
     generalize zbD n.op=a3 at *
     generalize zae n.op=a4 at *
     generalize zaU n.op=a5 at *
     generalize zap n.op=a6 at *
     refine ⟨by simpa using h1,?_⟩
     simp only [zbA,zA] at h2 h3 h4
     cases a1<;>cases a2<;>cases a3<;>cases a4<;>cases a5<;>cases a6<;>simp at h2 h3 h4 ⊢ <;> omega
theorem zyJ {n:Nd} {a:Int} (h:zct n.op=true∧(zR n.op=true→0≤n.x∧n.x < a)∧(zR n.op=false→n.x=0)∧(zD n.op=true→0≤n.y∧n.y < a)∧(zD n.op=false→n.y=0) ∧
  (zbD n.op=true→0≤n.i∧n.i≤7)∧(zae n.op=true→0≤n.i∧n.i≤3)∧(zaU n.op=true→0≤n.i∧n.i≤7∧0≤n.e∧n.e≤7)∧(zap n.op=true→1≤n.g∧n.g≤15) ∧
  (zbD n.op=false→zae n.op=false→zaU n.op=false→n.i=0)∧(zaU n.op=false→n.e=0)∧(zap n.op=false→n.g=0)):zb9 n a=0:=by
 unfold zb9
 generalize zR n.op=a1 at *
 generalize zD n.op=a2 at *
 generalize zbD n.op=a3 at *
 generalize zae n.op=a4 at *
 generalize zaU n.op=a5 at *
 generalize zap n.op=a6 at *
 rw [if_neg (by simp [h.1]),if_neg,if_neg,if_neg]
 all_goals
  try simp only [zbA,zA]
  cases a1<;>cases a2<;>cases a3<;>cases a4<;>cases a5<;>cases a6<;>simp at h ⊢ <;> omega
structure FSt where
 out:List Nd
 done:List (Nat×Nat)
def put (l:List Nd) (x:Nd):Nat×List Nd:=match l.idxOf? x with
 | some k=>(k,l)
 | none=>(l.length,l++[x])
def fin (f:List Nd):Nat→Nat→FSt→Nat×FSt
 | 0,_,s=>(0,s)
 | k+1,i,s=>match s.done.lookup i with
  | some r=>(r,s)
  | none =>
   let n:=f.getD i default
   let a:=cond (zR n.op) (fin f k n.x.toNat s) (n.x.toNat,s)
   let b:=cond (zD n.op) (fin f k n.y.toNat a.2) (n.y.toNat,a.2)
   let p:=put b.2.out { n with x:=a.1,y:=b.1 }
   (p.1,⟨p.2,b.2.done++[(i,p.1)]⟩)
def zbF (f:List Nd) (root:Nat):List Nd:=(fin f (root+1) root ⟨[],[]⟩).2.out
inductive Tm where
 | z (h:Hd)
 | u (h:Hd) (x:Tm)
 | b (h:Hd) (x y:Tm)
def tm (f:List Nd):Nat→Nat→Tm
 | 0,_ => .z default
 | k+1,i =>
  let n:=f.getD i default
  cond (zD n.op) (.b n.hd (tm f k n.x.toNat) (tm f k n.y.toNat)) (cond (zR n.op) (.u n.hd (tm f k n.x.toNat)) (.z n.hd))
def zW (f:List Nd) (i:Nat):Tm:=tm f (i+1) i
theorem zgI {f:List Nd} (hf:zam f) {i:Nat} (hi:i < f.length):zb9 (f.getD i default) i=0:=hf i _ (by simp [hi])
theorem zaX {f:List Nd} (hf:zam f) {i:Nat} (hi:i < f.length) (h:zR (f.getD i default).op=true):0≤(f.getD i default).x∧(f.getD i default).x.toNat < i:=by
 have:=(ziH (zgI hf hi)).2.1 h;omega
theorem zdv {f:List Nd} (hf:zam f) {i:Nat} (hi:i < f.length) (h:zD (f.getD i default).op=true):0≤(f.getD i default).y∧(f.getD i default).y.toNat < i:=by
 have:=(ziH (zgI hf hi)).2.2.2.1 h;omega
theorem zgM {f:List Nd} (hf:zam f) : ∀ (k k' i:Nat),i < f.length→i < k→i < k'→tm f k i=tm f k' i
 | 0,_,_,_,h,_=>by omega
 | _+1,0,_,_,_,h=>by omega
 | k+1,k'+1,i,hi,h1,h2=>by
  unfold tm
  simp only
  cases hy:zD (f.getD i default).op with
  | true =>
   have e1:=zaX hf hi (zac hy)
   have e2:=zdv hf hi hy
   simp only [cond_true]
   rw [zgM hf k k' _ (by omega) (by omega) (by omega),zgM hf k k' (f.getD i default).y.toNat (by omega) (by omega) (by omega)]
  | false =>
   simp only [cond_false]
   cases hx:zR (f.getD i default).op with
   | true =>
    have e1:=zaX hf hi hx
    simp only [cond_true]
    rw [zgM hf k k' _ (by omega) (by omega) (by omega)]
   | false=>rfl
theorem zdI {f:List Nd} (hf:zam f) {i:Nat} (hi:i < f.length):zW f i=cond (zD (f.getD i default).op) (.b (f.getD i default).hd (zW f (f.getD i default).x.toNat) (zW f (f.getD i default).y.toNat)) (cond (zR (f.getD i default).op) (.u (f.getD i default).hd (zW f (f.getD i default).x.toNat)) (.z (f.getD i default).hd)):=by
 unfold zW
 rw [tm]
 try simp only
 cases hy:zD (f.getD i default).op with
 | true =>
  have e1:=zaX hf hi (zac hy)
  have e2:=zdv hf hi hy
  simp only [cond_true]
  rw [zgM hf i _ _ (by omega) (by omega) (Nat.lt_succ_self _),zgM hf i _ (f.getD i default).y.toNat (by omega) (by omega) (Nat.lt_succ_self _)]
 | false =>
  simp only [cond_false]
  cases hx:zR (f.getD i default).op with
  | true =>
   have e1:=zaX hf hi hx
   simp only [cond_true]
   rw [zgM hf i _ _ (by omega) (by omega) (Nat.lt_succ_self _)]
  | false=>rfl
theorem zhG {f g:List Nd} (hf:zam f) : ∀ (k i:Nat),i < f.length→tm (f++g) k i=tm f k i
 | 0,_,_=>rfl
 | k+1,i,hi=>by
  unfold tm
  simp only
  have e:(f++g).getD i default=f.getD i default:=by simp [List.getD,List.getElem?_append_left hi]
  rw [e]
  cases hy:zD (f.getD i default).op with
  | true =>
   have e1:=zaX hf hi (zac hy)
   have e2:=zdv hf hi hy
   simp only [cond_true]
   rw [zhG hf k _ (by omega),zhG hf k (f.getD i default).y.toNat (by omega)]
  | false =>
   simp only [cond_false]
   cases hx:zR (f.getD i default).op with
   | true =>
    have e1:=zaX hf hi hx
    simp only [cond_true]
    rw [zhG hf k _ (by omega)]
   | false=>rfl
theorem zaR {f g:List Nd} (hf:zam f) {i:Nat} (hi:i < f.length):zW (f++g) i=zW f i:=zhG hf _ _ hi
def Tm.all (p:Hd→Prop):Tm→Prop
 | .z h=>p h
 | .u h x=>p h∧x.all p
 | .b h x y=>p h∧x.all p∧y.all p
def Tm.size:Tm→Nat
 | .z _=>1
 | .u _ x=>x.size+1
 | .b _ x y=>x.size+y.size+1
structure zet (h:Hd):Prop where
 op:zct h.op=true
 fact:zbD h.op=true→0≤h.i∧h.i≤7
 agent:zae h.op=true→0≤h.i∧h.i≤3
 event:zaU h.op=true→0≤h.i∧h.i≤7∧0≤h.e∧h.e≤7
 group:zap h.op=true→1≤h.g∧h.g≤15
 i0:zbD h.op=false→zae h.op=false→zaU h.op=false→h.i=0
 e0:zaU h.op=false→h.e=0
 g0:zap h.op=false→h.g=0
theorem zbJ {n:Nd} {a:Int} : zb9 n a=0↔zet n.hd∧(zR n.op=true→0≤n.x∧n.x < a)∧(zR n.op=false→n.x=0)∧(zD n.op=true→0≤n.y∧n.y < a)∧(zD n.op=false→n.y=0):=by
 constructor
 ·intro h
  obtain ⟨h1,h2,h3,h4,h5,h6,h7,h8,h9,h10,h11,h12⟩:=ziH h
  exact ⟨⟨h1,h6,h7,h8,h9,h10,h11,h12⟩,h2,h3,h4,h5⟩
 ·rintro ⟨⟨h1,h6,h7,h8,h9,h10,h11,h12⟩,h2,h3,h4,h5⟩
  exact zyJ ⟨h1,h2,h3,h4,h5,h6,h7,h8,h9,h10,h11,h12⟩
def Tm.ok:Tm→Prop
 | .z h=>zet h∧zR h.op=false∧zD h.op=false
 | .u h x=>zet h∧zR h.op=true∧zD h.op=false∧x.ok
 | .b h x y=>zet h∧zR h.op=true∧zD h.op=true∧x.ok∧y.ok
theorem zgL {f:List Nd} (hf:zam f) : ∀ (n i:Nat),i < n→i < f.length→(zW f i).ok
 | 0,_,h,_=>by omega
 | n+1,i,h,hi=>by
  rw [zdI hf hi]
  have h0:=(zbJ.1 (zgI hf hi)).1
  cases hy:zD (f.getD i default).op with
  | true =>
   have e1:=zaX hf hi (zac hy)
   have e2:=zdv hf hi hy
   exact ⟨h0,zac hy,hy,zgL hf n _ (by omega) (by omega),zgL hf n _ (by omega) (by omega)⟩
  | false =>
   cases hx:zR (f.getD i default).op with
   | true =>
    have e1:=zaX hf hi hx
    exact ⟨h0,hx,hy,zgL hf n _ (by omega) (by omega)⟩
   | false=>exact ⟨h0,hx,hy⟩
def nd (h:Hd) (x y:Nat):Nd:=⟨h.op,h.i,h.e,h.g,x,y⟩
def zc:Tm→List Nd→Nat×List Nd
 | .z h,l=>put l (nd h 0 0)
 | .u h x,l=>put (zc x l).2 (nd h (zc x l).1 0)
 | .b h x y,l=>put (zc y (zc x l).2).2 (nd h (zc x l).1 (zc y (zc x l).2).1)
theorem zal {l:List Nd} {x:Nd} {k:Nat} (h:l.idxOf? x=some k):put l x=(k,l):=by unfold put;rw [h]
theorem zcJ {l:List Nd} {x:Nd} (h:l.idxOf? x=none):put l x=(l.length,l++[x]):=by unfold put;rw [h]
theorem zjK {l m:List Nd} {x:Nd} {k:Nat} (h:l.idxOf? x=some k):(l++m).idxOf? x=some k:=by
 simp only [List.idxOf?] at h ⊢
 rw [List.findIdx?_append,h];rfl
theorem zpe {l:List Nd} {x:Nd} {k:Nat} (h:l.idxOf? x=some k):l[k]? = some x:=by
 simp only [List.idxOf?] at h
 obtain ⟨h1,h2,h3⟩:=List.findIdx?_eq_some_iff_getElem.1 h
 simp at h2
 simp [h1,h2]
theorem zxa {l:List Nd} {x:Nd} (h:l.idxOf? x=none):(l++[x]).idxOf? x=some l.length:=by
 simp only [List.idxOf?] at h ⊢
 rw [List.findIdx?_append,h]
 simp
theorem zaY (l:List Nd) (x:Nd):(∃ m,(put l x).2=l++m)∧(put l x).2.idxOf? x=some (put l x).1:=by
 cases h:l.idxOf? x with
 | some k=>rw [zal h];exact ⟨⟨[],by simp⟩,h⟩
 | none=>rw [zcJ h];exact ⟨⟨[x],rfl⟩,zxa h⟩
theorem zbH : ∀ (t:Tm) (l:List Nd),∃ m,(zc t l).2=l++m
 | .z h,l=>(zaY _ _).1
 | .u h x,l=>by
  obtain ⟨m,hm⟩:=zbH x l
  obtain ⟨m',hm'⟩:=(zaY (zc x l).2 (nd h (zc x l).1 0)).1
  exact ⟨m++m',by rw [zc,hm',hm,List.append_assoc]⟩
 | .b h x y,l=>by
  obtain ⟨m,hm⟩:=zbH x l
  obtain ⟨m2,hm2⟩:=zbH y (zc x l).2
  obtain ⟨m',hm'⟩:=(zaY (zc y (zc x l).2).2 (nd h (zc x l).1 (zc y (zc x l).2).1)).1
  exact ⟨m++m2++m',by rw [zc,hm',hm2,hm,List.append_assoc,List.append_assoc,List.append_assoc]⟩
def zcB (t:Tm) (l:List Nd) (r:Nat):Prop:=zc t l=(r,l)
theorem zcB.mono : ∀ {t:Tm} {l:List Nd} {r:Nat} (m:List Nd),zcB t l r→zcB t (l++m) r
 | .z h,l,r,m,hh=>by
  unfold zcB zc at *
  cases hi:l.idxOf? (nd h 0 0) with
  | some k=>rw [zal hi] at hh;cases hh;rw [zal (zjK hi)]
  | none=>rw [zcJ hi] at hh;have:=congrArg (fun p=>p.2.length) hh;simp at this
 | .u h x,l,r,m,hh=>by
  unfold zcB at *
  obtain ⟨a,ha⟩:=zbH x l
  obtain ⟨b,hb⟩:=(zaY (zc x l).2 (nd h (zc x l).1 0)).1
  have e:a=[]∧b=[]:=by
   have:(zc (.u h x) l).2=l++a++b:=by rw [zc,hb,ha]
   rw [hh] at this
   have:=congrArg List.length this
   simp only [List.length_append] at this
   exact ⟨List.length_eq_zero_iff.1 (by omega),List.length_eq_zero_iff.1 (by omega)⟩
  obtain ⟨rfl,rfl⟩:=e
  rw [List.append_nil] at ha
  have hx:zcB x l (zc x l).1:=Prod.ext rfl ha
  have hx':=zcB.mono m hx
  unfold zcB at hx'
  rw [zc,ha] at hh
  rw [zc,hx']
  cases hi:l.idxOf? (nd h (zc x l).1 0) with
  | some k=>rw [zal hi] at hh;cases hh;exact zal (zjK hi)
  | none=>rw [zcJ hi] at hh;have:=congrArg (fun p=>p.2.length) hh;simp at this
 | .b h x y,l,r,m,hh=>by
  unfold zcB at *
  obtain ⟨a,ha⟩:=zbH x l
  obtain ⟨c,hc⟩:=zbH y (zc x l).2
  obtain ⟨b,hb⟩:=(zaY (zc y (zc x l).2).2 (nd h (zc x l).1 (zc y (zc x l).2).1)).1
  have e:a=[]∧c=[]∧b=[]:=by
   have:(zc (.b h x y) l).2=l++a++c++b:=by rw [zc,hb,hc,ha]
   rw [hh] at this
   have:=congrArg List.length this
   simp only [List.length_append] at this
   exact ⟨List.length_eq_zero_iff.1 (by omega),List.length_eq_zero_iff.1 (by omega),List.length_eq_zero_iff.1 (by omega)⟩
  obtain ⟨rfl,rfl,rfl⟩:=e
  rw [List.append_nil] at ha hc
  rw [ha] at hc
  have hx:zcB x l (zc x l).1:=Prod.ext rfl ha
  have hy:zcB y l (zc y l).1:=Prod.ext rfl hc
  have hx':=zcB.mono m hx
  have hy':=zcB.mono m hy
  unfold zcB at hx' hy'
  rw [zc,ha,hc] at hh
  rw [zc,hx']
  simp only
  rw [hy']
  cases hi:l.idxOf? (nd h (zc x l).1 (zc y l).1) with
  | some k=>rw [zal hi] at hh;cases hh;exact zal (zjK hi)
  | none=>rw [zcJ hi] at hh;have:=congrArg (fun p=>p.2.length) hh;simp at this
theorem zjE : ∀ (t:Tm) (l:List Nd),zcB t (zc t l).2 (zc t l).1
 | .z h,l=>by
  unfold zcB zc
  exact zal (zaY _ _).2
 | .u h x,l=>by
  obtain ⟨m,hm⟩:=(zaY (zc x l).2 (nd h (zc x l).1 0)).1
  have h1:=(zjE x l).mono m
  rw [← hm] at h1
  unfold zcB at *
  rw [zc,zc,h1]
  exact zal (zaY _ _).2
 | .b h x y,l=>by
  obtain ⟨m,hm⟩:=(zaY (zc y (zc x l).2).2 (nd h (zc x l).1 (zc y (zc x l).2).1)).1
  obtain ⟨m2,hm2⟩:=zbH y (zc x l).2
  have h1:=((zjE x l).mono m2).mono m
  rw [← hm2] at h1
  have h2:=(zjE y (zc x l).2).mono m
  rw [← hm] at h1 h2
  unfold zcB at *
  rw [zc,zc,h1]
  simp only
  rw [h2]
  exact zal (zaY _ _).2
theorem ziP (l:List Nd) (x:Nd):(put l x).1 < (put l x).2.length:=by
 have:=zpe (zaY l x).2
 exact (List.getElem?_eq_some_iff.1 this).1
theorem zmw : ∀ (t:Tm) (l:List Nd),(zc t l).1 < (zc t l).2.length
 | .z _,_=>ziP _ _
 | .u _ _,_=>ziP _ _
 | .b _ _ _,_=>ziP _ _
theorem znN {l:List Nd} {x:Nd} (hl:zam l) (h:zb9 x l.length=0):zam (put l x).2:=by
 cases hi:l.idxOf? x with
 | some k=>rw [zal hi];exact hl
 | none =>
  rw [zcJ hi]
  intro k n hk
  simp only [List.getElem?_append] at hk
  split at hk
  ·exact hl k n hk
  ·rename_i h1
   have:k=l.length:=by
    have:=(List.getElem?_eq_some_iff.1 hk).1;simp at this;omega
   subst this
   simp at hk;subst hk;exact h
theorem znO {l:List Nd} {x:Nd} (hl:zam l) (h:zb9 x l.length=0):(put l x).2.getD (put l x).1 default=x:=by
 have:=zpe (zaY l x).2
 simp [List.getD,this]
theorem zvB {k:Nat} : ((k:Nat):Int).toNat=k:=by omega
theorem zbu : ∀ (t:Tm) (l:List Nd),t.ok→zam l→zam (zc t l).2∧zW (zc t l).2 (zc t l).1=t
 | .z h,l,ht,hl=>by
  have hn:zb9 (nd h 0 0) l.length=0:=zbJ.2 ⟨ht.1,fun e=>by have:=ht.2.1;simp [nd] at e;simp [this] at e,fun _=>rfl,fun e=>by have:=ht.2.2;simp [nd] at e;simp [this] at e,fun _=>rfl⟩
  have h1:=znN hl hn
  refine ⟨h1,?_⟩
  have h2:=zdI h1 (ziP l (nd h 0 0))
  rw [znO hl hn] at h2
  rw [zc,h2]
  simp only [nd,ht.2.1,ht.2.2,cond_false,Nd.hd]
 | .u h x,l,ht,hl=>by
  obtain ⟨a1,a2⟩:=zbu x l ht.2.2.2 hl
  have a3:=zmw x l
  have hn:zb9 (nd h (zc x l).1 0) (zc x l).2.length=0:=zbJ.2 ⟨ht.1,fun e=>⟨by simp [nd],by simp only [nd];omega⟩,fun e=>by have:=ht.2.1;simp [nd] at e;simp [this] at e,fun e=>by have:=ht.2.2.1;simp [nd] at e;simp [this] at e,fun _=>rfl⟩
  have h1:=znN a1 hn
  refine ⟨h1,?_⟩
  have h2:=zdI h1 (ziP (zc x l).2 (nd h (zc x l).1 0))
  rw [znO a1 hn] at h2
  obtain ⟨m,hm⟩:=(zaY (zc x l).2 (nd h (zc x l).1 0)).1
  rw [zc,h2]
  simp only [nd,ht.2.1,ht.2.2.1,cond_false,cond_true,Nd.hd,zvB]
  have h3:zW (put (zc x l).2 (nd h (zc x l).1 0)).2 (zc x l).1=x:=by rw [hm,zaR a1 a3,a2]
  simp only [nd] at h3
  rw [h3]
 | .b h x y,l,ht,hl=>by
  obtain ⟨a1,a2⟩:=zbu x l ht.2.2.2.1 hl
  have a3:=zmw x l
  obtain ⟨b1,b2⟩:=zbu y (zc x l).2 ht.2.2.2.2 a1
  have b3:=zmw y (zc x l).2
  obtain ⟨m2,hm2⟩:=zbH y (zc x l).2
  have hn:zb9 (nd h (zc x l).1 (zc y (zc x l).2).1) (zc y (zc x l).2).2.length=0:=zbJ.2 ⟨ht.1,fun e=>⟨by simp [nd],by simp only [nd];rw [hm2,List.length_append];omega⟩,
   fun e=>by have:=ht.2.1;simp [nd] at e;simp [this] at e,fun e=>⟨by simp [nd],by simp only [nd];omega⟩,fun e=>by have:=ht.2.2.1;simp [nd] at e;simp [this] at e⟩
  have h1:=znN b1 hn
  refine ⟨h1,?_⟩
  have h2:=zdI h1 (ziP (zc y (zc x l).2).2 (nd h (zc x l).1 (zc y (zc x l).2).1))
  rw [znO b1 hn] at h2
  obtain ⟨m,hm⟩:=(zaY (zc y (zc x l).2).2 (nd h (zc x l).1 (zc y (zc x l).2).1)).1
  rw [zc,h2]
  simp only [nd,ht.2.1,ht.2.2.1,cond_false,cond_true,Nd.hd,zvB]
  have h3:zW (put (zc y (zc x l).2).2 (nd h (zc x l).1 (zc y (zc x l).2).1)).2 (zc x l).1=x:=by
   rw [hm,zaR b1 (by rw [hm2,List.length_append];omega),hm2,zaR a1 a3,a2]
  have h4:zW (put (zc y (zc x l).2).2 (nd h (zc x l).1 (zc y (zc x l).2).1)).2 (zc y (zc x l).2).1=y:=by
   rw [hm,zaR b1 b3,b2]
  simp only [nd] at h3 h4
  rw [h3,h4]
theorem zpl (p:Hd→Prop) (l:List Nd) (x:Nd):(∀ n∈(put l x).2,p n.hd)↔(∀ n∈l,p n.hd)∧p x.hd:=by
 cases hi:l.idxOf? x with
 | some k =>
  rw [zal hi]
  have:=List.mem_of_getElem? (zpe hi)
  exact ⟨fun h=>⟨h,h x this⟩,fun h=>h.1⟩
 | none =>
  rw [zcJ hi]
  simp only [List.mem_append,List.mem_singleton]
  exact ⟨fun h=>⟨fun n hn=>h n (.inl hn),h x (.inr rfl)⟩,fun h n hn=>hn.elim (h.1 n) (fun e=>e▸h.2)⟩
theorem zjD (p:Hd→Prop) : ∀ (t:Tm) (l:List Nd),(∀ n∈(zc t l).2,p n.hd)↔(∀ n∈l,p n.hd)∧t.all p
 | .z h,l=>zpl p l _
 | .u h x,l=>by
  rw [zc,zpl,zjD p x l,Tm.all]
  exact ⟨fun ⟨⟨a,b⟩,c⟩=>⟨a,c,b⟩,fun ⟨a,c,b⟩=>⟨⟨a,b⟩,c⟩⟩
 | .b h x y,l=>by
  rw [zc,zpl,zjD p y _,zjD p x l,Tm.all]
  exact ⟨fun ⟨⟨⟨a,b⟩,d⟩,c⟩=>⟨a,c,b,d⟩,fun ⟨a,c,b,d⟩=>⟨⟨⟨a,b⟩,d⟩,c⟩⟩
theorem zi8 : ∀ (t:Tm) (l:List Nd) (r:Nat),t.ok→zam l→l.length≤r→r < (zc t l).2.length→(zW (zc t l).2 r).size≤t.size∧(r+1 < (zc t l).2.length→(zW (zc t l).2 r).size < t.size)
 | .z h,l,r,ht,hl,h1,h2=>by
  obtain ⟨o1,o2⟩:=zbu (.z h) l ht hl
  have:(zc (.z h) l).1=r ∧ ¬ r+1 < (zc (.z h) l).2.length:=by
   unfold zc at h2 ⊢
   cases hi:l.idxOf? (nd h 0 0) with
   | some k=>rw [zal hi] at h2;simp at h2;omega
   | none=>rw [zcJ hi] at h2 ⊢;simp at h2 ⊢;omega
  rw [← this.1,o2]
  rw [this.1]
  exact ⟨Nat.le_refl _,fun h=>absurd h this.2⟩
 | .u h x,l,r,ht,hl,h1,h2=>by
  obtain ⟨o1,o2⟩:=zbu (.u h x) l ht hl
  obtain ⟨a1,a2⟩:=zbu x l ht.2.2.2 hl
  have ih:=zi8 x l r ht.2.2.2 hl h1
  by_cases hr:r < (zc x l).2.length
  ·obtain ⟨m,hm⟩:=(zaY (zc x l).2 (nd h (zc x l).1 0)).1
   have e:zW (zc (.u h x) l).2 r=zW (zc x l).2 r:=by rw [zc,hm,zaR a1 hr]
   rw [e]
   have:=(ih hr).1
   simp only [Tm.size]
   omega
  ·have:(zc (.u h x) l).1=r ∧ ¬ r+1 < (zc (.u h x) l).2.length:=by
    unfold zc at h2 ⊢
    cases hi:(zc x l).2.idxOf? (nd h (zc x l).1 0) with
    | some k=>rw [zal hi] at h2;simp at h2;omega
    | none=>rw [zcJ hi] at h2 ⊢;simp at h2 ⊢;omega
   rw [← this.1,o2,this.1]
   exact ⟨Nat.le_refl _,fun h=>absurd h this.2⟩
 | .b h x y,l,r,ht,hl,h1,h2=>by
  obtain ⟨o1,o2⟩:=zbu (.b h x y) l ht hl
  obtain ⟨a1,a2⟩:=zbu x l ht.2.2.2.1 hl
  obtain ⟨b1,b2⟩:=zbu y (zc x l).2 ht.2.2.2.2 a1
  have ih:=zi8 x l r ht.2.2.2.1 hl h1
  obtain ⟨m2,hm2⟩:=zbH y (zc x l).2
  obtain ⟨m,hm⟩:=(zaY (zc y (zc x l).2).2 (nd h (zc x l).1 (zc y (zc x l).2).1)).1
  by_cases hr:r < (zc x l).2.length
  ·have e:zW (zc (.b h x y) l).2 r=zW (zc x l).2 r:=by
    rw [zc,hm,zaR b1 (by rw [hm2,List.length_append];omega),hm2,zaR a1 hr]
   rw [e]
   have:=(ih hr).1
   simp only [Tm.size]
   omega
  ·have ih2:=zi8 y (zc x l).2 r ht.2.2.2.2 a1 (by omega)
   by_cases hr2:r < (zc y (zc x l).2).2.length
   ·have e:zW (zc (.b h x y) l).2 r=zW (zc y (zc x l).2).2 r:=by
     rw [zc,hm,zaR b1 hr2]
    rw [e]
    have:=(ih2 hr2).1
    simp only [Tm.size]
    omega
   ·have:(zc (.b h x y) l).1=r ∧ ¬ r+1 < (zc (.b h x y) l).2.length:=by
     unfold zc at h2 ⊢
     cases hi:(zc y (zc x l).2).2.idxOf? (nd h (zc x l).1 (zc y (zc x l).2).1) with
     | some k=>rw [zal hi] at h2;simp at h2;omega
     | none=>rw [zcJ hi] at h2 ⊢;simp at h2 ⊢;omega
    rw [← this.1,o2,this.1]
    exact ⟨Nat.le_refl _,fun h=>absurd h this.2⟩
theorem zfn:zam []:=fun k n h=>by simp at h
theorem zpF {t:Tm} (ht:t.ok):(zc t []).1+1=(zc t []).2.length:=by
 have h1:=zmw t []
 have h2:=(zbu t [] ht zfn).2
 by_cases h:(zc t []).1+1 < (zc t []).2.length
 ·have:=(zi8 t [] (zc t []).1 ht zfn (by simp) h1).2 h
  rw [h2] at this;omega
 ·omega
end Go.Ab
namespace Go.Ab
structure zi2 (f:List Nd) (s:FSt):Prop where
 has : ∀ i r,s.done.lookup i=some r→zcB (zW f i) s.out r
 rng : ∀ p∈s.done,p.1 < f.length
 keys:(s.done.map Prod.fst).Nodup
 len:s.out.length≤s.done.length
theorem zsU {d:List (Nat×Nat)} {i:Nat} (h : ∀ p∈d,p.1≠i):d.lookup i=none:=by
 induction d with
 | nil=>rfl
 | cons p d ih =>
  obtain ⟨a,b⟩:=p
  have h0:=h (a,b) (by simp)
  have:(i==a)=false:=by simpa using fun e=>h0 e.symm
  simp only [List.lookup,this]
  exact ih fun q hq=>h q (by simp [hq])
theorem zoA {d:List (Nat×Nat)} {i:Nat} (h:d.lookup i=none) : ∀ p∈d,p.1≠i:=by
 induction d with
 | nil=>simp
 | cons p d ih =>
  obtain ⟨a,b⟩:=p
  simp only [List.lookup] at h
  split at h
  ·cases h
  ·rename_i e
   intro q hq
   rcases List.mem_cons.1 hq with rfl|hq
   ·intro h';subst h';simp at e
   ·exact ih h q hq
theorem lookup_append {d:List (Nat×Nat)} {i j r q:Nat} (h:(d++[(i,r)]).lookup j=some q):d.lookup j=some q∨(j=i∧q=r∧d.lookup j=none):=by
 induction d with
 | nil =>
  simp only [List.nil_append,List.lookup] at h
  split at h
  ·rename_i e;simp at e;cases h;exact .inr ⟨e,rfl,rfl⟩
  ·cases h
 | cons p d ih =>
  obtain ⟨a,b⟩:=p
  simp only [List.cons_append,List.lookup] at h ⊢
  split at h
  ·exact .inl h
  ·exact ih h
theorem zg5 {f:List Nd} (hf:zam f) : ∀ (k i:Nat) (s:FSt),i < k→i < f.length→zi2 f s →
  zi2 f (fin f k i s).2∧(fin f k i s).1=(zc (zW f i) s.out).1∧(fin f k i s).2.out=(zc (zW f i) s.out).2∧(∃ l,(fin f k i s).2.done=s.done++l ∧ ∀ p∈l,p.1≤i)
 | 0,i,s,h,_,_=>by omega
 | k+1,i,s,hk,hi,hs=>by
  unfold fin
  cases hd:s.done.lookup i with
  | some r =>
   have:=hs.has i r hd
   unfold zcB at this
   refine ⟨hs,?_,?_,[],by simp,by simp⟩
   ·rw [this]
   ·rw [this]
  | none =>
   simp only
   have key : ∀ (a b:Nat) (s2:FSt),zi2 f s2→(∃ l,s2.done=s.done++l ∧ ∀ p∈l,p.1 < i)→zc (zW f i) s.out=put s2.out (nd (f.getD i default).hd a b) →
     (∃ m,s2.out=s.out++m) →
     zi2 f ⟨(put s2.out (nd (f.getD i default).hd a b)).2,s2.done++[(i,(put s2.out (nd (f.getD i default).hd a b)).1)]⟩∧(put s2.out (nd (f.getD i default).hd a b)).1=(zc (zW f i) s.out).1 ∧
     (put s2.out (nd (f.getD i default).hd a b)).2=(zc (zW f i) s.out).2∧(∃ l,s2.done++[(i,(put s2.out (nd (f.getD i default).hd a b)).1)]=s.done++l ∧ ∀ p∈l,p.1≤i):=by
    intro a b s2 h2 hl hT hm
    obtain ⟨l,hl1,hl2⟩:=hl
    obtain ⟨m,hm⟩:=(zaY s2.out (nd (f.getD i default).hd a b)).1
    have hni : ∀ p∈s2.done,p.1≠i:=by
     intro p hp
     rw [hl1,List.mem_append] at hp
     rcases hp with hp|hp
     ·exact zoA hd p hp
     ·have:=hl2 p hp;omega
    refine ⟨⟨fun j r hj=>?_,fun p hp=>?_,?_,?_⟩,by rw [hT],by rw [hT],l++[(i,(put s2.out (nd (f.getD i default).hd a b)).1)],by rw [hl1,List.append_assoc],fun p hp=>?_⟩
    ·rcases lookup_append hj with h|⟨rfl,rfl,-⟩
     ·have:=(h2.has j r h).mono m
      rw [← hm] at this;exact this
     ·rw [← hT];exact zjE _ _
    ·rcases List.mem_append.1 hp with hp|hp
     ·exact h2.rng p hp
     ·simp at hp;subst hp;exact hi
    ·simp only [List.map_append,List.map_cons,List.map_nil]
     rw [List.nodup_append]
     refine ⟨h2.keys,by simp,fun x hx y hy=>?_⟩
     simp at hy;subst hy
     obtain ⟨p,hp,rfl⟩:=List.mem_map.1 hx
     exact hni p hp
    ·have:=h2.len
     simp only [List.length_append,List.length_cons,List.length_nil]
     cases hx:s2.out.idxOf? (nd (f.getD i default).hd a b) with
     | some k=>rw [zal hx];simp only;omega
     | none=>rw [zcJ hx];simp only [List.length_append,List.length_cons,List.length_nil];omega
    ·rcases List.mem_append.1 hp with hp|hp
     ·have:=hl2 p hp;omega
     ·simp at hp;subst hp;exact Nat.le_refl _
   have hT:=zdI hf hi
   have hn:=zbJ.1 (zgI hf hi)
   cases hy:zD (f.getD i default).op with
   | true =>
    have hx:=zac hy
    have e1:=zaX hf hi hx
    have e2:=zdv hf hi hy
    simp only [hy,hx,cond_true] at hT ⊢
    obtain ⟨a1,a2,a3,la,a4,a5⟩:=zg5 hf k (f.getD i default).x.toNat s (by omega) (by omega) hs
    obtain ⟨b1,b2,b3,lb,b4,b5⟩:=zg5 hf k (f.getD i default).y.toNat (fin f k (f.getD i default).x.toNat s).2 (by omega) (by omega) a1
    obtain ⟨m1,hm1⟩:=zbH (zW f (f.getD i default).x.toNat) s.out
    obtain ⟨m2,hm2⟩:=zbH (zW f (f.getD i default).y.toNat) (fin f k (f.getD i default).x.toNat s).2.out
    refine key _ _ _ b1 ⟨la++lb,by rw [b4,a4,List.append_assoc],fun p hp=>?_⟩ ?_ ⟨m1++m2,by rw [b3,hm2,a3,hm1,List.append_assoc]⟩
    ·rcases List.mem_append.1 hp with hp|hp
     ·have:=a5 p hp;omega
     ·have:=b5 p hp;omega
    ·rw [hT,zc,b3,b2,a3,a2]
   | false =>
    cases hx:zR (f.getD i default).op with
    | true =>
     have e1:=zaX hf hi hx
     simp only [hy,hx,cond_true,cond_false] at hT ⊢
     obtain ⟨a1,a2,a3,la,a4,a5⟩:=zg5 hf k (f.getD i default).x.toNat s (by omega) (by omega) hs
     obtain ⟨m1,hm1⟩:=zbH (zW f (f.getD i default).x.toNat) s.out
     have e0:(f.getD i default).y.toNat=0:=by rw [hn.2.2.2.2 hy];rfl
     refine key _ _ _ a1 ⟨la,a4,fun p hp=>by have:=a5 p hp;omega⟩ ?_ ⟨m1,by rw [a3,hm1]⟩
     rw [hT,zc,a2,a3,e0]
    | false =>
     simp only [hy,hx,cond_true,cond_false] at hT ⊢
     have e0:(f.getD i default).y.toNat=0:=by rw [hn.2.2.2.2 hy];rfl
     have e1:(f.getD i default).x.toNat=0:=by rw [hn.2.2.1 hx];rfl
     refine key _ _ _ hs ⟨[],by simp,by simp⟩ ?_ ⟨[],by simp⟩
     rw [hT,zc,e0,e1]
theorem zfg {f:List Nd} (hf:zam f) : ∀ (k k' i:Nat) (s:FSt),i < k→i < k'→i < f.length→fin f k i s=fin f k' i s
 | 0,_,_,_,h,_,_=>by omega
 | _+1,0,_,_,_,h,_=>by omega
 | k+1,k'+1,i,s,h1,h2,hi=>by
  unfold fin
  cases hd:s.done.lookup i with
  | some r=>rfl
  | none =>
   simp only
   cases hy:zD (f.getD i default).op with
   | true =>
    have hx:=zac hy
    have e1:=zaX hf hi hx
    have e2:=zdv hf hi hy
    simp only [hx,cond_true]
    rw [zfg hf k k' (f.getD i default).x.toNat s (by omega) (by omega) (by omega),zfg hf k k' (f.getD i default).y.toNat _ (by omega) (by omega) (by omega)]
   | false =>
    cases hx:zR (f.getD i default).op with
    | true =>
     have e1:=zaX hf hi hx
     simp only [cond_true,cond_false]
     rw [zfg hf k k' (f.getD i default).x.toNat s (by omega) (by omega) (by omega)]
    | false=>rfl
theorem ztm (f:List Nd):zi2 f ⟨[],[]⟩:=⟨fun i r h=>by simp at h,by simp,by simp,by simp⟩
theorem zpL {l:List Nat} {n:Nat} (h:l.Nodup) (hn : ∀ x∈l,x < n):l.length≤n:=by
 have h2:l ⊆ List.range n:=fun x hx=>List.mem_range.2 (hn x hx)
 have:=List.Nodup.length_le_of_subset h h2
 simpa using this
structure zmn (t:Tm) (c:List Nd):Prop where
 ok:zam c
 pos:0 < c.length
 tree:zW c (c.length - 1)=t
 all : ∀ p:Hd→Prop,(∀ n∈c,p n.hd)↔t.all p
theorem zzf {t:Tm} (ht:t.ok):zmn t (zc t []).2:=by
 have h1:=zpF ht
 obtain ⟨h2,h3⟩:=zbu t [] ht zfn
 refine ⟨h2,by omega,by rw [← h1,Nat.add_sub_cancel];exact h3,fun p=>?_⟩
 rw [zjD p t []];simp
theorem zhM {f:List Nd} (hf:zam f) {i:Nat} (hi:i < f.length):zbF f i=(zc (zW f i) []).2∧(zbF f i).length≤f.length∧(fin f (i+1) i ⟨[],[]⟩).1+1=(zbF f i).length:=by
 obtain ⟨a1,a2,a3,a4⟩:=zg5 hf (i+1) i ⟨[],[]⟩ (by omega) hi (ztm f)
 refine ⟨a3,?_,?_⟩
 ·have h1:=a1.len
  have h2:=zpL a1.keys (n:=f.length) (fun x hx=>by obtain ⟨p,hp,rfl⟩:=List.mem_map.1 hx;exact a1.rng p hp)
  rw [List.length_map] at h2
  unfold zbF;omega
 ·unfold zbF
  rw [a2,a3]
  exact zpF (zgL hf (i+1) i (by omega) hi)
theorem zia {f:List Nd} (hf:zam f) {i:Nat} (hi:i < f.length):zmn (zW f i) (zbF f i):=by
 rw [(zhM hf hi).1];exact zzf (zgL hf (i+1) i (by omega) hi)
def zat {β:Type} (v:Hd→β→β→β) (d:β):List Nd→List β→List β
 | [],acc=>acc
 | n::r,acc=>zat v d r (acc++[v n.hd (acc.getD n.x.toNat d) (acc.getD n.y.toNat d)])
def ev {β:Type} (v:Hd→β→β→β) (d:β):Tm→β
 | .z h=>v h d d
 | .u h x=>v h (ev v d x) d
 | .b h x y=>v h (ev v d x) (ev v d y)
structure ztF {β:Type} (v:Hd→β→β→β):Prop where
 x : ∀ h a b c,zR h.op=false→v h a c=v h b c
 y : ∀ h a b c,zD h.op=false→v h c a=v h c b
theorem znV {β:Type} (v:Hd→β→β→β) (d:β) : ∀ (l:List Nd) (acc:List β),(zat v d l acc).length=acc.length+l.length
 | [],acc=>by simp [zat]
 | n::r,acc=>by rw [zat,znV v d r];simp;omega
theorem ztu {β:Type} {v:Hd→β→β→β} {d:β} (hv:ztF v) {f:List Nd} (hf:zam f) : ∀ (l:List Nd) (acc:List β),f.drop acc.length=l→acc.length≤f.length→(∀ i,i < acc.length→acc.getD i d=ev v d (zW f i)) →
  ∀ i,i < f.length→(zat v d l acc).getD i d=ev v d (zW f i)
 | [],acc,h1,h2,h3,i,hi=>by
  have:acc.length=f.length:=by
   have:=congrArg List.length h1;simp at this;omega
  exact h3 i (by omega)
 | n::r,acc,h1,h2,h3,i,hi=>by
  have hlt:acc.length < f.length:=by
   have:=congrArg List.length h1;simp at this;omega
  have hn:f.getD acc.length default=n:=by
   have:=congrArg (fun l=>l[0]?) h1
   simp at this
   simp [List.getD,this]
  rw [zat]
  refine ztu hv hf r _ ?_ (by simp;omega) (fun j hj=>?_) i hi
  ·simp only [List.length_append,List.length_cons,List.length_nil]
   have:=congrArg List.tail h1
   simpa using this
  ·by_cases hj2:j < acc.length
   ·rw [show (acc++[v n.hd (acc.getD n.x.toNat d) (acc.getD n.y.toNat d)]).getD j d=acc.getD j d by simp [List.getD,List.getElem?_append_left hj2]]
    exact h3 j hj2
   ·simp at hj
    have e:j=acc.length:=by omega
    subst e
    rw [show (acc++[v n.hd (acc.getD n.x.toNat d) (acc.getD n.y.toNat d)]).getD acc.length d=v n.hd (acc.getD n.x.toNat d) (acc.getD n.y.toNat d) by simp [List.getD]]
    rw [zdI hf hlt,hn]
    cases hy:zD n.op with
    | true =>
     have hx:=zac hy
     have e1:=zaX hf hlt (by rw [hn];exact hx)
     have e2:=zdv hf hlt (by rw [hn];exact hy)
     rw [hn] at e1 e2
     simp only [cond_true,ev]
     rw [h3 _ e1.2,h3 _ e2.2]
    | false =>
     cases hx:zR n.op with
     | true =>
      have e1:=zaX hf hlt (by rw [hn];exact hx)
      rw [hn] at e1
      simp only [cond_true,cond_false,ev]
      rw [h3 _ e1.2]
      exact hv.y _ _ _ _ hy
     | false =>
      simp only [cond_false,ev]
      rw [hv.x _ _ d _ hx,hv.y _ _ d _ hy]
theorem zqb {β:Type} {v:Hd→β→β→β} {d:β} (hv:ztF v) {t:Tm} {c:List Nd} (hc:zmn t c):(zat v d c []).getD (c.length - 1) d=ev v d t:=by
 have hp:=hc.pos
 rw [ztu hv hc.ok c [] (by simp) (by simp) (fun i hi=>by simp at hi) (c.length - 1) (by omega),hc.tree]
end Go.Ab
namespace Go.Ab
open Go Go.Proofs
set_option maxRecDepth 10000
set_option maxHeartbeats 4000000
variable {T:Nat→Obj→Prop}
theorem zE.yes {b:Bool} {p q:Prop} (hb:b=true) (h:p):zE b p q:=⟨fun _=>h,fun e=>by rw [hb] at e;cases e⟩
theorem zE.no {b:Bool} {p q:Prop} (hb:b=false) (h:q):zE b p q:=⟨fun e=>(by rw [hb] at e;cases e),fun _=>h⟩
theorem zE.decY {x:Prop} [Decidable x] {p q:Prop} (hx:x) (h:p):zE (decide x) p q := .yes (decide_eq_true hx) h
theorem zE.decN {x:Prop} [Decidable x] {p q:Prop} (hx : ¬x) (h:q):zE (decide x) p q := .no (decide_eq_false hx) h
abbrev dNd (n:Nd):D := .agg [.int .i64 n.op,.int .i64 n.i,.int .i64 n.e,.int .i64 n.g,.int .i64 n.x,.int .i64 n.y]
abbrev dF (f:List Nd):D := .arr 6 (f.map dNd)
end Go.Ab
namespace Go.Ab
open Go Go.Proofs
set_option maxRecDepth 10000
set_option maxHeartbeats 4000000
variable {T:Nat→Obj→Prop}
theorem zyU (a b:Nd):D.eqk (dNd a) (dNd b)=some (decide (a=b)):=by
 obtain ⟨a1,a2,a3,a4,a5,a6⟩:=a
 obtain ⟨b1,b2,b3,b4,b5,b6⟩:=b
 show some (decide (a1=b1)&&(decide (a2=b2)&&(decide (a3=b3)&&(decide (a4=b4)&&(decide (a5=b5)&&(decide (a6=b6)&&true))))))=_
 simp only [Nd.mk.injEq,Bool.decide_and,Bool.and_true]
theorem zu4 {f:List Nd} (hf:zam f) {k:Nat} {s:FSt} (hk:k < f.length) (hd:s.done.lookup k=none) (hx:zR (f.getD k default).op=false) (hy:zD (f.getD k default).op=false) :
  fin f (k+1) k s=((put s.out (f.getD k default)).1,⟨(put s.out (f.getD k default)).2,s.done++[(k,(put s.out (f.getD k default)).1)]⟩):=by
 have hn:=zbJ.1 (zgI hf hk)
 rw [fin,hd]
 simp only [hx,hy,cond_false]
 have e0:(((f.getD k default).y.toNat:Nat):Int)=(f.getD k default).y:=by rw [hn.2.2.2.2 hy];rfl
 have e1:(((f.getD k default).x.toNat:Nat):Int)=(f.getD k default).x:=by rw [hn.2.2.1 hx];rfl
 rw [e0,e1]
theorem zu5 {f:List Nd} (hf:zam f) {k:Nat} {s:FSt} (hk:k < f.length) (hd:s.done.lookup k=none) {n:Nd} (hn:f.getD k default=n) (hx:zR n.op=true) (hy:zD n.op=false) {r:Nat} {s1:FSt} (h1:fin f (n.x.toNat+1) n.x.toNat s=(r,s1)) :
  fin f (k+1) k s=((put s1.out ⟨n.op,n.i,n.e,n.g,(r:Int),n.y⟩).1,⟨(put s1.out ⟨n.op,n.i,n.e,n.g,(r:Int),n.y⟩).2,s1.done++[(k,(put s1.out ⟨n.op,n.i,n.e,n.g,(r:Int),n.y⟩).1)]⟩):=by
 subst hn
 have hn:=zbJ.1 (zgI hf hk)
 have e1:=zaX hf hk hx
 rw [fin,hd]
 simp only [hx,hy,cond_false,cond_true]
 rw [zfg hf k ((f.getD k default).x.toNat+1) _ _ (by omega) (by omega) (by omega),h1]
 have e0:(((f.getD k default).y.toNat:Nat):Int)=(f.getD k default).y:=by rw [hn.2.2.2.2 hy];rfl
 simp only [e0]
theorem zu6 {f:List Nd} (hf:zam f) {k:Nat} {s:FSt} (hk:k < f.length) (hd:s.done.lookup k=none) {n:Nd} (hn:f.getD k default=n) (hx:zR n.op=true) (hy:zD n.op=true) {r r2:Nat} {s1 s2:FSt} (h1:fin f (n.x.toNat+1) n.x.toNat s=(r,s1)) (h2:fin f (n.y.toNat+1) n.y.toNat s1=(r2,s2)) :
  fin f (k+1) k s=((put s2.out ⟨n.op,n.i,n.e,n.g,(r:Int),(r2:Int)⟩).1,⟨(put s2.out ⟨n.op,n.i,n.e,n.g,(r:Int),(r2:Int)⟩).2,s2.done++[(k,(put s2.out ⟨n.op,n.i,n.e,n.g,(r:Int),(r2:Int)⟩).1)]⟩):=by
 subst hn
 have e1:=zaX hf hk hx
 have e2:=zdv hf hk hy
 rw [fin,hd]
 simp only [hx,hy,cond_true]
 rw [zfg hf k ((f.getD k default).x.toNat+1) (f.getD k default).x.toNat s (by omega) (by omega) (by omega),h1]
 simp only
 rw [zfg hf k ((f.getD k default).y.toNat+1) (f.getD k default).y.toNat s1 (by omega) (by omega) (by omega),h2]
theorem zgp {f:List Nd} (hf:zam f) {j k:Nat} {s:FSt} (hj:j < k) (hjf:j < f.length) (hs:zi2 f s) (hd:s.done.lookup k=none):zi2 f (fin f (j+1) j s).2∧(fin f (j+1) j s).2.done.lookup k=none:=by
 obtain ⟨h1,h2,h3,l,h4,h5⟩:=zg5 hf (j+1) j s (by omega) hjf hs
 refine ⟨h1,?_⟩
 rw [h4]
 exact zsU fun p hp=>by
  rcases List.mem_append.1 hp with hp|hp
  ·exact zoA hd p hp
  ·have:=h5 p hp;omega
theorem zim {f:List Nd} {s:FSt} (hs:zi2 f s):s.out.length≤f.length:=by
 have h1:=hs.len
 have h2:=zpL hs.keys (n:=f.length) (fun x hx=>by obtain ⟨p,hp,rfl⟩:=List.mem_map.1 hx;exact hs.rng p hp)
 rw [List.length_map] at h2
 omega
theorem zai.objsE {P:Program} {M:Nat→Option Ob} {n f:Nat} {vs lvs:List V} {obs:List Ob} {y:D} {obs':List (Option Ob)} {K:V→Upd→Nat→Prop} (js:List Nat) (hf:Fn P T f lvs obs (.d y) obs') (ha:VPasses M js [] 20 lvs vs)
  (ho:zaE M js [] obs js) (hnd:nodup js=true) (hsj:zdx js (zH M vs)=true) (hle:js.length≤obs'.length) (u:Upd) (hu:zfA js [] n obs' false=u)
  (hK:K (.d y) u (obs'.length - js.length)):zai (zcc P T) M n f vs K := .objs js hf ha ho hnd hsj hle (by rw [hu];exact hK)
end Go.Ab
namespace Go.Ab
def uni (m:Hd→Nat) (c:List Nd):Nat:=c.foldl (fun s n=>s|||m n.hd) 0
theorem zwo (m:Hd→Nat) : ∀ (c:List Nd) (s:Nat) (i:Nat),(c.foldl (fun s n=>s|||m n.hd) s).testBit i=(s.testBit i||c.any fun n=>(m n.hd).testBit i)
 | [],s,i=>by simp
 | n::r,s,i=>by simp only [List.foldl_cons,zwo m r,Nat.testBit_or,List.any_cons,Bool.or_assoc]
theorem zgP (m:Hd→Nat) (c:List Nd) (i:Nat):(uni m c).testBit i=c.any fun n=>(m n.hd).testBit i:=by
 unfold uni;rw [zwo];simp
theorem zhg (m:Hd→Nat) {c:List Nd} {k:Nat} {n:Nd} (h:c[k]? = some n):uni m (c.take (k+1))=uni m (c.take k)|||m n.hd:=by
 unfold uni
 rw [List.take_add_one,h]
 simp
theorem zdZ (m:Hd→Nat) {b:Nat} : ∀ {c:List Nd},uni m c < 2 ^ b ↔ ∀ n∈c,m n.hd < 2 ^ b:=by
 intro c
 constructor
 ·intro h n hn
  refine Nat.lt_pow_two_of_testBit _ fun i hi=>?_
  have h1:=Nat.testBit_lt_two_pow (Nat.lt_of_lt_of_le h (Nat.pow_le_pow_right (by omega) hi))
  rw [zgP] at h1
  exact Bool.eq_false_iff.2 fun h2=>by
   have:(c.any fun n=>(m n.hd).testBit i)=true:=List.any_eq_true.2 ⟨n,hn,h2⟩
   rw [this] at h1;cases h1
 ·intro h
  refine Nat.lt_pow_two_of_testBit _ fun i hi=>?_
  rw [zgP]
  refine List.any_eq_false.2 fun n hn=>?_
  have:=Nat.testBit_lt_two_pow (Nat.lt_of_lt_of_le (h n hn) (Nat.pow_le_pow_right (by omega) hi))
  simp [this]
theorem zoD {k:IntKind} {a:Nat} (h:a < 2 ^ k.bits):(BitVec.ofInt k.bits (a:Int)).toNat=a:=by
 rw [BitVec.toNat_ofInt,Int.emod_eq_of_lt (Int.natCast_nonneg a) (show (a:Int) < ((2 ^ k.bits:Nat):Int) from Int.ofNat_lt.2 h)]
 rfl
theorem zsy {a:Nat} (h:a < 2 ^ 63):IntKind.wrap .i64 (a:Int)=a:=zsx ⟨by omega,by omega⟩
theorem zfc {a b:Nat} (ha:a < 2 ^ 63) (hb:b < 2 ^ 63):zaK .i64 (fun p q=>p|||q) (a:Int) (b:Int)=((a|||b:Nat):Int):=by
 unfold zaK
 rw [BitVec.toNat_or,zoD (k := .i64) (by simp [IntKind.bits];omega),zoD (k := .i64) (by simp [IntKind.bits];omega)]
 exact zsy (Nat.or_lt_two_pow ha hb)
theorem zhJ {a b:Nat} (ha:a < 2 ^ 63) (hb:b < 2 ^ 63):zaK .i64 (fun p q=>p &&& ~~~q) (a:Int) (b:Int)=0 ↔ ∀ i,a.testBit i=true→b.testBit i=true:=by
 unfold zaK
 have h64 : ∀ {a:Nat},a < 2 ^ 63→a < 2 ^ 64:=fun h=>by omega
 have e:(BitVec.ofInt IntKind.i64.bits (a:Int) &&& ~~~BitVec.ofInt IntKind.i64.bits (b:Int)).toNat < 2 ^ 63:=by
  rw [BitVec.toNat_and,zoD (k := .i64) (h64 ha)]
  exact Nat.lt_of_le_of_lt Nat.and_le_left ha
 rw [zsy e]
 have e2:(((BitVec.ofInt IntKind.i64.bits (a:Int) &&& ~~~BitVec.ofInt IntKind.i64.bits (b:Int)).toNat:Nat):Int)=0↔(BitVec.ofInt IntKind.i64.bits (a:Int) &&& ~~~BitVec.ofInt IntKind.i64.bits (b:Int))=0#_:=by
  constructor
  ·intro h;exact BitVec.eq_of_toNat_eq (by simpa using (show (BitVec.ofInt IntKind.i64.bits (a:Int) &&& ~~~BitVec.ofInt IntKind.i64.bits (b:Int)).toNat=0 by omega))
  ·intro h;rw [h];simp
 rw [e2]
 have bit : ∀ {c:Nat},c < 2 ^ 63 → ∀ i,(BitVec.ofInt IntKind.i64.bits (c:Int)).getLsbD i=c.testBit i:=fun {c} hc i=>by
  rw [← BitVec.testBit_toNat,zoD (k := .i64) (h64 hc)]
 constructor
 ·intro h i hi
  have h2:=congrArg (fun x=>x.getLsbD i) h
  have hlt:i < 64:=by
   refine Nat.lt_of_not_le fun hle=>?_
   have:=Nat.testBit_lt_two_pow (Nat.lt_of_lt_of_le (h64 ha) (Nat.pow_le_pow_right (by omega) hle))
   rw [this] at hi;cases hi
  simp only [BitVec.getLsbD_and,BitVec.getLsbD_not,bit ha,bit hb,hi,Bool.true_and,BitVec.getLsbD_zero] at h2
  have:decide (i < IntKind.i64.bits)=true:=decide_eq_true hlt
  rw [this] at h2
  simpa using h2
 ·intro h
  apply BitVec.eq_of_getLsbD_eq
  intro i hi
  simp only [BitVec.getLsbD_and,BitVec.getLsbD_not,bit ha,bit hb,BitVec.getLsbD_zero]
  cases ha':a.testBit i with
  | false=>simp
  | true=>simp [h i ha']
theorem zyY {a n:Nat} : (a:Int).fdiv (2 ^ n)=((a >>> n:Nat):Int):=by
 have e:((2:Int) ^ n)=((2 ^ n:Nat):Int):=by simp
 rw [e,Nat.shiftRight_eq_div_pow,Int.fdiv_eq_ediv_of_nonneg _ (Int.natCast_nonneg _)];rfl
def zaM (h:Hd):Nat:=(zcZ h.op).toNat
def zbb (h:Hd):Nat:=if zbD h.op=true then 2 ^ h.i.toNat else 0
def zaf (h:Hd):Nat:=if zae h.op=true then 2 ^ h.i.toNat else h.g.toNat
theorem zue (h:Hd):((zaM h:Nat):Int)=zcZ h.op:=by
 unfold zaM zcZ
 repeat' split
 all_goals rfl
theorem zg7 (h:Hd):zaM h < 2 ^ 9:=by
 unfold zaM zcZ
 repeat' split
 all_goals decide
theorem znv {h:Hd} (hh:zet h):zbb h < 2 ^ 8:=by
 unfold zbb
 split
 ·rename_i h1
  have:=hh.fact h1
  exact Nat.pow_lt_pow_right (by omega) (by omega)
 ·decide
theorem zkV {h:Hd} (hh:zet h):zaf h < 2 ^ 4:=by
 unfold zaf
 split
 ·rename_i h1
  have:=hh.agent h1
  exact Nat.pow_lt_pow_right (by omega) (by omega)
 ·cases hg:zap h.op with
  | true=>have:=hh.group hg;omega
  | false=>have:=hh.g0 hg;omega
end Go.Ab
namespace Go.Ab
open Go Go.Proofs
set_option maxRecDepth 10000
set_option maxHeartbeats 4000000
variable {T:Nat→Obj→Prop}
def zig (p:PM) (g:Nat) (s:BitVec 64) (k:Nat):BitVec 64:=(List.range k).foldl (fun o (a:Nat)=>if g.testBit a=true then o&&&zbM p (a:Int) s else o) (zaq p.W)
def zeA (p:PM) (g:Nat) (s:BitVec 64):BitVec 64:=zig p g s p.cell.length
theorem zsK (p:PM) (g:Nat) (s:BitVec 64) (k:Nat):zig p g s (k+1)=if g.testBit k=true then zig p g s k&&&zbM p (k:Int) s else zig p g s k:=by
 rw [zig,List.range_succ,List.foldl_append];rfl
end Go.Ab
namespace Go.Ab
open Go Go.Proofs
set_option maxRecDepth 10000
set_option maxHeartbeats 4000000
variable {T:Nat→Obj→Prop}
theorem zft {x s:BitVec 64} : x &&& ~~~s=0#64 ↔ ∀ i,x.getLsbD i=true→s.getLsbD i=true:=by
 rw [zx2]
 constructor
 ·intro h i hi
  have h1:=h i
  rw [BitVec.getLsbD_and,BitVec.getLsbD_not,hi,Bool.true_and] at h1
  have:i < 64:=BitVec.lt_of_getLsbD hi
  simpa [this] using h1
 ·intro h i
  rw [BitVec.getLsbD_and,BitVec.getLsbD_not]
  cases hx:x.getLsbD i with
  | false=>simp
  | true=>simp [h i hx]
theorem zhH {x y:BitVec 64} (h : ∀ i,x.getLsbD i=true↔y.getLsbD i=true):x=y :=
 BitVec.eq_of_getLsbD_eq fun i _=>Bool.eq_iff_iff.2 (h i)
theorem zfs {n:Nat} (hn:n≤64) {f:Nat→Bool} {w:Nat} : (zL f n).getLsbD w=true↔w < n∧f w=true:=by
 rw [zf8]
 simp only [Bool.and_eq_true,decide_eq_true_eq]
 exact ⟨fun h=>⟨h.1.2,h.2⟩,fun h=>⟨⟨by omega,h.1⟩,h.2⟩⟩
theorem zdX {n:Nat} (hn:n≤64) {P:Nat→Prop} [DecidablePred P] {w:Nat} : (zL (fun w=>decide (P w)) n).getLsbD w=true↔w < n∧P w:=by
 rw [zfs hn,decide_eq_true_eq]
def InC (p:PM) (a w v:Nat):Prop:=v < p.W.toNat∧at0 (za p.cell a) v=at0 (za p.cell a) w
def rkA (p:PM) (a w:Nat):Int:=at0 (za p.rank a) w
section
variable {p:PM} (hg:zww p) (hc0:zp p=0)
include hc0
theorem ztL {a w:Nat} (ha:a < p.cell.length) (hw:w < p.W.toNat):At p a w:=⟨hc0,by omega,by omega,by omega,by omega⟩
theorem W64:p.W.toNat≤64:=by have:=(zS hc0).w2;omega
theorem zc2 {i:Nat} : (zaq p.W).getLsbD i=true↔i < p.W.toNat:=by
 have h1:=(zS hc0).w1
 have h2:=W64 hc0
 by_cases h:i < 64
 ·rw [zwD (by omega) h,decide_eq_true_eq];omega
 ·exact ⟨fun h'=>absurd (BitVec.lt_of_getLsbD h') h,fun h'=>by omega⟩
theorem za8 {a w i:Nat} (ha:a < p.cell.length) (hw:w < p.W.toNat):(zan p a w).getLsbD i=true↔InC p a w i:=zfN (ztL hc0 ha hw)
theorem zhB {a:Nat} (ha:a < p.cell.length) {s:BitVec 64} {w:Nat} : (zbM p a s).getLsbD w=true↔w < p.W.toNat ∧ ∀ v,InC p a w v→s.getLsbD v=true:=by
 unfold zbM
 rw [zdX (W64 hc0)]
 refine and_congr_right fun hw=>?_
 rw [zft]
 exact ⟨fun h v hv=>h v ((za8 hc0 ha hw).2 hv),fun h v hv=>h v ((za8 hc0 ha hw).1 hv)⟩
theorem zq7 {a w:Nat} (ha:a < p.cell.length) (hw:w < p.W.toNat) {c:BitVec 64} {i:Nat} : (zhr p a w c).getLsbD i=true↔InC p a w i∧c.getLsbD i=true ∧ ∀ u,InC p a w u→c.getLsbD u=true→rkA p a i≤rkA p a u:=by
 have hat:=ztL hc0 ha hw
 rw [zpy hat]
 constructor
 ·rintro ⟨⟨h1,h2⟩,h3⟩
  exact ⟨(za8 hc0 ha hw).1 h2,h1,fun u hu hu'=>h3 u hu' ((za8 hc0 ha hw).2 hu)⟩
 ·rintro ⟨h2,h1,h3⟩
  exact ⟨⟨h1,(za8 hc0 ha hw).2 h2⟩,fun u hu hu'=>h3 u ((za8 hc0 ha hw).1 hu') hu⟩
theorem zq6 {a:Nat} (ha:a < p.cell.length) {c s:BitVec 64} {w:Nat} : (zbS p a c s).getLsbD w=true↔w < p.W.toNat ∧ ∀ v,InC p a w v→c.getLsbD v=true→(∀ u,InC p a w u→c.getLsbD u=true→rkA p a v≤rkA p a u)→s.getLsbD v=true:=by
 unfold zbS
 rw [zdX (W64 hc0)]
 refine and_congr_right fun hw=>?_
 rw [zft]
 exact ⟨fun h v h1 h2 h3=>h v ((zq7 hc0 ha hw).2 ⟨h1,h2,h3⟩),fun h v hv=>by
  obtain ⟨h1,h2,h3⟩:=(zq7 hc0 ha hw).1 hv
  exact h v h1 h2 h3⟩
theorem zgu {a:Nat} (ha:a < p.cell.length) {s:BitVec 64} {w:Nat} : (zbU p a s).getLsbD w=true↔w < p.W.toNat ∧ ∀ v,InC p a w v→rkA p a v≤rkA p a w→s.getLsbD v=true:=by
 have e:zc5 p a=(zbE p a,0):=by rw [zc5,if_neg (by omega),if_neg (by omega)];rfl
 unfold zbU
 rw [e,zdX (W64 hc0)]
 refine and_congr_right fun hw=>?_
 have hx:(zbE p a).getD w 0#64=zbo (za p.cell a) (za p.rank a) w p.W.toNat:=by simp [zbE,List.getD,hw]
 rw [zft,hx]
 have hb : ∀ i,(zbo (za p.cell a) (za p.rank a) w p.W.toNat).getLsbD i=true↔InC p a w i∧rkA p a i≤rkA p a w:=fun i=>by
  unfold zbo
  rw [zfs (W64 hc0)]
  simp only [Bool.and_eq_true,beq_iff_eq,decide_eq_true_eq]
  exact ⟨fun h=>⟨⟨h.1,h.2.1⟩,h.2.2⟩,fun h=>⟨h.1.1,h.1.2,h.2⟩⟩
 exact ⟨fun h v h1 h2=>h v ((hb v).2 ⟨h1,h2⟩),fun h v hv=>by
  obtain ⟨h1,h2⟩:=(hb v).1 hv
  exact h v h1 h2⟩
def Suc (p:PM) (g w v:Nat):Prop:=w < p.W.toNat ∧ ∃ a,a < p.cell.length∧g.testBit a=true∧InC p a w v
omit hc0 in
theorem Suc.lt {g w v:Nat} (h:Suc p g w v):v < p.W.toNat:=by obtain ⟨_,a,_,_,h⟩:=h;exact h.1
theorem zon {g:Nat} {s:BitVec 64} {w:Nat} : ∀ k,k≤p.cell.length→((zig p g s k).getLsbD w=true↔w < p.W.toNat ∧ ∀ a,a < k→g.testBit a=true → ∀ v,InC p a w v→s.getLsbD v=true)
 | 0,_=>by
  show (zaq p.W).getLsbD w=true↔_
  rw [zc2 hc0]
  exact ⟨fun h=>⟨h,fun a h=>by omega⟩,fun h=>h.1⟩
 | k+1,hk=>by
  have ih:=zon (g:=g) (s:=s) (w:=w) k (by omega)
  rw [zsK]
  split
  ·rename_i hb
   rw [BitVec.getLsbD_and,Bool.and_eq_true,ih,zhB hc0 (by omega)]
   constructor
   ·rintro ⟨⟨h1,h2⟩,-,h3⟩
    refine ⟨h1,fun a ha hga v hv=>?_⟩
    by_cases e:a=k
    ·subst e;exact h3 v hv
    ·exact h2 a (by omega) hga v hv
   ·rintro ⟨h1,h2⟩
    exact ⟨⟨h1,fun a ha=>h2 a (by omega)⟩,h1,h2 k (by omega) hb⟩
  ·rename_i hb
   rw [ih]
   constructor
   ·rintro ⟨h1,h2⟩
    refine ⟨h1,fun a ha hga v hv=>?_⟩
    by_cases e:a=k
    ·subst e;exact absurd hga hb
    ·exact h2 a (by omega) hga v hv
   ·rintro ⟨h1,h2⟩
    exact ⟨h1,fun a ha=>h2 a (by omega)⟩
theorem zhu {g:Nat} {s:BitVec 64} {w:Nat} : (zeA p g s).getLsbD w=true↔w < p.W.toNat ∧ ∀ v,Suc p g w v→s.getLsbD v=true:=by
 rw [zeA,zon hc0 _ (Nat.le_refl _)]
 refine and_congr_right fun hw=>?_
 exact ⟨fun h v ⟨_,a,h1,h2,h3⟩=>h a h1 h2 v h3,fun h a h1 h2 v h3=>h v ⟨hw,a,h1,h2,h3⟩⟩
end
inductive CP (p:PM) (g:Nat) (c:BitVec 64):Nat→Nat→Prop where
 | base {w v:Nat} : Suc p g w v→c.getLsbD v=true→CP p g c w v
 | step {w u v:Nat} : CP p g c w u→Suc p g u v→c.getLsbD v=true→CP p g c w v
theorem CP.pre {p:PM} {g:Nat} {c:BitVec 64} {w u v:Nat} (h:Suc p g w u) (hu:c.getLsbD u=true) (hp:CP p g c u v):CP p g c w v:=by
 induction hp with
 | base h1 h2=>exact .step (.base h hu) h1 h2
 | step _ h1 h2 ih=>exact .step ih h1 h2
noncomputable def zc3 (p:PM) (g:Nat) (c s:BitVec 64):BitVec 64:=zL (fun w => @decide (∀ v,CP p g c w v→s.getLsbD v=true) (Classical.propDecidable _)) p.W.toNat
theorem zcR {p:PM} (hc0:zp p=0) {g:Nat} {c s:BitVec 64} {w:Nat} : (zc3 p g c s).getLsbD w=true↔w < p.W.toNat ∧ ∀ v,CP p g c w v→s.getLsbD v=true:=by
 unfold zc3
 rw [zfs (W64 hc0),@decide_eq_true_eq _ (Classical.propDecidable _)]
def zoT (p:PM) (g:Nat) (c s out:BitVec 64):BitVec 64:=zeA p g (zaq p.W &&& ~~~c|||s&&&out)
theorem zec {p:PM} (hc0:zp p=0) {g:Nat} {c s out:BitVec 64} {w:Nat} : (zoT p g c s out).getLsbD w=true↔w < p.W.toNat ∧ ∀ v,Suc p g w v→c.getLsbD v=true→s.getLsbD v=true∧out.getLsbD v=true:=by
 unfold zoT
 rw [zhu hc0]
 refine and_congr_right fun hw=>forall_congr' fun v=>?_
 constructor
 ·intro h h1 h2
  have h3:=h h1
  rw [BitVec.getLsbD_or,BitVec.getLsbD_and,BitVec.getLsbD_and,BitVec.getLsbD_not,h2] at h3
  simpa using h3
 ·intro h h1
  have hv:=h1.lt
  have h64:=W64 hc0
  rw [BitVec.getLsbD_or,BitVec.getLsbD_and,BitVec.getLsbD_and,BitVec.getLsbD_not,(zc2 hc0).2 hv]
  cases hcv:c.getLsbD v with
  | false=>simp;omega
  | true=>simp [h h1 hcv]
structure Com (p:PM) (g:Nat) (c s out:BitVec 64):Prop where
 lo : ∀ w,(zc3 p g c s).getLsbD w=true→out.getLsbD w=true
 dec : ∀ w,(zoT p g c s out).getLsbD w=true→out.getLsbD w=true
 all : ∀ w,out.getLsbD w=true→w < p.W.toNat
theorem Com.start {p:PM} (hc0:zp p=0) (g:Nat) (c s:BitVec 64):Com p g c s (zaq p.W) :=
 ⟨fun w h=>(zc2 hc0).2 ((zcR hc0).1 h).1,fun w h=>(zc2 hc0).2 ((zec hc0).1 h).1,fun w h=>(zc2 hc0).1 h⟩
theorem Com.next {p:PM} (hc0:zp p=0) {g:Nat} {c s out:BitVec 64} (h:Com p g c s out):Com p g c s (zoT p g c s out) where
 lo w hw:=by
  obtain ⟨h1,h2⟩:=(zcR hc0).1 hw
  refine (zec hc0).2 ⟨h1,fun v hv hcv=>⟨h2 v (.base hv hcv),h.lo v ((zcR hc0).2 ⟨hv.lt,fun u hu=>h2 u (hu.pre hv hcv)⟩)⟩⟩
 dec w hw:=by
  obtain ⟨h1,h2⟩:=(zec hc0).1 hw
  exact (zec hc0).2 ⟨h1,fun v hv hcv=>⟨(h2 v hv hcv).1,h.dec v (h2 v hv hcv).2⟩⟩
 all w hw:=((zec hc0).1 hw).1
theorem Com.done {p:PM} (hc0:zp p=0) {g:Nat} {c s out:BitVec 64} (h:Com p g c s out) (e:zoT p g c s out=out):out=zc3 p g c s:=by
 refine zhH fun w=>⟨fun hw=>(zcR hc0).2 ⟨h.all w hw,fun v hv=>?_⟩,h.lo w⟩
 have key : ∀ v,CP p g c w v→s.getLsbD v=true∧out.getLsbD v=true:=fun v hv=>by
  induction hv with
  | base h1 h2=>rw [← e] at hw;exact ((zec hc0).1 hw).2 _ h1 h2
  | step _ h1 h2 ih =>
   have ih:=ih.2
   rw [← e] at ih
   exact ((zec hc0).1 ih).2 _ h1 h2
 exact (key v hv).1
end Go.Ab
namespace Go.Ab
open Go
inductive Rc (S:Nat→Prop) (R:Nat→Nat→Prop):Nat→Prop where
 | base {v:Nat} : S v→Rc S R v
 | step {v u:Nat} : Rc S R v→R v u→Rc S R u
def cnt (s:BitVec 64):Nat→Nat
 | 0=>0
 | k+1=>cnt s k+(if s.getLsbD k=true then 1 else 0)
theorem zuZ (s:BitVec 64) : ∀ n,cnt s n≤n
 | 0=>Nat.le_refl _
 | k+1=>by
  have:=zuZ s k
  unfold cnt;split<;>omega
theorem zrj {s s':BitVec 64} (h : ∀ i,s.getLsbD i=true→s'.getLsbD i=true) : ∀ n,cnt s n≤cnt s' n
 | 0=>Nat.le_refl _
 | k+1=>by
  have h1:=zrj h k
  unfold cnt
  by_cases e:s.getLsbD k=true
  ·rw [if_pos e,if_pos (h k e)];omega
  ·rw [if_neg e];split<;>omega
theorem zu0 {s s':BitVec 64} (h : ∀ i,s.getLsbD i=true→s'.getLsbD i=true) {u:Nat} (hu:s'.getLsbD u=true) (hn : ¬s.getLsbD u=true) : ∀ n,u < n→cnt s n < cnt s' n
 | 0,h0=>by omega
 | k+1,h0=>by
  unfold cnt
  by_cases e:u=k
  ·subst e
   have:=zrj h u
   rw [if_neg hn,if_pos hu];omega
  ·have h1:=zu0 h hu hn k (by omega)
   by_cases e:s.getLsbD k=true
   ·rw [if_pos e,if_pos (h k e)];omega
   ·rw [if_neg e];split<;>omega
theorem zri {s:BitVec 64} : ∀ n,n≤cnt s n → ∀ i,i < n→s.getLsbD i=true
 | 0,_,i,h=>by omega
 | k+1,h,i,hi=>by
  have h1:=zuZ s k
  unfold cnt at h
  by_cases e:s.getLsbD k=true
  ·rw [if_pos e] at h
   by_cases ei:i=k
   ·subst ei;exact e
   ·exact zri k (by omega) i (by omega)
  ·rw [if_neg e] at h;omega
def zoZ (R:Nat→Nat→Prop) (s:BitVec 64):Prop := ∀ v u,s.getLsbD v=true→R v u→s.getLsbD u=true
structure zni (S:Nat→Prop) (R:Nat→Nat→Prop) (n:Nat) (s:BitVec 64) (i:Nat):Prop where
 sound : ∀ v,s.getLsbD v=true→Rc S R v
 base : ∀ v,S v→s.getLsbD v=true
 prog:zoZ R s∨i≤cnt s n
structure ztE (S:Nat→Prop) (R:Nat→Nat→Prop) (s0 s:BitVec 64) (v:Nat):Prop where
 sound : ∀ v,s.getLsbD v=true→Rc S R v
 old : ∀ i,s0.getLsbD i=true→s.getLsbD i=true
 done : ∀ w,w < v→s0.getLsbD w=true → ∀ u,R w u→s.getLsbD u=true
theorem zni.mid {S:Nat→Prop} {R:Nat→Nat→Prop} {n:Nat} {s:BitVec 64} {i:Nat} (h:zni S R n s i):ztE S R s s 0 :=
 ⟨h.sound,fun _ h=>h,fun w hw=>by omega⟩
theorem ztE.next {S:Nat→Prop} {R:Nat→Nat→Prop} {n:Nat} {s0 s:BitVec 64} {i:Nat} (hR : ∀ v u,R v u→v < n∧u < n) (h0:zni S R n s0 i) (h:ztE S R s0 s n):zni S R n s (i+1):=by
 refine ⟨h.sound,fun v hv=>h.old v (h0.base v hv),?_⟩
 by_cases hc:zoZ R s0
 ·left
  have hall : ∀ v,Rc S R v→s0.getLsbD v=true:=fun v hv=>by
   induction hv with
   | base hb=>exact h0.base _ hb
   | step _ hr ih=>exact hc _ _ ih hr
  exact fun v u hv hr=>h.old u (hall u (.step (h.sound v hv) hr))
 ·right
  have : ∃ v u,s0.getLsbD v=true∧R v u ∧ ¬s0.getLsbD u=true:=Classical.byContradiction fun hn=>hc fun v u hv hr=>Classical.byContradiction fun hu=>hn ⟨v,u,hv,hr,hu⟩
  obtain ⟨v,u,hv,hr,hu⟩:=this
  have hlt:=hR v u hr
  have h1:=zu0 h.old (h.done v hlt.1 hv u hr) hu n hlt.2
  rcases h0.prog with h2|h2
  ·exact absurd h2 hc
  ·omega
theorem zni.all {S:Nat→Prop} {R:Nat→Nat→Prop} {n:Nat} {s:BitVec 64} (hR : ∀ v u,R v u→v < n∧u < n) (h:zni S R n s n) (v:Nat):s.getLsbD v=true↔Rc S R v:=by
 refine ⟨h.sound v,fun hv=>?_⟩
 have hc:zoZ R s:=h.prog.elim id fun hp v u _ hr=>zri n hp u (hR v u hr).2
 induction hv with
 | base hb=>exact h.base _ hb
 | step _ hr ih=>exact hc _ _ ih hr
end Go.Ab
namespace Go.Ab
open Go Go.Proofs
set_option maxRecDepth 10000
set_option maxHeartbeats 4000000
variable {T:Nat→Obj→Prop}
theorem zym (s:BitVec 64) (n:Nat):(s >>> n) % 2#64=1#64↔s.getLsbD n=true:=by
 rw [← BitVec.toNat_inj,BitVec.toNat_umod,BitVec.toNat_ushiftRight,← BitVec.testBit_toNat,Nat.shiftRight_eq_div_pow,Nat.testBit_eq_decide_div_mod_eq,decide_eq_true_eq]
 rfl
theorem zrH (s:BitVec 64) (k:Nat):Fn Tryz.prog T zfY [.d (.u64 s),.d (.int .i64 (k:Int))] [] (.d (.bool (s.getLsbD k))) []:=by
 refine zj zz zlO (by show 2≤18;decide) ?_
 (repeat' ((conv=>whnf);first|refine vA ?_|refine vG ?_|(refine vF ?_ ?_<;>intro hc<;>try simp only [vL] at hc)|refine vT ?_|(refine vP ?_ ?_;·omega)|refine vZ ?_|refine vP (show (_:BitVec 64)≠_ by decide) ?_));all_goals try conv=>whnf
 ·show decide (s >>> k % 2#64=1#64)=_
  rw [Bool.eq_iff_iff,decide_eq_true_eq];exact zym s k
 ·rw [BitVec.getLsbD_of_ge _ _ (by omega)]
theorem zwL {x:BitVec 64} {k:Nat} (h:1&&&x.toNat >>> k=0):x.getLsbD k=false:=by
 show (1&&&x.toNat >>> k != 0)=false
 simp [h]
theorem ztN {x:BitVec 64} {k:Nat} (h : ¬1&&&x.toNat >>> k=0):x.getLsbD k=true:=by
 show (1&&&x.toNat >>> k != 0)=true
 rw [bne_iff_ne];exact h
theorem zg6 (n:Int) (h:0≤n):Fn Tryz.prog T zfX [.d (.int .i64 n)] [] (.d (.u64 (zaq n))) []:=by
 refine zj zz zlN (by show 1≤8;decide) ?_
 (repeat' ((conv=>whnf);first|refine vA ?_|(refine vF ?_ ?_<;>intro hc<;>try simp only [vL] at hc)|refine vT ?_|(refine vP ?_ ?_;·omega)|refine vY ?_));all_goals try conv=>whnf
 ·rw [zaq,if_pos (by omega)];rfl
 ·rw [zaq,if_neg (by omega)];rfl
def zex (rel:List (BitVec 64)) (n:Nat) (s:BitVec 64):BitVec 64:=zL (fun w=>decide (rel.getD w 0#64 &&& ~~~s=0#64)) n
theorem zaO {α:Type} {l:List α} {i:Nat} {x d:α} (h:l[i]? = some x):l.getD i d=x:=by simp [List.getD,h]
theorem zpc (rel:List (BitVec 64)) (n:Int) (s:BitVec 64) (h0:n≤rel.length) (h64:n≤64):Fn Tryz.prog T zfZ [.d (dU rel),.d (.int .i64 n),.d (.u64 s)] [] (.d (.u64 (zex rel n.toNat s))) []:=by
 refine zj zz zlP (by show 3≤26;decide) ?_
 (repeat' ((conv=>whnf);first|refine vA ?_|refine vT ?_));all_goals try conv=>whnf
 refine zX (fun ((k,o):Nat×BitVec 64)=>[(0,.d (dU rel)),(1,.d (.int .i64 (n))),(2,.d (.u64 (s))),(7,.d (.u64 (o))),(8,.d (.int .i64 ((k:Int))))]) (fun ((k,o):Nat×BitVec 64)=>k≤n.toNat∧o=zex rel k s) (fun ((k,o):Nat×BitVec 64)=>n.toNat - k) ((0,0#64)) (⟨by simp,rfl⟩) (by (repeat' first|exact trivial|exact rfl|refine And.intro ?_ ?_)) ?_
 rintro ⟨k,o⟩ ⟨hk,hI⟩
 (repeat' ((conv=>whnf);first|refine vA ?_|(refine vF ?_ ?_<;>intro hc<;>try simp only [vL] at hc)|refine vT ?_|(refine vQ ?_ fun x hx=>?_;·omega)|((first|refine vO ?_ ?_|refine vP ?_ ?_);·omega)|refine vY ?_));all_goals try conv=>whnf
 ·have h1:=zaO (d:=0#64) hx
  refine ⟨(k+1,_),[],[],?_,?_,by (refine ⟨rfl,rfl,rfl,?_,?_⟩;repeat' first|exact trivial|exact rfl|refine And.intro ?_ ?_)⟩
  ·exact ⟨by (omega),by rw [zex,zL,if_pos (by rw [show rel.getD k 0#64=x from h1];simp_all),hI];rfl⟩
  ·((simp only [vM] at *;omega))
 ·have h1:=zaO (d:=0#64) hx
  exact ⟨(k+1,o),[],[],⟨by (omega),by rw [zex,zL,if_neg (by rw [show rel.getD k 0#64=x from h1];simp_all),hI];rfl⟩,by ((simp only [vM] at *;omega)),by (refine ⟨rfl,rfl,rfl,?_,?_⟩;repeat' first|exact trivial|exact rfl|refine And.intro ?_ ?_)⟩
 ·rw [hI,show k=n.toNat by omega]
def zqJ (op:Int) (x y all:BitVec 64):BitVec 64:=if op=1 then all else if op=4 then all &&& ~~~x else if op=5 then x&&&y else if op=6 then x|||y else if op=7 then all &&& ~~~x|||y else if op=8 then all &&& ~~~(x ^^^ y) else 0#64
theorem zsM (op:Int) (x y all:BitVec 64):Fn Tryz.prog T zdU [.d (.int .i64 op),.d (.u64 x),.d (.u64 y),.d (.u64 all)] [] (.d (.u64 (zqJ op x y all))) []:=by
 refine zj zz zhR (by show 4≤41;decide) ?_
 (repeat' ((conv=>whnf);first|refine vA ?_|(refine vF ?_ ?_<;>intro hc)|refine vT ?_|refine vY ?_));all_goals try conv=>whnf
 all_goals simp only [zqJ, *,if_true,if_false]
 all_goals first|rfl|skip
def zdy (rel:List (BitVec 64)) (n:Nat) (c:BitVec 64) (v u:Nat):Prop:=v < n∧(rel.getD v 0#64&&&c).getLsbD u=true
noncomputable def zl3 (rel:List (BitVec 64)) (n w:Nat) (c:BitVec 64):BitVec 64:=zL (fun v => @decide (Rc (zdy rel n c w) (zdy rel n c) v) (Classical.propDecidable _)) n
abbrev zgy (rel:List (BitVec 64)) (n:Nat):Prop := ∀ v u,v < n→(rel.getD v 0#64).getLsbD u=true→u < n
theorem zdy.lt {rel:List (BitVec 64)} {n:Nat} {c:BitVec 64} {v u:Nat} (hB:zgy rel n) (h:zdy rel n c v u):v < n∧u < n:=⟨h.1,hB v u h.1 (by have:=h.2;rw [BitVec.getLsbD_and,Bool.and_eq_true] at this;exact this.1)⟩
theorem zp7 {rel:List (BitVec 64)} {n w:Nat} {c:BitVec 64} (h64:n≤64) (hB:zgy rel n) {v:Nat} : (zl3 rel n w c).getLsbD v=true↔Rc (zdy rel n c w) (zdy rel n c) v:=by
 unfold zl3
 rw [zfs h64,@decide_eq_true_eq _ (Classical.propDecidable _)]
 refine ⟨fun h=>h.2,fun h=>⟨?_,h⟩⟩
 cases h with
 | base h=>exact (h.lt hB).2
 | step _ h=>exact (h.lt hB).2
theorem zvl (rel:List (BitVec 64)) (n:Int) (w:Nat) (c:BitVec 64) (h0:n≤rel.length) (h64:n≤64) (hw:(w:Int) < n) (hB:zgy rel n.toNat) :
  Fn Tryz.prog T zeJ [.d (dU rel),.d (.int .i64 n),.d (.int .i64 (w:Int)),.d (.u64 c)] [] (.d (.u64 (zl3 rel n.toNat w c))) []:=by
 have hR : ∀ v u,zdy rel n.toNat c v u→v < n.toNat∧u < n.toNat:=fun v u h=>h.lt hB
 refine zj zz zj3 (by show 4≤40;decide) ?_
 (repeat' ((conv=>whnf);first|refine vA ?_|refine vT ?_|(refine vQ ?_ fun x hx=>?_;·omega)|fail));all_goals try conv=>whnf
 revert x;intro r0 hr0
 have hw0:rel.getD w 0#64=r0:=zaO hr0
 refine zX (fun ((i,s):Nat×BitVec 64)=>[(0,.d (dU rel)),(1,.d (.int .i64 (n))),(3,.d (.u64 (c))),(9,.d (.u64 (s))),(10,.d (.int .i64 ((i:Int))))]) (fun ((i,s):Nat×BitVec 64)=>i≤n.toNat∧zni (zdy rel n.toNat c w) (zdy rel n.toNat c) n.toNat s i) (fun ((i,s):Nat×BitVec 64)=>n.toNat - i) ((0,r0&&&c)) (⟨by simp,fun v hv => .base ⟨by omega,by rw [hw0];exact hv⟩,fun v hv=>by have:=hv.2;rwa [hw0] at this,.inr (Nat.zero_le _)⟩) (by (repeat' first|exact trivial|exact rfl|refine And.intro ?_ ?_)) ?_
 rintro ⟨i,s⟩ ⟨hi,hI⟩
 (repeat' ((conv=>whnf);first|refine vA ?_|(refine vF ?_ ?_<;>intro hc<;>try simp only [vL] at hc)|refine vT ?_|refine vY ?_));all_goals try conv=>whnf
 ·refine zX (fun ((v,q):Nat×BitVec 64)=>[(0,.d (dU rel)),(1,.d (.int .i64 (n))),(3,.d (.u64 (c))),(9,.d (.u64 (q))),(10,.d (.int .i64 ((i:Int)))),(11,.d (.int .i64 ((v:Int))))]) (fun ((v,q):Nat×BitVec 64)=>v≤n.toNat∧ztE (zdy rel n.toNat c w) (zdy rel n.toNat c) s q v) (fun ((v,q):Nat×BitVec 64)=>n.toNat - v) ((0,s)) (⟨by simp,hI.mid⟩) (by (repeat' first|exact trivial|exact rfl|refine And.intro ?_ ?_)) ?_
  rintro ⟨v,q⟩ ⟨hv,hM⟩
  (repeat' ((conv=>whnf);first|refine vA ?_|refine vE ?_|(refine vF ?_ ?_<;>intro hc<;>try simp only [vL] at hc)|refine vT ?_|(refine vQ ?_ fun x hx=>?_;·omega)|(refine vO ?_ ?_;·omega)|refine yD (zrH _ _) ⟨⟨rfl,rfl⟩,⟨rfl,rfl⟩,rfl⟩ rfl ?_));all_goals try conv=>whnf
  ·have hb:=zwL ‹_›
   exact ⟨(v+1,q),[],[],⟨by (omega),hM.sound,hM.old,fun w' hw' hs u hu=>by
    by_cases e:w'=v
    ·subst e;rw [hM.old _ hs] at hb;cases hb
    ·exact hM.done w' (by omega) hs u hu⟩,by ((simp only [vM] at *;omega)),by (refine ⟨rfl,rfl,rfl,?_,?_⟩;repeat' first|exact trivial|exact rfl|refine And.intro ?_ ?_)⟩
  ·have hb:=ztN ‹_›
   have h1:=zaO (d:=0#64) hx
   refine ⟨(v+1,_),[],[],?_,?_,by (refine ⟨rfl,rfl,rfl,?_,?_⟩;repeat' first|exact trivial|exact rfl|refine And.intro ?_ ?_)⟩
   ·refine ⟨by (omega),fun u hu=>?_,fun u hu=>?_,fun w' hw' hs u hu=>?_⟩
    ·rw [BitVec.getLsbD_or,Bool.or_eq_true] at hu
     rcases hu with hu|hu
     ·exact hM.sound u hu
     ·exact .step (hM.sound v hb) ⟨by omega,by rw [h1];exact hu⟩
    ·rw [BitVec.getLsbD_or,hM.old u hu];rfl
    ·rw [BitVec.getLsbD_or,Bool.or_eq_true]
     by_cases e:w'=v
     ·subst e;have:=hu.2;rw [h1] at this;exact .inr this
     ·exact .inl (hM.done w' (by omega) hs u hu)
   ·((simp only [vM] at *;omega))
  ·have hv':v=n.toNat:=by omega
   subst hv'
   exact ⟨(i+1,q),[],[],⟨by (omega),hM.next hR hI⟩,by ((simp only [vM] at *;omega)),by (refine ⟨rfl,rfl,rfl,?_,?_⟩;repeat' first|exact trivial|exact rfl|refine And.intro ?_ ?_)⟩
 ·have hi':i=n.toNat:=by omega
  subst hi'
  refine zhH fun v=>?_
  rw [hI.all hR,zp7 (by omega) hB]
noncomputable def ztR (rel:List (BitVec 64)) (n:Nat) (c s:BitVec 64):BitVec 64:=zL (fun w=>decide (zl3 rel n w c &&& ~~~s=0#64)) n
theorem zub (rel:List (BitVec 64)) (n:Int) (c s:BitVec 64) (h0:n≤rel.length) (h64:n≤64) (hB:zgy rel n.toNat) :
  Fn Tryz.prog T zej [.d (dU rel),.d (.int .i64 n),.d (.u64 c),.d (.u64 s)] [] (.d (.u64 (ztR rel n.toNat c s))) []:=by
 refine zj zz ziz (by show 4≤29;decide) ?_
 (repeat' ((conv=>whnf);first|refine vA ?_|refine vT ?_));all_goals try conv=>whnf
 refine zX (fun ((k,o):Nat×BitVec 64)=>[(0,.d (dU rel)),(1,.d (.int .i64 (n))),(2,.d (.u64 (c))),(3,.d (.u64 (s))),(9,.d (.u64 (o))),(10,.d (.int .i64 ((k:Int))))]) (fun ((k,o):Nat×BitVec 64)=>k≤n.toNat∧o=zL (fun w=>decide (zl3 rel n.toNat w c &&& ~~~s=0#64)) k) (fun ((k,o):Nat×BitVec 64)=>n.toNat - k) ((0,0#64)) (⟨by simp,rfl⟩) (by (repeat' first|exact trivial|exact rfl|refine And.intro ?_ ?_)) ?_
 rintro ⟨k,o⟩ ⟨hk,hI⟩
 by_cases hkn:(k:Int) < n
 ·(repeat' ((conv=>whnf);first|refine vA ?_|(refine vF ?_ ?_<;>intro hc<;>try simp only [vL] at hc)|refine vT ?_|((first|refine vO ?_ ?_|refine vP ?_ ?_);·omega)|refine vY ?_|refine yD (zvl rel n k c h0 h64 hkn hB) (by (repeat refine ⟨⟨rfl,rfl⟩,?_⟩);rfl) rfl ?_));all_goals try conv=>whnf
  ·refine ⟨(k+1,_),[],[],?_,?_,by (refine ⟨rfl,rfl,rfl,?_,?_⟩;repeat' first|exact trivial|exact rfl|refine And.intro ?_ ?_)⟩
   ·exact ⟨by (omega),by rw [zL,if_pos (decide_eq_true ‹_›),hI];rfl⟩
   ·((simp only [vM] at *;omega))
  ·exact ⟨(k+1,o),[],[],⟨by (omega),by rw [zL,if_neg (by simpa using ‹¬_›),hI]⟩,by ((simp only [vM] at *;omega)),by (refine ⟨rfl,rfl,rfl,?_,?_⟩;repeat' first|exact trivial|exact rfl|refine And.intro ?_ ?_)⟩
  all_goals omega
 ·(repeat' ((conv=>whnf);first|refine vA ?_|(refine vF ?_ ?_<;>intro hc<;>try simp only [vL] at hc)|refine vT ?_|refine vY ?_));all_goals try conv=>whnf
  ·omega
  ·rw [hI,show k=n.toNat by omega];rfl
end Go.Ab
namespace Go.Ab
open Go Go.Proofs
set_option maxRecDepth 10000
set_option maxHeartbeats 4000000
variable {T:Nat→Obj→Prop}
theorem zcL (op:Int):Fn Tryz.prog T zZ [.d (.int .i64 op)] [] (.d (.bool (zR op))) []:=by
 refine zj zz zjW (by show 1≤9;decide) ?_
 (repeat' ((conv=>whnf);first|refine vA ?_|(refine vF ?_ ?_<;>intro hc<;>try simp only [vL] at hc)|refine vT ?_|refine vZ ?_));all_goals try conv=>whnf
 all_goals first|rfl|(simp_all [zR]<;>omega)|skip
theorem zbv (op:Int):Fn Tryz.prog T z1 [.d (.int .i64 op)] [] (.d (.bool (zD op))) []:=by
 refine zj zz zjX (by show 1≤29;decide) ?_
 (repeat' ((conv=>whnf);first|refine vA ?_|(refine vF ?_ ?_<;>intro hc<;>try simp only [vL] at hc)|refine vT ?_|refine vZ ?_));all_goals try conv=>whnf
 all_goals first|rfl|(simp_all [zD]<;>omega)|skip
theorem zlw (op:Int):Fn Tryz.prog T zcU [.d (.int .i64 op)] [] (.d (.bool (zae op))) []:=by
 refine zj zz zjY (by show 1≤17;decide) ?_
 (repeat' ((conv=>whnf);first|refine vA ?_|(refine vF ?_ ?_<;>intro hc)|refine vT ?_|refine vZ ?_));all_goals try conv=>whnf
 all_goals first|rfl|(simp_all [zae]<;>omega)|skip
theorem zvj (op:Int):Fn Tryz.prog T zcV [.d (.int .i64 op)] [] (.d (.bool (zap op))) []:=by
 refine zj zz zjZ (by show 1≤9;decide) ?_
 (repeat' ((conv=>whnf);first|refine vA ?_|(refine vF ?_ ?_<;>intro hc<;>try simp only [vL] at hc)|refine vT ?_|refine vZ ?_));all_goals try conv=>whnf
 all_goals first|rfl|(simp_all [zap]<;>omega)|skip
end Go.Ab
namespace Go.Ab
open Go Go.Proofs
set_option maxRecDepth 10000
set_option maxHeartbeats 4000000
variable {T:Nat→Obj→Prop}
abbrev zht (n:Nd):Ob := .box [.d (.int .i64 n.op),.d (.int .i64 n.i),.d (.int .i64 n.e),.d (.int .i64 n.g),.d (.int .i64 n.x),.d (.int .i64 n.y)]
def zdF (ok fa ev ux uy ag gr:Bool) (n:Nd) (at_:Int):Int :=
 if ok=false then 10 else
 if zbA ux n.x at_=false∨zbA uy n.y at_=false then 3 else
 if (!(fa||ag||ev)&&decide (n.i≠0)||(!ev&&decide (n.e≠0))||(!gr&&decide (n.g≠0)))=true then 3 else
 if (zA fa n.i 0 7||zA ag n.i 0 3||zA ev n.i 0 7||zA ev n.e 0 7||zA gr n.g 1 15)=true then 2 else 0
theorem zfq {ok fa ev ux uy ag gr:Bool} {n:Nd} {a:Int} (h0:ok=true) (h1:zbA ux n.x a=true) (h2:zbA uy n.y a=true) (h3:(!(fa||ag||ev)&&decide (n.i≠0)||(!ev&&decide (n.e≠0))||(!gr&&decide (n.g≠0)))=false) :
  zdF ok fa ev ux uy ag gr n a=if (zA fa n.i 0 7||zA ag n.i 0 3||zA ev n.i 0 7||zA ev n.e 0 7||zA gr n.g 1 15)=true then 2 else 0:=by
 rw [zdF,if_neg (by rw [h0];simp),if_neg (by rw [h1,h2];simp),if_neg (by rw [h3];simp)]
set_option maxHeartbeats 40000000 in
theorem zvk (ux uy ag gr:Bool) (n:Nd) (a:Int) (hux:Fn Tryz.prog T zZ [.d (.int .i64 n.op)] [] (.d (.bool ux)) []) (huy:Fn Tryz.prog T z1 [.d (.int .i64 n.op)] [] (.d (.bool uy)) []) (hag:Fn Tryz.prog T zcU [.d (.int .i64 n.op)] [] (.d (.bool ag)) []) (hgr:Fn Tryz.prog T zcV [.d (.int .i64 n.op)] [] (.d (.bool gr)) []) :
  Fn Tryz.prog T zc9 [.d (dNd n),.d (.int .i64 a)] [] (.d (.int .i64 (zdF (zct n.op) (decide (n.op=3)) (decide (n.op=17)) ux uy ag gr n a))) []:=by
 refine zj zz zkM (by show 2≤169;decide) ?_
 (repeat' ((conv=>whnf);first|refine zdL.but 38 rfl ?_|(refine vF ?_ ?_<;>intro hc<;>try simp only [vL] at hc)|refine vT ?_|refine vX ?_));all_goals try conv=>whnf
 ·(clear hux huy hag hgr;first|(simp_all [zbA,zA,zdF,zct];done)|(simp_all [zbA,zA,zdF,zct]<;>omega)|skip)
 ·(clear hux huy hag hgr;first|(simp_all [zbA,zA,zdF,zct];done)|(simp_all [zbA,zA,zdF,zct]<;>omega)|skip)
 refine zdL.cut (fun (u:Unit)=>[(1,.d (.int .i64 (a))),(2,.ptr 0 0)]) (fun (u:Unit)=>[(0,some (zht n))]) 1 (fun (u:Unit)=>zbA ux n.x a=true) ?_ ?_
 ·(repeat' ((conv=>whnf);first|refine vA ?_|refine vE ?_|((first|refine vD ?_ ?_|refine vF ?_ ?_|refine vI ?_ ?_)<;>intro hc<;>try simp only [vL] at hc)|refine vT ?_|refine vX ?_|refine yD hux (by (repeat refine ⟨⟨rfl,rfl⟩,?_⟩);rfl) rfl ?_));all_goals try conv=>whnf
  all_goals try (refine ⟨(),[(0,0)],[],?_,by (refine ⟨rfl,rfl,rfl,?_,?_⟩;repeat' first|exact trivial|exact rfl|refine And.intro ?_ ?_|refine ⟨_,rfl,?_⟩|decide)⟩)
  all_goals (clear hux huy hag hgr;first|(simp_all [zbA,zA,zdF,zct];done)|(simp_all [zbA,zA,zdF,zct]<;>omega)|skip)
 ·intro u0 hu0
  (repeat' ((conv=>whnf);refine vT ?_));all_goals try conv=>whnf
  refine zdL.cut (fun (u:Unit)=>[(1,.d (.int .i64 (a))),(2,.ptr 0 0)]) (fun (u:Unit)=>[(0,some (zht n))]) 1 (fun (u:Unit)=>zbA uy n.y a=true) ?_ ?_
  ·(repeat' ((conv=>whnf);first|refine vA ?_|refine vE ?_|((first|refine vD ?_ ?_|refine vF ?_ ?_|refine vI ?_ ?_)<;>intro hc<;>try simp only [vL] at hc)|refine vT ?_|refine vX ?_|refine yD huy (by (repeat refine ⟨⟨rfl,rfl⟩,?_⟩);rfl) rfl ?_));all_goals try conv=>whnf
   all_goals try (refine ⟨(),[(0,0)],[],?_,by (refine ⟨rfl,rfl,rfl,?_,?_⟩;repeat' first|exact trivial|exact rfl|refine And.intro ?_ ?_|refine ⟨_,rfl,?_⟩|decide)⟩)
   all_goals (clear hux huy hag hgr;first|(simp_all [zbA,zA,zdF,zct];done)|(simp_all [zbA,zA,zdF,zct]<;>omega)|skip)
  ·intro u1 hu1
   (repeat' ((conv=>whnf);refine vT ?_));all_goals try conv=>whnf
   refine zdL.cut (fun (u:Bool)=>[(1,.d (.int .i64 (a))),(2,.ptr 0 0),(5,.d (.bool (u)))]) (fun (u:Bool)=>[(0,some (zht n))]) 1 (fun (u:Bool)=>u=(decide (n.op=3)||ag||decide (n.op=17))) ?_ ?_
   ·(repeat' ((conv=>whnf);first|((first|refine vF ?_ ?_|refine vI ?_ ?_)<;>intro hc)|refine vT ?_|refine yD hag (by (repeat refine ⟨⟨rfl,rfl⟩,?_⟩);rfl) rfl ?_));all_goals try conv=>whnf
    all_goals (refine ⟨_,[(0,0)],[],?_,by (refine ⟨rfl,rfl,rfl,?_,?_⟩;repeat' first|exact trivial|exact rfl|exact .inl rfl|exact .inr (.inl ⟨rfl,rfl⟩)|refine And.intro ?_ ?_|refine ⟨_,rfl,?_⟩|decide)⟩)
    all_goals (clear hux huy hag hgr;first|(simp_all;done)|(simp_all<;>omega)|skip)
   ·intro ub hub
    (repeat' ((conv=>whnf);refine vT ?_));all_goals try conv=>whnf
    refine zdL.cut (fun (u:Unit)=>[(1,.d (.int .i64 (a))),(2,.ptr 0 0)]) (fun (u:Unit)=>[(0,some (zht n))]) 1 (fun (u:Unit)=>(!(decide (n.op=3)||ag||decide (n.op=17))&&decide (n.i≠0)||(!decide (n.op=17)&&decide (n.e≠0))||(!gr&&decide (n.g≠0)))=false) ?_ ?_
    ·(repeat' ((conv=>whnf);first|refine vA ?_|refine vE ?_|((first|refine vD ?_ ?_|refine vI ?_ ?_)<;>intro hc)|refine vT ?_|refine vX ?_|refine yD hgr (by (repeat refine ⟨⟨rfl,rfl⟩,?_⟩);rfl) rfl ?_));all_goals try conv=>whnf
     all_goals try (refine ⟨(),[(0,0)],[],?_,by (refine ⟨rfl,rfl,rfl,?_,?_⟩;repeat' first|exact trivial|exact rfl|refine And.intro ?_ ?_|refine ⟨_,rfl,?_⟩|decide)⟩)
     all_goals (clear hux huy hag hgr;first|(rw [← hub];clear hub;simp_all;done)|(simp_all [zbA,zA,zdF,zct];done)|(simp_all [zbA,zA,zdF,zct]<;>omega)|skip)
    ·intro u2 hu2
     (repeat' ((conv=>whnf);refine vT ?_));all_goals try conv=>whnf
     refine zdL.cut (fun (u:Unit)=>[(1,.d (.int .i64 (a))),(2,.ptr 0 0)]) (fun (u:Unit)=>[(0,some (zht n))]) 1 (fun (u:Unit)=>(zA (decide (n.op=3)) n.i 0 7||zA ag n.i 0 3)=false) ?_ ?_
     ·(repeat' ((conv=>whnf);first|refine vA ?_|((first|refine vF ?_ ?_|refine vI ?_ ?_)<;>intro hc<;>try simp only [vL] at hc)|refine vT ?_|refine vX ?_|refine yD hag (by (repeat refine ⟨⟨rfl,rfl⟩,?_⟩);rfl) rfl ?_));all_goals try conv=>whnf
      all_goals try (refine ⟨(),[(0,0)],[],?_,by (refine ⟨rfl,rfl,rfl,?_,?_⟩;repeat' first|exact trivial|exact rfl|refine And.intro ?_ ?_|refine ⟨_,rfl,?_⟩|decide)⟩)
      all_goals (clear hux huy hag hgr;first|exact trivial|(rw [zfq (by simp [zct];omega) hu0 hu1 hu2];clear hu0 hu1 hu2;simp_all [zA];done)|(rw [zfq (by simp [zct];omega) hu0 hu1 hu2];clear hu0 hu1 hu2;simp_all [zA]<;>omega)|(clear hu0 hu1 hu2;simp_all [zA];done)|(clear hu0 hu1 hu2;simp_all [zA]<;>omega)|skip)
     ·intro u3 hu3
      (repeat' ((conv=>whnf);refine vT ?_));all_goals try conv=>whnf
      refine zdL.cut (fun (u:Unit)=>[(1,.d (.int .i64 (a))),(2,.ptr 0 0)]) (fun (u:Unit)=>[(0,some (zht n))]) 1 (fun (u:Unit)=>(zA (decide (n.op=17)) n.i 0 7||zA (decide (n.op=17)) n.e 0 7)=false) ?_ ?_
      ·(repeat' ((conv=>whnf);first|refine vA ?_|(refine vF ?_ ?_<;>intro hc<;>try simp only [vL] at hc)|refine vT ?_|refine vX ?_));all_goals try conv=>whnf
       all_goals try (refine ⟨(),[(0,0)],[],?_,by (refine ⟨rfl,rfl,rfl,?_,?_⟩;repeat' first|exact trivial|exact rfl|refine And.intro ?_ ?_|refine ⟨_,rfl,?_⟩|decide)⟩)
       all_goals (clear hux huy hag hgr;first|exact trivial|(rw [zfq (by simp [zct];omega) hu0 hu1 hu2];clear hu0 hu1 hu2;simp_all [zA];done)|(rw [zfq (by simp [zct];omega) hu0 hu1 hu2];clear hu0 hu1 hu2;simp_all [zA]<;>omega)|(clear hu0 hu1 hu2;simp_all [zA];done)|(clear hu0 hu1 hu2;simp_all [zA]<;>omega)|skip)
      ·intro u4 hu4
       (repeat' ((conv=>whnf);first|refine vA ?_|((first|refine vF ?_ ?_|refine vI ?_ ?_)<;>intro hc<;>try simp only [vL] at hc)|refine vT ?_|refine vX ?_|refine yD hgr (by (repeat refine ⟨⟨rfl,rfl⟩,?_⟩);rfl) rfl ?_));all_goals try conv=>whnf
       all_goals (clear hux huy hag hgr;first|exact trivial|(rw [zfq (by simp [zct];omega) hu0 hu1 hu2];clear hu0 hu1 hu2;simp_all [zA];done)|(rw [zfq (by simp [zct];omega) hu0 hu1 hu2];clear hu0 hu1 hu2;simp_all [zA]<;>omega)|(clear hu0 hu1 hu2;simp_all [zA];done)|(clear hu0 hu1 hu2;simp_all [zA]<;>omega)|skip)
end Go.Ab
namespace Go.Ab
open Go Go.Proofs
set_option maxRecDepth 10000
set_option maxHeartbeats 4000000
variable {T:Nat→Obj→Prop}
theorem zw5 (n:Nd) (a:Int):Fn Tryz.prog T zc9 [.d (dNd n),.d (.int .i64 a)] [] (.d (.int .i64 (zb9 n a))) []:=by
 exact zvk _ _ _ _ n a (zcL n.op) (zbv n.op) (zlw n.op) (zvj n.op)
theorem zhO (f:List Nd):Fn Tryz.prog T zeC [.d (dF f)] [] (.d (.int .i64 (zbt f))) []:=by
 refine zj zz zjS (by show 1≤26;decide) ?_
 (repeat' ((conv=>whnf);first|refine vA ?_|(refine vF ?_ ?_<;>intro hc<;>try simp only [vL] at hc)|refine vJ fun hg=>?_|refine vT ?_|refine vX ?_));all_goals try conv=>whnf
 ·simp_all [zbt]
 ·rw [zbt,if_neg (by omega),if_pos (by omega)]
 ·have h0 : ¬f.length=0:=by omega
  refine zX (fun (k:Nat)=>[(0,.d (dF f)),(3,.d (.int .i64 ((k:Int))))]) (fun (k:Nat)=>k≤f.length∧zbt f=zfQ (f.drop k) k) (fun (k:Nat)=>f.length - k) (0) (⟨by simp,by rw [zbt,if_neg (by omega),if_neg (by omega)];rfl⟩) (by (repeat' first|exact trivial|exact rfl|refine And.intro ?_ ?_)) ?_
  rintro k ⟨hk,hI⟩
  (repeat' ((conv=>whnf);first|refine vA ?_|((first|refine vD ?_ ?_|refine vF ?_ ?_)<;>intro hc<;>try simp only [vL] at hc)|refine vJ fun hg=>?_|refine vT ?_|(refine vQ ?_ fun x hx=>?_;·omega)|(refine vO ?_ ?_;·omega)|refine vX ?_|refine yD (zw5 x (k:Int)) ⟨⟨rfl,rfl⟩,⟨rfl,rfl⟩,rfl⟩ rfl ?_));all_goals try conv=>whnf
  ·rw [hI,zar hx,zfQ,if_pos hc]
  ·exact ⟨k+1,[],[],⟨by (omega),by rw [hI,zar hx,zfQ,if_neg (by simpa using hc)]⟩,by (omega),by (refine ⟨rfl,rfl,rfl,?_,?_⟩;repeat' first|exact trivial|exact rfl|refine And.intro ?_ ?_)⟩
  ·rw [hI,List.drop_eq_nil_of_le (by omega)];rfl
end Go.Ab
namespace Go.Ab
open Go Go.Proofs
set_option maxRecDepth 10000
set_option maxHeartbeats 4000000
variable {T:Nat→Obj→Prop}
theorem zzu {l:List Nd} {x:Nd} {k:Nat} (h : ∀ j,j < k→l[j]? ≠ some x) (hk:l[k]? = some x):put l x=(k,l):=by
 refine zal ?_
 obtain ⟨h1,h2⟩:=List.getElem?_eq_some_iff.1 hk
 simp only [List.idxOf?]
 rw [List.findIdx?_eq_some_iff_getElem]
 refine ⟨h1,by simp [h2],fun j hj=>?_⟩
 have:=h j hj
 rw [List.getElem?_eq_getElem (by omega)] at this
 simpa using fun e=>this (by rw [e])
theorem zzv {l:List Nd} {x:Nd} (h : ∀ j,j < l.length→l[j]? ≠ some x):put l x=(l.length,l++[x]):=by
 refine zcJ ?_
 simp only [List.idxOf?,List.findIdx?_eq_none_iff]
 intro y hy
 obtain ⟨j,hj,rfl⟩:=List.getElem_of_mem hy
 have:=h j hj
 rw [List.getElem?_eq_getElem hj] at this
 simpa using fun e=>this (by rw [e])
theorem zvI (a b:Nd):(decide (a.op=b.op)&&(decide (a.i=b.i)&&(decide (a.e=b.e)&&(decide (a.g=b.g)&&(decide (a.x=b.x)&&(decide (a.y=b.y)&&true))))))=decide (a=b):=Option.some.inj (zyU a b)
theorem zio (ds:List D) (l:List Nd) (x:Nd) (hL:l.length≤1000) (r:Int) (hr:r=((put l x).1:Int)) (l':List D) (hl':l'=(put l x).2.map dNd) :
  Fn Tryz.prog T zdp [.ptr 0 0,.d (dNd x)] [.box [.own 2,.own 1],.row 1 ds,.row 6 (l.map dNd)] (.d (.int .i64 r)) [some (.box [.own 3,.own 1]),some (.row 1 ds),none,some (.row 6 l')]:=by
 refine zaW zz zf3 (by show 2≤41;decide) _ (fun e env mem n h=>h) ?_
 (repeat' ((conv=>whnf);first|refine vA ?_|refine vT ?_));all_goals try conv=>whnf
 refine zu (fun (k:Nat)=>[(0,.ptr 0 0),(3,.ptr 3 0),(5,.d (.int .i64 ((k:Int)))),(ze,.ptr 0 0),(ze+1,.own 1),(ze+2,.own 2)]) (fun (k:Nat)=>[(0,some (.box [.own 2,.own 1])),(1,some (.row 1 ds)),(2,some (.row 6 (l.map dNd))),(3,some (zht x))]) 4 (fun (k:Nat)=>k≤l.length ∧ ∀ j,j < k→l[j]? ≠ some x) (fun (k:Nat)=>l.length - k) (0) [(0,0),(1,1),(2,2),(3,3)] [] (⟨by simp,by omega⟩) (by (refine ⟨rfl,rfl,rfl,?_,?_⟩;repeat' first|exact trivial|exact rfl|refine And.intro ?_ ?_|refine ⟨_,rfl,?_⟩|decide)) ?_
 rintro k ⟨hk,hI⟩
 (repeat' ((conv=>whnf);first|refine vA ?_|((first|refine vF ?_ ?_|refine vI ?_ ?_)<;>intro hc<;>try simp only [vL] at hc)|refine vJ fun hg=>?_|refine vK fun hg=>?_|refine vT ?_|(refine vQ ?_ fun x hx=>?_;·omega)|((first|refine vO ?_ ?_|refine vP ?_ ?_);·first|omega|(simp only [vM] at *;omega))|(refine vU ?_ ?_;·kernel_rfl)|fail));all_goals try conv=>whnf
 ·have he:=(zvI _ _).symm.trans hc
  rw [decide_eq_true_eq] at he
  subst he
  rw [zzu hI hx] at hr hl'
  subst hr;subst hl'
  refine ⟨trivial,_,[(0,0),(1,1),(3,2)],[],rfl,.inl (by (repeat' exact rfl)),⟨by rfl,by rfl,by rfl,trivial,by (repeat' first|exact trivial|exact rfl|refine And.intro ?_ ?_|refine ⟨_,rfl,?_⟩|exact of_decide_eq_true rfl)⟩,by (repeat' first|exact trivial|exact rfl|refine And.intro ?_ ?_|refine ⟨_,rfl,?_⟩)⟩
 ·have he:=(zvI _ _).symm.trans hc
  rw [decide_eq_false_iff_not] at he
  exact ⟨k+1,[(0,0),(1,1),(2,2),(3,3)],[],⟨by (omega),fun j hj e=>by
   by_cases h:j=k
   ·subst h;rw [show (j:Int).toNat=j from rfl] at hx;rw [hx] at e;exact he (Option.some.inj e)
   ·exact hI j (by omega) e⟩,by (omega),by (refine ⟨rfl,rfl,rfl,?_,?_⟩;repeat' first|exact trivial|exact rfl|refine And.intro ?_ ?_|refine ⟨_,rfl,?_⟩|decide)⟩
 ·have hp:=zzv fun j hj=>hI j (by omega)
  rw [hp] at hr hl'
  have e1:l'=l.map dNd++[dNd x]:=by rw [hl'];simp
  have e2:r=(((l.map dNd++[dNd x]).length:Nat):Int) - 1:=by rw [hr];simp
  subst e1;subst e2
  refine ⟨trivial,_,[(0,0),(1,1),(3,5)],[],rfl,.inl (by (repeat' exact rfl)),⟨by rfl,by rfl,by rfl,trivial,by (repeat' first|exact trivial|exact rfl|refine And.intro ?_ ?_|refine ⟨_,rfl,?_⟩|exact of_decide_eq_true rfl)⟩,by (repeat' first|exact trivial|exact rfl|refine And.intro ?_ ?_|refine ⟨_,rfl,?_⟩)⟩
theorem zw6 (ds:List D) (x:Nd):Fn Tryz.prog T zdp [.ptr 0 0,.d (dNd x)] [.box [.nils 6,.own 1],.row 1 ds] (.d (.int .i64 0)) [some (.box [.own 2,.own 1]),some (.row 1 ds),some (.row 6 [dNd x])]:=by
 refine zaW zz zf3 (by show 2≤41;decide) _ (fun e env mem n h=>h) ?_
 (repeat' ((conv=>whnf);first|refine vA ?_|refine vT ?_));all_goals try conv=>whnf
 refine zu (fun (u:Unit)=>[(0,.ptr 0 0),(3,.ptr 2 0),(5,.d (.int .i64 (0))),(ze,.ptr 0 0),(ze+1,.own 1)]) (fun (u:Unit)=>[(0,some (.box [.nils 6,.own 1])),(1,some (.row 1 ds)),(2,some (zht x))]) 3 (fun (u:Unit)=>True) (fun (u:Unit)=>0) (()) [(0,0),(1,1),(2,2)] [] (trivial) (by (refine ⟨rfl,rfl,rfl,?_,?_⟩;repeat' first|exact trivial|exact rfl|refine And.intro ?_ ?_|refine ⟨_,rfl,?_⟩|decide)) ?_
 rintro u -
 (repeat' ((conv=>whnf);first|refine vA ?_|refine vH ?_|refine vK fun hg=>?_|refine vT ?_|((first|refine vO ?_ ?_|refine vP ?_ ?_);·first|omega|(simp only [vM] at *;omega))|(refine vU ?_ ?_;·kernel_rfl)|fail));all_goals try conv=>whnf
 all_goals skip
 refine ⟨trivial,_,[(0,0),(1,1),(2,4)],[],rfl,.inl (by (repeat' exact rfl)),⟨by rfl,by rfl,by rfl,trivial,by (repeat' first|exact trivial|exact rfl|refine And.intro ?_ ?_|refine ⟨_,rfl,?_⟩|exact of_decide_eq_true rfl)⟩,by (repeat' first|exact trivial|exact rfl|refine And.intro ?_ ?_|refine ⟨_,rfl,?_⟩)⟩
end Go.Ab
namespace Go.Ab
open Go Go.Proofs
set_option maxRecDepth 10000
set_option maxHeartbeats 4000000
set_option maxHeartbeats 40000000
variable {T:Nat→Obj→Prop}
def dA (f:List Nd) (s:FSt):List Int:=(List.range f.length).map fun i=>match s.done.lookup i with
 | some r=>(r:Int)
 | none => -1
abbrev zB (f:List Nd) (s:FSt):List D:=(dA f s).map (D.int .i64)
theorem zzz {f:List Nd} (hL:f.length≤1000) {k:Nat} {n:Nd} (hn:f[k]? = some n) {s:FSt} (hl:s.out.length≤1000) (hd:(dA f s)[k]? = some (-1)) (hux:Fn Tryz.prog T zZ [.d (.int .i64 n.op)] [] (.d (.bool false)) []) (huy:Fn Tryz.prog T z1 [.d (.int .i64 n.op)] [] (.d (.bool false)) []) {p:Int} (hp:p=((put (s).out n).1:Int)) :
  Fn Tryz.prog T zx [.d (dF f),.d (.int .i64 (k:Int)),.ptr 0 0] [.box [.own 2,.own 1],.row 1 (zB f s),.row 6 ((s).out.map dNd)] (.d (.int .i64 p)) [some (.box [.own 3,.own 1]),some (.row 1 ((zB f s).set k (.int .i64 p))),none,some (.row 6 ((put (s).out n).2.map dNd))]:=by
 have hkl:k < ((zB f s)).length:=by rw [zB,List.length_map];exact (List.getElem?_eq_some_iff.1 hd).1
 have hk0:k < ((zB f s)).length:=by rw [zB,List.length_map];exact (List.getElem?_eq_some_iff.1 hd).1
 refine zaW zz zah (by show 3≤67;decide) _ (fun e env mem n h=>h) ?_
 (repeat' ((conv=>whnf);first|refine vA ?_|refine vH ?_|refine vT ?_|refine vN ‹_› ?_|(refine vP ?_ ?_;·omega)|refine yD hux (by (repeat refine ⟨⟨rfl,rfl⟩,?_⟩);rfl) rfl ?_|refine yD huy (by (repeat refine ⟨⟨rfl,rfl⟩,?_⟩);rfl) rfl ?_));all_goals try conv=>whnf
 refine zai.objsE [0,1,2] (zio (zB f s) (s).out n hl p hp _ rfl) (by (repeat' first|exact rfl|refine And.intro ?_ ?_|refine ⟨_,rfl,?_⟩)) (by (repeat' first|exact rfl|refine And.intro ?_ ?_|refine ⟨_,rfl,?_⟩)) (by rfl) (by kernel_rfl) (by simp) [(0,some (.box [.own 4,.own 1])),(1,some (.row 1 (zB f s))),(2,none),(4,some (.row 6 ((put (s).out n).2.map dNd)))] rfl ?_
 (repeat' ((conv=>whnf);first|refine vT ?_|(refine vP ?_ ?_;·first|omega|(simp only [vM] at *;omega))|(refine vU ?_ ?_;·kernel_rfl)|fail));all_goals try conv=>whnf
 refine ⟨.int .i64 p,⟨by omega,List.getElem?_set_self hkl⟩,?_⟩
 (repeat' ((conv=>whnf);refine vT ?_));all_goals try conv=>whnf
 refine ⟨trivial,_,[(0,0),(1,1),(3,4)],[],rfl,.inl (by (repeat' exact rfl)),⟨by rfl,by rfl,by rfl,trivial,by (repeat' first|exact trivial|exact rfl|refine And.intro ?_ ?_|refine ⟨_,rfl,?_⟩|exact of_decide_eq_true rfl)⟩,by (repeat' first|exact trivial|exact rfl|refine And.intro ?_ ?_|refine ⟨_,rfl,?_⟩)⟩
theorem zzA {f:List Nd} (hL:f.length≤1000) {k:Nat} {n:Nd} (hn:f[k]? = some n) {s:FSt} (hl:s.out.length≤1000) (hd:(dA f s)[k]? = some (-1)) (hux:Fn Tryz.prog T zZ [.d (.int .i64 n.op)] [] (.d (.bool true)) []) (huy:Fn Tryz.prog T z1 [.d (.int .i64 n.op)] [] (.d (.bool false)) []) {r1:Nat} {s1:FSt} (hl1:s1.out.length≤1000) (c1:Fn Tryz.prog T zx [.d (dF f),.d (.int .i64 n.x),.ptr 0 0] [.box [.own 2,.own 1],.row 1 (zB f s),.row 6 ((s).out.map dNd)] (.d (.int .i64 (r1:Int))) [some (.box [.own 3,.own 1]),some (.row 1 (zB f s1)),none,some (.row 6 (s1.out.map dNd))]) (hd1:(dA f s1)[k]? = some (-1)) {p:Int} (hp:p=((put (s1).out ⟨n.op,n.i,n.e,n.g,(r1:Int),n.y⟩).1:Int)) :
  Fn Tryz.prog T zx [.d (dF f),.d (.int .i64 (k:Int)),.ptr 0 0] [.box [.own 2,.own 1],.row 1 (zB f s),.row 6 ((s).out.map dNd)] (.d (.int .i64 p)) [some (.box [.own 3,.own 1]),some (.row 1 ((zB f s1).set k (.int .i64 p))),none,some (.row 6 ((put (s1).out ⟨n.op,n.i,n.e,n.g,(r1:Int),n.y⟩).2.map dNd))]:=by
 have hkl:k < ((zB f s1)).length:=by rw [zB,List.length_map];exact (List.getElem?_eq_some_iff.1 hd1).1
 have hk0:k < ((zB f s)).length:=by rw [zB,List.length_map];exact (List.getElem?_eq_some_iff.1 hd).1
 refine zaW zz zah (by show 3≤67;decide) _ (fun e env mem n h=>h) ?_
 (repeat' ((conv=>whnf);first|refine vA ?_|refine vG ?_|refine vH ?_|refine vT ?_|refine vN ‹_› ?_|(refine vP ?_ ?_;·omega)|refine yD hux (by (repeat refine ⟨⟨rfl,rfl⟩,?_⟩);rfl) rfl ?_));all_goals try conv=>whnf
 refine zai.objsE [0,1,2] (c1) (by (repeat' first|exact rfl|refine And.intro ?_ ?_|refine ⟨_,rfl,?_⟩)) (by (repeat' first|exact rfl|refine And.intro ?_ ?_|refine ⟨_,rfl,?_⟩)) (by rfl) (by kernel_rfl) (by simp) [(0,some (.box [.own 4,.own 1])),(1,some (.row 1 (zB f s1))),(2,none),(4,some (.row 6 (s1.out.map dNd)))] rfl ?_
 (repeat' ((conv=>whnf);first|refine vA ?_|refine vH ?_|refine vT ?_|refine yD huy (by (repeat refine ⟨⟨rfl,rfl⟩,?_⟩);rfl) rfl ?_));all_goals try conv=>whnf
 refine zai.objsE [0,1,4] (zio (zB f s1) (s1).out ⟨n.op,n.i,n.e,n.g,(r1:Int),n.y⟩ hl1 p hp _ rfl) (by (repeat' first|exact rfl|refine And.intro ?_ ?_|refine ⟨_,rfl,?_⟩)) (by (repeat' first|exact rfl|refine And.intro ?_ ?_|refine ⟨_,rfl,?_⟩)) (by rfl) (by kernel_rfl) (by simp) [(0,some (.box [.own 5,.own 1])),(1,some (.row 1 (zB f s1))),(4,none),(5,some (.row 6 ((put (s1).out ⟨n.op,n.i,n.e,n.g,(r1:Int),n.y⟩).2.map dNd)))] rfl ?_
 (repeat' ((conv=>whnf);first|refine vT ?_|(refine vP ?_ ?_;·first|omega|(simp only [vM] at *;omega))|(refine vU ?_ ?_;·kernel_rfl)|fail));all_goals try conv=>whnf
 refine ⟨.int .i64 p,⟨by omega,List.getElem?_set_self hkl⟩,?_⟩
 (repeat' ((conv=>whnf);refine vT ?_));all_goals try conv=>whnf
 refine ⟨trivial,_,[(0,0),(1,1),(3,5)],[],rfl,.inl (by (repeat' exact rfl)),⟨by rfl,by rfl,by rfl,trivial,by (repeat' first|exact trivial|exact rfl|refine And.intro ?_ ?_|refine ⟨_,rfl,?_⟩|exact of_decide_eq_true rfl)⟩,by (repeat' first|exact trivial|exact rfl|refine And.intro ?_ ?_|refine ⟨_,rfl,?_⟩)⟩
theorem zzB {f:List Nd} (hL:f.length≤1000) {k:Nat} {n:Nd} (hn:f[k]? = some n) {s:FSt} (hl:s.out.length≤1000) (hd:(dA f s)[k]? = some (-1)) (hux:Fn Tryz.prog T zZ [.d (.int .i64 n.op)] [] (.d (.bool true)) []) (huy:Fn Tryz.prog T z1 [.d (.int .i64 n.op)] [] (.d (.bool true)) []) {r1:Nat} {s1:FSt} (hl1:s1.out.length≤1000) (c1:Fn Tryz.prog T zx [.d (dF f),.d (.int .i64 n.x),.ptr 0 0] [.box [.own 2,.own 1],.row 1 (zB f s),.row 6 ((s).out.map dNd)] (.d (.int .i64 (r1:Int))) [some (.box [.own 3,.own 1]),some (.row 1 (zB f s1)),none,some (.row 6 (s1.out.map dNd))]) (hd1:(dA f s1)[k]? = some (-1)) {r2:Nat} {s2:FSt} (hl2:s2.out.length≤1000) (c2:Fn Tryz.prog T zx [.d (dF f),.d (.int .i64 n.y),.ptr 0 0] [.box [.own 2,.own 1],.row 1 (zB f s1),.row 6 ((s1).out.map dNd)] (.d (.int .i64 (r2:Int))) [some (.box [.own 3,.own 1]),some (.row 1 (zB f s2)),none,some (.row 6 (s2.out.map dNd))]) (hd2:(dA f s2)[k]? = some (-1)) {p:Int} (hp:p=((put (s2).out ⟨n.op,n.i,n.e,n.g,(r1:Int),(r2:Int)⟩).1:Int)) :
  Fn Tryz.prog T zx [.d (dF f),.d (.int .i64 (k:Int)),.ptr 0 0] [.box [.own 2,.own 1],.row 1 (zB f s),.row 6 ((s).out.map dNd)] (.d (.int .i64 p)) [some (.box [.own 3,.own 1]),some (.row 1 ((zB f s2).set k (.int .i64 p))),none,some (.row 6 ((put (s2).out ⟨n.op,n.i,n.e,n.g,(r1:Int),(r2:Int)⟩).2.map dNd))]:=by
 have hkl:k < ((zB f s2)).length:=by rw [zB,List.length_map];exact (List.getElem?_eq_some_iff.1 hd2).1
 have hk0:k < ((zB f s)).length:=by rw [zB,List.length_map];exact (List.getElem?_eq_some_iff.1 hd).1
 refine zaW zz zah (by show 3≤67;decide) _ (fun e env mem n h=>h) ?_
 (repeat' ((conv=>whnf);first|refine vA ?_|refine vG ?_|refine vH ?_|refine vT ?_|refine vN ‹_› ?_|(refine vP ?_ ?_;·omega)|refine yD hux (by (repeat refine ⟨⟨rfl,rfl⟩,?_⟩);rfl) rfl ?_));all_goals try conv=>whnf
 refine zai.objsE [0,1,2] (c1) (by (repeat' first|exact rfl|refine And.intro ?_ ?_|refine ⟨_,rfl,?_⟩)) (by (repeat' first|exact rfl|refine And.intro ?_ ?_|refine ⟨_,rfl,?_⟩)) (by rfl) (by kernel_rfl) (by simp) [(0,some (.box [.own 4,.own 1])),(1,some (.row 1 (zB f s1))),(2,none),(4,some (.row 6 (s1.out.map dNd)))] rfl ?_
 (repeat' ((conv=>whnf);first|refine vA ?_|refine vG ?_|refine vT ?_|refine vN ‹_› ?_|refine yD huy (by (repeat refine ⟨⟨rfl,rfl⟩,?_⟩);rfl) rfl ?_));all_goals try conv=>whnf
 refine zai.objsE [0,1,4] (c2) (by (repeat' first|exact rfl|refine And.intro ?_ ?_|refine ⟨_,rfl,?_⟩)) (by (repeat' first|exact rfl|refine And.intro ?_ ?_|refine ⟨_,rfl,?_⟩)) (by rfl) (by kernel_rfl) (by simp) [(0,some (.box [.own 5,.own 1])),(1,some (.row 1 (zB f s2))),(4,none),(5,some (.row 6 (s2.out.map dNd)))] rfl ?_
 (repeat' ((conv=>whnf);first|refine vA ?_|refine vT ?_));all_goals try conv=>whnf
 refine zai.objsE [0,1,5] (zio (zB f s2) (s2).out ⟨n.op,n.i,n.e,n.g,(r1:Int),(r2:Int)⟩ hl2 p hp _ rfl) (by (repeat' first|exact rfl|refine And.intro ?_ ?_|refine ⟨_,rfl,?_⟩)) (by (repeat' first|exact rfl|refine And.intro ?_ ?_|refine ⟨_,rfl,?_⟩)) (by rfl) (by kernel_rfl) (by simp) [(0,some (.box [.own 6,.own 1])),(1,some (.row 1 (zB f s2))),(5,none),(6,some (.row 6 ((put (s2).out ⟨n.op,n.i,n.e,n.g,(r1:Int),(r2:Int)⟩).2.map dNd)))] rfl ?_
 (repeat' ((conv=>whnf);first|refine vT ?_|(refine vP ?_ ?_;·first|omega|(simp only [vM] at *;omega))|(refine vU ?_ ?_;·kernel_rfl)|fail));all_goals try conv=>whnf
 refine ⟨.int .i64 p,⟨by omega,List.getElem?_set_self hkl⟩,?_⟩
 (repeat' ((conv=>whnf);refine vT ?_));all_goals try conv=>whnf
 refine ⟨trivial,_,[(0,0),(1,1),(3,6)],[],rfl,.inl (by (repeat' exact rfl)),⟨by rfl,by rfl,by rfl,trivial,by (repeat' first|exact trivial|exact rfl|refine And.intro ?_ ?_|refine ⟨_,rfl,?_⟩|exact of_decide_eq_true rfl)⟩,by (repeat' first|exact trivial|exact rfl|refine And.intro ?_ ?_|refine ⟨_,rfl,?_⟩)⟩
theorem zzC {f:List Nd} (hL:f.length≤1000) {k:Nat} {n:Nd} (hn:f[k]? = some n) (hd:(dA f ⟨[],[]⟩)[k]? = some (-1)) (hux:Fn Tryz.prog T zZ [.d (.int .i64 n.op)] [] (.d (.bool false)) []) (huy:Fn Tryz.prog T z1 [.d (.int .i64 n.op)] [] (.d (.bool false)) []) :
  Fn Tryz.prog T zx [.d (dF f),.d (.int .i64 (k:Int)),.ptr 0 0] [.box [.nils 6,.own 1],.row 1 (zB f ⟨[],[]⟩)] (.d (.int .i64 (0:Int))) [some (.box [.own 2,.own 1]),some (.row 1 ((zB f ⟨[],[]⟩).set k (.int .i64 (0:Int)))),some (.row 6 [dNd n])]:=by
 have hkl:k < ((zB f ⟨[],[]⟩)).length:=by rw [zB,List.length_map];exact (List.getElem?_eq_some_iff.1 hd).1
 have hk0:k < ((zB f ⟨[],[]⟩)).length:=by rw [zB,List.length_map];exact (List.getElem?_eq_some_iff.1 hd).1
 refine zaW zz zah (by show 3≤67;decide) _ (fun e env mem n h=>h) ?_
 (repeat' ((conv=>whnf);first|refine vA ?_|refine vH ?_|refine vT ?_|refine vN ‹_› ?_|(refine vP ?_ ?_;·omega)|refine yD hux (by (repeat refine ⟨⟨rfl,rfl⟩,?_⟩);rfl) rfl ?_|refine yD huy (by (repeat refine ⟨⟨rfl,rfl⟩,?_⟩);rfl) rfl ?_));all_goals try conv=>whnf
 refine zai.objsE [0,1] (zw6 (zB f ⟨[],[]⟩) n) (by (repeat' first|exact rfl|refine And.intro ?_ ?_|refine ⟨_,rfl,?_⟩)) (by (repeat' first|exact rfl|refine And.intro ?_ ?_|refine ⟨_,rfl,?_⟩)) (by rfl) (by kernel_rfl) (by simp) [(0,some (.box [.own 3,.own 1])),(1,some (.row 1 (zB f ⟨[],[]⟩))),(3,some (.row 6 [dNd n]))] rfl ?_
 (repeat' ((conv=>whnf);first|refine vT ?_|(refine vP ?_ ?_;·first|omega|(simp only [vM] at *;omega))|(refine vU ?_ ?_;·kernel_rfl)|fail));all_goals try conv=>whnf
 refine ⟨.int .i64 (0:Int),⟨by omega,List.getElem?_set_self hkl⟩,?_⟩
 (repeat' ((conv=>whnf);refine vT ?_));all_goals try conv=>whnf
 refine ⟨trivial,_,[(0,0),(1,1),(2,3)],[],rfl,.inl (by (repeat' exact rfl)),⟨by rfl,by rfl,by rfl,trivial,by (repeat' first|exact trivial|exact rfl|refine And.intro ?_ ?_|refine ⟨_,rfl,?_⟩|exact of_decide_eq_true rfl)⟩,by (repeat' first|exact trivial|exact rfl|refine And.intro ?_ ?_|refine ⟨_,rfl,?_⟩)⟩
theorem zzD {f:List Nd} (hL:f.length≤1000) {k:Nat} {n:Nd} (hn:f[k]? = some n) (hd:(dA f ⟨[],[]⟩)[k]? = some (-1)) (hux:Fn Tryz.prog T zZ [.d (.int .i64 n.op)] [] (.d (.bool true)) []) (huy:Fn Tryz.prog T z1 [.d (.int .i64 n.op)] [] (.d (.bool false)) []) {r1:Nat} {s1:FSt} (hl1:s1.out.length≤1000) (c1:Fn Tryz.prog T zx [.d (dF f),.d (.int .i64 n.x),.ptr 0 0] [.box [.nils 6,.own 1],.row 1 (zB f ⟨[],[]⟩)] (.d (.int .i64 (r1:Int))) [some (.box [.own 2,.own 1]),some (.row 1 (zB f s1)),some (.row 6 (s1.out.map dNd))]) (hd1:(dA f s1)[k]? = some (-1)) {p:Int} (hp:p=((put (s1).out ⟨n.op,n.i,n.e,n.g,(r1:Int),n.y⟩).1:Int)) :
  Fn Tryz.prog T zx [.d (dF f),.d (.int .i64 (k:Int)),.ptr 0 0] [.box [.nils 6,.own 1],.row 1 (zB f ⟨[],[]⟩)] (.d (.int .i64 p)) [some (.box [.own 2,.own 1]),some (.row 1 ((zB f s1).set k (.int .i64 p))),some (.row 6 ((put (s1).out ⟨n.op,n.i,n.e,n.g,(r1:Int),n.y⟩).2.map dNd))]:=by
 have hkl:k < ((zB f s1)).length:=by rw [zB,List.length_map];exact (List.getElem?_eq_some_iff.1 hd1).1
 have hk0:k < ((zB f ⟨[],[]⟩)).length:=by rw [zB,List.length_map];exact (List.getElem?_eq_some_iff.1 hd).1
 refine zaW zz zah (by show 3≤67;decide) _ (fun e env mem n h=>h) ?_
 (repeat' ((conv=>whnf);first|refine vA ?_|refine vG ?_|refine vH ?_|refine vT ?_|refine vN ‹_› ?_|(refine vP ?_ ?_;·omega)|refine yD hux (by (repeat refine ⟨⟨rfl,rfl⟩,?_⟩);rfl) rfl ?_));all_goals try conv=>whnf
 refine zai.objsE [0,1] (c1) (by (repeat' first|exact rfl|refine And.intro ?_ ?_|refine ⟨_,rfl,?_⟩)) (by (repeat' first|exact rfl|refine And.intro ?_ ?_|refine ⟨_,rfl,?_⟩)) (by rfl) (by kernel_rfl) (by simp) [(0,some (.box [.own 3,.own 1])),(1,some (.row 1 (zB f s1))),(3,some (.row 6 (s1.out.map dNd)))] rfl ?_
 (repeat' ((conv=>whnf);first|refine vA ?_|refine vH ?_|refine vT ?_|refine yD huy (by (repeat refine ⟨⟨rfl,rfl⟩,?_⟩);rfl) rfl ?_));all_goals try conv=>whnf
 refine zai.objsE [0,1,3] (zio (zB f s1) (s1).out ⟨n.op,n.i,n.e,n.g,(r1:Int),n.y⟩ hl1 p hp _ rfl) (by (repeat' first|exact rfl|refine And.intro ?_ ?_|refine ⟨_,rfl,?_⟩)) (by (repeat' first|exact rfl|refine And.intro ?_ ?_|refine ⟨_,rfl,?_⟩)) (by rfl) (by kernel_rfl) (by simp) [(0,some (.box [.own 4,.own 1])),(1,some (.row 1 (zB f s1))),(3,none),(4,some (.row 6 ((put (s1).out ⟨n.op,n.i,n.e,n.g,(r1:Int),n.y⟩).2.map dNd)))] rfl ?_
 (repeat' ((conv=>whnf);first|refine vT ?_|(refine vP ?_ ?_;·first|omega|(simp only [vM] at *;omega))|(refine vU ?_ ?_;·kernel_rfl)|fail));all_goals try conv=>whnf
 refine ⟨.int .i64 p,⟨by omega,List.getElem?_set_self hkl⟩,?_⟩
 (repeat' ((conv=>whnf);refine vT ?_));all_goals try conv=>whnf
 refine ⟨trivial,_,[(0,0),(1,1),(2,4)],[],rfl,.inl (by (repeat' exact rfl)),⟨by rfl,by rfl,by rfl,trivial,by (repeat' first|exact trivial|exact rfl|refine And.intro ?_ ?_|refine ⟨_,rfl,?_⟩|exact of_decide_eq_true rfl)⟩,by (repeat' first|exact trivial|exact rfl|refine And.intro ?_ ?_|refine ⟨_,rfl,?_⟩)⟩
theorem zzE {f:List Nd} (hL:f.length≤1000) {k:Nat} {n:Nd} (hn:f[k]? = some n) (hd:(dA f ⟨[],[]⟩)[k]? = some (-1)) (hux:Fn Tryz.prog T zZ [.d (.int .i64 n.op)] [] (.d (.bool true)) []) (huy:Fn Tryz.prog T z1 [.d (.int .i64 n.op)] [] (.d (.bool true)) []) {r1:Nat} {s1:FSt} (hl1:s1.out.length≤1000) (c1:Fn Tryz.prog T zx [.d (dF f),.d (.int .i64 n.x),.ptr 0 0] [.box [.nils 6,.own 1],.row 1 (zB f ⟨[],[]⟩)] (.d (.int .i64 (r1:Int))) [some (.box [.own 2,.own 1]),some (.row 1 (zB f s1)),some (.row 6 (s1.out.map dNd))]) (hd1:(dA f s1)[k]? = some (-1)) {r2:Nat} {s2:FSt} (hl2:s2.out.length≤1000) (c2:Fn Tryz.prog T zx [.d (dF f),.d (.int .i64 n.y),.ptr 0 0] [.box [.own 2,.own 1],.row 1 (zB f s1),.row 6 ((s1).out.map dNd)] (.d (.int .i64 (r2:Int))) [some (.box [.own 3,.own 1]),some (.row 1 (zB f s2)),none,some (.row 6 (s2.out.map dNd))]) (hd2:(dA f s2)[k]? = some (-1)) {p:Int} (hp:p=((put (s2).out ⟨n.op,n.i,n.e,n.g,(r1:Int),(r2:Int)⟩).1:Int)) :
  Fn Tryz.prog T zx [.d (dF f),.d (.int .i64 (k:Int)),.ptr 0 0] [.box [.nils 6,.own 1],.row 1 (zB f ⟨[],[]⟩)] (.d (.int .i64 p)) [some (.box [.own 2,.own 1]),some (.row 1 ((zB f s2).set k (.int .i64 p))),some (.row 6 ((put (s2).out ⟨n.op,n.i,n.e,n.g,(r1:Int),(r2:Int)⟩).2.map dNd))]:=by
 have hkl:k < ((zB f s2)).length:=by rw [zB,List.length_map];exact (List.getElem?_eq_some_iff.1 hd2).1
 have hk0:k < ((zB f ⟨[],[]⟩)).length:=by rw [zB,List.length_map];exact (List.getElem?_eq_some_iff.1 hd).1
 refine zaW zz zah (by show 3≤67;decide) _ (fun e env mem n h=>h) ?_
 (repeat' ((conv=>whnf);first|refine vA ?_|refine vG ?_|refine vH ?_|refine vT ?_|refine vN ‹_› ?_|(refine vP ?_ ?_;·omega)|refine yD hux (by (repeat refine ⟨⟨rfl,rfl⟩,?_⟩);rfl) rfl ?_));all_goals try conv=>whnf
 refine zai.objsE [0,1] (c1) (by (repeat' first|exact rfl|refine And.intro ?_ ?_|refine ⟨_,rfl,?_⟩)) (by (repeat' first|exact rfl|refine And.intro ?_ ?_|refine ⟨_,rfl,?_⟩)) (by rfl) (by kernel_rfl) (by simp) [(0,some (.box [.own 3,.own 1])),(1,some (.row 1 (zB f s1))),(3,some (.row 6 (s1.out.map dNd)))] rfl ?_
 (repeat' ((conv=>whnf);first|refine vA ?_|refine vG ?_|refine vT ?_|refine vN ‹_› ?_|refine yD huy (by (repeat refine ⟨⟨rfl,rfl⟩,?_⟩);rfl) rfl ?_));all_goals try conv=>whnf
 refine zai.objsE [0,1,3] (c2) (by (repeat' first|exact rfl|refine And.intro ?_ ?_|refine ⟨_,rfl,?_⟩)) (by (repeat' first|exact rfl|refine And.intro ?_ ?_|refine ⟨_,rfl,?_⟩)) (by rfl) (by kernel_rfl) (by simp) [(0,some (.box [.own 4,.own 1])),(1,some (.row 1 (zB f s2))),(3,none),(4,some (.row 6 (s2.out.map dNd)))] rfl ?_
 (repeat' ((conv=>whnf);first|refine vA ?_|refine vT ?_));all_goals try conv=>whnf
 refine zai.objsE [0,1,4] (zio (zB f s2) (s2).out ⟨n.op,n.i,n.e,n.g,(r1:Int),(r2:Int)⟩ hl2 p hp _ rfl) (by (repeat' first|exact rfl|refine And.intro ?_ ?_|refine ⟨_,rfl,?_⟩)) (by (repeat' first|exact rfl|refine And.intro ?_ ?_|refine ⟨_,rfl,?_⟩)) (by rfl) (by kernel_rfl) (by simp) [(0,some (.box [.own 5,.own 1])),(1,some (.row 1 (zB f s2))),(4,none),(5,some (.row 6 ((put (s2).out ⟨n.op,n.i,n.e,n.g,(r1:Int),(r2:Int)⟩).2.map dNd)))] rfl ?_
 (repeat' ((conv=>whnf);first|refine vT ?_|(refine vP ?_ ?_;·first|omega|(simp only [vM] at *;omega))|(refine vU ?_ ?_;·kernel_rfl)|fail));all_goals try conv=>whnf
 refine ⟨.int .i64 p,⟨by omega,List.getElem?_set_self hkl⟩,?_⟩
 (repeat' ((conv=>whnf);refine vT ?_));all_goals try conv=>whnf
 refine ⟨trivial,_,[(0,0),(1,1),(2,5)],[],rfl,.inl (by (repeat' exact rfl)),⟨by rfl,by rfl,by rfl,trivial,by (repeat' first|exact trivial|exact rfl|refine And.intro ?_ ?_|refine ⟨_,rfl,?_⟩|exact of_decide_eq_true rfl)⟩,by (repeat' first|exact trivial|exact rfl|refine And.intro ?_ ?_|refine ⟨_,rfl,?_⟩)⟩
end Go.Ab
namespace Go.Ab
open Go Go.Proofs
set_option maxRecDepth 10000
set_option maxHeartbeats 4000000
set_option maxHeartbeats 40000000
variable {T:Nat→Obj→Prop}
abbrev rUp (f:List Nd) (s:FSt):List (Option Ob):=[some (.box [.own 3,.own 1]),some (.row 1 (zB f s)),none,some (.row 6 (s.out.map dNd))]
abbrev zuu (f:List Nd) (s:FSt):List (Option Ob):=[some (.box [.own 2,.own 1]),some (.row 1 (zB f s)),some (.row 6 (s.out.map dNd))]
theorem zcb {f:List Nd} {s:FSt} {k:Nat} (hk:k < f.length) (h:s.done.lookup k=none):(dA f s)[k]? = some (-1):=by
 simp [dA,hk,h]
theorem zys {f:List Nd} {s:FSt} {k r:Nat} (hk:k < f.length) (h:s.done.lookup k=some r):(dA f s)[k]? = some (r:Int):=by
 simp [dA,hk,h]
theorem zfe {f:List Nd} {d:List (Nat×Nat)} {o o':List Nd} {k p:Nat} (hd:d.lookup k=none):zB f ⟨o',d++[(k,p)]⟩=(zB f ⟨o,d⟩).set k (.int .i64 (p:Int)):=by
 show (dA f _).map _=((dA f _).map _).set _ _
 rw [← List.map_set]
 congr 1
 refine List.ext_getElem? fun i=>?_
 rw [List.getElem?_set]
 simp only [dA,List.getElem?_map,List.length_map,List.length_range,List.lookup_append]
 by_cases hi:i < f.length
 ·rw [List.getElem?_range hi]
  by_cases hik:k=i
  ·subst hik
   simp [hd,hi,List.lookup]
  ·simp only [if_neg hik,Option.map_some]
   have:([(k,p)]:List (Nat×Nat)).lookup i=none:=by
    have:(i==k)=false:=by simpa using fun e:i=k=>hik e.symm
    simp [List.lookup,this]
   rw [this,Option.or_none]
 ·rw [show (List.range f.length)[i]? = none by simp;omega]
  split
  ·rw [if_neg (by omega)];rfl
  ·rfl
theorem zyy {f:List Nd} (hf:zam f) (hL:f.length≤1000) : ∀ (m k:Nat) (i:Int) (s:FSt),k < m→i=k→k < f.length→zi2 f s →
  Fn Tryz.prog T zx [.d (dF f),.d (.int .i64 i),.ptr 0 0] [.box [.own 2,.own 1],.row 1 (zB f s),.row 6 (s.out.map dNd)] (.d (.int .i64 ((fin f (k+1) k s).1:Int))) (rUp f (fin f (k+1) k s).2):=by
 intro m
 induction m with
 | zero=>intro k i s h;omega
 | succ m ih =>
  intro k i s hk hi hkf hs
  subst hi
  have hl:s.out.length≤1000:=Nat.le_trans (zim hs) hL
  cases hd:s.done.lookup k with
  | some r =>
   have e:fin f (k+1) k s=(r,s):=by rw [fin,hd]
   have hfd:=zys hkf hd
   have hk0:k < (zB f s).length:=by rw [zB,List.length_map];exact (List.getElem?_eq_some_iff.1 hfd).1
   rw [e]
   refine zaW zz zah (by show 3≤67;decide) _ (fun e env mem n h=>h) ?_
   (repeat' ((conv=>whnf);first|refine vA ?_|refine vG ?_|refine vT ?_|refine vN ‹_› ?_|(refine vP ?_ ?_;·omega)|fail));all_goals try conv=>whnf
   refine ⟨trivial,_,[(0,0),(1,1),(3,2)],[],rfl,.inl (by (repeat' exact rfl)),⟨by rfl,by rfl,by rfl,trivial,by (repeat' first|exact trivial|exact rfl|refine And.intro ?_ ?_|refine ⟨_,rfl,?_⟩|exact of_decide_eq_true rfl)⟩,by (repeat' first|exact trivial|exact rfl|refine And.intro ?_ ?_|refine ⟨_,rfl,?_⟩)⟩
  | none =>
   obtain ⟨n,hn⟩ : ∃ n,f[k]? = some n:=⟨f[k],by simp [hkf]⟩
   have hn':f.getD k default=n:=by simp [List.getD,hn]
   cases hx:zR n.op with
   | false =>
    have hy:zD n.op=false:=by
     cases hy:zD n.op with
     | true=>rw [zac hy] at hx;cases hx
     | false=>rfl
    have hux:=hx▸zcL (T:=T) n.op
    have huy:=hy▸zbv (T:=T) n.op
    have e:=zu4 hf hkf hd (by rw [hn'];exact hx) (by rw [hn'];exact hy)
    rw [hn'] at e
    rw [e]
    simp only [rUp,zfe (o:=s.out) hd]
    exact zzz hL hn hl (zcb hkf hd) hux huy rfl
   | true =>
    have hux:=hx▸zcL (T:=T) n.op
    have hxk:=zaX hf hkf (by rw [hn'];exact hx)
    rw [hn'] at hxk
    obtain ⟨i1,d1⟩:=zgp hf hxk.2 (by omega) hs hd
    have c1:=ih n.x.toNat n.x s (by omega) (by omega) (by omega) hs
    cases h1:fin f (n.x.toNat+1) n.x.toNat s with
    | mk r1 s1 =>
    rw [h1] at i1 d1 c1
    simp only at i1 d1 c1
    have l1:s1.out.length≤1000:=Nat.le_trans (zim i1) hL
    cases hy:zD n.op with
    | false =>
     have huy:=hy▸zbv (T:=T) n.op
     have e:=zu5 hf hkf hd hn' hx hy h1
     rw [e]
     simp only [rUp,zfe (o:=s1.out) d1]
     exact zzA hL hn hl (zcb hkf hd) hux huy l1 c1 (zcb hkf d1) rfl
    | true =>
     have huy:=hy▸zbv (T:=T) n.op
     have hyk:=zdv hf hkf (by rw [hn'];exact hy)
     rw [hn'] at hyk
     obtain ⟨i2,d2⟩:=zgp hf hyk.2 (by omega) i1 d1
     have c2:=ih n.y.toNat n.y s1 (by omega) (by omega) (by omega) i1
     cases h2:fin f (n.y.toNat+1) n.y.toNat s1 with
     | mk r2 s2 =>
     rw [h2] at i2 d2 c2
     simp only at i2 d2 c2
     have l2:s2.out.length≤1000:=Nat.le_trans (zim i2) hL
     have e:=zu6 hf hkf hd hn' hx hy h1 h2
     rw [e]
     simp only [rUp,zfe (o:=s2.out) d2]
     exact zzB hL hn hl (zcb hkf hd) hux huy l1 c1 (zcb hkf d1) l2 c2 (zcb hkf d2) rfl
theorem zw3 {f:List Nd} (hf:zam f) (hL:f.length≤1000) : ∀ (m k:Nat) (i:Int),k < m→i=k→k < f.length →
  Fn Tryz.prog T zx [.d (dF f),.d (.int .i64 i),.ptr 0 0] [.box [.nils 6,.own 1],.row 1 (zB f ⟨[],[]⟩)] (.d (.int .i64 ((fin f (k+1) k ⟨[],[]⟩).1:Int))) (zuu f (fin f (k+1) k ⟨[],[]⟩).2):=by
 intro m
 induction m with
 | zero=>intro k i h;omega
 | succ m ih =>
  intro k i hk hi hkf
  subst hi
  have hs:=ztm f
  have hd:(FSt.mk [] []).done.lookup k=none:=rfl
  obtain ⟨n,hn⟩ : ∃ n,f[k]? = some n:=⟨f[k],by simp [hkf]⟩
  have hn':f.getD k default=n:=by simp [List.getD,hn]
  cases hx:zR n.op with
  | false =>
   have hy:zD n.op=false:=by
    cases hy:zD n.op with
    | true=>rw [zac hy] at hx;cases hx
    | false=>rfl
   have hux:=hx▸zcL (T:=T) n.op
   have huy:=hy▸zbv (T:=T) n.op
   have e:=zu4 hf hkf hd (by rw [hn'];exact hx) (by rw [hn'];exact hy)
   rw [hn'] at e
   rw [e]
   simp only [zuu,zfe (o:=([]:List Nd)) hd]
   exact zzC hL hn (zcb hkf hd) hux huy
  | true =>
   have hux:=hx▸zcL (T:=T) n.op
   have hxk:=zaX hf hkf (by rw [hn'];exact hx)
   rw [hn'] at hxk
   obtain ⟨i1,d1⟩:=zgp hf hxk.2 (by omega) hs hd
   have c1:=ih n.x.toNat n.x (by omega) (by omega) (by omega)
   cases h1:fin f (n.x.toNat+1) n.x.toNat (FSt.mk [] []) with
   | mk r1 s1 =>
   rw [h1] at i1 d1 c1
   simp only at i1 d1 c1
   have l1:s1.out.length≤1000:=Nat.le_trans (zim i1) hL
   cases hy:zD n.op with
   | false =>
    have huy:=hy▸zbv (T:=T) n.op
    have e:=zu5 hf hkf hd hn' hx hy h1
    rw [e]
    simp only [zuu,zfe (o:=s1.out) d1]
    exact zzD hL hn (zcb hkf hd) hux huy l1 c1 (zcb hkf d1) rfl
   | true =>
    have huy:=hy▸zbv (T:=T) n.op
    have hyk:=zdv hf hkf (by rw [hn'];exact hy)
    rw [hn'] at hyk
    obtain ⟨i2,d2⟩:=zgp hf hyk.2 (by omega) i1 d1
    have c2:=zyy (T:=T) hf hL (n.y.toNat+1) n.y.toNat n.y s1 (by omega) (by omega) (by omega) i1
    cases h2:fin f (n.y.toNat+1) n.y.toNat s1 with
    | mk r2 s2 =>
    rw [h2] at i2 d2 c2
    simp only at i2 d2 c2
    have l2:s2.out.length≤1000:=Nat.le_trans (zim i2) hL
    have e:=zu6 hf hkf hd hn' hx hy h1 h2
    rw [e]
    simp only [zuu,zfe (o:=s2.out) d2]
    exact zzE hL hn (zcb hkf hd) hux huy l1 c1 (zcb hkf d1) l2 c2 (zcb hkf d2) rfl
end Go.Ab
namespace Go.Ab
open Go Go.Proofs
set_option maxRecDepth 10000
set_option maxHeartbeats 4000000
variable {T:Nat→Obj→Prop}
def zmj (f:List Nd) (i:Int):List Nd:=if zbt f≠0∨i < 0∨(f.length:Int)≤i then [] else zbF f i.toNat
def cL (f:List Nd):List Nd:=if zbt f≠0 then [] else zbF f (f.length - 1)
theorem zzI (f:List Nd):zmj f ((f.length:Int) - 1)=cL f:=by
 unfold zmj cL
 by_cases h:zbt f=0
 ·have:=(zgE.1 h).1
  rw [if_neg (by omega),if_neg (by omega)]
  congr 1
  omega
 ·rw [if_pos (.inl h),if_pos h]
theorem zjd {f:List Nd} (h:zbt f=0):zmn (zW f (f.length - 1)) (cL f)∧(cL f).length≤f.length:=by
 obtain ⟨h1,h2,h3⟩:=zgE.1 h
 unfold cL
 rw [if_neg (by omega)]
 exact ⟨zia h3 (by omega),(zhM h3 (by omega)).2.1⟩
theorem zuW {f:List Nd} (h:zbt f≠0):cL f=[]:=if_pos h
theorem zkY (f:List Nd):(cL f).length≤200:=by
 by_cases h:zbt f=0
 ·have:=(zjd h).2
  have:=(zgE.1 h).2.1
  omega
 ·rw [zuW h];simp
theorem zo2 (f:List Nd):zam (cL f):=by
 by_cases h:zbt f=0
 ·exact (zjd h).1.ok
 ·rw [zuW h];exact zfn
theorem zfz {f:List Nd} {n:Nd} (h:n∈cL f):zet n.hd:=by
 obtain ⟨i,hi⟩:=List.getElem?_of_mem h
 exact (zbJ.1 (zo2 f i n hi)).1
theorem zsu (m:Hd→Nat) {b:Nat} (f:List Nd) (h : ∀ n∈cL f,m n.hd < 2 ^ b) (k:Nat):uni m ((cL f).take k) < 2 ^ b :=
 (zdZ m).2 fun n hn=>h n (List.mem_of_mem_take hn)
theorem zl5 {i:Int} (h0:0≤i) (h7:i≤7):(-9223372036854775808≤(1:Int) * 2 ^ (min i.toNat IntKind.i64.bits)∧(1:Int) * 2 ^ (min i.toNat IntKind.i64.bits)≤9223372036854775807)∧((2 ^ i.toNat:Nat):Int)=(1:Int) * 2 ^ (min i.toNat IntKind.i64.bits):=by
 have:i=0∨i=1∨i=2∨i=3∨i=4∨i=5∨i=6∨i=7:=by omega
 rcases this with rfl|rfl|rfl|rfl|rfl|rfl|rfl|rfl<;>decide
def zfM (m:Nat) (n:Int):Bool:=decide (31≤n∨m < 2 ^ n.toNat)
def zde (f:List Nd) (agents facts:Int):Bool:=decide (zbt f=0)&&zfM (uni zaf (cL f)) agents&&zfM (uni zbb (cL f)) facts
end Go.Ab
namespace Go.Ab
open Go Go.Proofs
set_option maxRecDepth 10000
set_option maxHeartbeats 4000000
variable {T:Nat→Obj→Prop}
theorem zzi (f:List Nd):zB f ⟨[],[]⟩=List.replicate f.length (.int .i64 (-1)):=by
 show (dA f _).map _=_
 refine List.eq_replicate_iff.2 ⟨by simp [dA],fun b hb=>?_⟩
 simp [dA,List.lookup] at hb
 exact hb.2.symm
theorem zyA (f:List Nd) (i:Int):Fn Tryz.prog T zfW [.d (dF f),.d (.int .i64 i)] [] (.d (dF (zmj f i))) []:=by
 refine zj zz zlM (by show 2≤45;decide) ?_
 (repeat' ((conv=>whnf);first|refine vA ?_|((first|refine vD ?_ ?_|refine vF ?_ ?_)<;>intro hc<;>try simp only [vL] at hc)|refine vJ fun hg=>?_|refine vT ?_|refine yD (zhO _) ⟨⟨rfl,rfl⟩,rfl⟩ rfl ?_));all_goals try conv=>whnf
 ·have hp:zmj f i=[]:=if_pos (.inl ‹_›)
  rw [hp];rfl
 ·have hp:zmj f i=[]:=if_pos (.inr (.inl ‹_›))
  rw [hp];rfl
 ·have hp:zmj f i=[]:=if_pos (.inr (.inr (by omega)))
  rw [hp];rfl
 ·have h0:zbt f=0:=by omega
  have h1:=zgE.1 h0
  have hp:zmj f i=zbF f i.toNat:=if_neg (by omega)
  rw [hp]
  refine zu (fun ((k,xs):Nat×List D)=>[(0,.d (dF f)),(1,.d (.int .i64 (i))),(5,.ptr 0 0),(6,.d (.int .i64 ((k:Int))))]) (fun ((k,xs):Nat×List D)=>[(0,some (.box [.nils 6,.own 1])),(1,some (.row 1 xs))]) 2 (fun ((k,xs):Nat×List D)=>k≤f.length∧xs=List.replicate k (.int .i64 (-1))) (fun ((k,xs):Nat×List D)=>f.length - k) ((0,[])) [(0,0)] [1] (⟨by simp,rfl⟩) (by (refine ⟨rfl,rfl,rfl,?_,?_⟩;repeat' first|exact trivial|exact rfl|exact ⟨_,rfl⟩|refine And.intro ?_ ?_|refine ⟨_,rfl,?_⟩|decide)) ?_
  rintro ⟨k,xs⟩ ⟨hk,hI⟩
  have hlx:xs.length≤1000:=by rw [hI,List.length_replicate];omega
  (repeat' ((conv=>whnf);first|refine vA ?_|(refine vF ?_ ?_<;>intro hc<;>try simp only [vL] at hc)|refine vJ fun hg=>?_|refine vT ?_|((first|refine vO ?_ ?_|refine vP ?_ ?_);·first|omega|(simp only [vM] at *;omega))|fail));all_goals try conv=>whnf
  ·refine ⟨(k+1,_),[(0,0),(1,3)],[],?_,?_,by (refine ⟨rfl,rfl,rfl,?_,?_⟩;repeat' first|exact trivial|exact rfl|refine And.intro ?_ ?_|refine ⟨_,rfl,?_⟩|decide)⟩
   ·exact ⟨by (omega),by rw [hI];exact List.replicate_succ'.symm⟩
   ·((simp only [vM] at *;omega))
  ·have hk:k=f.length:=by omega
   subst hk
   rw [← zzi] at hI
   subst hI
   have c:=zw3 (T:=T) h1.2.2 (by omega) (i.toNat+1) i.toNat i (by omega) (by omega) (by omega)
   refine zai.objs [0,1] (c) (by (repeat' first|exact rfl|refine And.intro ?_ ?_|refine ⟨_,rfl,?_⟩)) (by (repeat' first|exact rfl|refine And.intro ?_ ?_|refine ⟨_,rfl,?_⟩)) (by rfl) (by rfl) (by simp) ?_
   (repeat' ((conv=>whnf);refine vT ?_));all_goals try conv=>whnf
   rfl
theorem zdV (f:List Nd):Fn Tryz.prog T zdT [.d (dF f)] [] (.d (dF (cL f))) []:=by
 refine zj zz zhQ (by show 1≤8;decide) ?_
 (repeat' ((conv=>whnf);first|refine vJ fun hg=>?_|refine vT ?_|(refine vO ?_ ?_;·(simp only [vM] at *;omega))|fail));all_goals try conv=>whnf
 have cC:=zyA (T:=T) f (((f.map dNd).length:Int) - 1)
 rw [show zmj f (((f.map dNd).length:Int) - 1)=cL f by rw [List.length_map,zzI]] at cC
 (repeat' ((conv=>whnf);first|refine vT ?_|refine yN cC ⟨⟨rfl,rfl⟩,⟨rfl,rfl⟩,rfl⟩ ?_));all_goals try conv=>whnf
 rfl
theorem zw4 (op:Int) (h0:op≤21):Fn Tryz.prog T ze5 [.d (.int .i64 op)] [] (.d (.int .i64 (zcZ op))) []:=by
 by_cases h:1≤op
 ·have:op=1∨op=2∨op=3∨op=4∨op=5∨op=6∨op=7∨op=8∨op=9∨op=10∨op=11∨op=12∨op=13∨op=14∨op=15∨op=16∨op=17∨op=18∨op=19∨op=20∨op=21:=by omega
  clear h h0
  rcases this with rfl|rfl|rfl|rfl|rfl|rfl|rfl|rfl|rfl|rfl|rfl|rfl|rfl|rfl|rfl|rfl|rfl|rfl|rfl|rfl|rfl
  all_goals refine zj zz ze8 (by show 1≤21;decide) ?_
  all_goals (repeat' ((conv=>whnf);first|refine zE.decN (by omega) ?_|refine zE.decY (by omega) ?_|refine vA ?_|refine vT ?_|((first|refine vO ?_ ?_|refine vP ?_ ?_);·omega)|refine vX ?_));all_goals try conv=>whnf
  all_goals try refine vW (show inR _ _ from ⟨by decide,by decide⟩) ?_
  all_goals try (repeat' ((conv=>whnf);first|refine vT ?_|refine vX ?_));all_goals try conv=>whnf
  all_goals first|rfl|kernel_rfl|skip
 ·refine zj zz ze8 (by show 1≤21;decide) ?_
  (repeat' ((conv=>whnf);first|refine zE.decN (by omega) ?_|refine vA ?_|refine vT ?_|refine vX ?_));all_goals try conv=>whnf
  have e8:zcZ op=0:=by unfold zcZ; (repeat' rw [if_neg (by omega)])
  rw [e8]
  first|rfl|skip
theorem zyd {n:Nd} (h:zet n.hd):1≤n.op∧n.op≤21:=of_decide_eq_true h.op
theorem zhy (f:List Nd):Fn Tryz.prog T zeF [.d (dF f)] [] (.d (.int .i64 (uni zaM (cL f):Int))) []:=by
 have hlen:=zkY f
 have hlt : ∀ n∈cL f,zaM n.hd < 2 ^ 9:=fun n hn=>zg7 n.hd
 refine zj zz zjV (by show 1≤23;decide) ?_
 (repeat' ((conv=>whnf);first|refine vA ?_|refine vT ?_|refine yN (zdV _) ⟨⟨rfl,rfl⟩,rfl⟩ ?_));all_goals try conv=>whnf
 refine zX (fun ((k,x):Nat×Int)=>[(3,.d (dF (cL f))),(4,.d (.int .i64 (x))),(5,.d (.int .i64 ((k:Int))))]) (fun ((k,x):Nat×Int)=>k≤(cL f).length∧x=(uni zaM ((cL f).take k):Nat)) (fun ((k,x):Nat×Int)=>(cL f).length - k) ((0,0)) (⟨by simp,rfl⟩) (by (repeat' first|exact trivial|exact rfl|refine And.intro ?_ ?_)) ?_
 rintro ⟨k,x⟩ ⟨hk,hI⟩
 subst hI
 (repeat' ((conv=>whnf);first|refine vA ?_|(refine vF ?_ ?_<;>intro hc<;>try simp only [vL] at hc)|refine vJ fun hg=>?_|refine vT ?_|(refine vQ ?_ fun x hx=>?_;·omega)|refine vX ?_));all_goals try conv=>whnf
 ·have hh:=zfz (List.mem_of_getElem? hx)
  (repeat' ((conv=>whnf);first|refine vT ?_|(refine vO ?_ ?_;·omega)|refine yD (zw4 _ (zyd hh).2) ⟨⟨rfl,rfl⟩,rfl⟩ rfl ?_));all_goals try conv=>whnf
  refine ⟨(k+1,_),[],[],?_,?_,by (refine ⟨rfl,rfl,rfl,?_,?_⟩;repeat' first|exact trivial|exact rfl|refine And.intro ?_ ?_)⟩
  ·refine ⟨by (omega),?_⟩
   rw [zhg zaM hx]
   have e:=zue (x.hd)
   show zaK .i64 (fun p q=>p|||q) _ (zcZ x.hd.op)=_
   rw [← e]
   exact zfc (Nat.lt_trans (zsu zaM f hlt k) (by decide)) (Nat.lt_trans (zg7 x.hd) (by decide))
  ·((simp only [vM] at *;omega))
 ·rw [show k=(cL f).length by omega,List.take_length]
theorem zvh (f:List Nd):Fn Tryz.prog T zeE [.d (dF f)] [] (.d (.int .i64 (uni zbb (cL f):Int))) []:=by
 have hlen:=zkY f
 have hlt : ∀ n∈cL f,zbb n.hd < 2 ^ 8:=fun n hn=>znv (zfz hn)
 refine zj zz zjU (by show 1≤29;decide) ?_
 (repeat' ((conv=>whnf);first|refine vA ?_|refine vT ?_|refine yN (zdV _) ⟨⟨rfl,rfl⟩,rfl⟩ ?_));all_goals try conv=>whnf
 refine zX (fun ((k,x):Nat×Int)=>[(3,.d (dF (cL f))),(4,.d (.int .i64 (x))),(5,.d (.int .i64 ((k:Int))))]) (fun ((k,x):Nat×Int)=>k≤(cL f).length∧x=(uni zbb ((cL f).take k):Nat)) (fun ((k,x):Nat×Int)=>(cL f).length - k) ((0,0)) (⟨by simp,rfl⟩) (by (repeat' first|exact trivial|exact rfl|refine And.intro ?_ ?_)) ?_
 rintro ⟨k,x⟩ ⟨hk,hI⟩
 subst hI
 by_cases hkl:k < (cL f).length
 ·have hx:=List.getElem?_eq_getElem hkl
  have hh:=zfz (List.mem_of_getElem? hx)
  generalize hn:(cL f)[k]=n at hx hh
  by_cases hf:n.op=3
  ·have hf':zbD n.op=true:=decide_eq_true hf
   obtain ⟨h0,h7⟩:0≤n.i∧n.i≤7:=hh.fact hf'
   obtain ⟨h1,h2⟩:=zl5 h0 h7
   have e:((zbb n.hd:Nat):Int)=1 * 2 ^ min n.i.toNat IntKind.i64.bits:=by rw [zbb,if_pos (by exact hf')];exact h2
   (repeat' ((conv=>whnf);first|refine vA ?_|(refine vF ?_ ?_<;>intro hc<;>try simp only [vL] at hc)|refine vJ fun hg=>?_|refine vT ?_|refine vN ‹_› ?_|((first|refine vO ?_ ?_|refine vP ?_ ?_);·omega)|refine vX ?_));all_goals try conv=>whnf
   all_goals try omega
   refine ⟨(k+1,_),[],[],?_,?_,by (refine ⟨rfl,rfl,rfl,?_,?_⟩;repeat' first|exact trivial|exact rfl|refine And.intro ?_ ?_)⟩
   ·refine ⟨by (omega),?_⟩
    rw [zhg zbb hx,← e]
    exact zfc (Nat.lt_trans (zsu zbb f hlt k) (by decide)) (Nat.lt_trans (znv hh) (by decide))
   ·((simp only [vM] at *;omega))
  ·have e:zbb n.hd=0:=by rw [zbb,if_neg (by simp [Nd.hd,zbD,hf])]
   (repeat' ((conv=>whnf);first|refine vA ?_|(refine vF ?_ ?_<;>intro hc<;>try simp only [vL] at hc)|refine vJ fun hg=>?_|refine vT ?_|refine vN ‹_› ?_|((first|refine vO ?_ ?_|refine vP ?_ ?_);·omega)|refine vX ?_));all_goals try conv=>whnf
   all_goals try omega
   refine ⟨(k+1,_),[],[],?_,?_,by (refine ⟨rfl,rfl,rfl,?_,?_⟩;repeat' first|exact trivial|exact rfl|refine And.intro ?_ ?_)⟩
   ·refine ⟨by (omega),?_⟩
    rw [zhg zbb hx,e,Nat.or_zero]
   ·((simp only [vM] at *;omega))
 ·(repeat' ((conv=>whnf);first|refine vA ?_|(refine vF ?_ ?_<;>intro hc<;>try simp only [vL] at hc)|refine vJ fun hg=>?_|refine vT ?_|refine vN ‹_› ?_|(refine vQ ?_ fun x hx=>?_;·omega)|((first|refine vO ?_ ?_|refine vP ?_ ?_);·omega)|refine vX ?_));all_goals try conv=>whnf
  all_goals try omega
  rw [show k=(cL f).length by omega,List.take_length]
theorem zua (f:List Nd):Fn Tryz.prog T zeh [.d (dF f)] [] (.d (.int .i64 (uni zaf (cL f):Int))) []:=by
 have hlen:=zkY f
 have hlt : ∀ n∈cL f,zaf n.hd < 2 ^ 4:=fun n hn=>zkV (zfz hn)
 refine zj zz zix (by show 1≤36;decide) ?_
 (repeat' ((conv=>whnf);first|refine vA ?_|refine vT ?_|refine yN (zdV _) ⟨⟨rfl,rfl⟩,rfl⟩ ?_));all_goals try conv=>whnf
 refine zX (fun ((k,x):Nat×Int)=>[(3,.d (dF (cL f))),(4,.d (.int .i64 (x))),(5,.d (.int .i64 ((k:Int))))]) (fun ((k,x):Nat×Int)=>k≤(cL f).length∧x=(uni zaf ((cL f).take k):Nat)) (fun ((k,x):Nat×Int)=>(cL f).length - k) ((0,0)) (⟨by simp,rfl⟩) (by (repeat' first|exact trivial|exact rfl|refine And.intro ?_ ?_)) ?_
 rintro ⟨k,x⟩ ⟨hk,hI⟩
 subst hI
 by_cases hkl:k < (cL f).length
 ·have hx:=List.getElem?_eq_getElem hkl
  have hh:=zfz (List.mem_of_getElem? hx)
  generalize hn:(cL f)[k]=n at hx hh
  have hu:=Nat.lt_trans (zsu zaf f hlt k) (show 2 ^ 4 < 2 ^ 63 by decide)
  have hgl:=Nat.lt_trans (zkV hh) (show 2 ^ 4 < 2 ^ 63 by decide)
  cases hf:zae n.op with
  | true =>
   have hag:=hf▸zlw (T:=T) n.op
   obtain ⟨h0,h7⟩:0≤n.i∧n.i≤3:=hh.agent hf
   obtain ⟨h1,h2⟩:=zl5 h0 (by omega)
   have e:((zaf n.hd:Nat):Int)=1 * 2 ^ min n.i.toNat IntKind.i64.bits:=by rw [zaf,if_pos (by exact hf)];exact h2
   have hg0:n.g=0:=by
    have h3:zap n.op=false:=by simp only [zae,zap,decide_eq_true_eq,decide_eq_false_iff_not] at hf ⊢;omega
    exact hh.g0 h3
   (repeat' ((conv=>whnf);first|refine vA ?_|refine vG ?_|(refine vF ?_ ?_<;>intro hc<;>try simp only [vL] at hc)|refine vJ fun hg=>?_|refine vT ?_|refine vN ‹_› ?_|((first|refine vO ?_ ?_|refine vP ?_ ?_);·omega)|refine vX ?_|refine yD hag (by (repeat refine ⟨⟨rfl,rfl⟩,?_⟩);rfl) rfl ?_));all_goals try conv=>whnf
   all_goals try omega
   refine ⟨(k+1,_),[],[],?_,?_,by (refine ⟨rfl,rfl,rfl,?_,?_⟩;repeat' first|exact trivial|exact rfl|refine And.intro ?_ ?_)⟩
   ·refine ⟨by (omega),?_⟩
    rw [zhg zaf hx,← e,hg0,zfc hu hgl]
    have:=zfc (a:=uni zaf ((cL f).take k)|||zaf n.hd) (b:=0) (Nat.or_lt_two_pow hu hgl) (by decide)
    rw [Nat.or_zero] at this
    exact this
   ·((simp only [vM] at *;omega))
  | false =>
   have hag:=hf▸zlw (T:=T) n.op
   have h0:0≤n.g:=by
    cases hg:zap n.op with
    | true=>have:1≤n.g∧n.g≤15:=hh.group hg;omega
    | false=>have:n.g=0:=hh.g0 hg;omega
   have e:((zaf n.hd:Nat):Int)=n.g:=by rw [zaf,if_neg (by simp [Nd.hd,hf])];exact Int.toNat_of_nonneg h0
   (repeat' ((conv=>whnf);first|refine vA ?_|refine vH ?_|(refine vF ?_ ?_<;>intro hc<;>try simp only [vL] at hc)|refine vJ fun hg=>?_|refine vT ?_|refine vN ‹_› ?_|(refine vO ?_ ?_;·omega)|refine vX ?_|refine yD hag (by (repeat refine ⟨⟨rfl,rfl⟩,?_⟩);rfl) rfl ?_));all_goals try conv=>whnf
   all_goals try omega
   refine ⟨(k+1,_),[],[],?_,?_,by (refine ⟨rfl,rfl,rfl,?_,?_⟩;repeat' first|exact trivial|exact rfl|refine And.intro ?_ ?_)⟩
   ·refine ⟨by (omega),?_⟩
    rw [zhg zaf hx,← e,zfc hu hgl]
   ·((simp only [vM] at *;omega))
 ·(repeat' ((conv=>whnf);first|refine vA ?_|(refine vF ?_ ?_<;>intro hc<;>try simp only [vL] at hc)|refine vJ fun hg=>?_|refine vT ?_|(refine vQ ?_ fun x hx=>?_;·omega)|refine vX ?_));all_goals try conv=>whnf
  all_goals try omega
  rw [show k=(cL f).length by omega,List.take_length]
theorem zgz {m k:Nat} (hk:k≤64):((m:Int).fdiv (2 ^ min (k:Int).toNat IntKind.i64.bits)).tmod 2=1↔m.testBit k=true:=by
 rw [show min (k:Int).toNat IntKind.i64.bits=k from Nat.min_eq_left hk,zyY,Nat.shiftRight_eq_div_pow,Nat.testBit_eq_decide_div_mod_eq,decide_eq_true_eq]
 generalize m / 2 ^ k=a
 rw [Int.tmod_eq_emod_of_nonneg (Int.natCast_nonneg a)]
 omega
theorem zhq {m b:Nat} {n:Int} (hm:m < 2 ^ b) (hb:b≤31):zfM m n=true ↔ ∀ i,i < b→m.testBit i=true→(i:Int) < n:=by
 unfold zfM
 rw [decide_eq_true_eq]
 constructor
 ·rintro (h|h) i hi ht
  ·omega
  ·refine Classical.byContradiction fun hn=>?_
   rw [Nat.testBit_lt_two_pow (Nat.lt_of_lt_of_le h (Nat.pow_le_pow_right (by omega) (by omega)))] at ht
   cases ht
 ·intro h
  by_cases hn:31≤n
  ·exact .inl hn
  ·refine .inr (Nat.lt_pow_two_of_testBit _ fun i hi=>?_)
   by_cases hib:i < b
   ·refine Bool.eq_false_iff.2 fun ht=>?_
    have:=h i hib ht
    omega
   ·exact Nat.testBit_lt_two_pow (Nat.lt_of_lt_of_le hm (Nat.pow_le_pow_right (by omega) (by omega)))
theorem zrJ (f:List Nd) (agents facts:Int):Fn Tryz.prog T ze4 [.d (dF f),.d (.int .i64 agents),.d (.int .i64 facts)] [] (.d (.bool (zde f agents facts))) []:=by
 have hA:uni zaf (cL f) < 2 ^ 4:=(zdZ zaf).2 fun n hn=>zkV (zfz hn)
 have hF:uni zbb (cL f) < 2 ^ 8:=(zdZ zbb).2 fun n hn=>znv (zfz hn)
 refine zj zz zkL (by show 3≤42;decide) ?_
 (repeat' ((conv=>whnf);first|refine vA ?_|(refine vD ?_ ?_<;>intro hc)|refine vT ?_|refine vZ ?_|refine yD (zhO _) ⟨⟨rfl,rfl⟩,rfl⟩ rfl ?_));all_goals try conv=>whnf
 ·simp_all [zde]
 ·have h0:zbt f=0:=by omega
  refine zX (fun (k:Nat)=>[(0,.d (dF f)),(1,.d (.int .i64 (agents))),(2,.d (.int .i64 (facts))),(7,.d (.int .i64 ((k:Int))))]) (fun (k:Nat)=>k≤4 ∧ ∀ i,i < k→(uni zaf (cL f)).testBit i=true→(i:Int) < agents) (fun (k:Nat)=>4 - k) (0) (⟨by omega,by omega⟩) (by (repeat' first|exact trivial|exact rfl|refine And.intro ?_ ?_)) ?_
  rintro k ⟨hk,hI⟩
  (repeat' ((conv=>whnf);first|refine vA ?_|(refine vF ?_ ?_<;>intro hc<;>try simp only [vL] at hc)|refine vT ?_|((first|refine vO ?_ ?_|refine vP ?_ ?_);·omega)|refine vZ ?_|refine yD (zua _) ⟨⟨rfl,rfl⟩,rfl⟩ rfl ?_));all_goals try conv=>whnf
  ·have hb:=(zgz (m:=uni zaf (cL f)) (k:=k) (by omega)).1 ‹_›
   refine (Bool.eq_false_iff.2 fun h=>?_).symm
   simp only [zde,Bool.and_eq_true] at h
   have:=(zhq hA (by omega)).1 h.1.2 k (by omega) hb
   omega
  ·exact ⟨k+1,[],[],⟨by (omega),fun i hi ht=>by
    by_cases h:i=k
    ·subst h;omega
    ·exact hI i (by omega) ht⟩,by (omega),by (refine ⟨rfl,rfl,rfl,?_,?_⟩;repeat' first|exact trivial|exact rfl|refine And.intro ?_ ?_)⟩
  ·have hb : ¬_:=fun h=>‹¬Int.tmod _ 2=1› ((zgz (m:=uni zaf (cL f)) (k:=k) (by omega)).2 h)
   exact ⟨k+1,[],[],⟨by (omega),fun i hi ht=>by
    by_cases h:i=k
    ·subst h;exact absurd ht hb
    ·exact hI i (by omega) ht⟩,by (omega),by (refine ⟨rfl,rfl,rfl,?_,?_⟩;repeat' first|exact trivial|exact rfl|refine And.intro ?_ ?_)⟩
  ·have hA1:zfM (uni zaf (cL f)) agents=true:=(zhq hA (by omega)).2 fun i hi=>hI i (by omega)
   refine zX (fun (k:Nat)=>[(0,.d (dF f)),(2,.d (.int .i64 (facts))),(8,.d (.int .i64 ((k:Int))))]) (fun (k:Nat)=>k≤8 ∧ ∀ i,i < k→(uni zbb (cL f)).testBit i=true→(i:Int) < facts) (fun (k:Nat)=>8 - k) (0) (⟨by omega,by omega⟩) (by (repeat' first|exact trivial|exact rfl|refine And.intro ?_ ?_)) ?_
   clear hI
   rintro k ⟨hk,hI⟩
   (repeat' ((conv=>whnf);first|refine vA ?_|(refine vF ?_ ?_<;>intro hc<;>try simp only [vL] at hc)|refine vT ?_|((first|refine vO ?_ ?_|refine vP ?_ ?_);·omega)|refine vZ ?_|refine yD (zvh _) ⟨⟨rfl,rfl⟩,rfl⟩ rfl ?_));all_goals try conv=>whnf
   ·have hb:=(zgz (m:=uni zbb (cL f)) (k:=k) (by omega)).1 ‹_›
    refine (Bool.eq_false_iff.2 fun h=>?_).symm
    simp only [zde,Bool.and_eq_true] at h
    have:=(zhq hF (by omega)).1 h.2 k (by omega) hb
    omega
   ·exact ⟨k+1,[],[],⟨by (omega),fun i hi ht=>by
     by_cases h:i=k
     ·subst h;omega
     ·exact hI i (by omega) ht⟩,by (omega),by (refine ⟨rfl,rfl,rfl,?_,?_⟩;repeat' first|exact trivial|exact rfl|refine And.intro ?_ ?_)⟩
   ·have hb : ¬_:=fun h=>‹¬Int.tmod _ 2=1› ((zgz (m:=uni zbb (cL f)) (k:=k) (by omega)).2 h)
    exact ⟨k+1,[],[],⟨by (omega),fun i hi ht=>by
     by_cases h:i=k
     ·subst h;exact absurd ht hb
     ·exact hI i (by omega) ht⟩,by (omega),by (refine ⟨rfl,rfl,rfl,?_,?_⟩;repeat' first|exact trivial|exact rfl|refine And.intro ?_ ?_)⟩
   ·have hF1:zfM (uni zbb (cL f)) facts=true:=(zhq hF (by omega)).2 fun i hi=>hI i (by omega)
    simp [zde,hA1,hF1,h0]
end Go.Ab
