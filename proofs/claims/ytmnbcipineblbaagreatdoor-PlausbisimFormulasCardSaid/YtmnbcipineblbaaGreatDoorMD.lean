/- A part of the proofs of this seat: functions and their contracts. -/
import Derived.Test.YtmnbcipineblbaaGreatDoorMC
import Derived.Test.YtmnbcipineblbaaGreatDoorProg
import Derived.Lib.TrailingZeros
import Derived.Sort.AssemblyPlain
import Derived.Shelf.Strconv.Itoa0
import Derived.Sort.WalkA14
set_option linter.unusedVariables false
set_option linter.unusedSimpArgs false
set_option linter.unusedSectionVars false
namespace Go.Ab.K
open Go
abbrev t:=Arg.t
abbrev c:=Arg.c
abbrev n (x:Int):V := .d (.int .i64 x)
abbrev u (x:BitVec 64):V := .d (.u64 x)
abbrev m (x:Nat):CO := .mv (.t x)
abbrev pf (x y:Nat):CO := .pick (.t x) (.t y) (.c .bf)
abbrev pt (x y:Nat):CO := .pick (.t x) (.c .bt) (.t y)
abbrev b (o:BinOp) (x y:Nat):CO := .bin o (.t x) (.t y)
abbrev bc (o:BinOp) (x:Nat) (y:V):CO := .bin o (.t x) (.c y)
abbrev l (x:Nat):CO := .load none (.t x)
abbrev la (k x:Nat):CO := .load (some k) (.t x)
abbrev f (o x:Nat):CO := .faddr o (.t x)
abbrev ia (s x i:Nat):CO := .iaddr s (.t x) (.t i)
abbrev e (x k:Nat):CO := .ext (.t x) k
abbrev ln (x:Nat):CO := .len (.t x)
abbrev o (d:Nat) (x:CO):COp:=⟨some d,none,x⟩
abbrev w (x:CO):COp:=⟨none,none,x⟩
abbrev g (d k:Nat) (v:Bool) (x:CO):COp:=⟨some d,some (k,v),x⟩
abbrev gw (k:Nat) (v:Bool) (x:CO):COp:=⟨none,some (k,v),x⟩
abbrev i (x:Nat) (p r:CC):CC := .cond (.t x) p r
def q:List CC→CC
 | [] => .skip
 | [x]=>x
 | x::y::r => .seq x (q (y::r))
end Go.Ab.K
namespace Go.Ab
open Go K
def ze7:Nat:=10
def zeg:Nat:=11
def zdV:Nat:=13
def zcL:Nat:=16
def ze6:Nat:=20
def zew:Nat:=21
def zef:Nat:=22
def zej:Nat:=23
def zeP:Nat:=24
def zem:Nat:=25
def zgQ:Nat:=27
def zet:Nat:=29
def zj9:Nat:=31
def zfe:Nat:=33
def zf7:Nat:=34
def zeO:Nat:=35
def zex:Nat:=36
def zcN:Nat:=37
def zdS:Nat:=38
def zdb:Nat:=40
def zdT:Nat:=43
def zbC:Nat:=48
def zcm:Nat:=49
def zcl:Nat:=50
def zcW:Nat:=51
def zdP:Nat:=52
def zel:Nat:=53
def zdr:Nat:=54
def zeQ:Nat:=55
def zak:Nat:=56
def zal:Nat:=57
def zff:Nat:=58
def zfF:Nat:=59
def zgm:Nat:=60
def zfd:Nat:=61
def zev:Nat:=63
def zeu:Nat:=64
def zdU:Nat:=65
def zf8:Nat:=66
def zhZ:Nat:=67
def zje:Nat:=69
def zf9:Nat:=70
def zfO:Nat:=71
def ziJ:Nat:=72
def zda:Nat:=73
def zes:Nat:=74
def zeR:Nat:=75
def zdt:Nat:=76
def zei:Nat:=77
def zbg:Nat:=78
def zhY:Nat:=79
def zbn:Nat:=84
def zbS:Nat:=93
def zaG:Nat:=94
def zbw:Nat:=95
def zcy:Nat:=96
def zcz:Nat:=97
def ze9:Nat:=98
def zhx:Nat:=99
def zhy:Nat:=100
def zgR:Nat:=101
def zfa:Nat:=102
def zds:Nat:=103
def zfc:Nat:=104
def zep:Nat:=105
def zdR:Nat:=107
def ze8:Nat:=108
def zkP:Nat:=109
def zbx:Nat:=111
def zfN:Nat:=112
def ze5:Nat:=113
def zcx:Nat:=114
def zeo:Nat:=115
def zdq:Nat:=116
def zfb:Nat:=117
def zeh:Nat:=118
def zcM:Nat:=119
def zc9:Nat:=124
def zhT:Nat:=134
def zjc:Nat:=135
def zct:Nat:=136
def zb9:Nat:=137
def zcw:Nat:=138
def zhV:Nat:=139
def zD:Nat:=140
def zeq:Nat:=141
def zer:Nat:=142
def zen:Nat:=144
def zpF:Nat:=145
def zdC:Nat:=159
def zgP:Nat:=162
def zhU:Nat:=163
def zjb:Nat:=164
def zdc:Nat:=165
def zdQ:Nat:=175
def zb6:Nat:=176
def zgO:Nat:=184
def zfK:Nat:=185
def zag:Nat:=186
def zcV:Nat:=187
def zfL:Nat:=188
def zhX:Nat:=189
def zhW:Nat:=190
def zeC:Nat:=191
def zjd:Nat:=197
def zfM:Nat:=198
def zdO:Nat:=199
def zn:Nat:=200
def zml:CFn:=⟨126,[.tmp 4,.tmp 5],(q [(.reg [o 2 (.box 4 (t 0)),o 4 (.mv (c (u 0))),o 5 (.mv (c (n 0)))]),
 (.reg [o 13 (la 4 2),o 14 (.call 29 [(t 13)]),o 6 (m 14)]),
 (q [(.reg [o 15 (m 6),o 16 (bc .neq 15 (n 0))]),
 (i 16 (q [(.reg [o 17 (m 6),o 4 (.mv (c (u 0))),o 5 (m 17)]),
 .ret]) .skip)]),
 (.reg [o 18 (m 1),o 19 (.call 23 [(t 18)]),o 6 (m 19)]),
 (q [(.reg [o 20 (m 6),o 21 (bc .neq 20 (n 0))]),
 (i 21 (q [(.reg [o 22 (m 6),o 4 (.mv (c (u 0))),o 5 (m 22)]),
 .ret]) .skip)]),
 (q [(.reg [o 23 (m 1),o 24 (.call 25 [(t 23)]),o 25 (bc .andNot 24 (n 59)),o 26 (bc .neq 25 (n 0))]),
 (i 26 (q [(.reg [o 4 (.mv (c (u 0))),o 5 (.mv (c (n 10)))]),
 .ret]) .skip)]),
 (q [(.reg [o 27 (m 1),o 28 (f 2 2),o 29 (l 28),o 30 (ln 29),o 31 (f 1 2),o 32 (l 31),o 33 (ln 32),o 34 (.call 24 [(t 27),(t 30),(t 33)]),o 35 (.un .not (t 34))]),
 (i 35 (q [(.reg [o 4 (.mv (c (u 0))),o 5 (.mv (c (n 2)))]),
 .ret]) .skip)]),
 (.reg [o 36 (la 4 2),o 37 (.call 58 [(t 36)]),o 38 (m 1),o 39 (.call 54 [(t 38)]),o 7 (.alloc [(n 0),(.nils 1),(.nils 1)]),w (.store 3 (t 7) (t 37)),o 8 (m 39)]),
 (.reg [o 9 (.mv (c (.nils 1)))]),
 (q [(.reg [o 10 (.mv (c (n 0)))]),
 (.block 0 (.loop (q [(q [(.reg [o 40 (m 10),o 41 (m 8),o 42 (ln 41),o 43 (b .lss 40 42)]),
 (i 43 .skip (.exit 0))]),
 (.block 1 (q [(.reg [o 11 (.mv (c (u 0))),o 12 (.mv (c (u 0)))]),
 (q [(.reg [o 46 (m 8),o 47 (m 10),o 48 (ia 6 46 47),o 49 (f 0 48),o 50 (l 49),o 51 (.call 56 [(t 50)])]),
 (i 51 (.reg [o 52 (m 9),o 53 (m 8),o 54 (m 10),o 55 (ia 6 53 54),o 56 (f 4 55),o 57 (l 56),o 58 (ia 1 52 57),o 59 (l 58),o 11 (m 59)]) .skip)]),
 (q [(.reg [o 60 (m 8),o 61 (m 10),o 62 (ia 6 60 61),o 63 (f 0 62),o 64 (l 63),o 65 (.call 57 [(t 64)])]),
 (i 65 (.reg [o 66 (m 9),o 67 (m 8),o 68 (m 10),o 69 (ia 6 67 68),o 70 (f 5 69),o 71 (l 70),o 72 (ia 1 66 71),o 73 (l 72),o 12 (m 73)]) .skip)]),
 (.reg [o 74 (m 8),o 75 (m 10),o 76 (ia 6 74 75),o 77 (f 0 76),o 78 (l 77),o 79 (bc .eql 78 (n 14))]),
 (i 79 (.regd [o 80 (m 9),o 81 (la 4 2),o 82 (m 8),o 83 (m 10),o 84 (ia 6 82 83),o 85 (f 1 84),o 86 (l 85),o 87 (m 11),o 88 (m 12),o 89 (.call 59 [(t 81),(t 86),(t 87),(t 88)]),o 90 (.bslice 1 1 [(u 0)] [(0,(t 89))]),o 91 (.app 1 8 (t 80) (t 90)),o 9 (m 91)] [0,0,0,0,12,28,60,0,0,510,1022,2047,4095]) (q [(.reg [o 92 (m 8),o 93 (m 10),o 94 (ia 6 92 93),o 95 (f 0 94),o 96 (l 95),o 97 (bc .eql 96 (n 15))]),
 (i 97 (.regd [o 98 (m 9),o 99 (la 4 2),o 100 (m 8),o 101 (m 10),o 102 (ia 6 100 101),o 103 (f 1 102),o 104 (l 103),o 105 (m 11),o 106 (.call 60 [(t 99),(t 104),(t 105)]),o 107 (.bslice 1 1 [(u 0)] [(0,(t 106))]),o 108 (.app 1 8 (t 98) (t 107)),o 9 (m 108)] [0,0,0,0,12,28,60,0,254,510,1023,2047]) (.regd [o 109 (m 9),o 110 (la 3 7),o 111 (m 8),o 112 (m 10),o 113 (ia 6 111 112),o 114 (la 6 113),o 115 (m 11),o 116 (m 12),o 117 (.call 61 [(t 110),(t 114),(t 115),(t 116)]),o 118 (.bslice 1 1 [(u 0)] [(0,(t 117))]),o 119 (.app 1 8 (t 109) (t 118)),o 9 (m 119)] [0,0,0,0,12,28,0,0,254,510,1023,2047]))]))])),
 (.reg [o 44 (m 10),o 45 (bc .add 44 (n 1)),o 10 (m 45)])])))]),
 (.reg [o 120 (m 9),o 121 (m 9),o 122 (ln 121),o 123 (bc .sub 122 (n 1)),o 124 (ia 1 120 123),o 125 (l 124),o 4 (m 125),o 5 (.mv (c (n 0)))]),
 .ret])⟩
def zj3:CFn:=⟨55,[.cell 2 (some 3)],(q [(.reg [o 1 (.box 4 (t 0)),o 2 (.alloc [(n 0),(.nils 1),(.nils 1)])]),
 (.reg [o 8 (f 0 1),o 9 (l 8),o 10 (.build [(n 0),(.nils 1),(.nils 1)] [(0,1,(t 9))]),o 3 (.alloc [(n 0),(.nils 1),(.nils 1)]),w (.store 3 (t 3) (t 10))]),
 (q [(.reg [o 4 (.mv (c (n 0)))]),
 (.block 0 (.loop (q [(q [(.reg [o 11 (m 4),o 12 (f 1 1),o 13 (l 12),o 14 (ln 13),o 15 (b .lss 11 14)]),
 (i 15 .skip (.exit 0))]),
 (.block 1 (.regd [o 18 (f 1 3),o 19 (l 18),o 20 (f 1 1),o 21 (l 20),o 22 (m 4),o 23 (ia 1 21 22),o 24 (l 23),o 25 (.bslice 1 1 [(u 0)] [(0,(t 24))]),o 26 (.app 1 8 (t 19) (t 25)),o 27 (f 1 3),w (.store 1 (t 27) (t 26))] [0,1,0,4,0,28,60,124,255,511,1023])),
 (.reg [o 16 (m 4),o 17 (bc .add 16 (n 1)),o 4 (m 17)])])))]),
 (q [(.reg [o 5 (.mv (c (n 0)))]),
 (.block 2 (.loop (q [(q [(.reg [o 28 (m 5),o 29 (f 2 1),o 30 (l 29),o 31 (ln 30),o 32 (b .lss 28 31)]),
 (i 32 .skip (.exit 2))]),
 (.block 3 (q [(.reg [o 6 (.mv (c (.nils 1)))]),
 (q [(.reg [o 7 (.mv (c (n 0)))]),
 (.block 4 (.loop (q [(q [(.reg [o 35 (m 7),o 36 (f 0 1),o 37 (l 36),o 38 (b .lss 35 37)]),
 (i 38 .skip (.exit 4))]),
 (.block 5 (.reg [o 41 (m 6),o 42 (la 4 1),o 43 (m 5),o 44 (m 7),o 45 (.call 99 [(t 42),(t 43),(t 44)]),o 46 (.bslice 1 1 [(u 0)] [(0,(t 45))]),o 47 (.app 1 8 (t 41) (t 46)),o 6 (m 47)])),
 (.reg [o 39 (m 7),o 40 (bc .add 39 (n 1)),o 7 (m 40)])])))]),
 (.reg [o 48 (f 2 3),o 49 (l 48),o 50 (m 6),o 51 (.bslice 1 1 [(.nils 1)] [(0,(t 50))]),o 52 (.app 1 24 (t 49) (t 51)),o 53 (f 2 3),w (.store 1 (t 53) (t 52))])])),
 (.reg [o 33 (m 5),o 34 (bc .add 33 (n 1)),o 5 (m 34)])])))]),
 (.reg [o 54 (la 3 3),w (.store 3 (t 2) (t 54))]),
 .ret])⟩
def zks:CFn:=⟨30,[.tmp 8],(q [(.reg [o 4 (.box 4 (t 0)),o 8 (.mv (c (u 0)))]),
 (.reg [o 9 (.mv (c (u 0)))]),
 (q [(.reg [o 10 (.mv (c (n 0)))]),
 (.block 0 (.loop (q [(q [(.reg [o 11 (m 10),o 12 (f 0 4),o 13 (l 12),o 14 (b .lss 11 13)]),
 (i 14 .skip (.exit 0))]),
 (.block 1 (q [(.reg [o 17 (la 4 4),o 18 (m 1),o 19 (m 10),o 20 (m 2),o 21 (.call 100 [(t 17),(t 18),(t 19),(t 20)]),o 22 (m 3),o 23 (b .andNot 21 22),o 24 (bc .eql 23 (u 0))]),
 (i 24 (.reg [o 25 (m 9),o 26 (m 10),o 27 (.bin .shl (c (u 1)) (t 26)),o 28 (b .or 25 27),o 9 (m 28)]) .skip)])),
 (.reg [o 15 (m 10),o 16 (bc .add 15 (n 1)),o 10 (m 16)])])))]),
 (.reg [o 29 (m 9),o 8 (m 29)]),
 .ret])⟩
def zk9:CFn:=⟨27,[.tmp 6],(q [(.reg [o 3 (.box 4 (t 0)),o 6 (.mv (c (u 0)))]),
 (.reg [o 7 (.mv (c (u 0)))]),
 (q [(.reg [o 8 (.mv (c (n 0)))]),
 (.block 0 (.loop (q [(q [(.reg [o 9 (m 8),o 10 (f 0 3),o 11 (l 10),o 12 (b .lss 9 11)]),
 (i 12 .skip (.exit 0))]),
 (.block 1 (q [(.reg [o 15 (la 4 3),o 16 (m 1),o 17 (m 8),o 18 (.call 101 [(t 15),(t 16),(t 17)]),o 19 (m 2),o 20 (b .andNot 18 19),o 21 (bc .eql 20 (u 0))]),
 (i 21 (.reg [o 22 (m 7),o 23 (m 8),o 24 (.bin .shl (c (u 1)) (t 23)),o 25 (b .or 22 24),o 7 (m 25)]) .skip)])),
 (.reg [o 13 (m 8),o 14 (bc .add 13 (n 1)),o 8 (m 14)])])))]),
 (.reg [o 26 (m 7),o 6 (m 26)]),
 .ret])⟩
def zn5:CFn:=⟨92,[.tmp 8],(q [(.reg [o 4 (.box 3 (t 0)),o 5 (.box 6 (t 1)),o 8 (.mv (c (u 0)))]),
 (.reg [o 10 (f 0 4),o 11 (l 10),o 12 (.call 102 [(t 11)]),o 9 (m 12)]),
 (q [(.reg [o 13 (f 0 5),o 14 (l 13),o 15 (bc .eql 14 (n 3))]),
 (i 15 (q [(.reg [o 16 (f 1 4),o 17 (l 16),o 18 (f 1 5),o 19 (l 18),o 20 (ia 1 17 19),o 21 (l 20),o 8 (m 21)]),
 .ret]) .skip)]),
 (q [(.reg [o 22 (f 0 5),o 23 (l 22),o 24 (bc .leq 23 (n 8))]),
 (i 24 (q [(.reg [o 25 (f 0 5),o 26 (l 25),o 27 (m 2),o 28 (m 3),o 29 (m 9),o 30 (.call 103 [(t 26),(t 27),(t 28),(t 29)]),o 8 (m 30)]),
 .ret]) .skip)]),
 (q [(.reg [o 31 (f 0 5),o 32 (l 31),o 33 (bc .eql 32 (n 9))]),
 (i 33 (q [(.regd [o 34 (f 2 4),o 35 (l 34),o 36 (f 1 5),o 37 (l 36),o 38 (ia 1 35 37),o 39 (l 38),o 40 (f 0 4),o 41 (l 40),o 42 (m 2),o 43 (.call 104 [(t 39),(t 41),(t 42)]),o 8 (m 43)] [0,1,0,4,15,31,0,64,0,511,1023]),
 .ret]) .skip)]),
 (q [(.reg [o 44 (f 0 5),o 45 (l 44),o 46 (bc .eql 45 (n 10))]),
 (i 46 (q [(.regd [o 47 (m 9),o 48 (f 2 4),o 49 (l 48),o 50 (f 1 5),o 51 (l 50),o 52 (ia 1 49 51),o 53 (l 52),o 54 (f 0 4),o 55 (l 54),o 56 (m 9),o 57 (m 2),o 58 (b .andNot 56 57),o 59 (.call 104 [(t 53),(t 55),(t 58)]),o 60 (b .andNot 47 59),o 8 (m 60)] [0,0,2,0,8,30,62,0,128,0,0,1536,4094,8191,16383]),
 .ret]) .skip)]),
 (q [(.reg [o 61 (f 0 5),o 62 (l 61),o 63 (bc .eql 62 (n 11))]),
 (i 63 (q [(.regd [o 64 (la 3 4),o 65 (f 3 5),o 66 (l 65),o 67 (.call 105 [(t 64),(t 66)]),o 68 (f 0 4),o 69 (l 68),o 70 (m 2),o 71 (.call 104 [(t 67),(t 69),(t 70)]),o 8 (m 71)] [0,0,2,7,0,16,0,127,255]),
 .ret]) .skip)]),
 (q [(.reg [o 72 (f 0 5),o 73 (l 72),o 74 (bc .eql 73 (n 12))]),
 (i 74 (q [(.regd [o 75 (la 3 4),o 76 (f 3 5),o 77 (l 76),o 78 (.call 106 [(t 75),(t 77)]),o 79 (f 0 4),o 80 (l 79),o 81 (m 2),o 82 (.call 104 [(t 78),(t 80),(t 81)]),o 8 (m 82)] [0,0,2,7,0,16,0,127,255]),
 .ret]) .skip)]),
 (.regd [o 83 (la 3 4),o 84 (f 3 5),o 85 (l 84),o 86 (.call 105 [(t 83),(t 85)]),o 87 (f 0 4),o 88 (l 87),o 89 (m 2),o 90 (m 3),o 91 (.call 107 [(t 86),(t 88),(t 89),(t 90)]),o 8 (m 91)] [0,0,2,7,0,16,0,0,255,511]),
 .ret])⟩
def zn4:CFn:=⟨39,[.tmp 2],(q [(.reg [o 1 (.box 4 (t 0)),o 2 (.mv (c (.nils 1)))]),
 (.reg [o 7 (f 0 1),o 8 (l 7),o 9 (.mkslice 1 8 [(n 0)] (t 8) (t 8)),o 3 (m 9)]),
 (q [(.reg [o 10 (f 1 1),o 11 (l 10),o 12 (ln 11),o 13 (.mv (c (n 0)))]),
 (.block 0 (.loop (q [(.reg [o 14 (b .lss 13 12)]),
 (i 14 .skip (.exit 0)),
 (.block 1 (q [(.reg [o 15 (m 13),o 16 (ia 1 11 13),o 17 (l 16),o 4 (m 15),o 5 (m 17)]),
 (.reg [o 18 (m 3),o 19 (ln 18),o 20 (.mv (c (n 0)))]),
 (.block 2 (.loop (q [(.reg [o 21 (b .lss 20 19)]),
 (i 21 .skip (.exit 2)),
 (.block 3 (q [(.reg [o 22 (m 20),o 6 (m 22)]),
 (.regd [o 23 (m 3),o 24 (m 6),o 25 (ia 1 23 24),o 26 (l 25),o 27 (m 5),o 28 (m 6),o 29 (b .shr 27 28),o 30 (bc .and 29 (u 1)),o 31 (.conv .i64 (t 30)),o 32 (m 4),o 33 (b .shl 31 32),o 34 (b .or 26 33),o 35 (ia 1 23 24),w (.store 1 (t 35) (t 34))] [0,0,3,7,0,0,48,112,240,0,1008,2047,4095,8191])])),
 (.reg [o 36 (bc .add 20 (n 1)),o 20 (m 36)])])))])),
 (.reg [o 37 (bc .add 13 (n 1)),o 13 (m 37)])])))]),
 (.reg [o 38 (m 3),o 2 (m 38)]),
 .ret])⟩
def zja:CFn:=⟨112,[.cell 6 none],(q [(.reg [o 3 (.box 1 (t 0)),o 4 (.box 1 (t 1)),o 5 (.box 1 (t 2)),o 6 (.alloc [(.nils 6)])]),
 (.reg [o 16 (l 3),o 17 (l 4),o 18 (l 5),o 19 (.call 49 [(t 16),(t 17),(t 18)]),o 7 (.alloc [(n 0)]),w (.store 1 (t 7) (t 19))]),
 (q [(.reg [o 20 (l 7),o 21 (bc .eql 20 (n 0))]),
 (i 21 (q [(.reg [o 22 (l 3),o 23 (.nilck (t 22)),o 24 (f 0 23),o 25 (f 1 24),o 26 (l 25),o 27 (ln 26),o 28 (.mv (c (n 0)))]),
 (.block 0 (.loop (q [(.reg [o 29 (b .lss 28 27)]),
 (i 29 .skip (.exit 0)),
 (.block 1 (q [(.reg [o 30 (m 28),o 31 (ia 1 26 28),o 32 (l 31),o 8 (m 30),o 9 (m 32)]),
 (.block 2 (q [(.regd [o 34 (m 9),o 35 (l 4),o 36 (b .shr 34 35),o 37 (bc .and 36 (u 1)),o 38 (m 9),o 39 (l 5),o 40 (b .shr 38 39),o 41 (bc .and 40 (u 1)),o 42 (b .gtr 37 41),o 33 (m 42)] [0,0,3,7,0,0,48,112,255,511]),
 (i 33 (q [(.reg [o 43 (m 8),o 44 (.call 134 [(t 43)]),w (.store 1 (t 6) (t 44))]),
 .ret]) (q [(.regd [o 46 (m 9),o 47 (l 4),o 48 (b .shr 46 47),o 49 (bc .and 48 (u 1)),o 50 (m 9),o 51 (l 5),o 52 (b .shr 50 51),o 53 (bc .and 52 (u 1)),o 54 (b .lss 49 53),o 45 (m 54)] [0,0,3,7,0,0,48,112,255,511]),
 (i 45 (q [(.reg [o 55 (m 8),o 56 (.call 134 [(t 55)]),o 57 (.call 135 [(t 56)]),w (.store 1 (t 6) (t 57))]),
 .ret]) .skip)]))]))])),
 (.reg [o 58 (bc .add 28 (n 1)),o 28 (m 58)])])))]) .skip)]),
 (q [(.reg [o 59 (l 3),o 60 (.nilck (t 59)),o 61 (f 0 60),o 62 (la 4 61),o 63 (.call 40 [(t 62)])]),
 (.block 3 (.rng (t 63) [64] (.reg [o 10 (.alloc [(n 0),.bf,(.nils 1)]),w (.store 3 (t 10) (t 64))]) (.block 4 (q [(.regd [o 65 (f 2 10),o 66 (l 65),o 67 (l 4),o 68 (ia 1 66 67),o 69 (l 68),o 70 (f 2 10),o 71 (l 70),o 72 (l 5),o 73 (ia 1 71 72),o 74 (l 73),o 11 (m 69),o 12 (m 74)] [0,1,0,7,15,0,32,0,224,480,31,2047]),
 (q [(.reg [o 75 (l 3),o 76 (m 11),o 77 (m 12),o 78 (l 7),o 79 (bc .sub 78 (n 1)),o 80 (.call 136 [(t 75),(t 76),(t 77),(t 79)]),o 13 (m 80)]),
 (.reg [o 81 (m 13),o 82 (bc .geq 81 (n 0))]),
 (i 82 (q [(.regd [o 83 (la 3 10),o 84 (l 3),o 85 (m 13),o 86 (m 12),o 87 (.call 138 [(t 84),(t 85),(t 86)]),o 88 (.call 137 [(t 83),(t 87)]),w (.store 1 (t 6) (t 88))] [0,0,0,0,14,31,63]),
 .ret]) .skip)]),
 (.reg [o 89 (l 3),o 90 (m 12),o 91 (m 11),o 92 (l 7),o 93 (bc .sub 92 (n 1)),o 94 (.call 136 [(t 89),(t 90),(t 91),(t 93)]),o 14 (m 94)]),
 (.reg [o 95 (m 14),o 96 (bc .geq 95 (n 0))]),
 (i 96 (q [(.reg [o 97 (l 3),o 98 (m 14),o 99 (m 11),o 100 (.call 138 [(t 97),(t 98),(t 99)]),o 15 (m 100)]),
 (q [(.reg [o 101 (f 1 10),o 102 (l 101)]),
 (i 102 (q [(.regd [o 103 (f 0 10),o 104 (l 103),o 105 (m 15),o 106 (.call 135 [(t 105)]),o 107 (.call 139 [(t 104),(t 106)]),w (.store 1 (t 6) (t 107))] [0,1,0,4,15,31]),
 .ret]) .skip)]),
 (.reg [o 108 (la 3 10),o 109 (m 15),o 110 (.call 137 [(t 108),(t 109)]),o 111 (.call 135 [(t 110)]),w (.store 1 (t 6) (t 111))]),
 .ret]) .skip)]))))]),
 (.reg [w (.store 1 (t 6) (c (.nils 6)))]),
 .ret])⟩
def znL:CFn:=⟨37,[.tmp 6],(q [(.reg [o 3 (.box 4 (t 0)),o 6 (.mv (c (u 0)))]),
 (.reg [o 7 (.mv (c (u 0)))]),
 (q [(.reg [o 8 (.mv (c (n 0)))]),
 (.block 0 (.loop (q [(q [(.reg [o 9 (m 8),o 10 (f 0 3),o 11 (l 10),o 12 (b .lss 9 11)]),
 (i 12 .skip (.exit 0))]),
 (.block 1 (q [(.regd [o 15 (f 2 3),o 16 (l 15),o 17 (m 1),o 18 (ia 1 16 17),o 19 (l 18),o 20 (m 8),o 21 (ia 1 19 20),o 22 (l 21),o 23 (f 2 3),o 24 (l 23),o 25 (m 1),o 26 (ia 1 24 25),o 27 (l 26),o 28 (m 2),o 29 (ia 1 27 28),o 30 (l 29),o 31 (b .eql 22 30)] [0,1,0,7,15,0,63,127,0,256,0,1792,3840,0,16128,32512,65535]),
 (i 31 (.reg [o 32 (m 7),o 33 (m 8),o 34 (.bin .shl (c (u 1)) (t 33)),o 35 (b .or 32 34),o 7 (m 35)]) .skip)])),
 (.reg [o 13 (m 8),o 14 (bc .add 13 (n 1)),o 8 (m 14)])])))]),
 (.reg [o 36 (m 7),o 6 (m 36)]),
 .ret])⟩
def znM:CFn:=⟨79,[.tmp 8],(q [(.reg [o 4 (.box 4 (t 0)),o 8 (.mv (c (u 0)))]),
 (.reg [o 14 (la 4 4),o 15 (m 1),o 16 (m 2),o 17 (.call 99 [(t 14),(t 15),(t 16)]),o 18 (m 3),o 19 (b .and 17 18),o 9 (m 19)]),
 (.reg [o 10 (.mv (c (n (-1)))),o 11 (.mv (c (u 0)))]),
 (q [(.reg [o 12 (.mv (c (n 0)))]),
 (.block 0 (.loop (q [(q [(.reg [o 20 (m 12),o 21 (f 0 4),o 22 (l 21),o 23 (b .lss 20 22)]),
 (i 23 .skip (.exit 0))]),
 (.block 1 (q [(.reg [o 26 (m 9),o 27 (m 12),o 28 (.call 117 [(t 26),(t 27)]),o 29 (m 28),g 30 29 true (m 10),g 31 29 true (bc .lss 30 (n 0)),g 32 29 true (m 31),g 33 32 false (f 3 4),g 34 32 false (l 33),g 35 32 false (m 1),g 36 32 false (ia 1 34 35),g 37 32 false (l 36),g 38 32 false (m 12),g 39 32 false (ia 1 37 38),g 40 32 false (l 39),g 41 32 false (m 10),g 42 32 false (b .lss 40 41),g 43 29 true (pt 32 42),o 44 (pf 29 43)]),
 (i 44 (.reg [o 45 (f 3 4),o 46 (l 45),o 47 (m 1),o 48 (ia 1 46 47),o 49 (l 48),o 50 (m 12),o 51 (ia 1 49 50),o 52 (l 51),o 10 (m 52)]) .skip)])),
 (.reg [o 24 (m 12),o 25 (bc .add 24 (n 1)),o 12 (m 25)])])))]),
 (q [(.reg [o 13 (.mv (c (n 0)))]),
 (.block 2 (.loop (q [(q [(.reg [o 53 (m 13),o 54 (f 0 4),o 55 (l 54),o 56 (b .lss 53 55)]),
 (i 56 .skip (.exit 2))]),
 (.block 3 (q [(.reg [o 59 (m 9),o 60 (m 13),o 61 (.call 117 [(t 59),(t 60)]),o 62 (m 61),g 63 62 true (f 3 4),g 64 62 true (l 63),g 65 62 true (m 1),g 66 62 true (ia 1 64 65),g 67 62 true (l 66),g 68 62 true (m 13),g 69 62 true (ia 1 67 68),g 70 62 true (l 69),g 71 62 true (m 10),g 72 62 true (b .eql 70 71),o 73 (pf 62 72)]),
 (i 73 (.reg [o 74 (m 11),o 75 (m 13),o 76 (.bin .shl (c (u 1)) (t 75)),o 77 (b .or 74 76),o 11 (m 77)]) .skip)])),
 (.reg [o 57 (m 13),o 58 (bc .add 57 (n 1)),o 13 (m 58)])])))]),
 (.reg [o 78 (m 11),o 8 (m 78)]),
 .ret])⟩
def zmm:CFn:=⟨56,[.tmp 6],(q [(.reg [o 3 (.box 4 (t 0)),o 6 (.mv (c (u 0)))]),
 (.reg [o 7 (.mv (c (u 0)))]),
 (q [(.reg [o 8 (.mv (c (n 0)))]),
 (.block 0 (.loop (q [(q [(.reg [o 9 (m 8),o 10 (f 0 3),o 11 (l 10),o 12 (b .lss 9 11)]),
 (i 12 .skip (.exit 0))]),
 (.block 1 (q [(.regd [o 15 (f 2 3),o 16 (l 15),o 17 (m 1),o 18 (ia 1 16 17),o 19 (l 18),o 20 (m 8),o 21 (ia 1 19 20),o 22 (l 21),o 23 (f 2 3),o 24 (l 23),o 25 (m 1),o 26 (ia 1 24 25),o 27 (l 26),o 28 (m 2),o 29 (ia 1 27 28),o 30 (l 29),o 31 (b .eql 22 30),o 32 (m 31),g 33 32 true (f 3 3),g 34 32 true (l 33),g 35 32 true (m 1),g 36 32 true (ia 1 34 35),g 37 32 true (l 36),g 38 32 true (m 8),g 39 32 true (ia 1 37 38),g 40 32 true (l 39),g 41 32 true (f 3 3),g 42 32 true (l 41),g 43 32 true (m 1),g 44 32 true (ia 1 42 43),g 45 32 true (l 44),g 46 32 true (m 2),g 47 32 true (ia 1 45 46),g 48 32 true (l 47),g 49 32 true (b .leq 40 48),o 50 (pf 32 49)] [0,1,0,7,15,0,63,127,0,256,0,1792,3840,0,16128,32512,65535,131071,262143,524287,262143,2097151,4194303,262143,16777215,33554431,262143,67371007,262143,470024191,1006895103,262143,4228120575,8523087871,17179869183,34359738367]),
 (i 50 (.reg [o 51 (m 7),o 52 (m 8),o 53 (.bin .shl (c (u 1)) (t 52)),o 54 (b .or 51 53),o 7 (m 54)]) .skip)])),
 (.reg [o 13 (m 8),o 14 (bc .add 13 (n 1)),o 8 (m 14)])])))]),
 (.reg [o 55 (m 7),o 6 (m 55)]),
 .ret])⟩
end Go.Ab
namespace Go.Ab
open Go Go.Proofs
set_option maxRecDepth 100000
set_option maxHeartbeats 4000000
theorem zp:Tryz.prog.follows .mixedOrders=true:=by kernel_rfl
theorem zm6:za Tryz.prog zgQ=some zml:=by kernel_rfl
theorem zke:za Tryz.prog zff=some zj3:=by kernel_rfl
theorem zkt:za Tryz.prog zfF=some zks:=by kernel_rfl
theorem zlz:za Tryz.prog zgm=some zk9:=by kernel_rfl
theorem zoL:za Tryz.prog zfd=some zn5:=by kernel_rfl
theorem zoC:za Tryz.prog ziJ=some zn4:=by kernel_rfl
theorem zeF:za Tryz.prog zbw=some zja:=by kernel_rfl
theorem znT:za Tryz.prog zhx=some znL:=by kernel_rfl
theorem znU:za Tryz.prog zhy=some znM:=by kernel_rfl
theorem zm7:za Tryz.prog zgR=some zmm:=by kernel_rfl
def zeV : {c:CFn // za Tryz.prog zcw=some c} := ⟨_,by cbv⟩
theorem zjy:za Tryz.prog zcw=some zeV.1:=zeV.2
def zd7 : {c:CFn // za Tryz.prog zcl=some c} := ⟨_,by cbv⟩
theorem ziN:za Tryz.prog zcl=some zd7.1:=zd7.2
def zd8 : {c:CFn // za Tryz.prog zcm=some c} := ⟨_,by cbv⟩
theorem ziO:za Tryz.prog zcm=some zd8.1:=zd8.2
def zdB : {c:CFn // za Tryz.prog zaG=some c} := ⟨_,by cbv⟩
theorem zhw:za Tryz.prog zaG=some zdB.1:=zdB.2
def zeH : {c:CFn // za Tryz.prog zct=some c} := ⟨_,by cbv⟩
theorem zjg:za Tryz.prog zct=some zeH.1:=zeH.2
def zd2 : {c:CFn // za Tryz.prog zb9=some c} := ⟨_,by cbv⟩
theorem zh8:za Tryz.prog zb9=some zd2.1:=zd2.2
def znD : {c:CFn // za Tryz.prog zjb=some c} := ⟨_,by cbv⟩
theorem ztY:za Tryz.prog zjb=some znD.1:=znD.2
def znE : {c:CFn // za Tryz.prog zeC=some c} := ⟨_,by cbv⟩
theorem ztZ:za Tryz.prog zeC=some znE.1:=znE.2
def zkH : {c:CFn // za Tryz.prog zgO=some c} := ⟨_,by cbv⟩
theorem zrG:za Tryz.prog zgO=some zkH.1:=zkH.2
def zjm : {c:CFn // za Tryz.prog zfK=some c} := ⟨_,by cbv⟩
theorem zpH:za Tryz.prog zfK=some zjm.1:=zjm.2
def zlN : {c:CFn // za Tryz.prog zhT=some c} := ⟨_,by cbv⟩
theorem zsq:za Tryz.prog zhT=some zlN.1:=zlN.2
def znF : {c:CFn // za Tryz.prog zjc=some c} := ⟨_,by cbv⟩
theorem zt0:za Tryz.prog zjc=some znF.1:=znF.2
def zlO : {c:CFn // za Tryz.prog zhU=some c} := ⟨_,by cbv⟩
theorem zsr:za Tryz.prog zhU=some zlO.1:=zlO.2
def zlP : {c:CFn // za Tryz.prog zhV=some c} := ⟨_,by cbv⟩
theorem zss:za Tryz.prog zhV=some zlP.1:=zlP.2
def znG : {c:CFn // za Tryz.prog zjd=some c} := ⟨_,by cbv⟩
theorem zt1:za Tryz.prog zjd=some znG.1:=znG.2
def zlQ : {c:CFn // za Tryz.prog zhW=some c} := ⟨_,by cbv⟩
theorem zst:za Tryz.prog zhW=some zlQ.1:=zlQ.2
def zkI : {c:CFn // za Tryz.prog zgP=some c} := ⟨_,by cbv⟩
theorem zrH:za Tryz.prog zgP=some zkI.1:=zkI.2
def zjn : {c:CFn // za Tryz.prog zfL=some c} := ⟨_,by cbv⟩
theorem zpI:za Tryz.prog zfL=some zjn.1:=zjn.2
def zhA : {c:CFn // za Tryz.prog zn=some c} := ⟨_,by cbv⟩
theorem zab:za Tryz.prog zn=some zhA.1:=zhA.2
def zlR : {c:CFn // za Tryz.prog zhX=some c} := ⟨_,by cbv⟩
theorem zsu:za Tryz.prog zhX=some zlR.1:=zlR.2
def zhB : {c:CFn // za Tryz.prog zcV=some c} := ⟨_,by cbv⟩
theorem znN:za Tryz.prog zcV=some zhB.1:=zhB.2
def zgs : {c:CFn // za Tryz.prog zdO=some c} := ⟨_,by cbv⟩
theorem zlr:za Tryz.prog zdO=some zgs.1:=zgs.2
def zjo : {c:CFn // za Tryz.prog zfM=some c} := ⟨_,by cbv⟩
theorem zpJ:za Tryz.prog zfM=some zjo.1:=zjo.2
def zlS : {c:CFn // za Tryz.prog zag=some c} := ⟨_,by cbv⟩
theorem zls:za Tryz.prog zag=some zlS.1:=zlS.2
def zkJ : {c:CFn // za Tryz.prog zc9=some c} := ⟨_,by cbv⟩
theorem zrI:za Tryz.prog zc9=some zkJ.1:=zkJ.2
def zjp : {c:CFn // za Tryz.prog zfN=some c} := ⟨_,by cbv⟩
theorem zpK:za Tryz.prog zfN=some zjp.1:=zjp.2
def zjq : {c:CFn // za Tryz.prog zfO=some c} := ⟨_,by cbv⟩
theorem zpL:za Tryz.prog zfO=some zjq.1:=zjq.2
def ziS : {c:CFn // za Tryz.prog ze5=some c} := ⟨_,by cbv⟩
theorem zoA:za Tryz.prog ze5=some ziS.1:=ziS.2
def zoZ : {c:CFn // za Tryz.prog zj9=some c} := ⟨_,by cbv⟩
theorem zvo:za Tryz.prog zj9=some zoZ.1:=zoZ.2
def znH : {c:CFn // za Tryz.prog zf7=some c} := ⟨_,by cbv⟩
theorem zt2:za Tryz.prog zf7=some znH.1:=znH.2
def zlT : {c:CFn // za Tryz.prog zhY=some c} := ⟨_,by cbv⟩
theorem zsv:za Tryz.prog zhY=some zlT.1:=zlT.2
def zqb : {c:CFn // za Tryz.prog zkP=some c} := ⟨_,by cbv⟩
theorem zwu:za Tryz.prog zkP=some zqb.1:=zqb.2
def zlU : {c:CFn // za Tryz.prog zhZ=some c} := ⟨_,by cbv⟩
theorem zsw:za Tryz.prog zhZ=some zlU.1:=zlU.2
def znI : {c:CFn // za Tryz.prog zf8=some c} := ⟨_,by cbv⟩
theorem zt3:za Tryz.prog zf8=some znI.1:=znI.2
def znJ : {c:CFn // za Tryz.prog zje=some c} := ⟨_,by cbv⟩
theorem zt4:za Tryz.prog zje=some znJ.1:=znJ.2
def ziT : {c:CFn // za Tryz.prog ze6=some c} := ⟨_,by cbv⟩
theorem zoB:za Tryz.prog ze6=some ziT.1:=ziT.2
def zgZ : {c:CFn // za Tryz.prog zef=some c} := ⟨_,by cbv⟩
theorem zmK:za Tryz.prog zef=some zgZ.1:=zgZ.2
def ziU : {c:CFn // za Tryz.prog zda=some c} := ⟨_,by cbv⟩
theorem zoD:za Tryz.prog zda=some ziU.1:=ziU.2
def zg0 : {c:CFn // za Tryz.prog zcx=some c} := ⟨_,by cbv⟩
theorem zmL:za Tryz.prog zcx=some zg0.1:=zg0.2
def ziV : {c:CFn // za Tryz.prog zdb=some c} := ⟨_,by cbv⟩
theorem zoE:za Tryz.prog zdb=some ziV.1:=ziV.2
def zg1 : {c:CFn // za Tryz.prog zbg=some c} := ⟨_,by cbv⟩
theorem zmM:za Tryz.prog zbg=some zg1.1:=zg1.2
def zgt : {c:CFn // za Tryz.prog zbC=some c} := ⟨_,by cbv⟩
theorem zgq:za Tryz.prog zbC=some zgt.1:=zgt.2
def zhC : {c:CFn // za Tryz.prog zeO=some c} := ⟨_,by cbv⟩
theorem znO:za Tryz.prog zeO=some zhC.1:=zhC.2
def zhD : {c:CFn // za Tryz.prog zb6=some c} := ⟨_,by cbv⟩
theorem znP:za Tryz.prog zb6=some zhD.1:=zhD.2
def zeI : {c:CFn // za Tryz.prog zbx=some c} := ⟨_,by cbv⟩
theorem zeG:za Tryz.prog zbx=some zeI.1:=zeI.2
def zfl : {c:CFn // za Tryz.prog zcL=some c} := ⟨_,by cbv⟩
theorem zkc:za Tryz.prog zcL=some zfl.1:=zfl.2
def zdi : {c:CFn // za Tryz.prog zbS=some c} := ⟨_,by cbv⟩
theorem zgW:za Tryz.prog zbS=some zdi.1:=zdi.2
def ziW : {c:CFn // za Tryz.prog ze7=some c} := ⟨_,by cbv⟩
theorem zoF:za Tryz.prog ze7=some ziW.1:=ziW.2
def ziX : {c:CFn // za Tryz.prog ze8=some c} := ⟨_,by cbv⟩
theorem zoG:za Tryz.prog ze8=some ziX.1:=ziX.2
def zg2 : {c:CFn // za Tryz.prog zeh=some c} := ⟨_,by cbv⟩
theorem zmN:za Tryz.prog zeh=some zg2.1:=zg2.2
def zg3 : {c:CFn // za Tryz.prog zei=some c} := ⟨_,by cbv⟩
theorem zmO:za Tryz.prog zei=some zg3.1:=zg3.2
def zf0 : {c:CFn // za Tryz.prog zdq=some c} := ⟨_,by cbv⟩
theorem zkT:za Tryz.prog zdq=some zf0.1:=zf0.2
def zfm : {c:CFn // za Tryz.prog zcM=some c} := ⟨_,by cbv⟩
theorem zkd:za Tryz.prog zcM=some zfm.1:=zfm.2
def zgu : {c:CFn // za Tryz.prog zdP=some c} := ⟨_,by cbv⟩
theorem zlt:za Tryz.prog zdP=some zgu.1:=zgu.2
def zg4 : {c:CFn // za Tryz.prog zej=some c} := ⟨_,by cbv⟩
theorem zmP:za Tryz.prog zej=some zg4.1:=zg4.2
def zf1 : {c:CFn // za Tryz.prog zdr=some c} := ⟨_,by cbv⟩
theorem zkU:za Tryz.prog zdr=some zf1.1:=zf1.2
def zg6 : {c:CFn // za Tryz.prog zel=some c} := ⟨_,by cbv⟩
theorem zmR:za Tryz.prog zel=some zg6.1:=zg6.2
def zhE : {c:CFn // za Tryz.prog zeP=some c} := ⟨_,by cbv⟩
theorem znQ:za Tryz.prog zeP=some zhE.1:=zhE.2
def zhF : {c:CFn // za Tryz.prog zeQ=some c} := ⟨_,by cbv⟩
theorem zhz:za Tryz.prog zeQ=some zhF.1:=zhF.2
def zg7 : {c:CFn // za Tryz.prog zem=some c} := ⟨_,by cbv⟩
theorem zmS:za Tryz.prog zem=some zg7.1:=zg7.2
def ziY : {c:CFn // za Tryz.prog ze9=some c} := ⟨_,by cbv⟩
theorem zoH:za Tryz.prog ze9=some ziY.1:=ziY.2
def zg8 : {c:CFn // za Tryz.prog zak=some c} := ⟨_,by cbv⟩
theorem zmT:za Tryz.prog zak=some zg8.1:=zg8.2
def zg9 : {c:CFn // za Tryz.prog zal=some c} := ⟨_,by cbv⟩
theorem zmU:za Tryz.prog zal=some zg9.1:=zg9.2
def zha : {c:CFn // za Tryz.prog zcy=some c} := ⟨_,by cbv⟩
theorem zmV:za Tryz.prog zcy=some zha.1:=zha.2
def zgv : {c:CFn // za Tryz.prog zD=some c} := ⟨_,by cbv⟩
theorem zaJ:za Tryz.prog zD=some zgv.1:=zgv.2
def zhb : {c:CFn // za Tryz.prog zcz=some c} := ⟨_,by cbv⟩
theorem zmW:za Tryz.prog zcz=some zhb.1:=zhb.2
def zhG : {c:CFn // za Tryz.prog zcW=some c} := ⟨_,by cbv⟩
theorem znR:za Tryz.prog zcW=some zhG.1:=zhG.2
def ziZ : {c:CFn // za Tryz.prog zdc=some c} := ⟨_,by cbv⟩
theorem ziP:za Tryz.prog zdc=some ziZ.1:=ziZ.2
def zi0 : {c:CFn // za Tryz.prog zfa=some c} := ⟨_,by cbv⟩
theorem zoI:za Tryz.prog zfa=some zi0.1:=zi0.2
def zhc : {c:CFn // za Tryz.prog zen=some c} := ⟨_,by cbv⟩
theorem zmX:za Tryz.prog zen=some zhc.1:=zhc.2
def zhd : {c:CFn // za Tryz.prog zeo=some c} := ⟨_,by cbv⟩
theorem zmY:za Tryz.prog zeo=some zhd.1:=zhd.2
def zhe : {c:CFn // za Tryz.prog zep=some c} := ⟨_,by cbv⟩
theorem zmZ:za Tryz.prog zep=some zhe.1:=zhe.2
def zi1 : {c:CFn // za Tryz.prog zfb=some c} := ⟨_,by cbv⟩
theorem zoJ:za Tryz.prog zfb=some zi1.1:=zi1.2
def zgw : {c:CFn // za Tryz.prog zdQ=some c} := ⟨_,by cbv⟩
theorem zlu:za Tryz.prog zdQ=some zgw.1:=zgw.2
def zhf : {c:CFn // za Tryz.prog zeq=some c} := ⟨_,by cbv⟩
theorem zm0:za Tryz.prog zeq=some zhf.1:=zhf.2
def zf2 : {c:CFn // za Tryz.prog zds=some c} := ⟨_,by cbv⟩
theorem zkV:za Tryz.prog zds=some zf2.1:=zf2.2
def zi2 : {c:CFn // za Tryz.prog zfc=some c} := ⟨_,by cbv⟩
theorem zoK:za Tryz.prog zfc=some zi2.1:=zi2.2
def zhg : {c:CFn // za Tryz.prog zer=some c} := ⟨_,by cbv⟩
theorem zm1:za Tryz.prog zer=some zhg.1:=zhg.2
def zgx : {c:CFn // za Tryz.prog zdR=some c} := ⟨_,by cbv⟩
theorem zlv:za Tryz.prog zdR=some zgx.1:=zgx.2
def zhh : {c:CFn // za Tryz.prog zes=some c} := ⟨_,by cbv⟩
theorem zm2:za Tryz.prog zes=some zhh.1:=zhh.2
def zgy : {c:CFn // za Tryz.prog zdS=some c} := ⟨_,by cbv⟩
theorem zlw:za Tryz.prog zdS=some zgy.1:=zgy.2
def zf3 : {c:CFn // za Tryz.prog zdt=some c} := ⟨_,by cbv⟩
theorem zkW:za Tryz.prog zdt=some zf3.1:=zf3.2
def zhH : {c:CFn // za Tryz.prog zeR=some c} := ⟨_,by cbv⟩
theorem znS:za Tryz.prog zeR=some zhH.1:=zhH.2
def zhi : {c:CFn // za Tryz.prog zet=some c} := ⟨_,by cbv⟩
theorem zm3:za Tryz.prog zet=some zhi.1:=zhi.2
def zi3 : {c:CFn // za Tryz.prog zfe=some c} := ⟨_,by cbv⟩
theorem zoM:za Tryz.prog zfe=some zi3.1:=zi3.2
def zgz : {c:CFn // za Tryz.prog zdT=some c} := ⟨_,by cbv⟩
theorem zlx:za Tryz.prog zdT=some zgz.1:=zgz.2
def zhj : {c:CFn // za Tryz.prog zeu=some c} := ⟨_,by cbv⟩
theorem zm4:za Tryz.prog zeu=some zhj.1:=zhj.2
def zgA : {c:CFn // za Tryz.prog zdU=some c} := ⟨_,by cbv⟩
theorem zly:za Tryz.prog zdU=some zgA.1:=zgA.2
def zhk : {c:CFn // za Tryz.prog zev=some c} := ⟨_,by cbv⟩
theorem zm5:za Tryz.prog zev=some zhk.1:=zhk.2
def zhl : {c:CFn // za Tryz.prog zew=some c} := ⟨_,by cbv⟩
theorem zm8:za Tryz.prog zew=some zhl.1:=zhl.2
def zgB : {c:CFn // za Tryz.prog zdV=some c} := ⟨_,by cbv⟩
theorem zlA:za Tryz.prog zdV=some zgB.1:=zgB.2
def zfn : {c:CFn // za Tryz.prog zcN=some c} := ⟨_,by cbv⟩
theorem zkf:za Tryz.prog zcN=some zfn.1:=zfn.2
def zhm : {c:CFn // za Tryz.prog zex=some c} := ⟨_,by cbv⟩
theorem zm9:za Tryz.prog zex=some zhm.1:=zhm.2
end Go.Ab
namespace Go.Ab
open Go Go.Proofs
set_option maxRecDepth 10000
set_option maxHeartbeats 4000000
variable {T:Nat→Obj→Prop}
def zaQ (n:Int):BitVec 64:=if n ≥ 64 then -1 else (1#64 <<< n.toNat) - 1#64
theorem zvd (n:Int) (h:0≤n):Fn Tryz.prog T zkP [.d (.int .i64 n)] [] (.d (.u64 (zaQ n))) []:=by
 refine zd zp zwu (by show 1≤8;decide) ?_
 (repeat' ((conv=>whnf);first|refine vA ?_|(refine vF ?_ ?_<;>intro hc<;>try simp only [vL] at hc)|refine vT ?_|(refine vP ?_ ?_;·omega)|refine vY ?_));all_goals try conv=>whnf
 ·simp [zaQ, *]
 ·rw [zaQ,if_neg (by omega)];rfl
theorem zvg (n:Int) (h:0≤n):Fn Tryz.prog T ze8 [.d (.int .i64 n)] [] (.d (.u64 (zaQ n))) []:=by
 refine zd zp zoG (by show 1≤9;decide) ?_
 (repeat' ((conv=>whnf);first|refine vA ?_|(refine vF ?_ ?_<;>intro hc<;>try simp only [vL] at hc)|refine vT ?_|refine vY ?_));all_goals try conv=>whnf
 ·simp [zaQ, *]
 ·rw [zaQ,if_neg (by omega)]
  have:(BitVec.ofInt 64 n).toNat=n.toNat:=by
   rw [BitVec.toNat_ofInt,Int.emod_eq_of_lt h (by omega)]
  rw [this];rfl
def bad (n:Int) (s:BitVec 64):Bool:=s &&& ~~~ (zaQ n)≠0
def za6 (worlds agents:Int) (val:List (BitVec 64)):Int :=
 if worlds < 1∨64 < worlds then 2 else if 8 < val.length∨4 < agents then 8 else if val.any (bad worlds) then 3 else 0
theorem zsl (worlds agents:Int) (val:List (BitVec 64)):Fn Tryz.prog T zje [.d (.int .i64 worlds),.d (.int .i64 agents),.d (dU val)] [] (.d (.int .i64 (za6 worlds agents val))) []:=by
 refine zd zp zt4 (by show 3≤34;decide) ?_
 (repeat' ((conv=>whnf);first|refine vA ?_|(refine vF ?_ ?_<;>intro hc<;>try simp only [vL] at hc)|refine vJ fun hg=>?_|refine vT ?_|refine vX ?_));all_goals try conv=>whnf
 ·simp [za6, *]
 ·simp [za6, *]
 ·rw [za6,if_neg (by omega),if_pos (by omega)]
 ·rw [za6,if_neg (by omega),if_pos (by omega)]
 ·refine z1 (fun (k:Nat)=>[(0,.d (.int .i64 (worlds))),(22,.d (dU val)),(23,.d (.int .i64 ((val.map D.u64).length:Int))),(24,.d (.int .i64 ((k:Int))))]) (fun (k:Nat)=>k≤val.length∧val.any (bad worlds)=(val.drop k).any (bad worlds)) (fun (k:Nat)=>val.length - k) (0) (⟨by simp,by simp⟩) (by (repeat' first|exact trivial|exact rfl|refine And.intro ?_ ?_)) ?_
  rintro k ⟨hk,hI⟩
  (repeat' ((conv=>whnf);first|refine vA ?_|((first|refine vD ?_ ?_|refine vF ?_ ?_)<;>intro hc<;>try simp only [vL] at hc)|refine vT ?_|(refine vQ ?_ fun x hx=>?_;·omega)|(refine vO ?_ ?_;·omega)|refine vX ?_|(refine yD (zvd _ ?_) ⟨⟨rfl,rfl⟩,rfl⟩ rfl ?_;(·omega))|fail));all_goals try conv=>whnf
  ·have hb:bad worlds x=true:=by simpa [bad] using hc
   rw [za6,if_neg (by omega),if_neg (by omega),hI,zap hx];simp [hb]
  ·have hb:bad worlds x=false:=by simpa [bad] using hc
   exact ⟨k+1,[],[],⟨by (omega),by rw [hI,zap hx];simp [hb]⟩,by (omega),by (refine ⟨rfl,rfl,rfl,?_,?_⟩;repeat' first|exact trivial|exact rfl|refine And.intro ?_ ?_)⟩
  ·rw [za6,if_neg (by omega),if_neg (by omega),hI,List.drop_eq_nil_of_le (by omega)];simp
theorem zsn (worlds agents:Int) (val:List (BitVec 64)):Fn Tryz.prog T zev [.d (.int .i64 worlds),.d (.int .i64 agents),.d (dU val)] [] (.d (.int .i64 (za6 worlds agents val))) []:=by
 refine zd zp zm5 (by show 3≤35;decide) ?_
 (repeat' ((conv=>whnf);first|refine vA ?_|(refine vF ?_ ?_<;>intro hc<;>try simp only [vL] at hc)|refine vJ fun hg=>?_|refine vT ?_|refine vX ?_));all_goals try conv=>whnf
 ·simp [za6, *]
 ·simp [za6, *]
 ·rw [za6,if_neg (by omega),if_pos (by omega)]
 ·rw [za6,if_neg (by omega),if_pos (by omega)]
 ·refine z1 (fun (k:Nat)=>[(0,.d (.int .i64 (worlds))),(2,.d (dU val)),(7,.d (.int .i64 ((k:Int))))]) (fun (k:Nat)=>k≤val.length∧val.any (bad worlds)=(val.drop k).any (bad worlds)) (fun (k:Nat)=>val.length - k) (0) (⟨by simp,by simp⟩) (by (repeat' first|exact trivial|exact rfl|refine And.intro ?_ ?_)) ?_
  rintro k ⟨hk,hI⟩
  (repeat' ((conv=>whnf);first|refine vA ?_|((first|refine vD ?_ ?_|refine vF ?_ ?_)<;>intro hc<;>try simp only [vL] at hc)|refine vJ fun hg=>?_|refine vT ?_|(refine vQ ?_ fun x hx=>?_;·omega)|(refine vO ?_ ?_;·omega)|(refine vU ?_ ?_;·kernel_rfl)|refine vX ?_|(refine yD (zvg _ ?_) ⟨⟨rfl,rfl⟩,rfl⟩ rfl ?_;(·omega))|fail));all_goals try conv=>whnf
  ·have hb:bad worlds x=true:=by simpa [bad] using hc
   rw [za6,if_neg (by omega),if_neg (by omega),hI,zap hx];simp [hb]
  ·have hb:bad worlds x=false:=by simpa [bad] using hc
   exact ⟨k+1,[],[],⟨by (omega),by rw [hI,zap hx];simp [hb]⟩,by (omega),by (refine ⟨rfl,rfl,rfl,?_,?_⟩;repeat' first|exact trivial|exact rfl|refine And.intro ?_ ?_)⟩
  ·rw [za6,if_neg (by omega),if_neg (by omega),hI,List.drop_eq_nil_of_le (by omega)];simp
theorem zu7 (a b:List Int):Fn Tryz.prog T zcL [.d (dI a),.d (dI b)] [] (.d (.bool (a==b))) []:=by
 refine zd zp zkc (by show 2≤26;decide) ?_
 (repeat' ((conv=>whnf);first|refine vA ?_|(refine vD ?_ ?_<;>intro hc<;>try simp only [vL] at hc)|refine vJ fun hg=>?_|refine vT ?_|refine vZ ?_));all_goals try conv=>whnf
 ·have:a≠b:=fun e=>hc (by rw [e])
  simp [this]
 ·refine z1 (fun (k:Nat)=>[(0,.d (dI a)),(1,.d (dI b)),(12,.d (.int .i64 ((a.map (D.int .i64)).length:Int))),(13,.d (.int .i64 ((k:Int))))]) (fun (k:Nat)=>k≤a.length∧(a==b)=(a.drop k==b.drop k)) (fun (k:Nat)=>a.length - k) (0) (⟨by simp,by simp⟩) (by (repeat' first|exact trivial|exact rfl|refine And.intro ?_ ?_)) ?_
  rintro k ⟨hk,hI⟩
  (repeat' ((conv=>whnf);first|refine vA ?_|((first|refine vD ?_ ?_|refine vF ?_ ?_)<;>intro hc<;>try simp only [vL] at hc)|refine vT ?_|(refine vQ ?_ fun x hx=>?_;·omega)|(refine vO ?_ ?_;·omega)|(refine vU ?_ ?_;·kernel_rfl)|refine vZ ?_));all_goals try conv=>whnf
  ·rw [hI,zap ‹a[k]? = some _›,zap ‹b[k]? = some _›];simp [hc]
  ·exact ⟨k+1,[],[],⟨by (omega),by rw [hI,zap ‹a[k]? = some _›,zap ‹b[k]? = some _›];simp [hc]⟩,by (omega),by (refine ⟨rfl,rfl,rfl,?_,?_⟩;repeat' first|exact trivial|exact rfl|refine And.intro ?_ ?_)⟩
  ·rw [hI,List.drop_eq_nil_of_le (by omega),List.drop_eq_nil_of_le (by omega)];rfl
structure PM where
 W:Int
 val:List (BitVec 64)
 cell:List (List Int)
 rank:List (List Int)
 deriving DecidableEq
abbrev dPM (p:PM):D := .agg [.int .i64 p.W,dU p.val,dII p.cell,dII p.rank]
theorem zk8 (s:BitVec 64) (n:Nat):(s >>> n)&&&1#64=1#64↔s.getLsbD n=true:=by
 constructor
 ·intro h
  have:=congrArg (fun x=>x.getLsbD 0) h
  simpa using this
 ·intro h
  apply BitVec.eq_of_getLsbD_eq
  intro i hi
  by_cases h0:i=0
  ·subst h0;simpa using h
  ·simp [h0]
theorem zee (s:BitVec 64) (n:Nat):(s >>> n)&&&1#64=0#64↔s.getLsbD n=false:=by
 constructor
 ·intro h
  have:=congrArg (fun x=>x.getLsbD 0) h
  simpa using this
 ·intro h
  apply BitVec.eq_of_getLsbD_eq
  intro i hi
  by_cases h0:i=0
  ·subst h0;simpa using h
  ·simp [h0]
@[irreducible] def bit (s:BitVec 64) (i:Nat):Bool:=s.getLsbD i
def at0 (l:List Int) (i:Nat):Int:=l.getD i 0
theorem zq {l:List Int} {i:Nat} {x:Int} (h:l[i]? = some x):at0 l i=x:=by simp [at0,List.getD,h]
theorem zlp {l:List Int} {i:Nat} (h:i < l.length):l[i]? = some (at0 l i):=by simp [at0,List.getD,h]
abbrev zt8 (cell:List Int):Prop := ∀ w,w < cell.length→0≤at0 cell w∧at0 cell w≤w∧at0 cell (at0 cell w).toNat=at0 cell w
abbrev znZ (cell rank:List Int):Prop := ∀ w,w < cell.length→0≤at0 rank w∧(at0 rank w=0 ∨ ∃ v,v < cell.length∧at0 cell v=at0 cell w∧at0 rank v=at0 rank w - 1)
theorem zAJ (cell:List Int):Fn Tryz.prog T zeu [.d (dI cell)] [] (.d (.bool (decide (zt8 cell)))) []:=by
 refine zd zp zm4 (by show 1≤30;decide) ?_
 (repeat' ((conv=>whnf);first|refine vA ?_|refine vT ?_));all_goals try conv=>whnf
 refine z1 (fun (k:Nat)=>[(0,.d (dI cell)),(3,.d (.int .i64 ((k:Int))))]) (fun (k:Nat)=>k≤cell.length ∧ ∀ w,w < k→0≤at0 cell w∧at0 cell w≤w∧at0 cell (at0 cell w).toNat=at0 cell w) (fun (k:Nat)=>cell.length - k) (0) (⟨by simp,by simp⟩) (by (repeat' first|exact trivial|exact rfl|refine And.intro ?_ ?_)) ?_
 rintro k ⟨hk,hI⟩
 (repeat' ((conv=>whnf);first|refine vA ?_|((first|refine vD ?_ ?_|refine vF ?_ ?_)<;>intro hc<;>try simp only [vL] at hc)|refine vJ fun hg=>?_|refine vT ?_|(refine vQ ?_ fun x hx=>?_;·omega)|((first|refine vO ?_ ?_|refine vS ?_ fun x hx=>?_);·omega)|refine vZ ?_));all_goals try conv=>whnf
 iterate 2
  ·symm;rw [decide_eq_false_iff_not];intro h
   have:=h k (by omega)
   rw [zq hx] at this;omega
 ·symm;rw [decide_eq_false_iff_not];intro h
  have:=h k (by omega)
  rw [zq ‹cell[k]? = some _›,zq hx] at this;omega
 ·have h0:=zq ‹cell[k]? = some _›
  have h1:=zq hx
  exact ⟨k+1,[],[],⟨by (omega),fun w hw=>by
   by_cases e:w=k
   ·subst e;rw [h0,h1];omega
   ·exact hI w (by omega)⟩,by (omega),by (refine ⟨rfl,rfl,rfl,?_,?_⟩;repeat' first|exact trivial|exact rfl|refine And.intro ?_ ?_)⟩
 ·symm;rw [decide_eq_true_eq];intro w hw;exact hI w (by omega)
end Go.Ab
namespace Go.Ab
open Go Go.Proofs
set_option maxRecDepth 10000
set_option maxHeartbeats 4000000
variable {T:Nat→Obj→Prop}
theorem zy6 (cell rank:List Int) (hl:cell.length≤rank.length) (hr : ∀ x∈rank,inR .i64 x):Fn Tryz.prog T zdU [.d (dI cell),.d (dI rank)] [] (.d (.bool (decide (znZ cell rank)))) []:=by
 refine zd zp zly (by show 2≤56;decide) ?_
 (repeat' ((conv=>whnf);first|refine vA ?_|refine vT ?_));all_goals try conv=>whnf
 refine z1 (fun (k:Nat)=>[(0,.d (dI cell)),(1,.d (dI rank)),(5,.d (.int .i64 ((k:Int))))]) (fun (k:Nat)=>k≤cell.length ∧ ∀ w,w < k→0≤at0 rank w∧(at0 rank w=0 ∨ ∃ v,v < cell.length∧at0 cell v=at0 cell w∧at0 rank v=at0 rank w - 1)) (fun (k:Nat)=>cell.length - k) (0) (⟨by simp,by simp⟩) (by (repeat' first|exact trivial|exact rfl|refine And.intro ?_ ?_)) ?_
 rintro k ⟨hk,hI⟩
 (repeat' ((conv=>whnf);first|refine vA ?_|(refine vF ?_ ?_<;>intro hc<;>try simp only [vL] at hc)|refine vJ fun hg=>?_|refine vT ?_|refine vN ‹_› ?_|(refine vQ ?_ fun x hx=>?_;·omega)|refine vZ ?_));all_goals try conv=>whnf
 ·symm;rw [decide_eq_false_iff_not];intro h
  have:=h k (by omega)
  rw [zq hx] at this;omega
 ·have hR:=hr _ (List.mem_of_getElem? hx)
  have h0:=zq hx
  obtain ⟨hR1,hR2⟩:=hR
  subst h0
  refine z1 (fun ((j,b):Nat×Bool)=>[(0,.d (dI cell)),(1,.d (dI rank)),(5,.d (.int .i64 ((k:Int)))),(6,.d (.bool (b))),(7,.d (.int .i64 ((j:Int))))]) (fun ((j,b):Nat×Bool)=>j≤cell.length∧b=decide (at0 rank k=0 ∨ ∃ v,v < j∧at0 cell v=at0 cell k∧at0 rank v=at0 rank k - 1)) (fun ((j,b):Nat×Bool)=>cell.length - j) ((0,decide (at0 rank k=0))) (⟨by simp,by simp⟩) (by (repeat' first|exact trivial|exact rfl|exact .inl rfl|refine And.intro ?_ ?_)) ?_
  rintro ⟨j,b⟩ ⟨hj,hb⟩
  have step : ∀ b':Bool,(b'=true↔b=true∨(at0 cell j=at0 cell k∧at0 rank j=at0 rank k - 1))→b'=decide (at0 rank k=0 ∨ ∃ v,v < j+1∧at0 cell v=at0 cell k∧at0 rank v=at0 rank k - 1):=by
   intro b' h
   rw [Bool.eq_iff_iff,h,hb,decide_eq_true_eq,decide_eq_true_eq]
   constructor
   ·rintro ((h|⟨v,h1,h2⟩)|h)
    ·exact .inl h
    ·exact .inr ⟨v,by omega,h2⟩
    ·exact .inr ⟨j,by omega,h⟩
   ·rintro (h|⟨v,h1,h2⟩)
    ·exact .inl (.inl h)
    ·by_cases e:v=j
     ·subst e;exact .inr h2
     ·exact .inl (.inr ⟨v,by omega,h2⟩)
  (repeat' ((conv=>whnf);first|refine vA ?_|refine vE ?_|((first|refine vF ?_ ?_|refine vI ?_ ?_)<;>intro hc<;>try simp only [vL] at hc)|refine vJ fun hg=>?_|refine vT ?_|refine vN ‹_› ?_|(refine vQ ?_ fun x hx=>?_;·omega)|(refine vO ?_ ?_;·omega)|(refine vU ?_ ?_;·kernel_rfl)|refine vZ ?_));all_goals try conv=>whnf
  ·exact ⟨(j+1,true),[],[],⟨by (omega),step _ ⟨fun _ => .inl hc,fun _=>rfl⟩⟩,by ((simp only [vM] at *;omega)),by (refine ⟨rfl,rfl,rfl,?_,?_⟩;repeat' first|exact trivial|exact rfl|exact .inr (.inl ⟨rfl,rfl⟩)|refine And.intro ?_ ?_)⟩
  ·have h1:=zq ‹cell[j]? = some _›
   have h2:=zq ‹cell[k]? = some _›
   have h3:=zq hx
   exact ⟨(j+1,decide (x=at0 rank k - 1)),[],[],⟨by (omega),step _ ⟨fun h => .inr ⟨by omega,by have:=of_decide_eq_true h;omega⟩,fun h=>by
    rcases h with h|h
    ·rw [‹b=false›] at h;cases h
    ·exact decide_eq_true (by omega)⟩⟩,by ((simp only [vM] at *;omega)),by (refine ⟨rfl,rfl,rfl,?_,?_⟩;repeat' first|exact trivial|exact rfl|exact .inl rfl|refine And.intro ?_ ?_)⟩
  ·have h1:=zq ‹cell[j]? = some _›
   have h2:=zq ‹cell[k]? = some _›
   exact ⟨(j+1,false),[],[],⟨by (omega),step _ ⟨nofun,fun h=>by
    rcases h with h|h
    ·rw [‹b=false›] at h;cases h
    ·exact absurd (by omega) hc⟩⟩,by ((simp only [vM] at *;omega)),by (refine ⟨rfl,rfl,rfl,?_,?_⟩;repeat' first|exact trivial|exact rfl|exact .inr (.inr ⟨rfl,rfl⟩)|refine And.intro ?_ ?_)⟩
  ·have hbt:=of_decide_eq_true (hb.symm.trans hc)
   exact ⟨k+1,[],[],⟨by (omega),fun w hw=>by
    by_cases e:w=k
    ·subst e
     refine ⟨by omega,?_⟩
     have:=hbt
     rcases this with h|⟨v,h1,h2⟩
     ·exact .inl h
     ·exact .inr ⟨v,by omega,h2⟩
    ·exact hI w (by omega)⟩,by (omega),by (refine ⟨rfl,rfl,rfl,?_,?_⟩;repeat' first|exact trivial|exact rfl|refine And.intro ?_ ?_)⟩
  ·symm;rw [decide_eq_false_iff_not];intro h
   have h1:=of_decide_eq_false (hb.symm.trans hc)
   rcases (h k (by omega)).2 with h|⟨v,h2,h3⟩
   ·exact h1 (.inl h)
   ·exact h1 (.inr ⟨v,by omega,h3⟩)
 ·symm;rw [decide_eq_true_eq];intro w hw;exact hI w (by omega)
def zQ (f:Nat→Bool):Nat→BitVec 64
 | 0=>0#64
 | k+1=>if f k then zQ f k|||1#64 <<< k else zQ f k
theorem zwO (k i:Nat):(1#64 <<< k).getLsbD i=(decide (i < 64)&&decide (i=k)):=by
 rw [BitVec.getLsbD_shiftLeft]
 by_cases h:i < 64
 ·by_cases h1:i < k
  ·simp [h,h1];omega
  ·by_cases h2:i=k
   ·subst h2;simp [h]
   ·have:i - k≠0:=by omega
    simp [h,h1,h2,this]
 ·simp [h]
theorem zi6 (f:Nat→Bool) : ∀ (n i:Nat),(zQ f n).getLsbD i=(decide (i < 64)&&decide (i < n)&&f i)
 | 0,i=>by simp [zQ]
 | n+1,i=>by
  have ih:=zi6 f n i
  unfold zQ
  split
  ·rename_i h
   rw [BitVec.getLsbD_or,ih,zwO]
   by_cases h1:i=n
   ·subst h1;simp [h]
   ·by_cases h2:i < n
    ·simp [h1,h2,show i < n+1 by omega]
    ·simp [h1,h2,show ¬ i < n+1 by omega]
  ·rename_i h
   rw [ih]
   by_cases h1:i=n
   ·subst h1;simp [h]
   ·by_cases h2:i < n
    ·simp [h2,show i < n+1 by omega]
    ·simp [h2,show ¬ i < n+1 by omega]
def zhP (row:List Int) (w:Nat):BitVec 64:=zQ (fun v=>at0 row v==at0 row w) row.length
theorem zyS (p:PM) (a w:Int) (row:List Int) (ha:0≤a) (hr:p.cell[a.toNat]? = some row) (hw:0≤w) (hw':w < row.length):Fn Tryz.prog T zhZ [.d (dPM p),.d (.int .i64 a),.d (.int .i64 w)] [] (.d (.u64 (zhP row w.toNat))) []:=by
 refine zd zp zsw (by show 3≤37;decide) ?_
 (repeat' ((conv=>whnf);first|refine vA ?_|refine vJ fun hg=>?_|refine vT ?_|(refine vR ?_ ‹_› ?_;·omega)|fail));all_goals try conv=>whnf
 refine zt (fun ((k,s):Nat×BitVec 64)=>[(1,.d (.int .i64 (a))),(2,.d (.int .i64 (w))),(3,.ptr 0 0),(14,.d (dI row)),(15,.d (.int .i64 ((row.map (D.int .i64)).length:Int))),(7,.d (.u64 (s))),(16,.d (.int .i64 ((k:Int))))]) (fun ((k,s):Nat×BitVec 64)=>[(0,some (.box [.d (.int .i64 p.W),.d (dU p.val),.d (dII p.cell),.d (dII p.rank)]))]) 1 (fun ((k,s):Nat×BitVec 64)=>k≤row.length∧s=zQ (fun v=>at0 row v==at0 row w.toNat) k) (fun ((k,s):Nat×BitVec 64)=>row.length - k) ((0,0#64)) [(0,0)] [] (⟨by simp,rfl⟩) (by (refine ⟨rfl,rfl,rfl,?_,?_⟩;repeat' first|exact trivial|exact rfl|refine And.intro ?_ ?_|refine ⟨_,rfl,?_⟩|decide)) ?_
 rintro ⟨k,s⟩ ⟨hk,hI⟩
 (repeat' ((conv=>whnf);first|refine vA ?_|(refine vF ?_ ?_<;>intro hc<;>try simp only [vL] at hc)|refine vT ?_|(refine vQ ?_ fun x hx=>?_;·omega)|((first|refine vO ?_ ?_|refine vR ?_ ‹_› ?_|refine vS ?_ fun x hx=>?_|refine vP ?_ ?_);·omega)|refine vY ?_));all_goals try conv=>whnf
 ·have h1:=zq ‹row[k]? = some _›
  have h2:=zq hx
  refine ⟨(k+1,_),[(0,0)],[],?_,?_,by (refine ⟨rfl,rfl,rfl,?_,?_⟩;repeat' first|exact trivial|exact rfl|refine And.intro ?_ ?_|refine ⟨_,rfl,?_⟩|decide)⟩
  ·exact ⟨by (omega),by rw [zQ,if_pos (by simp;omega),hI];rfl⟩
  ·((simp only [vM] at *;omega))
 ·have h1:=zq ‹row[k]? = some _›
  have h2:=zq hx
  exact ⟨(k+1,s),[(0,0)],[],⟨by (omega),by rw [zQ,if_neg (by simp;omega),hI]⟩,by ((simp only [vM] at *;omega)),by (refine ⟨rfl,rfl,rfl,?_,?_⟩;repeat' first|exact trivial|exact rfl|refine And.intro ?_ ?_|refine ⟨_,rfl,?_⟩|decide)⟩
 ·rw [hI,show k=row.length by omega];rfl
def zpw (rank:List Int) (s:BitVec 64) (n v:Nat):Bool:=s.getLsbD v&&decide (∀ u,u < n→s.getLsbD u=true→at0 rank v≤at0 rank u)
def zwN (rank:List Int) (s:BitVec 64):BitVec 64:=zQ (zpw rank s rank.length) rank.length
theorem zqr {s:BitVec 64} {n:Nat} (h : ¬(s >>> n)&&&1#64=0#64):s.getLsbD n=true:=by
 rw [zee] at h;simpa using h
theorem zww {rank:List Int} {s:BitVec 64} {n v:Nat} : zpw rank s n v=true↔s.getLsbD v=true ∧ ∀ u,u < n→s.getLsbD u=true→at0 rank v≤at0 rank u:=by
 simp [zpw]
theorem zAt {rank:List Int} {s:BitVec 64} {n i:Nat} : (zQ (zpw rank s n) n).getLsbD i=true↔i < n∧s.getLsbD i=true ∧ ∀ u,u < n→s.getLsbD u=true→at0 rank i≤at0 rank u:=by
 rw [zi6]
 simp only [Bool.and_eq_true,decide_eq_true_eq,zww]
 constructor
 ·rintro ⟨⟨_,h1⟩,h2⟩;exact ⟨h1,h2⟩
 ·rintro ⟨h1,h2⟩;exact ⟨⟨by have:=BitVec.lt_of_getLsbD h2.1;exact this,h1⟩,h2⟩
end Go.Ab
namespace Go.Ab
open Go Go.Proofs
set_option maxRecDepth 10000
set_option maxHeartbeats 4000000
variable {T:Nat→Obj→Prop}
def zb (l:List (List Int)) (a:Nat):List Int:=l.getD a []
theorem zaR {l:List (List Int)} {i:Nat} {x:List Int} (h:l[i]? = some x):zb l i=x:=by simp [zb,List.getD,h]
theorem zgo {l:List (List Int)} {i:Nat} (h:i < l.length):l[i]? = some (zb l i):=by simp [zb,List.getD,h]
abbrev znX (p:PM):Prop := ∀ a,a < p.cell.length→((zb p.cell a).length:Int)=p.W∧((zb p.rank a).length:Int)=p.W
abbrev zgb (p:PM):Prop := ∀ a,a < p.cell.length→zt8 (zb p.cell a)
abbrev zku (p:PM):Prop := ∀ a,a < p.cell.length→znZ (zb p.cell a) (zb p.rank a)
def zm (p:PM):Int :=
 if za6 p.W p.cell.length p.val≠0 then za6 p.W p.cell.length p.val
 else if p.rank.length≠p.cell.length then 3
 else if ¬znX p then 3
 else if ¬zgb p then 1
 else if ¬zku p then 9
 else 0
structure zxj (p:PM):Prop where
 w1:1≤p.W
 w2:p.W≤64
 val : ∀ s∈p.val,bad p.W s=false
 n4:p.cell.length≤4
 v8:p.val.length≤8
 len:p.rank.length=p.cell.length
 lens:znX p
 cells:zgb p
 ranked:zku p
theorem ztE {W n:Int} {val:List (BitVec 64)} (h:za6 W n val=0):1≤W∧W≤64∧val.length≤8∧n≤4 ∧ ∀ s∈val,bad W s=false:=by
 unfold za6 at h
 split at h
 ·cases h
 ·split at h
  ·cases h
  ·split at h
   ·cases h
   ·rename_i h1 h2 h3
    refine ⟨by omega,by omega,by omega,by omega,fun s hs=>?_⟩
    simp only [List.any_eq_true,not_exists,not_and] at h3
    simpa using h3 s hs
theorem zM {p:PM} (h:zm p=0):zxj p:=by
 unfold zm at h
 split at h
 ·rename_i h0;exact absurd h h0
 ·rename_i h0
  obtain ⟨a1,a2,a3,a4,a5⟩:=ztE (Classical.not_not.1 h0)
  split at h
  ·cases h
  ·split at h
   ·cases h
   ·split at h
    ·cases h
    ·split at h
     ·cases h
     ·rename_i h1 h2 h3 h4
      exact ⟨a1,a2,a5,by omega,a3,Classical.not_not.1 h1,Classical.not_not.1 h2,Classical.not_not.1 h3,Classical.not_not.1 h4⟩
def zat (l:List (List Int)):Prop := ∀ r∈l,∀ x∈r,inR .i64 x
abbrev zaC (p:PM):Ob := .box [.d (.int .i64 p.W),.d (dU p.val),.d (dII p.cell),.d (dII p.rank)]
theorem zmn {p:PM} (h0:za6 p.W p.cell.length p.val=0) (h1:p.rank.length=p.cell.length) (h : ¬znX p):zm p=3:=by
 rw [zm,if_neg (by omega),if_neg (by omega),if_pos h]
theorem zqs {p:PM} (h0:za6 p.W p.cell.length p.val=0) (h1:p.rank.length=p.cell.length) (h2:znX p) (h : ¬zgb p):zm p=1:=by
 rw [zm,if_neg (by omega),if_neg (by omega),if_neg (not_not_intro h2),if_pos h]
theorem zuG {p:PM} (h0:za6 p.W p.cell.length p.val=0) (h1:p.rank.length=p.cell.length) (h2:znX p) (h3:zgb p) (h : ¬zku p):zm p=9:=by
 rw [zm,if_neg (by omega),if_neg (by omega),if_neg (not_not_intro h2),if_neg (not_not_intro h3),if_pos h]
theorem zuF {p:PM} (h0:za6 p.W p.cell.length p.val=0) (h1:p.rank.length=p.cell.length) (h2:znX p) (h3:zgb p) (h4:zku p):zm p=0:=by
 rw [zm,if_neg (by omega),if_neg (by omega),if_neg (not_not_intro h2),if_neg (not_not_intro h3),if_neg (not_not_intro h4)]
theorem zbD (p:PM) (hp:zat p.rank):Fn Tryz.prog T zet [.d (dPM p)] [] (.d (.int .i64 (zm p))) []:=by
 refine zd zp zm3 (by show 1≤85;decide) ?_
 (repeat' ((conv=>whnf);first|refine vA ?_|(refine vD ?_ ?_<;>intro hc<;>try simp only [vL] at hc)|refine vJ fun hg=>?_|refine vT ?_|refine vX ?_|refine yD (zsn _ _ _) ⟨⟨rfl,rfl⟩,⟨rfl,rfl⟩,⟨rfl,rfl⟩,rfl⟩ rfl ?_));all_goals try conv=>whnf
 ·rw [List.length_map,zm,if_pos hc]
 ·rw [zm,if_neg (by omega),if_pos (by omega)]
 have hs0:=‹za6 p.W p.cell.length p.val=0›
 have hlr:p.rank.length=p.cell.length:=by omega
 refine zt (fun (k:Nat)=>[(1,.ptr 0 0),(4,.d (.int .i64 ((k:Int))))]) (fun (k:Nat)=>[(0,some (zaC p))]) 1 (fun (k:Nat)=>k≤p.cell.length ∧ ∀ a,a < k→((zb p.cell a).length:Int)=p.W∧((zb p.rank a).length:Int)=p.W) (fun (k:Nat)=>p.cell.length - k) (0) [(0,0)] [] (⟨by simp,by simp⟩) (by (refine ⟨rfl,rfl,rfl,?_,?_⟩;repeat' first|exact trivial|exact rfl|refine And.intro ?_ ?_|refine ⟨_,rfl,?_⟩|decide)) ?_
 rintro k ⟨hk,hI⟩
 (repeat' ((conv=>whnf);first|refine vA ?_|((first|refine vD ?_ ?_|refine vF ?_ ?_)<;>intro hc<;>try simp only [vL] at hc)|refine vJ fun hg=>?_|refine vT ?_|(refine vQ ?_ fun x hx=>?_;·omega)|(refine vO ?_ ?_;·omega)|(refine vU ?_ ?_;·kernel_rfl)|refine vX ?_));all_goals try conv=>whnf
 ·have h1:=zaR hx
  refine (zmn hs0 hlr fun h=>?_).symm
  have:=(h k (by omega)).1
  rw [h1] at this;exact hc this
 ·have h1:=zaR hx
  refine (zmn hs0 hlr fun h=>?_).symm
  have:=(h k (by omega)).2
  rw [h1] at this;exact hc this
 ·have h1:=zaR ‹p.cell[k]? = some _›
  have h2:=zaR ‹p.rank[k]? = some _›
  exact ⟨k+1,[(0,0)],[],⟨by (omega),fun a ha=>by
   by_cases e:a=k
   ·subst e;rw [h1,h2];omega
   ·exact hI a (by omega)⟩,by (omega),by (refine ⟨rfl,rfl,rfl,?_,?_⟩;repeat' first|exact trivial|exact rfl|refine And.intro ?_ ?_|refine ⟨_,rfl,?_⟩|decide)⟩
 have hL:znX p:=fun a ha=>hI a (by omega)
 refine zt (fun (k:Nat)=>[(1,.ptr 0 0),(5,.d (.int .i64 ((k:Int))))]) (fun (k:Nat)=>[(0,some (zaC p))]) 1 (fun (k:Nat)=>k≤p.cell.length ∧ ∀ a,a < k→zt8 (zb p.cell a)) (fun (k:Nat)=>p.cell.length - k) (0) [(0,0)] [] (⟨by simp,by simp⟩) (by (refine ⟨rfl,rfl,rfl,?_,?_⟩;repeat' first|exact trivial|exact rfl|refine And.intro ?_ ?_|refine ⟨_,rfl,?_⟩|decide)) ?_
 rintro k ⟨hk,hI⟩
 (repeat' ((conv=>whnf);first|refine vA ?_|refine vE ?_|(refine vF ?_ ?_<;>intro hc<;>try simp only [vL] at hc)|refine vJ fun hg=>?_|refine vT ?_|(refine vQ ?_ fun x hx=>?_;·omega)|(refine vO ?_ ?_;·omega)|refine vX ?_|refine yD (zAJ _) ⟨⟨rfl,rfl⟩,rfl⟩ rfl ?_));all_goals try conv=>whnf
 ·have h1:=zaR hx
  exact ⟨k+1,[(0,0)],[],⟨by (omega),fun a ha=>by
   by_cases e:a=k
   ·subst e;rw [h1];assumption
   ·exact hI a (by omega)⟩,by (omega),by (refine ⟨rfl,rfl,rfl,?_,?_⟩;repeat' first|exact trivial|exact rfl|refine And.intro ?_ ?_|refine ⟨_,rfl,?_⟩|decide)⟩
 ·have h1:=zaR hx
  refine (zqs hs0 hlr hL fun h=>hc ?_).symm
  rw [← h1];exact h k (by omega)
 have hC:zgb p:=fun a ha=>hI a (by omega)
 refine zt (fun (k:Nat)=>[(1,.ptr 0 0),(6,.d (.int .i64 ((k:Int))))]) (fun (k:Nat)=>[(0,some (zaC p))]) 1 (fun (k:Nat)=>k≤p.cell.length ∧ ∀ a,a < k→znZ (zb p.cell a) (zb p.rank a)) (fun (k:Nat)=>p.cell.length - k) (0) [(0,0)] [] (⟨by simp,by simp⟩) (by (refine ⟨rfl,rfl,rfl,?_,?_⟩;repeat' first|exact trivial|exact rfl|refine And.intro ?_ ?_|refine ⟨_,rfl,?_⟩|decide)) ?_
 rintro k ⟨hk,hI⟩
 (repeat' ((conv=>whnf);first|refine vA ?_|(refine vF ?_ ?_<;>intro hc<;>try simp only [vL] at hc)|refine vJ fun hg=>?_|refine vT ?_|(refine vQ ?_ fun x hx=>?_;·omega)|refine vX ?_));all_goals try conv=>whnf
 ·have h1:=zaR ‹p.cell[k]? = some _›
  have h2:=zaR ‹p.rank[k]? = some _›
  have h3:=hL k (by omega)
  subst h1;subst h2
  refine zL.data (zy6 (zb p.cell k) (zb p.rank k) (by omega) (hp _ (List.mem_of_getElem? hx))) (by (repeat refine ⟨⟨rfl,rfl⟩,?_⟩);rfl) rfl ?_
  (repeat' ((conv=>whnf);first|refine vE ?_|(refine vF ?_ ?_<;>intro hc)|refine vT ?_|(refine vO ?_ ?_;·omega)|(refine vU ?_ ?_;·kernel_rfl)|refine vX ?_));all_goals try conv=>whnf
  ·exact ⟨k+1,[(0,0)],[],⟨by (omega),fun a ha=>by
    by_cases e:a=k
    ·subst e;assumption
    ·exact hI a (by omega)⟩,by (omega),by (refine ⟨rfl,rfl,rfl,?_,?_⟩;repeat' first|exact trivial|exact rfl|refine And.intro ?_ ?_|refine ⟨_,rfl,?_⟩|decide)⟩
  ·exact (zuG hs0 hlr hL hC fun h=>hc (h k (by omega))).symm
 ·exact (zuF hs0 hlr hL hC fun a ha=>hI a (by omega)).symm
theorem zAM (hC : ∀ p,zat p.rank→Fn Tryz.prog T zf7 [.d (dPM p)] [] (.d (.int .i64 (zm p))) []) (p:PM) (hp:zat p.rank) (a w:Int):Fn Tryz.prog T zf8 [.d (dPM p),.d (.int .i64 a),.d (.int .i64 w)] [] (.d (.bool (decide (zm p=0∧0≤a∧a < p.cell.length∧0≤w∧w < p.W)))) []:=by
 refine zd zp zt3 (by show 3≤31;decide) ?_
 (repeat' ((conv=>whnf);first|refine vA ?_|(refine vF ?_ ?_<;>intro hc<;>try simp only [vL] at hc)|refine vJ fun hg=>?_|refine vT ?_|refine vZ ?_|refine yD (hC _ hp) (by (repeat refine ⟨⟨rfl,rfl⟩,?_⟩);rfl) rfl ?_));all_goals try conv=>whnf
 ·simp [*]
 all_goals
  symm;rw [decide_eq_false_iff_not];omega
theorem zDz (p:PM):Fn Tryz.prog T zfe [.d (dPM p)] [] (.d (.bool (decide (p.val.length≤20∧p.cell.length≤8∧p.rank.length≤8∧(∀ a,a < p.cell.length→(zb p.cell a).length≤20) ∧ ∀ a,a < p.rank.length→(zb p.rank a).length≤20)))) []:=by
 refine zd zp zoM (by show 1≤49;decide) ?_
 (repeat' ((conv=>whnf);first|refine vA ?_|(refine vF ?_ ?_<;>intro hc<;>try simp only [vL] at hc)|refine vJ fun hg=>?_|refine vT ?_|refine vZ ?_));all_goals try conv=>whnf
 iterate 3
  ·symm;rw [decide_eq_false_iff_not];omega
 refine zt (fun (k:Nat)=>[(1,.ptr 0 0),(3,.d (.int .i64 ((k:Int))))]) (fun (k:Nat)=>[(0,some (zaC p))]) 1 (fun (k:Nat)=>k≤p.cell.length ∧ ∀ a,a < k→(zb p.cell a).length≤20) (fun (k:Nat)=>p.cell.length - k) (0) [(0,0)] [] (⟨by simp,by simp⟩) (by (refine ⟨rfl,rfl,rfl,?_,?_⟩;repeat' first|exact trivial|exact rfl|refine And.intro ?_ ?_|refine ⟨_,rfl,?_⟩|decide)) ?_
 rintro k ⟨hk,hI⟩
 (repeat' ((conv=>whnf);first|refine vA ?_|(refine vF ?_ ?_<;>intro hc<;>try simp only [vL] at hc)|refine vJ fun hg=>?_|refine vT ?_|(refine vQ ?_ fun x hx=>?_;·omega)|(refine vO ?_ ?_;·omega)|refine vZ ?_));all_goals try conv=>whnf
 ·have h1:=zaR hx
  symm;rw [decide_eq_false_iff_not];intro h
  have:=h.2.2.2.1 k (by omega)
  rw [h1] at this;omega
 ·have h1:=zaR hx
  exact ⟨k+1,[(0,0)],[],⟨by (omega),fun a ha=>by
   by_cases e:a=k
   ·subst e;rw [h1];omega
   ·exact hI a (by omega)⟩,by (omega),by (refine ⟨rfl,rfl,rfl,?_,?_⟩;repeat' first|exact trivial|exact rfl|refine And.intro ?_ ?_|refine ⟨_,rfl,?_⟩|decide)⟩
 have hI1 : ∀ a,a < p.cell.length→(zb p.cell a).length≤20:=fun a ha=>hI a (by omega)
 refine zt (fun (k:Nat)=>[(1,.ptr 0 0),(4,.d (.int .i64 ((k:Int))))]) (fun (k:Nat)=>[(0,some (zaC p))]) 1 (fun (k:Nat)=>k≤p.rank.length ∧ ∀ a,a < k→(zb p.rank a).length≤20) (fun (k:Nat)=>p.rank.length - k) (0) [(0,0)] [] (⟨by simp,by simp⟩) (by (refine ⟨rfl,rfl,rfl,?_,?_⟩;repeat' first|exact trivial|exact rfl|refine And.intro ?_ ?_|refine ⟨_,rfl,?_⟩|decide)) ?_
 rintro k ⟨hk,hI⟩
 (repeat' ((conv=>whnf);first|refine vA ?_|(refine vF ?_ ?_<;>intro hc<;>try simp only [vL] at hc)|refine vJ fun hg=>?_|refine vT ?_|(refine vQ ?_ fun x hx=>?_;·omega)|(refine vO ?_ ?_;·omega)|refine vZ ?_));all_goals try conv=>whnf
 ·have h1:=zaR hx
  symm;rw [decide_eq_false_iff_not];intro h
  have:=h.2.2.2.2 k (by omega)
  rw [h1] at this;omega
 ·have h1:=zaR hx
  exact ⟨k+1,[(0,0)],[],⟨by (omega),fun a ha=>by
   by_cases e:a=k
   ·subst e;rw [h1];omega
   ·exact hI a (by omega)⟩,by (omega),by (refine ⟨rfl,rfl,rfl,?_,?_⟩;repeat' first|exact trivial|exact rfl|refine And.intro ?_ ?_|refine ⟨_,rfl,?_⟩|decide)⟩
 ·symm;rw [decide_eq_true_eq];exact ⟨by omega,by omega,by omega,hI1,fun a ha=>hI a (by omega)⟩
end Go.Ab
namespace Go.Ab
open Go Go.Proofs
set_option maxRecDepth 10000
set_option maxHeartbeats 4000000
variable {T:Nat→Obj→Prop}
def zoy (x:Int):List Int→List Int
 | []=>[x]
 | y::r=>if x < y then x::y::r else if x=y then y::r else y::zoy x r
def znu:List Int→List Int
 | []=>[]
 | x::r=>zoy x (znu r)
def zJ (cell:List Int):List Int:=cell.foldl (fun l c=>if c∈l then l else l++[c]) []
def zzb (cell rank:List Int) (c:Int):List Int:=((List.range cell.length).filter fun w=>at0 cell w==c).map (at0 rank)
def zaB (cell rank:List Int) (c:Int):List Int:=znu (zzb cell rank c)
abbrev zi5 (cell rank:List Int):List (D×D):=(zJ cell).map fun c=>(.int .i64 c,dI (zaB cell rank c))
def zcp (T:Nat→Obj→Prop):Prop := ∀ cell rank:List Int,cell.length≤rank.length→cell.length≤64→Fn Tryz.prog T zf9 [.d (dI cell),.d (dI rank)] [] (.d (.map (zi5 cell rank))) []
def zpl (l:List Int):Prop := ∀ i,i < l.length→at0 l i=i
instance (l:List Int):Decidable (zpl l):=inferInstanceAs (Decidable (∀ i,i < l.length→at0 l i=i))
theorem ztl {α β:Type} (f:α→β) : ∀ (l:List α) (i:Nat),(l.map f).eraseIdx i=(l.eraseIdx i).map f
 | [],_=>rfl
 | _::_,0=>rfl
 | x::l,i+1=>congrArg (f x :: ·) (ztl f l i)
abbrev zk5 (l:List Int):Prop:=l.Pairwise (· < ·)
theorem zqI {x y:Int} : ∀ {l:List Int},y∈zoy x l↔y=x∨y∈l
 | []=>by simp [zoy]
 | z::r=>by
  unfold zoy
  split
  ·simp
  ·split
   ·rename_i h;subst h;simp
   ·rw [List.mem_cons,zqI,List.mem_cons]
    constructor
    ·rintro (h|h|h)
     ·exact .inr (.inl h)
     ·exact .inl h
     ·exact .inr (.inr h)
    ·rintro (h|h|h)
     ·exact .inr (.inl h)
     ·exact .inl h
     ·exact .inr (.inr h)
theorem zqf {x:Int} : ∀ {l:List Int},zk5 l→zk5 (zoy x l)
 | [],_=>by simp [zoy,zk5]
 | z::r,h=>by
  unfold zoy
  obtain ⟨h1,h2⟩:=List.pairwise_cons.1 h
  split
  ·rename_i hx
   refine List.pairwise_cons.2 ⟨fun y hy=>?_,h⟩
   rcases List.mem_cons.1 hy with rfl|hy
   ·exact hx
   ·have:=h1 y hy;omega
  ·split
   ·exact h
   ·refine List.pairwise_cons.2 ⟨fun y hy=>?_,zqf h2⟩
    rcases zqI.1 hy with rfl|hy
    ·omega
    ·exact h1 y hy
theorem zoR {y:Int} : ∀ {l:List Int},y∈znu l↔y∈l
 | []=>by simp [znu]
 | x::r=>by rw [znu,zqI,zoR,List.mem_cons]
theorem zhq : ∀ {l:List Int},zk5 (znu l)
 | []=>List.Pairwise.nil
 | x::r=>zqf zhq
theorem zoQ {c:Int} : ∀ {l acc:List Int},c∈l.foldl (fun l c=>if c∈l then l else l++[c]) acc↔c∈acc∨c∈l
 | [],acc=>by simp
 | x::r,acc=>by
  rw [List.foldl_cons,zoQ]
  split
  ·rename_i h
   rw [List.mem_cons]
   constructor
   ·rintro (h1|h1)
    ·exact .inl h1
    ·exact .inr (.inr h1)
   ·rintro (h1|rfl|h1)
    ·exact .inl h1
    ·exact .inl h
    ·exact .inr h1
  ·rw [List.mem_append,List.mem_singleton,List.mem_cons,or_assoc]
theorem znd {c:Int} {cell:List Int} : c∈zJ cell↔c∈cell:=by
 rw [zJ,zoQ];simp
theorem ziz {cell rank:List Int} {c x:Int} : x∈zaB cell rank c ↔ ∃ w,w < cell.length∧at0 cell w=c∧at0 rank w=x:=by
 rw [zaB,zoR,zzb,List.mem_map]
 constructor
 ·rintro ⟨w,h,rfl⟩
  rw [List.mem_filter,List.mem_range] at h
  exact ⟨w,h.1,by simpa using h.2,rfl⟩
 ·rintro ⟨w,h1,h2,rfl⟩
  exact ⟨w,List.mem_filter.2 ⟨List.mem_range.2 h1,by simpa using h2⟩,rfl⟩
theorem zia {l:List Int} {x:Int} : x∈l ↔ ∃ i,i < l.length∧at0 l i=x:=by
 constructor
 ·intro h
  obtain ⟨i,hi⟩:=List.getElem?_of_mem h
  exact ⟨i,(List.getElem?_eq_some_iff.1 hi).1,zq hi⟩
 ·rintro ⟨i,hi,rfl⟩
  exact List.mem_of_getElem? (zlp hi)
theorem znn {l:List Int} (h:zk5 l) {i j:Nat} (hij:i < j) (hj:j < l.length):at0 l i < at0 l j:=by
 have h1:=zlp (show i < l.length by omega)
 have h2:=zlp hj
 obtain ⟨_,e1⟩:=List.getElem?_eq_some_iff.1 h1
 obtain ⟨_,e2⟩:=List.getElem?_eq_some_iff.1 h2
 rw [← e1,← e2]
 exact List.pairwise_iff_getElem.1 h i j (by omega) hj hij
theorem zpZ {l:List Int} (h:zk5 l):zpl l ↔ ∀ x∈l,0≤x∧(x=0∨x - 1∈l):=by
 constructor
 ·intro hg x hx
  obtain ⟨i,hi,rfl⟩:=zia.1 hx
  rw [hg i hi]
  refine ⟨by omega,?_⟩
  by_cases e:i=0
  ·exact .inl (by omega)
  ·exact .inr (zia.2 ⟨i - 1,by omega,by rw [hg (i - 1) (by omega)];omega⟩)
 ·intro hc i
  induction i using Nat.strongRecOn with
  | _ i ih =>
   intro hi
   obtain ⟨h0,h1⟩:=hc _ (zia.2 ⟨i,hi,rfl⟩)
   by_cases e:i=0
   ·subst e
    rcases h1 with h1|h1
    ·exact h1
    ·obtain ⟨j,hj,hj'⟩:=zia.1 h1
     by_cases e:j=0
     ·subst e;omega
     ·have:=znn h (show 0 < j by omega) hj;omega
   ·have hp:=ih (i - 1) (by omega) (by omega)
    have hr:=znn h (show i - 1 < i by omega) hi
    rcases h1 with h1|h1
    ·omega
    ·obtain ⟨j,hj,hj'⟩:=zia.1 h1
     have:j < i:=by
      apply Classical.byContradiction
      intro hn
      by_cases e:j=i
      ·subst e;omega
      ·have:=znn h (show i < j by omega) hj;omega
     have:=ih j this hj
     omega
theorem zln {cell rank:List Int} : (∀ c∈zJ cell,zpl (zaB cell rank c))↔znZ cell rank:=by
 constructor
 ·intro h w hw
  have hc:=h (at0 cell w) (znd.2 (zia.2 ⟨w,hw,rfl⟩))
  replace hc:=(zpZ zhq).1 hc
  obtain ⟨h1,h2⟩:=hc (at0 rank w) (ziz.2 ⟨w,hw,rfl,rfl⟩)
  refine ⟨h1,h2.imp_right fun h3=>?_⟩
  obtain ⟨v,hv,h4,h5⟩:=ziz.1 h3
  exact ⟨v,hv,h4,h5⟩
 ·intro h c hc
  refine (zpZ zhq).2 ?_
  intro x hx
  obtain ⟨w,hw,rfl,rfl⟩:=ziz.1 hx
  obtain ⟨h1,h2⟩:=h w hw
  refine ⟨h1,h2.imp_right fun ⟨v,hv,h4,h5⟩=>?_⟩
  exact ziz.2 ⟨v,hv,h4,h5⟩
theorem zcG (hR:zcp T) (p:PM) (hp:zat p.rank):Fn Tryz.prog T zf7 [.d (dPM p)] [] (.d (.int .i64 (zm p))) []:=by
 refine zd zp zt2 (by show 1≤123;decide) ?_
 (repeat' ((conv=>whnf);first|refine vA ?_|(refine vD ?_ ?_<;>intro hc<;>try simp only [vL] at hc)|refine vJ fun hg=>?_|refine vT ?_|refine vX ?_|refine yD (zsl _ _ _) ⟨⟨rfl,rfl⟩,⟨rfl,rfl⟩,⟨rfl,rfl⟩,rfl⟩ rfl ?_));all_goals try conv=>whnf
 ·rw [List.length_map,zm,if_pos hc]
 ·rw [zm,if_neg (by omega),if_pos (by omega)]
 have hs0:=‹za6 p.W p.cell.length p.val=0›
 have hW64:=(ztE hs0).2.1
 have hlr:p.rank.length=p.cell.length:=by omega
 refine zt (fun (k:Nat)=>[(1,.ptr 0 0),(34,.d (.int .i64 ((p.cell.map dI).length:Int))),(35,.d (.int .i64 ((k:Int))))]) (fun (k:Nat)=>[(0,some (zaC p))]) 1 (fun (k:Nat)=>k≤p.cell.length ∧ ∀ a,a < k→((zb p.cell a).length:Int)=p.W∧((zb p.rank a).length:Int)=p.W) (fun (k:Nat)=>p.cell.length - k) (0) [(0,0)] [] (⟨by simp,by simp⟩) (by (refine ⟨rfl,rfl,rfl,?_,?_⟩;repeat' first|exact trivial|exact rfl|refine And.intro ?_ ?_|refine ⟨_,rfl,?_⟩|decide)) ?_
 rintro k ⟨hk,hI⟩
 (repeat' ((conv=>whnf);first|refine vA ?_|((first|refine vD ?_ ?_|refine vF ?_ ?_)<;>intro hc<;>try simp only [vL] at hc)|refine vJ fun hg=>?_|refine vT ?_|(refine vQ ?_ fun x hx=>?_;·omega)|(refine vO ?_ ?_;·omega)|(refine vU ?_ ?_;·kernel_rfl)|refine vX ?_));all_goals try conv=>whnf
 ·have h1:=zaR hx
  refine (zmn hs0 hlr fun h=>?_).symm
  have:=(h k (by omega)).1
  rw [h1] at this;exact hc this
 ·have h1:=zaR hx
  refine (zmn hs0 hlr fun h=>?_).symm
  have:=(h k (by omega)).2
  rw [h1] at this;exact hc this
 ·have h1:=zaR ‹p.cell[k]? = some _›
  have h2:=zaR ‹p.rank[k]? = some _›
  exact ⟨k+1,[(0,0)],[],⟨by (omega),fun a ha=>by
   by_cases e:a=k
   ·subst e;rw [h1,h2];omega
   ·exact hI a (by omega)⟩,by (omega),by (refine ⟨rfl,rfl,rfl,?_,?_⟩;repeat' first|exact trivial|exact rfl|refine And.intro ?_ ?_|refine ⟨_,rfl,?_⟩|decide)⟩
 have hL:znX p:=fun a ha=>hI a (by omega)
 refine zt (fun (k:Nat)=>[(1,.ptr 0 0),(60,.d (dII p.cell)),(61,.d (.int .i64 ((p.cell.map dI).length:Int))),(62,.d (.int .i64 ((k:Int))))]) (fun (k:Nat)=>[(0,some (zaC p))]) 1 (fun (k:Nat)=>k≤p.cell.length ∧ ∀ a,a < k→zt8 (zb p.cell a)) (fun (k:Nat)=>p.cell.length - k) (0) [(0,0)] [] (⟨by simp,by simp⟩) (by (refine ⟨rfl,rfl,rfl,?_,?_⟩;repeat' first|exact trivial|exact rfl|refine And.intro ?_ ?_|refine ⟨_,rfl,?_⟩|decide)) ?_
 rintro k ⟨hk,hI⟩
 (repeat' ((conv=>whnf);first|refine vA ?_|(refine vF ?_ ?_<;>intro hc<;>try simp only [vL] at hc)|refine vJ fun hg=>?_|refine vT ?_|(refine vQ ?_ fun x hx=>?_;·omega)|fail));all_goals try conv=>whnf
 ·have h1:=zaR hx
  subst h1
  refine zt (fun (j:Nat)=>[(1,.ptr 0 0),(60,.d (dII p.cell)),(61,.d (.int .i64 ((p.cell.map dI).length:Int))),(62,.d (.int .i64 ((k:Int)))),(6,.d (dI (zb p.cell k))),(66,.d (dI (zb p.cell k))),(67,.d (.int .i64 (((zb p.cell k).map (D.int .i64)).length:Int))),(68,.d (.int .i64 ((j:Int))))]) (fun (j:Nat)=>[(0,some (zaC p))]) 1 (fun (j:Nat)=>j≤(zb p.cell k).length ∧ ∀ w,w < j→0≤at0 (zb p.cell k) w∧at0 (zb p.cell k) w≤w∧at0 (zb p.cell k) (at0 (zb p.cell k) w).toNat=at0 (zb p.cell k) w) (fun (j:Nat)=>(zb p.cell k).length - j) (0) [(0,0)] [] (⟨by simp,by simp⟩) (by (refine ⟨rfl,rfl,rfl,?_,?_⟩;repeat' first|exact trivial|exact rfl|refine And.intro ?_ ?_|refine ⟨_,rfl,?_⟩|decide)) ?_
  rintro j ⟨hj,hJ⟩
  (repeat' ((conv=>whnf);first|refine vA ?_|((first|refine vD ?_ ?_|refine vF ?_ ?_)<;>intro hc<;>try simp only [vL] at hc)|refine vT ?_|(refine vQ ?_ fun x hx=>?_;·omega)|((first|refine vO ?_ ?_|refine vS ?_ fun x hx=>?_);·omega)|refine vX ?_));all_goals try conv=>whnf
  iterate 2
   ·refine (zqs hs0 hlr hL fun h=>?_).symm
    have:=h k (by omega) j (by omega)
    rw [zq hx] at this;omega
  ·refine (zqs hs0 hlr hL fun h=>?_).symm
   have:=h k (by omega) j (by omega)
   rw [zq ‹(zb p.cell k)[j]? = some _›,zq hx] at this;omega
  ·have h0:=zq ‹(zb p.cell k)[j]? = some _›
   have h1:=zq hx
   exact ⟨j+1,[(0,0)],[],⟨by (omega),fun w hw=>by
    by_cases e:w=j
    ·subst e;rw [h0,h1];omega
    ·exact hJ w (by omega)⟩,by (omega),by (refine ⟨rfl,rfl,rfl,?_,?_⟩;repeat' first|exact trivial|exact rfl|refine And.intro ?_ ?_|refine ⟨_,rfl,?_⟩|decide)⟩
  ·exact ⟨k+1,[(0,0)],[],⟨by (omega),fun a ha=>by
    by_cases e:a=k
    ·subst e;exact fun w hw=>hJ w (by omega)
    ·exact hI a (by omega)⟩,by (omega),by (refine ⟨rfl,rfl,rfl,?_,?_⟩;repeat' first|exact trivial|exact rfl|refine And.intro ?_ ?_|refine ⟨_,rfl,?_⟩|decide)⟩
 have hC:zgb p:=fun a ha=>hI a (by omega)
 refine zt (fun (k:Nat)=>[(1,.ptr 0 0),(91,.d (dII p.cell)),(92,.d (.int .i64 ((p.cell.map dI).length:Int))),(93,.d (.int .i64 ((k:Int))))]) (fun (k:Nat)=>[(0,some (zaC p))]) 1 (fun (k:Nat)=>k≤p.cell.length ∧ ∀ a,a < k→znZ (zb p.cell a) (zb p.rank a)) (fun (k:Nat)=>p.cell.length - k) (0) [(0,0)] [] (⟨by simp,by simp⟩) (by (refine ⟨rfl,rfl,rfl,?_,?_⟩;repeat' first|exact trivial|exact rfl|refine And.intro ?_ ?_|refine ⟨_,rfl,?_⟩|decide)) ?_
 rintro k ⟨hk,hI⟩
 (repeat' ((conv=>whnf);first|refine vA ?_|(refine vF ?_ ?_<;>intro hc<;>try simp only [vL] at hc)|refine vT ?_|(refine vQ ?_ fun x hx=>?_;·omega)|refine vX ?_));all_goals try conv=>whnf
 ·have h1:=zaR ‹p.cell[k]? = some _›
  have h2:=zaR ‹p.rank[k]? = some _›
  have h3:=hL k (by omega)
  subst h1;subst h2
  refine zL.dataN (hR (zb p.cell k) (zb p.rank k) (by omega) (by omega)) (by (repeat refine ⟨⟨rfl,rfl⟩,?_⟩);rfl) ?_
  (repeat' ((conv=>whnf);refine vT ?_));all_goals try conv=>whnf
  refine zt (fun ((left,cur):List (D×D)×Option (D×D))=>[(1,.ptr 0 0),(91,.d (dII p.cell)),(92,.d (.int .i64 ((p.cell.map dI).length:Int))),(93,.d (.int .i64 ((k:Int)))),(105,.iter 1)]) (fun ((left,cur):List (D×D)×Option (D×D))=>[(0,some (zaC p)),(1,some (.iter left cur))]) 2 (fun ((left,cur):List (D×D)×Option (D×D)) => ∃ ks:List Int,left=ks.map (fun c=>(D.int .i64 c,dI (zaB (zb p.cell k) (zb p.rank k) c)))∧(∀ c∈ks,c∈zJ (zb p.cell k)) ∧ ∀ c∈zJ (zb p.cell k),c∈ks∨zpl (zaB (zb p.cell k) (zb p.rank k) c)) (fun ((left,cur):List (D×D)×Option (D×D))=>left.length) ((zi5 (zb p.cell k) (zb p.rank k),none)) [(0,0),(1,1)] [] (⟨_,rfl,fun c h=>h,fun c h => .inl h⟩) (by (refine ⟨rfl,rfl,rfl,?_,?_⟩;repeat' first|exact trivial|exact rfl|refine And.intro ?_ ?_|refine ⟨_,rfl,?_⟩|decide)) ?_
  rintro ⟨left,cur⟩ ⟨ks,hleft,hks,hdone⟩
  (repeat' ((conv=>whnf);first|refine vA ?_|refine vC (fun hl=>?_) fun i kv vv hi=>?_|refine vG ?_|refine vH ?_|refine vT ?_|(refine vO ?_ ?_;·omega)|fail));all_goals try conv=>whnf
  ·exact ⟨k+1,[(0,0)],[],⟨by (omega),fun a ha=>by
    by_cases e:a=k
    ·subst e
     rw [hl] at hleft
     have:ks=[]:=by simpa using hleft.symm
     subst this
     exact zln.1 fun c hc=>(hdone c hc).resolve_left (by simp)
    ·exact hI a (by omega)⟩,by (omega),by (refine ⟨rfl,rfl,rfl,?_,?_⟩;repeat' first|exact trivial|exact rfl|refine And.intro ?_ ?_|refine ⟨_,rfl,?_⟩|decide)⟩
  ·rw [hleft,List.getElem?_map,Option.map_eq_some_iff] at hi
   obtain ⟨c,hci,hce⟩:=hi
   cases hce
   (repeat' ((conv=>whnf);first|refine vJ fun hg=>?_|refine vT ?_));all_goals try conv=>whnf
   refine zt (fun (j:Nat)=>[(1,.ptr 0 0),(91,.d (dII p.cell)),(92,.d (.int .i64 ((p.cell.map dI).length:Int))),(93,.d (.int .i64 ((k:Int)))),(105,.iter 1),(12,.d (dI (zaB (zb p.cell k) (zb p.rank k) c))),(111,.d (.int .i64 (((zaB (zb p.cell k) (zb p.rank k) c).map (D.int .i64)).length:Int))),(112,.d (.int .i64 ((j:Int))))]) (fun (j:Nat)=>[(0,some (zaC p)),(1,some (.iter (left.eraseIdx i) (some (D.int .i64 c,dI (zaB (zb p.cell k) (zb p.rank k) c)))))]) 2 (fun (j:Nat)=>j≤(zaB (zb p.cell k) (zb p.rank k) c).length ∧ ∀ i,i < j→at0 (zaB (zb p.cell k) (zb p.rank k) c) i=i) (fun (j:Nat)=>(zaB (zb p.cell k) (zb p.rank k) c).length - j) (0) [(0,0),(1,1)] [] (⟨by simp,by simp⟩) (by (refine ⟨rfl,rfl,rfl,?_,?_⟩;repeat' first|exact trivial|exact rfl|refine And.intro ?_ ?_|refine ⟨_,rfl,?_⟩|decide)) ?_
   rintro j ⟨hj,hJ⟩
   (repeat' ((conv=>whnf);first|refine vA ?_|((first|refine vD ?_ ?_|refine vF ?_ ?_)<;>intro hc<;>try simp only [vL] at hc)|refine vT ?_|(refine vQ ?_ fun x hx=>?_;·omega)|(refine vO ?_ ?_;·omega)|refine vX ?_));all_goals try conv=>whnf
   ·refine (zuG hs0 hlr hL hC fun h=>hc ?_).symm
    have h4:=zln.2 (h k (by omega)) c (hks c (List.mem_of_getElem? hci)) j (by omega)
    rw [zq hx] at h4;exact h4
   ·have h0:=zq hx
    exact ⟨j+1,[(0,0),(1,1)],[],⟨by (omega),fun w hw=>by
     by_cases e:w=j
     ·subst e;rw [h0];omega
     ·exact hJ w (by omega)⟩,by (omega),by (refine ⟨rfl,rfl,rfl,?_,?_⟩;repeat' first|exact trivial|exact rfl|refine And.intro ?_ ?_|refine ⟨_,rfl,?_⟩|decide)⟩
   ·refine ⟨(left.eraseIdx i,some (D.int .i64 c,dI (zaB (zb p.cell k) (zb p.rank k) c))),[(0,0),(1,1)],[],⟨ks.eraseIdx i,?_,?_,?_⟩,?_,⟨rfl,rfl,rfl,by (repeat' first|exact trivial|exact rfl|refine And.intro ?_ ?_|refine ⟨_,rfl,?_⟩),by (repeat' first|exact trivial|exact rfl|refine And.intro ?_ ?_|refine ⟨_,rfl,?_⟩|decide)⟩⟩
    ·rw [hleft,ztl]
    ·exact fun c h=>hks c (List.mem_of_mem_eraseIdx h)
    ·intro c' h
     rcases hdone c' h with h1|h1
     ·by_cases e:c'=c
      ·subst e;exact .inr fun i hi=>hJ i (by omega)
      ·refine .inl ?_
       rw [List.mem_eraseIdx_iff_getElem?]
       obtain ⟨i',hi'⟩:=List.getElem?_of_mem h1
       exact ⟨i',fun e'=>e (by rw [e',hci] at hi';cases hi';rfl),hi'⟩
     ·exact .inr h1
    ·show (left.eraseIdx i).length < left.length
     have:i < left.length:=by
      rw [hleft,List.length_map];exact (List.getElem?_eq_some_iff.1 hci).1
     rw [List.length_eraseIdx];split<;>omega
 ·exact (zuF hs0 hlr hL hC fun a ha=>hI a (by omega)).symm
end Go.Ab
namespace Go.Ab
open Go Go.Proofs
set_option maxRecDepth 10000
set_option maxHeartbeats 4000000
variable {T:Nat→Obj→Prop}
structure At (p:PM) (a w:Int):Prop where
 ok:zm p=0
 a0:0≤a
 a1:a < p.cell.length
 w0:0≤w
 w1:w < p.W
instance (p:PM) (a w:Int):Decidable (At p a w):=decidable_of_iff (zm p=0∧0≤a∧a < p.cell.length∧0≤w∧w < p.W) ⟨fun ⟨a,b,c,d,e⟩=>⟨a,b,c,d,e⟩,fun ⟨a,b,c,d,e⟩=>⟨a,b,c,d,e⟩⟩
theorem zyV (hR:zcp T) (p:PM) (hp:zat p.rank) (a w:Int):Fn Tryz.prog T zf8 [.d (dPM p),.d (.int .i64 a),.d (.int .i64 w)] [] (.d (.bool (decide (At p a w)))) []:=by
 have:=zAM (T:=T) (fun p hp=>zcG hR p hp) p hp a w
 rwa [show decide (zm p=0∧0≤a∧a < p.cell.length∧0≤w∧w < p.W)=decide (At p a w) from by
  rw [Bool.eq_iff_iff,decide_eq_true_eq,decide_eq_true_eq]
  exact ⟨fun ⟨a,b,c,d,e⟩=>⟨a,b,c,d,e⟩,fun ⟨a,b,c,d,e⟩=>⟨a,b,c,d,e⟩⟩] at this
def zav (p:PM) (a w:Int):BitVec 64:=if At p a w then zhP (zb p.cell a.toNat) w.toNat else 0#64
def zmg (p:PM) (a w:Int) (s:BitVec 64):BitVec 64:=if At p a w then zwN (zb p.rank a.toNat) (s&&&zhP (zb p.cell a.toNat) w.toNat) else 0#64
theorem At.rows {p:PM} {a w:Int} (h:At p a w):p.cell[a.toNat]? = some (zb p.cell a.toNat)∧p.rank[a.toNat]? = some (zb p.rank a.toNat)∧((zb p.cell a.toNat).length:Int)=p.W∧((zb p.rank a.toNat).length:Int)=p.W∧p.W≤64∧a.toNat < p.cell.length∧p.rank.length=p.cell.length:=by
 have hg:=zM h.ok
 have h0:=h.a0
 have h1:=h.a1
 have hl:=hg.lens a.toNat (by omega)
 exact ⟨zgo (by omega),zgo (by rw [hg.len];omega),hl.1,hl.2,hg.w2,by omega,hg.len⟩
theorem zCn (hR:zcp T) (p:PM) (hp:zat p.rank) (a w:Int):Fn Tryz.prog T zj9 [.d (dPM p),.d (.int .i64 a),.d (.int .i64 w)] [] (.d (.u64 (zav p a w))) []:=by
 refine zd zp zvo (by show 3≤16;decide) ?_
 (repeat' ((conv=>whnf);first|refine vA ?_|refine vE ?_|(refine vF ?_ ?_<;>intro hc)|refine vT ?_|refine vY ?_|refine yD (zyV hR _ hp _ _) (by (repeat refine ⟨⟨rfl,rfl⟩,?_⟩);rfl) rfl ?_));all_goals try conv=>whnf
 ·obtain ⟨h1,-,h2,-⟩:=At.rows hc
  refine zL.data (zyS p a w (zb p.cell a.toNat) hc.a0 h1 hc.w0 (by rw [h2];exact hc.w1)) (by (repeat refine ⟨⟨rfl,rfl⟩,?_⟩);rfl) rfl ?_
  (repeat' ((conv=>whnf);first|refine vT ?_|refine vY ?_));all_goals try conv=>whnf
  rw [zav,if_pos hc]
 ·rw [zav,if_neg hc];rfl
theorem ztv {k:Nat} (h:k < 18446744073709551616):(BitVec.ofInt 64 (k:Int)).toNat=k:=by
 rw [BitVec.toNat_ofInt,Int.emod_eq_of_lt (by omega) (by omega)];rfl
theorem ztX (p:PM) (hp:zat p.rank) (a w:Int):Fn Tryz.prog T zeR [.d (dPM p),.d (.int .i64 a),.d (.int .i64 w)] [] (.d (.u64 (zav p a w))) []:=by
 refine zd zp znS (by show 3≤62;decide) ?_
 (repeat' ((conv=>whnf);first|refine vA ?_|((first|refine vD ?_ ?_|refine vF ?_ ?_)<;>intro hc<;>try simp only [vL] at hc)|refine vJ fun hg=>?_|refine vT ?_|refine vY ?_|refine yD (zbD _ hp) ⟨⟨rfl,rfl⟩,rfl⟩ rfl ?_));all_goals try conv=>whnf
 iterate 5
  ·rw [zav,if_neg fun h=>by have:=h.ok;have:=h.a0;have:=h.a1;have:=h.w0;have:=h.w1;omega];rfl
 have hat:At p a w:=⟨by assumption,by assumption,by assumption,by assumption,hc⟩
 obtain ⟨hrow,-,hlen,-,h64,ha,-⟩:=hat.rows
 refine zt (fun ((k,s):Nat×BitVec 64)=>[(1,.d (.int .i64 (a))),(2,.d (.int .i64 (w))),(3,.ptr 0 0),(7,.d (.u64 (s))),(8,.d (.int .i64 ((k:Int))))]) (fun ((k,s):Nat×BitVec 64)=>[(0,some (zaC p))]) 1 (fun ((k,s):Nat×BitVec 64)=>k≤p.W.toNat∧s=zQ (fun v=>at0 (zb p.cell a.toNat) v==at0 (zb p.cell a.toNat) w.toNat) k) (fun ((k,s):Nat×BitVec 64)=>p.W.toNat - k) ((0,0#64)) [(0,0)] [] (⟨by simp,rfl⟩) (by (refine ⟨rfl,rfl,rfl,?_,?_⟩;repeat' first|exact trivial|exact rfl|refine And.intro ?_ ?_|refine ⟨_,rfl,?_⟩|decide)) ?_
 rintro ⟨k,s⟩ ⟨hk,hI⟩
 (repeat' ((conv=>whnf);first|refine vA ?_|(refine vF ?_ ?_<;>intro hc<;>try simp only [vL] at hc)|refine vT ?_|(refine vQ ?_ fun x hx=>?_;·omega)|((first|refine vO ?_ ?_|refine vR ?_ ‹_› ?_|refine vS ?_ fun x hx=>?_);·omega)|(refine vU ?_ ?_;·kernel_rfl)|refine vY ?_));all_goals try conv=>whnf
 ·have h1:=zq ‹(zb p.cell a.toNat)[k]? = some _›
  have h2:=zq hx
  exact ⟨(k+1,s|||1#64 <<< (BitVec.ofInt 64 (k:Int)).toNat),[(0,0)],[],⟨by (omega),by rw [zQ,if_pos (by simp;omega),hI,ztv (by omega)]⟩,by ((simp only [vM] at *;omega)),by (refine ⟨rfl,rfl,rfl,?_,?_⟩;repeat' first|exact trivial|exact rfl|refine And.intro ?_ ?_|refine ⟨_,rfl,?_⟩|decide)⟩
 ·have h1:=zq ‹(zb p.cell a.toNat)[k]? = some _›
  have h2:=zq hx
  exact ⟨(k+1,s),[(0,0)],[],⟨by (omega),by rw [zQ,if_neg (by simp;omega),hI]⟩,by ((simp only [vM] at *;omega)),by (refine ⟨rfl,rfl,rfl,?_,?_⟩;repeat' first|exact trivial|exact rfl|refine And.intro ?_ ?_|refine ⟨_,rfl,?_⟩|decide)⟩
 ·rw [zav,if_pos hat,hI,zhP,show k=(zb p.cell a.toNat).length by omega]
def zaV (cell rank:List Int) (w:Nat):Nat→BitVec 64:=zQ fun v=>at0 cell v==at0 cell w&&decide (at0 rank v≤at0 rank w)
def za8 (p:PM) (a:Nat):List (BitVec 64):=(List.range p.W.toNat).map fun w=>zaV (zb p.cell a) (zb p.rank a) w p.W.toNat
def zbF (p:PM) (a:Int):List (BitVec 64)×Int:=if zm p≠0 then ([],zm p) else if a < 0∨(p.cell.length:Int)≤a then ([],2) else (za8 p a.toNat,0)
abbrev dUI (x:List (BitVec 64)×Int):D := .tup [dU x.1,.int .i64 x.2]
theorem zi7 {β:Type} {g:Nat→β} {n k:Nat} (x:β):((List.range n).map g).set k x=(List.range n).map fun u=>if u=k then x else g u:=by
 refine List.ext_getElem (by simp) fun i h1 h2=>?_
 rw [List.getElem_set]
 by_cases e:k=i
 ·subst e;simp
 ·simp [e,Ne.symm e]
theorem zad {β:Type} {g h:Nat→β} {n:Nat} (e : ∀ u,u < n→g u=h u):(List.range n).map g=(List.range n).map h :=
 List.map_congr_left fun u hu=>e u (List.mem_range.1 hu)
theorem zy9 {n k x:Nat} (h:(List.range n)[k]? = some x):x=k:=by
 obtain ⟨h1,rfl⟩:=List.getElem?_eq_some_iff.1 h
 simp
theorem zbW {β:Type} (x:β) (n:Nat):List.replicate n x=(List.range n).map fun _=>x:=by
 refine List.ext_getElem (by simp) fun i h1 h2=>by simp
theorem zyQ (hR:zcp T) (p:PM) (hp:zat p.rank) (a:Int):Fn Tryz.prog T zhY [.d (dPM p),.d (.int .i64 a)] [] (.d (dUI (zbF p a))) []:=by
 refine zd zp zsv (by show 2≤84;decide) ?_
 (repeat' ((conv=>whnf);first|refine vA ?_|((first|refine vD ?_ ?_|refine vF ?_ ?_)<;>intro hc<;>try simp only [vL] at hc)|refine vJ fun hg=>?_|refine vT ?_|(refine vP ?_ ?_;·omega)|refine yD (zcG hR _ hp) ⟨⟨rfl,rfl⟩,rfl⟩ rfl ?_));all_goals try conv=>whnf
 ·rw [zbF,if_pos hc];rfl
 ·rw [zbF,if_neg (by omega),if_pos (.inl hc)];rfl
 ·rw [zbF,if_neg (by omega),if_pos (.inr hc)];rfl
 have hg:=zM ‹zm p=0›
 have hw1:=hg.w1
 have hw2:=hg.w2
 have hrow:=zgo (l:=p.cell) (i:=a.toNat) (by omega)
 have hrank:=zgo (l:=p.rank) (i:=a.toNat) (by have:=hg.len;omega)
 obtain ⟨hl1,hl2⟩:=hg.lens a.toNat (by omega)
 have hlr:=hg.len
 (repeat' ((conv=>whnf);first|refine vA ?_|refine vK fun hg=>?_|refine vT ?_|(refine vP ?_ ?_;·omega)|fail));all_goals try conv=>whnf
 refine zt (fun ((k,xs):Nat×List D)=>[(1,.d (.int .i64 (a))),(2,.ptr 0 0),(7,.own 1),(28,.d (.int .i64 ((List.replicate p.W.toNat (D.u64 0#64)).length:Int))),(29,.d (.int .i64 ((k:Int))))]) (fun ((k,xs):Nat×List D)=>[(0,some (zaC p)),(1,some (.row 1 xs))]) 2 (fun ((k,xs):Nat×List D)=>k≤p.W.toNat∧xs=(List.range p.W.toNat).map fun u=>D.u64 (if u < k then zaV (zb p.cell a.toNat) (zb p.rank a.toNat) u p.W.toNat else 0#64)) (fun ((k,xs):Nat×List D)=>p.W.toNat - k) ((0,List.replicate p.W.toNat (D.u64 0#64))) [(0,0),(1,1)] [] (⟨by simp,by simp only [Nat.not_lt_zero,if_false];exact zbW _ _⟩) (by (refine ⟨rfl,rfl,rfl,?_,?_⟩;repeat' first|exact trivial|exact rfl|refine And.intro ?_ ?_|refine ⟨_,rfl,?_⟩|decide)) ?_
 rintro ⟨k,_⟩ ⟨hk,rfl⟩
 (repeat' ((conv=>whnf);first|refine vA ?_|(refine vF ?_ ?_<;>intro hc<;>try simp only [vL] at hc)|refine vJ fun hg=>?_|refine vT ?_));all_goals try conv=>whnf
 ·refine zt (fun ((j,xs):Nat×List D)=>[(1,.d (.int .i64 (a))),(2,.ptr 0 0),(7,.own 1),(8,.d (.int .i64 ((k:Int)))),(28,.d (.int .i64 ((List.replicate p.W.toNat (D.u64 0#64)).length:Int))),(29,.d (.int .i64 ((k:Int)))),(33,.d (.int .i64 (((List.range p.W.toNat).map fun u=>D.u64 (if u < k then zaV (zb p.cell a.toNat) (zb p.rank a.toNat) u p.W.toNat else 0#64)).length:Int))),(34,.d (.int .i64 ((j:Int))))]) (fun ((j,xs):Nat×List D)=>[(0,some (zaC p)),(1,some (.row 1 xs))]) 2 (fun ((j,xs):Nat×List D)=>j≤p.W.toNat∧xs=(List.range p.W.toNat).map fun u=>D.u64 (if u < k then zaV (zb p.cell a.toNat) (zb p.rank a.toNat) u p.W.toNat else if u=k then zaV (zb p.cell a.toNat) (zb p.rank a.toNat) k j else 0#64)) (fun ((j,xs):Nat×List D)=>p.W.toNat - j) ((0,_)) [(0,0),(1,1)] [] (⟨by simp,zad fun u hu=>by simp [zaV,zQ]⟩) (by (refine ⟨rfl,rfl,rfl,?_,?_⟩;repeat' first|exact trivial|exact rfl|refine And.intro ?_ ?_|refine ⟨_,rfl,?_⟩|decide)) ?_
  rintro ⟨j,_⟩ ⟨hj,rfl⟩
  (repeat' ((conv=>whnf);first|refine vA ?_|(refine vF ?_ ?_<;>intro hc<;>try simp only [vL] at hc)|refine vT ?_|(refine vQ ?_ fun x hx=>?_;·first|omega|(simp only [vM] at *;omega))|((first|refine vO ?_ ?_|refine vR ?_ ‹_› ?_|refine vP ?_ ?_);·first|omega|(simp only [vM] at *;omega))|(refine vU ?_ ?_;·kernel_rfl)|fail));all_goals try conv=>whnf
  ·have h1:=zq ‹(zb p.cell a.toNat)[j]? = some _›
   have h2:=zq ‹(zb p.cell a.toNat)[k]? = some _›
   have h3:=zq ‹(zb p.rank a.toNat)[j]? = some _›
   have h4:=zq ‹(zb p.rank a.toNat)[k]? = some _›
   have hx':=zy9 hx
   refine ⟨(j+1,_),[(0,0),(1,1)],[],?_,?_,by (refine ⟨rfl,rfl,rfl,?_,?_⟩;repeat' first|exact trivial|exact rfl|refine And.intro ?_ ?_|refine ⟨_,rfl,?_⟩|decide)⟩
   ·refine ⟨by (omega),(zi7 _).trans (zad fun u hu=>?_)⟩
    have e0:(at0 (zb p.cell a.toNat) j==at0 (zb p.cell a.toNat) k&&decide (at0 (zb p.rank a.toNat) j≤at0 (zb p.rank a.toNat) k))=true:=by
     simp only [Bool.and_eq_true,beq_iff_eq,decide_eq_true_eq];omega
    show (if u=k then _ else _)=_
    have hx'':x=k:=hx'
    subst hx''
    by_cases e:u=x
    ·subst e
     simp only [Nat.lt_irrefl,if_false,if_true,zaV,zQ,e0];rfl
    ·rw [if_neg e];simp only [if_neg e]
   ·((simp only [vM] at *;omega))
  ·have h1:=zq ‹(zb p.cell a.toNat)[j]? = some _›
   have h2:=zq ‹(zb p.cell a.toNat)[k]? = some _›
   have h3:=zq ‹(zb p.rank a.toNat)[j]? = some _›
   have h4:=zq ‹(zb p.rank a.toNat)[k]? = some _›
   refine ⟨(j+1,_),[(0,0),(1,1)],[],?_,?_,by (refine ⟨rfl,rfl,rfl,?_,?_⟩;repeat' first|exact trivial|exact rfl|refine And.intro ?_ ?_|refine ⟨_,rfl,?_⟩|decide)⟩
   ·refine ⟨by (omega),zad fun u hu=>?_⟩
    have e0:(at0 (zb p.cell a.toNat) j==at0 (zb p.cell a.toNat) k&&decide (at0 (zb p.rank a.toNat) j≤at0 (zb p.rank a.toNat) k))=false:=by
     rw [Bool.and_eq_false_iff];right;rw [decide_eq_false_iff_not];omega
    simp only [zaV,zQ,e0,Bool.false_eq_true,if_false]
   ·((simp only [vM] at *;omega))
  ·have h1:=zq ‹(zb p.cell a.toNat)[j]? = some _›
   have h2:=zq ‹(zb p.cell a.toNat)[k]? = some _›
   refine ⟨(j+1,_),[(0,0),(1,1)],[],?_,?_,by (refine ⟨rfl,rfl,rfl,?_,?_⟩;repeat' first|exact trivial|exact rfl|refine And.intro ?_ ?_|refine ⟨_,rfl,?_⟩|decide)⟩
   ·refine ⟨by (omega),zad fun u hu=>?_⟩
    have e0:(at0 (zb p.cell a.toNat) j==at0 (zb p.cell a.toNat) k&&decide (at0 (zb p.rank a.toNat) j≤at0 (zb p.rank a.toNat) k))=false:=by
     rw [Bool.and_eq_false_iff];left;rw [beq_eq_false_iff_ne];omega
    simp only [zaV,zQ,e0,Bool.false_eq_true,if_false]
   ·((simp only [vM] at *;omega))
  ·refine ⟨(k+1,_),[(0,0),(1,1)],[],?_,?_,by (refine ⟨rfl,rfl,rfl,?_,?_⟩;repeat' first|exact trivial|exact rfl|refine And.intro ?_ ?_|refine ⟨_,rfl,?_⟩|decide)⟩
   ·refine ⟨by (omega),zad fun u hu=>?_⟩
    have e0:j=p.W.toNat:=by (omega)
    subst e0
    by_cases e:u=k
    ·subst e;simp
    ·by_cases e1:u < k
     ·simp [e1,show u < k+1 by omega]
     ·simp [e1,e,show ¬ u < k+1 by omega]
   ·((simp only [vM] at *;omega))
 ·rw [zbF,if_neg (by omega),if_neg (by omega),za8]
  have e0:k=p.W.toNat:=by (omega)
  refine congrArg some (congrArg D.tup (congrArg (fun l=>[D.arr 1 l,D.int .i64 0]) ?_))
  rw [List.map_map]
  refine zad fun u hu=>?_
  rw [if_pos (by omega)];rfl
theorem zry (p:PM) (hp:zat p.rank) (a:Int):Fn Tryz.prog T zdT [.d (dPM p),.d (.int .i64 a)] [] (.d (dUI (zbF p a))) []:=by
 refine zd zp zlx (by show 2≤83;decide) ?_
 (repeat' ((conv=>whnf);first|refine vA ?_|((first|refine vD ?_ ?_|refine vF ?_ ?_)<;>intro hc<;>try simp only [vL] at hc)|refine vJ fun hg=>?_|refine vT ?_|refine yD (zbD _ hp) ⟨⟨rfl,rfl⟩,rfl⟩ rfl ?_));all_goals try conv=>whnf
 ·rw [zbF,if_pos hc];rfl
 ·rw [zbF,if_neg (by omega),if_pos (.inl hc)];rfl
 ·rw [zbF,if_neg (by omega),if_pos (.inr hc)];rfl
 have hg:=zM ‹zm p=0›
 have hw1:=hg.w1
 have hw2:=hg.w2
 have hrow:=zgo (l:=p.cell) (i:=a.toNat) (by omega)
 have hrank:=zgo (l:=p.rank) (i:=a.toNat) (by have:=hg.len;omega)
 obtain ⟨hl1,hl2⟩:=hg.lens a.toNat (by omega)
 have hlr:=hg.len
 refine zt (fun ((k,xs):Nat×List D)=>[(1,.d (.int .i64 (a))),(2,.ptr 0 0),(7,.own 1),(8,.d (.int .i64 ((k:Int))))]) (fun ((k,xs):Nat×List D)=>[(0,some (zaC p)),(1,some (.row 1 xs))]) 2 (fun ((k,xs):Nat×List D)=>k≤p.W.toNat∧xs=(List.range k).map fun u=>D.u64 (zaV (zb p.cell a.toNat) (zb p.rank a.toNat) u p.W.toNat)) (fun ((k,xs):Nat×List D)=>p.W.toNat - k) ((0,[])) [(0,0)]   [1] (⟨by simp,rfl⟩) (by (refine ⟨rfl,rfl,rfl,?_,?_⟩;repeat' first|exact trivial|exact rfl|exact ⟨_,rfl⟩|refine And.intro ?_ ?_|refine ⟨_,rfl,?_⟩|decide)) ?_
 rintro ⟨k,_⟩ ⟨hk,rfl⟩
 (repeat' ((conv=>whnf);first|refine vA ?_|(refine vF ?_ ?_<;>intro hc<;>try simp only [vL] at hc)|refine vT ?_));all_goals try conv=>whnf
 ·refine zt (fun ((j,s):Nat×BitVec 64)=>[(1,.d (.int .i64 (a))),(2,.ptr 0 0),(7,.own 1),(8,.d (.int .i64 ((k:Int)))),(9,.d (.u64 (s))),(10,.d (.int .i64 ((j:Int))))]) (fun ((j,s):Nat×BitVec 64)=>[(0,some (zaC p)),(1,some (.row 1 ((List.range k).map fun u=>D.u64 (zaV (zb p.cell a.toNat) (zb p.rank a.toNat) u p.W.toNat))))]) 2 (fun ((j,s):Nat×BitVec 64)=>j≤p.W.toNat∧s=zaV (zb p.cell a.toNat) (zb p.rank a.toNat) k j) (fun ((j,s):Nat×BitVec 64)=>p.W.toNat - j) ((0,0#64)) [(0,0),(1,1)] [] (⟨by simp,rfl⟩) (by (refine ⟨rfl,rfl,rfl,?_,?_⟩;repeat' first|exact trivial|exact rfl|refine And.intro ?_ ?_|refine ⟨_,rfl,?_⟩|decide)) ?_
  rintro ⟨j,s⟩ ⟨hj,hs⟩
  (repeat' ((conv=>whnf);first|refine vA ?_|(refine vF ?_ ?_<;>intro hc<;>try simp only [vL] at hc)|refine vT ?_|(refine vQ ?_ fun x hx=>?_;·omega)|((first|refine vO ?_ ?_|refine vR ?_ ‹_› ?_|refine vP ?_ ?_);·first|omega|(simp only [vM] at *;omega))|(refine vU ?_ ?_;·kernel_rfl)|fail));all_goals try conv=>whnf
  ·have h1:=zq ‹(zb p.cell a.toNat)[j]? = some _›
   have h2:=zq ‹(zb p.cell a.toNat)[k]? = some _›
   have h3:=zq ‹(zb p.rank a.toNat)[j]? = some _›
   have h4:=zq ‹(zb p.rank a.toNat)[k]? = some _›
   refine ⟨(j+1,_),[(0,0),(1,1)],[],?_,?_,by (refine ⟨rfl,rfl,rfl,?_,?_⟩;repeat' first|exact trivial|exact rfl|refine And.intro ?_ ?_|refine ⟨_,rfl,?_⟩|decide)⟩
   ·refine ⟨by (omega),?_⟩
    have e0:(at0 (zb p.cell a.toNat) j==at0 (zb p.cell a.toNat) k&&decide (at0 (zb p.rank a.toNat) j≤at0 (zb p.rank a.toNat) k))=true:=by
     simp only [Bool.and_eq_true,beq_iff_eq,decide_eq_true_eq];omega
    rw [hs,ztv (by omega)]
    simp only [zaV,zQ,e0,if_true]
    rfl
   ·((simp only [vM] at *;omega))
  ·have h1:=zq ‹(zb p.cell a.toNat)[j]? = some _›
   have h2:=zq ‹(zb p.cell a.toNat)[k]? = some _›
   have h3:=zq ‹(zb p.rank a.toNat)[j]? = some _›
   have h4:=zq ‹(zb p.rank a.toNat)[k]? = some _›
   have e0:(at0 (zb p.cell a.toNat) j==at0 (zb p.cell a.toNat) k&&decide (at0 (zb p.rank a.toNat) j≤at0 (zb p.rank a.toNat) k))=false:=by
    rw [Bool.and_eq_false_iff];right;rw [decide_eq_false_iff_not];omega
   exact ⟨(j+1,s),[(0,0),(1,1)],[],⟨by (omega),by rw [hs];simp only [zaV,zQ,e0,Bool.false_eq_true,if_false]⟩,by ((simp only [vM] at *;omega)),by (refine ⟨rfl,rfl,rfl,?_,?_⟩;repeat' first|exact trivial|exact rfl|refine And.intro ?_ ?_|refine ⟨_,rfl,?_⟩|decide)⟩
  ·have h1:=zq ‹(zb p.cell a.toNat)[j]? = some _›
   have h2:=zq ‹(zb p.cell a.toNat)[k]? = some _›
   have e0:(at0 (zb p.cell a.toNat) j==at0 (zb p.cell a.toNat) k&&decide (at0 (zb p.rank a.toNat) j≤at0 (zb p.rank a.toNat) k))=false:=by
    rw [Bool.and_eq_false_iff];left;rw [beq_eq_false_iff_ne];omega
   exact ⟨(j+1,s),[(0,0),(1,1)],[],⟨by (omega),by rw [hs];simp only [zaV,zQ,e0,Bool.false_eq_true,if_false]⟩,by ((simp only [vM] at *;omega)),by (refine ⟨rfl,rfl,rfl,?_,?_⟩;repeat' first|exact trivial|exact rfl|refine And.intro ?_ ?_|refine ⟨_,rfl,?_⟩|decide)⟩
  ·refine ⟨(k+1,_),[(0,0),(1,3)],[],?_,?_,by (refine ⟨rfl,rfl,rfl,?_,?_⟩;repeat' first|exact trivial|exact rfl|refine And.intro ?_ ?_|refine ⟨_,rfl,?_⟩|decide)⟩
   ·refine ⟨by (omega),?_⟩
    have e0:j=p.W.toNat:=by (omega)
    subst e0
    rw [List.range_succ,List.map_append,hs];rfl
   ·((simp only [vM] at *;omega))
 ·rw [zbF,if_neg (by omega),if_neg (by omega),za8]
  have e0:k=p.W.toNat:=by (omega)
  refine congrArg some (congrArg D.tup (congrArg (fun l=>[D.arr 1 l,D.int .i64 0]) ?_))
  rw [List.map_map,e0];rfl
end Go.Ab
namespace Go.Ab
open Go Go.Proofs
set_option maxRecDepth 10000
set_option maxHeartbeats 4000000
variable {T:Nat→Obj→Prop}
structure KM where
 W:Int
 val:List (BitVec 64)
 rel:List (List (BitVec 64))
 deriving DecidableEq
abbrev dKM (m:KM):D := .agg [.int .i64 m.W,dU m.val,dUU m.rel]
abbrev zmj (m:KM):Ob := .box [.d (.int .i64 m.W),.d (dU m.val),.d (dUU m.rel)]
end Go.Ab
namespace Go.Ab
open Go Go.Proofs
set_option maxRecDepth 10000
set_option maxHeartbeats 4000000
variable {T:Nat→Obj→Prop}
theorem zAp {n:Int} {i:Nat} (h1:0≤n) (hi:i < 64):(zaQ n).getLsbD i=decide ((i:Int) < n):=by
 unfold zaQ
 split
 ·rename_i h
  rw [show ((-1:BitVec 64))=BitVec.allOnes 64 from rfl,BitVec.getLsbD_allOnes]
  simp [hi];omega
 ·rename_i h
  obtain ⟨m,rfl⟩:=Int.eq_ofNat_of_zero_le h1
  have hm:m < 64:=by omega
  rw [show (1#64 <<< (m:Int).toNat - 1#64)=BitVec.setWidth 64 (BitVec.allOnes m) from ?_]
  ·rw [BitVec.getLsbD_setWidth,BitVec.getLsbD_allOnes];simp [hi]
  ·apply BitVec.eq_of_toNat_eq
   have h2:2 ^ m < 2 ^ 64:=Nat.pow_lt_pow_right (by omega) hm
   have h3:0 < 2 ^ m:=Nat.two_pow_pos m
   rw [BitVec.toNat_sub,BitVec.toNat_shiftLeft,BitVec.toNat_setWidth,BitVec.toNat_allOnes]
   simp only [Int.toNat_natCast,Nat.shiftLeft_eq]
   rw [show (1#64).toNat=1 from rfl,Nat.one_mul,Nat.mod_eq_of_lt h2,Nat.mod_eq_of_lt (show 2 ^ m - 1 < 2 ^ 64 by omega)]
   omega
end Go.Ab
namespace Go.Ab
open Go Go.Proofs
set_option maxRecDepth 10000
set_option maxHeartbeats 4000000
variable {T:Nat→Obj→Prop}
def zgI (s:BitVec 64):List Nat:=(List.range 64).filter fun i=>s.getLsbD i
theorem zok {p:Nat→Bool} {k:Nat} (hk:p k=true) (hlow : ∀ i,i < k→p i=false) : ∀ n,k < n→(List.range n).filter p=k::(List.range n).filter fun i=>p i&&i != k
 | 0,h=>by omega
 | n+1,h=>by
  rw [List.range_succ,List.filter_append,List.filter_append]
  by_cases e:k=n
  ·subst e
   have h1:(List.range k).filter p=[]:=by
    rw [List.filter_eq_nil_iff];intro i hi;rw [hlow i (List.mem_range.1 hi)];simp
   have h2:((List.range k).filter fun i=>p i&&i != k)=[]:=by
    rw [List.filter_eq_nil_iff];intro i hi;rw [hlow i (List.mem_range.1 hi)];simp
   rw [h1,h2]
   simp [hk]
  ·rw [zok hk hlow n (by omega)]
   have:(n != k)=true:=by simp;omega
   have:List.filter (fun i=>p i&&i != k) [n]=List.filter p [n]:=by
    simp only [List.filter,this,Bool.and_true]
   rw [this];rfl
theorem zCG (s:BitVec 64) (h:s≠0#64):Lib.ctz 64 s.toNat < 64∧s.getLsbD (Lib.ctz 64 s.toNat)=true∧(∀ i,i < Lib.ctz 64 s.toNat→s.getLsbD i=false) ∧
  ∀ i,(s&&&(s - 1#64)).getLsbD i=(s.getLsbD i&&i != Lib.ctz 64 s.toNat):=by
 have h0:s.toNat≠0:=fun e=>h (BitVec.eq_of_toNat_eq (by simpa using e))
 have hc:Lib.ctz 64 s.toNat=Lib.ctzFrom 64 s.toNat:=by rw [Lib.ctz,if_neg h0]
 rw [hc]
 obtain ⟨m,hm,hlt⟩:=Lib.ctzFrom_spec 64 s.toNat (by omega) s.isLt
 generalize Lib.ctzFrom 64 s.toNat=k at hm hlt
 have hp:0 < 2 ^ k:=Nat.two_pow_pos k
 have hs:s.toNat=2 ^ k * (2 * m+1)+0:=hm
 have hbit : ∀ i,s.getLsbD i=if i < k then false else (2 * m+1).testBit (i - k):=fun i=>by
  rw [BitVec.getLsbD,hs,Nat.testBit_two_pow_mul_add _ hp]
  simp
 have hsub:(s - 1#64).toNat=2 ^ k * (2 * m)+(2 ^ k - 1):=by
  rw [BitVec.toNat_sub]
  have hlt':=s.isLt
  rw [hm] at hlt' ⊢
  rw [show (1#64).toNat=1 from rfl,Nat.mul_add,Nat.mul_one]
  rw [Nat.mul_add,Nat.mul_one] at hlt'
  omega
 have hbit' : ∀ i,(s - 1#64).getLsbD i=if i < k then (2 ^ k - 1).testBit i else (2 * m).testBit (i - k):=fun i=>by
  rw [BitVec.getLsbD,hsub,Nat.testBit_two_pow_mul_add _ (by omega)]
 refine ⟨hlt,?_,fun i hi=>?_,fun i=>?_⟩
 ·rw [hbit,if_neg (by omega),Nat.sub_self,Nat.testBit_zero];simp
 ·rw [hbit,if_pos hi]
 ·rw [BitVec.getLsbD_and,hbit,hbit']
  by_cases h1:i < k
  ·simp [h1]
  ·simp only [h1,if_false]
   by_cases h2:i=k
   ·subst h2;simp [Nat.testBit_zero]
   ·obtain ⟨j,hj⟩ : ∃ j,i - k=j+1:=⟨i - k - 1,by omega⟩
    rw [hj,Nat.testBit_succ,Nat.testBit_succ]
    have e1:(2 * m+1) / 2=m:=by omega
    have e2:2 * m / 2=m:=by omega
    rw [e1,e2]
    simp [h2]
theorem zpO (s:BitVec 64) (h:s≠0#64):zgI s=Lib.ctz 64 s.toNat::zgI (s&&&(s - 1#64)):=by
 obtain ⟨h1,h2,h3,h4⟩:=zCG s h
 rw [zgI,zok h2 h3 64 h1,zgI]
 congr 1
 exact List.filter_congr fun i _=>(h4 i).symm
theorem zv7:zgI 0#64=[]:=by decide
abbrev zmp (s:BitVec 64):List (List D):=(zgI s).map fun (i:Nat)=>[D.int .i64 (i:Int)]
def zqn (T:Nat→Obj→Prop):Prop := ∀ x:BitVec 64,Fn Tryz.prog T zbn [.d (.u64 x)] [] (.d (.int .i64 (Lib.ctz 64 x.toNat))) []
theorem zwt (hT:zqn T) (s:BitVec 64):It Tryz.prog T zb6 [.ptr 0 0] [.box [.d (.u64 s)]] (zmp s):=by
 refine ztd zp znP rfl (by show 2≤14;decide) fun l=>?_
 (repeat' ((conv=>whnf);refine vT ?_));all_goals try conv=>whnf
 refine zt (fun (s':BitVec 64)=>[(0,.yld l),(1,.ptr 0 0)]) (fun (s':BitVec 64)=>[(0,some (.box [.d (.u64 s')])),(1,some (.todo (some (zmp s'))))]) 2 (fun (s':BitVec 64)=>True) (fun (s':BitVec 64)=>(zgI s').length) (s) [(0,0),(1,1)] [] (trivial) (by (refine ⟨rfl,rfl,rfl,?_,?_⟩;repeat' first|exact trivial|exact rfl|refine And.intro ?_ ?_|refine ⟨_,rfl,?_⟩|decide)) ?_
 rintro s' -
 (repeat' ((conv=>whnf);first|refine vA ?_|(refine vD ?_ ?_<;>intro hc)|refine vT ?_|refine yD (hT _) (by (repeat refine ⟨⟨rfl,rfl⟩,?_⟩);rfl) rfl ?_));all_goals try conv=>whnf
 ·have hd:zmp s'=[D.int .i64 (Lib.ctz 64 s'.toNat:Int)]::zmp (s'&&&(s' - 1#64)):=by
   rw [zmp,zpO s' hc];rfl
  refine ⟨rfl,[.int .i64 (Lib.ctz 64 s'.toNat)],zmp (s'&&&(s' - 1#64)),congrArg (fun l=>some (Ob.todo (some l))) hd,rfl,rfl,rfl,?_,?_⟩
  ·(repeat' ((conv=>whnf);first|refine vE ?_|refine vG ?_|refine vT ?_));all_goals try conv=>whnf
   refine ⟨s'&&&(s' - 1#64),[(0,0),(1,1)],[],trivial,?_,⟨rfl,rfl,rfl,by (repeat' first|exact trivial|exact rfl|refine And.intro ?_ ?_|refine ⟨_,rfl,?_⟩),by (repeat' first|exact trivial|exact rfl|refine And.intro ?_ ?_|refine ⟨_,rfl,?_⟩|decide)⟩⟩
   show (zgI (s'&&&(s' - 1#64))).length < (zgI s').length
   rw [zpO s' hc];simp
  ·(repeat' ((conv=>whnf);first|refine vE ?_|refine vH ?_|refine vT ?_));all_goals try conv=>whnf
   right;rfl
 ·left
  have:s'=0#64:=hc
  subst this
  exact congrArg (fun l:List Nat=>some (Ob.todo (some (l.map fun (i:Nat)=>[D.int .i64 (i:Int)])))) zv7
def rb (r:List (BitVec 64)) (w v:Nat):Bool:=(r.getD w 0#64).getLsbD v
theorem zEk {r:List (BitVec 64)} {w:Nat} {s:BitVec 64} (h:r[w]? = some s) (v:Nat):rb r w v=s.getLsbD v:=by simp [rb,List.getD,h]
theorem zDQ {r:List (BitVec 64)} {w v:Nat} (h:r.length≤w):rb r w v=false:=by simp [rb,List.getD,h]
def zju {α:Type} (p:α→Bool) (l:List α):Int:=if l.findIdx p < l.length then (l.findIdx p:Int) else -1
theorem zkz {α:Type} {p:α→Bool} {l:List α} {k:Nat} {x:α} (h:l[k]? = some x) (hp:p x=true) (hI : ∀ i y,i < k→l[i]? = some y→p y=false):zju p l=k:=by
 obtain ⟨hk,rfl⟩:=List.getElem?_eq_some_iff.1 h
 have:l.findIdx p=k:=by
  rw [List.findIdx_eq hk]
  exact ⟨hp,fun j hj=>by simpa using hI j l[j] hj (List.getElem?_eq_getElem (by omega))⟩
 rw [zju,this,if_pos hk]
theorem zjv {α:Type} {p:α→Bool} {l:List α} (hI : ∀ i y,i < l.length→l[i]? = some y→p y=false):zju p l = -1:=by
 rw [zju,if_neg]
 intro h
 have h1:=List.findIdx_getElem (p:=p) (xs:=l) (w:=h)
 rw [hI _ _ h (List.getElem?_eq_getElem h)] at h1;cases h1
theorem zBQ {s:BitVec 64} : s=0#64 ↔ ∀ i,s.getLsbD i=false:=by
 constructor
 ·rintro rfl i;simp
 ·intro h;apply BitVec.eq_of_getLsbD_eq;intro i _;rw [h i];simp
end Go.Ab
namespace Go.Ab
open Go Go.Proofs
set_option maxRecDepth 10000
set_option maxHeartbeats 4000000
variable {T:Nat→Obj→Prop}
theorem zL.objs {P:Program} {M:Nat→Option Ob} {n f:Nat} {vs lvs:List V} {obs:List Ob} {lv:V} {obs':List (Option Ob)} {K:V→Upd→Nat→Prop} (js:List Nat) (hf:Fn P T f lvs obs lv obs') (ha:VPasses M js [] 20 lvs vs)
  (ho:zbb M js [] obs js) (hnd:nodup js=true) (hsj:zfp js (zY M vs)=true) (hle:js.length≤obs'.length)
  (hK:K (znk js n 20 lv) (zir js [] n obs' false) (obs'.length - js.length)):zL (zc4 P T) M n f vs K :=
 ⟨⟨_,_,_,⟨js,[],false,lvs,obs,lv,obs',hf,ha,ho,hnd,by simp [zeN],hsj,by simp [zfp],hle,nofun,rfl,rfl,rfl⟩,hK⟩⟩
section
variable {α:Type} [Inhabited α]
theorem zCa {d:Array α} {i:Nat} (h:i < d.size):d.toList[i]? = some d[i]! := by
 simp [h]
theorem zfS {d:Array α} {i:Nat} {x:α} (h:d.toList[i]? = some x):d[i]! = x∧i < d.size:=by
 obtain ⟨h1,h2⟩:=List.getElem?_eq_some_iff.1 h
 rw [Array.length_toList] at h1
 exact ⟨by simp [h1];simpa using h2,h1⟩
theorem ziE {d:Array α} {i:Int} {x:α} (k:Nat) (h:d.toList[i.toNat]? = some x) (hk:i=k):d.toList[k]? = some x:=by subst hk;exact h
theorem swp_size (d:Array α) (i j:Nat):(Sort.swp d i j).size=d.size:=by simp [Sort.swp]
variable {lt:α→α→Bool}
theorem insInner_size {a:Nat} : ∀ {j:Nat} {d:Array α},(Sort.insInner lt a j d).size=d.size
 | 0,d=>rfl
 | j+1,d=>by
  unfold Sort.insInner
  split
  ·rw [insInner_size,swp_size]
  ·rfl
theorem insOuter_stop {a b i:Nat} {d:Array α} (h : ¬i < b):Sort.insOuter lt a b i d=d:=by rw [Sort.insOuter,if_neg h]
theorem insOuter_step {a b i:Nat} {d:Array α} (h:i < b):Sort.insOuter lt a b i d=Sort.insOuter lt a b (i+1) (Sort.insInner lt a i d):=by rw [Sort.insOuter.eq_def lt a b i,if_pos h]
theorem ztG {hi first root:Nat} {d:Array α} (h:2 * root+1 ≥ hi):Sort.siftDown lt hi first root d=d:=by rw [Sort.siftDown,dif_pos h]
def zjE (lt:α→α→Bool) (hi first root:Nat) (d:Array α):Nat:=if 2 * root+1+1 < hi∧lt d[first+(2 * root+1)]! d[first+(2 * root+1)+1]! = true then 2 * root+2 else 2 * root+1
theorem zC0 {hi first root:Nat} {d:Array α} (h : ¬2 * root+1 ≥ hi):Sort.siftDown lt hi first root d =
  if lt d[first+root]! d[first+zjE lt hi first root d]! = true then Sort.siftDown lt hi first (zjE lt hi first root d) (Sort.swp d (first+root) (first+zjE lt hi first root d)) else d:=by
 rw [Sort.siftDown,dif_neg h,zjE]
 by_cases h1:2 * root+1+1 < hi∧lt d[first+(2 * root+1)]! d[first+(2 * root+1)+1]! = true
 ·rw [if_pos (by simpa using h1),if_pos h1]
  cases hb:lt d[first+root]! d[first+(2 * root+2)]! with
  | false=>simp
  | true=>simp only [Bool.not_true,Bool.false_eq_true,if_false,if_true];rw [dif_pos (by omega)]
 ·rw [if_neg (by simpa using h1),if_neg h1]
  cases hb:lt d[first+root]! d[first+(2 * root+1)]! with
  | false=>simp
  | true=>simp
theorem ztF {hi first:Nat} : ∀ (n root:Nat) (d:Array α),hi - root≤n→(Sort.siftDown lt hi first root d).size=d.size
 | 0,root,d,h=>by rw [ztG (by omega)]
 | n+1,root,d,h=>by
  by_cases h1:2 * root+1 ≥ hi
  ·rw [ztG h1]
  ·rw [zC0 h1]
   split
   ·have:root < zjE lt hi first root d:=by unfold zjE;split<;>omega
    rw [ztF n _ _ (by omega),swp_size]
   ·rfl
theorem siftDown_size {hi first root:Nat} {d:Array α} : (Sort.siftDown lt hi first root d).size=d.size:=ztF _ _ _ (Nat.le_refl _)
theorem build_size {hi first:Nat} : ∀ {k:Nat} {d:Array α},(Sort.heapBuild lt hi first k d).size=d.size
 | 0,d=>rfl
 | k+1,d=>by rw [Sort.heapBuild,build_size,siftDown_size]
end
end Go.Ab
namespace Go.Ab
open Go
def z8 (e:Nat→Nat→Bool) (w:Nat):Nat:=((List.range w).find? fun v=>e v w).getD w
theorem zjJ (e:Nat→Nat→Bool) (w:Nat):(z8 e w < w∧e (z8 e w) w=true∨z8 e w=w) ∧ ∀ v,v < z8 e w→e v w=false:=by
 unfold z8
 cases h:(List.range w).find? fun v=>e v w with
 | none =>
  refine ⟨.inr rfl,fun v hv=>?_⟩
  have:=List.find?_eq_none.1 h v (List.mem_range.2 hv)
  simpa using this
 | some u =>
  obtain ⟨h1,l1,l2,h2,h3⟩:=List.find?_eq_some_iff_append.1 h
  have hu:u∈List.range w:=by rw [h2];simp
  have hlen:l1.length=u:=by
   have h4:(List.range w)[l1.length]? = some u:=by rw [h2];simp
   rw [List.getElem?_range (by
    have:l1.length < (List.range w).length:=by rw [h2];simp
    simpa using this)] at h4
   exact Option.some.inj h4
  refine ⟨.inl ⟨List.mem_range.1 hu,h1⟩,fun v hv=>?_⟩
  have hv:v < u:=hv
  have hm:v∈l1:=by
   have h4:(List.range w)[v]? = some v:=List.getElem?_range (by have:=List.mem_range.1 hu;omega)
   rw [h2,List.getElem?_append_left (by omega)] at h4
   exact List.mem_of_getElem? h4
  simpa using h3 v hm
theorem zx5 (e:Nat→Nat→Bool) (w:Nat):z8 e w≤w:=by
 rcases (zjJ e w).1 with h|h<;>omega
theorem zvw {e:Nat→Nat→Bool} {w v:Nat} (h:v < z8 e w):e v w=false:=(zjJ e w).2 v h
structure Eqv (e:Nat→Nat→Bool):Prop where
 refl : ∀ v,e v v=true
 symm : ∀ v w,e v w=true→e w v=true
 trans : ∀ u v w,e u v=true→e v w=true→e u w=true
section
variable {e:Nat→Nat→Bool} (he:Eqv e)
include he
theorem zsz (w:Nat):e (z8 e w) w=true:=by
 rcases (zjJ e w).1 with h|h
 ·exact h.2
 ·rw [h];exact he.refl w
theorem zlF {v w:Nat} : z8 e v=z8 e w↔e v w=true:=by
 constructor
 ·intro h
  have h1:=zsz he v
  rw [h] at h1
  exact he.trans _ _ _ (he.symm _ _ h1) (zsz he w)
 ·intro h
  have a : ∀ {v w},e v w=true→z8 e w≤z8 e v:=by
   intro v w h
   rcases Nat.lt_or_ge (z8 e v) (z8 e w) with hl|hl
   ·have:=zvw hl
    rw [he.trans _ _ _ (zsz he v) h] at this;cases this
   ·exact hl
  have:=a h;have:=a (he.symm _ _ h);omega
theorem zEg (w:Nat):z8 e (z8 e w)=z8 e w:=(zlF he).2 (zsz he w)
end
theorem zkg {e e':Nat→Nat→Bool} {w:Nat} (h : ∀ v,v≤w→e v w=e' v w):z8 e w=z8 e' w:=by
 have a : ∀ {e e':Nat→Nat→Bool},(∀ v,v≤w→e v w=e' v w)→z8 e w≤z8 e' w:=by
  intro e e' h
  rcases Nat.lt_or_ge (z8 e' w) (z8 e w) with hl|hl
  ·have h1:=zvw hl
   have hle:=zx5 e w
   rcases (zjJ e' w).1 with h2|h2
   ·rw [h _ (by omega),h2.2] at h1;cases h1
   ·omega
  ·exact hl
 have:=a h;have:=a fun v hv=>(h v hv).symm;omega
structure zdE (n:Nat) (q:Nat→Nat):Prop where
 le : ∀ w,w < n→q w≤w
 idem : ∀ w,w < n→q (q w)=q w
theorem zqG {e:Nat→Nat→Bool} (he:Eqv e) (n:Nat):zdE n (z8 e):=⟨fun w _=>zx5 e w,fun w _=>zEg he w⟩
def zfh {α:Type} [DecidableEq α] (k:Nat→α) (v w:Nat):Bool:=decide (k v=k w)
theorem zna {α:Type} [DecidableEq α] (k:Nat→α):Eqv (zfh k) :=
 ⟨fun v=>by simp [zfh],fun v w h=>by simp only [zfh,decide_eq_true_eq] at h ⊢;exact h.symm,fun u v w h h'=>by simp only [zfh,decide_eq_true_eq] at h h' ⊢;exact h.trans h'⟩
theorem zuE {n:Nat} {q:Nat→Nat} (h:zdE n q) {w:Nat} (hw:w < n):z8 (zfh q) w=q w:=by
 have h1:=h.le w hw
 have h2:=h.idem w hw
 have h3:z8 (zfh q) w≤q w:=by
  rcases Nat.lt_or_ge (q w) (z8 (zfh q) w) with hl|hl
  ·have:=zvw hl
   simp [zfh,h2] at this
  ·exact hl
 have h4:=zsz (zna q) w
 simp only [zfh,decide_eq_true_eq] at h4
 have h5:=h.le (z8 (zfh q) w) (by omega)
 omega
def zar (q:Nat→Nat) (s:BitVec 64) (k:Nat):BitVec 64:=(List.range k).foldl (fun o w=>if s.getLsbD w=true then o|||1#64 <<< q w else o) 0#64
theorem zeZ (q:Nat→Nat) (s:BitVec 64) (k:Nat):zar q s (k+1)=if s.getLsbD k=true then zar q s k|||1#64 <<< q k else zar q s k:=by
 unfold zar;rw [List.range_succ,List.foldl_append];rfl
def zaT (n:Nat) (rels:List (Nat→BitVec 64)) (q:Nat→Nat) (v w:Nat):Bool:=decide (q v=q w)&&rels.all fun r=>decide (zar q (r v) n=zar q (r w) n)
theorem zgC (n:Nat) (rels:List (Nat→BitVec 64)) (q:Nat→Nat):Eqv (zaT n rels q):=by
 refine ⟨fun v=>by simp [zaT],fun v w h=>?_,fun u v w h h'=>?_⟩
 ·simp only [zaT,Bool.and_eq_true,decide_eq_true_eq,List.all_eq_true] at h ⊢
  exact ⟨h.1.symm,fun r hr=>(h.2 r hr).symm⟩
 ·simp only [zaT,Bool.and_eq_true,decide_eq_true_eq,List.all_eq_true] at h h' ⊢
  exact ⟨h.1.trans h'.1,fun r hr=>(h.2 r hr).trans (h'.2 r hr)⟩
def zaL (n:Nat) (rels:List (Nat→BitVec 64)) (q:Nat→Nat):Nat→Nat:=z8 (zaT n rels q)
theorem zk2 (n:Nat) (rels:List (Nat→BitVec 64)) (q:Nat→Nat) (m:Nat):zdE m (zaL n rels q):=zqG (zgC n rels q) m
theorem zmh {q q':Nat→Nat} {s:BitVec 64} {n:Nat} (h : ∀ w,w < n→q w=q' w) : ∀ k,k≤n→zar q s k=zar q' s k
 | 0,_=>rfl
 | k+1,hk=>by rw [zeZ,zeZ,zmh h k (by omega),h k (by omega)]
theorem zwC {n:Nat} {rels:List (Nat→BitVec 64)} {q q':Nat→Nat} (h : ∀ w,w < n→q w=q' w) {w:Nat} (hw:w < n):zaL n rels q w=zaL n rels q' w:=by
 refine zkg fun v hv=>?_
 unfold zaT
 rw [h v (by omega),h w hw]
 congr 1
 refine congrArg (fun f=>rels.all f) (funext fun r=>?_)
 rw [zmh h n (Nat.le_refl _),zmh h n (Nat.le_refl _)]
section
variable {n:Nat} {rels:List (Nat→BitVec 64)} {q:Nat→Nat} (hq:zdE n q)
include hq
theorem zjQ {w:Nat} (hw:w < n):q (zaL n rels q w)=q w:=by
 have:=zsz (zgC n rels q) w
 simp only [zaT,Bool.and_eq_true,decide_eq_true_eq] at this
 exact this.1
theorem zz7 {w:Nat} (hw:w < n) (h:q w=w):zaL n rels q w=w:=by
 have h1:=zx5 (zaT n rels q) w
 have h2:=zjQ (rels:=rels) hq hw
 have h3:=hq.le (zaL n rels q w) (by unfold zaL;omega)
 unfold zaL at *;omega
theorem zyr (h : ∀ w,w < n→zaL n rels q w=w→q w=w) {w:Nat} (hw:w < n):zaL n rels q w=q w:=by
 have hc:=zk2 n rels q n
 have h1:=h (zaL n rels q w) (by have:=hc.le w hw;omega) (hc.idem w hw)
 rw [← h1,zjQ hq hw]
end
def zj4 (n:Nat) (q:Nat→Nat):Nat:=((List.range n).filter fun w=>decide (q w=w)).length
theorem zsU {p p':Nat→Bool} (hi : ∀ w,p w=true→p' w=true) : ∀ l:List Nat,(l.filter p).length≤(l.filter p').length∧((∃ w∈l,p w=false∧p' w=true)→(l.filter p).length < (l.filter p').length)
 | []=>⟨Nat.le_refl _,fun ⟨w,h,_⟩=>by cases h⟩
 | x::l=>by
  obtain ⟨h1,h2⟩:=zsU hi l
  cases hp:p x with
  | true =>
   rw [List.filter_cons_of_pos hp,List.filter_cons_of_pos (hi x hp)]
   refine ⟨by simpa using h1,fun ⟨w,hw,h3,h4⟩=>?_⟩
   rcases List.mem_cons.1 hw with rfl|hw
   ·rw [hp] at h3;cases h3
   ·have:=h2 ⟨w,hw,h3,h4⟩;simpa using this
  | false =>
   rw [List.filter_cons_of_neg (by simp [hp])]
   cases hp':p' x with
   | true =>
    rw [List.filter_cons_of_pos hp',List.length_cons]
    exact ⟨by omega,fun _=>by omega⟩
   | false =>
    rw [List.filter_cons_of_neg (by simp [hp'])]
    refine ⟨h1,fun ⟨w,hw,h3,h4⟩=>?_⟩
    rcases List.mem_cons.1 hw with rfl|hw
    ·rw [hp'] at h4;cases h4
    ·exact h2 ⟨w,hw,h3,h4⟩
theorem zwS (n:Nat) (q:Nat→Nat):zj4 n q≤n:=by
 unfold zj4
 have:=List.length_filter_le (fun w=>decide (q w=w)) (List.range n)
 simpa using this
theorem zCg {n:Nat} {rels:List (Nat→BitVec 64)} {q:Nat→Nat} (hq:zdE n q) (h : ∃ w,w < n∧zaL n rels q w≠q w):zj4 n q < zj4 n (zaL n rels q):=by
 unfold zj4
 have e1:(List.range n).filter (fun w=>decide (q w=w))=(List.range n).filter fun w=>decide (w < n∧q w=w):=by
  refine List.filter_congr fun w hw=>?_
  have:=List.mem_range.1 hw
  simp [this]
 have e2:(List.range n).filter (fun w=>decide (zaL n rels q w=w))=(List.range n).filter fun w=>decide (w < n∧zaL n rels q w=w):=by
  refine List.filter_congr fun w hw=>?_
  have:=List.mem_range.1 hw
  simp [this]
 rw [e1,e2]
 refine (zsU (fun w hw=>?_) _).2 ?_
 ·simp only [decide_eq_true_eq] at hw ⊢
  exact ⟨hw.1,zz7 hq hw.1 hw.2⟩
 ·obtain ⟨w,hw,hne⟩:=h
  by_cases hall : ∀ w,w < n→zaL n rels q w=w→q w=w
  ·exact absurd (zyr hq hall hw) hne
  ·simp only [Classical.not_forall] at hall
   obtain ⟨u,hu,h1,h2⟩:=hall
   exact ⟨u,List.mem_range.2 hu,by simp [h2],by simp [hu,h1]⟩
def zbT (n:Nat) (rels:List (Nat→BitVec 64)) (q0:Nat→Nat):Nat→Nat→Nat
 | 0=>q0
 | k+1=>zaL n rels (zbT n rels q0 k)
section
variable {n:Nat} {rels:List (Nat→BitVec 64)} {q0:Nat→Nat} (hq:zdE n q0)
include hq
theorem ziy : ∀ k,zdE n (zbT n rels q0 k)
 | 0=>hq
 | k+1=>zk2 _ _ _ _
theorem zmI {k:Nat} (h : ∀ w,w < n→zbT n rels q0 (k+1) w=zbT n rels q0 k w) : ∀ j,k≤j → ∀ w,w < n→zbT n rels q0 j w=zbT n rels q0 k w:=by
 intro j hj
 induction j with
 | zero=>intro w hw;rw [show k=0 by omega]
 | succ j ih =>
  intro w hw
  by_cases e:k=j+1
  ·rw [e]
  ·have ih:=ih (by omega)
   rw [← h w hw]
   exact zwC ih hw
theorem zmH {k:Nat} (h : ∀ j,j < k → ∃ w,w < n∧zbT n rels q0 (j+1) w≠zbT n rels q0 j w) : ∀ j,j≤k→zj4 n q0+j≤zj4 n (zbT n rels q0 j)
 | 0,_=>Nat.le_refl _
 | j+1,hj=>by
  have h1:=zmH h j (by omega)
  have h2:=zCg (ziy hq j) (h j (by omega))
  show zj4 n q0+(j+1)≤zj4 n (zaL n rels (zbT n rels q0 j))
  omega
theorem zte {j:Nat} (hn:0 < n) (hj:n≤j) {w:Nat} (hw:w < n):zbT n rels q0 j w=zbT n rels q0 n w:=by
 by_cases hall : ∀ i,i < n → ∃ w,w < n∧zbT n rels q0 (i+1) w≠zbT n rels q0 i w
 ·have h1:=zmH hq hall n (Nat.le_refl _)
  have h2:=zwS n (zbT n rels q0 n)
  have h3:0 < zj4 n q0:=by
   unfold zj4
   have h0:q0 0=0:=by have:=hq.le 0 hn;omega
   exact List.length_pos_of_mem (List.mem_filter.2 ⟨List.mem_range.2 hn,by simp [h0]⟩)
  omega
 ·simp only [Classical.not_forall] at hall
  obtain ⟨i,hi,hs⟩:=hall
  have hst : ∀ w,w < n→zbT n rels q0 (i+1) w=zbT n rels q0 i w:=fun w hw=>by
   by_cases e:zbT n rels q0 (i+1) w=zbT n rels q0 i w
   ·exact e
   ·exact absurd ⟨w,hw,e⟩ hs
  rw [zmI hq hst j (by omega) w hw,zmI hq hst n (by omega) w hw]
end
end Go.Ab
namespace Go.Ab
open Go Go.Proofs
set_option maxRecDepth 10000
set_option maxHeartbeats 4000000
variable {T:Nat→Obj→Prop}
def ptL (n:Nat) (q:Nat→Nat):List Int:=(List.range n).map fun w=>((q w:Nat):Int)
theorem zau {n:Nat} {q:Nat→Nat} {w:Nat} (hw:w < n):(ptL n q)[w]? = some ((q w:Nat):Int):=by simp [ptL,hw]
theorem zcc {n:Nat} {q:Nat→Nat} : (ptL n q).length=n:=by simp [ptL]
theorem zd9 {n:Nat} {q q':Nat→Nat} (h : ∀ w,w < n→q w=q' w):ptL n q=ptL n q':=List.map_congr_left fun w hw=>by rw [h w (List.mem_range.1 hw)]
theorem zCR {n:Nat} {q q':Nat→Nat} (h:ptL n q=ptL n q') {w:Nat} (hw:w < n):q w=q' w:=by
 have:=zau (q:=q) hw
 rw [h,zau hw] at this
 have:=Option.some.inj this
 omega
theorem zyW {n:Nat} {q:Nat→Nat} (hq:zdE n q) (hn:n≤64):Fn Tryz.prog T zfN [.d (dI (ptL n q))] [] (.d (.int .i64 0)) []:=by
 have hl:(ptL n q).length=n:=zcc
 refine zd zp zpK (by show 1≤31;decide) ?_
 (repeat' ((conv=>whnf);first|refine vA ?_|(refine vF ?_ ?_<;>intro hc<;>try simp only [vL] at hc)|refine vJ fun hg=>?_|refine vT ?_|refine vX ?_));all_goals try conv=>whnf
 ·omega
 ·refine z1 (fun (k:Nat)=>[(0,.d (dI (ptL n q))),(8,.d (dI (ptL n q))),(9,.d (.int .i64 (((ptL n q).map (D.int .i64)).length:Int))),(10,.d (.int .i64 ((k:Int))))]) (fun (k:Nat)=>k≤n) (fun (k:Nat)=>n - k) (0) (by simp) (by (repeat' first|exact trivial|exact rfl|refine And.intro ?_ ?_)) ?_
  rintro k hk
  by_cases hkl:k < n
  ·have e1:(ptL n q)[k]? = some ((q k:Nat):Int):=zau hkl
   have b1:=hq.le k hkl
   have e2:(ptL n q)[q k]? = some ((q k:Nat):Int):=by rw [zau (by omega),hq.idem k hkl]
   (repeat' ((conv=>whnf);first|refine vA ?_|refine vH ?_|((first|refine vD ?_ ?_|refine vF ?_ ?_)<;>intro hc<;>try simp only [vL] at hc)|refine vT ?_|refine vN ‹_› ?_|(refine vO ?_ ?_;·omega)|refine vX ?_));all_goals try conv=>whnf
   all_goals try omega
   exact ⟨k+1,[],[],by (omega),by (omega),by (refine ⟨rfl,rfl,rfl,?_,?_⟩;repeat' first|exact trivial|exact rfl|refine And.intro ?_ ?_)⟩
  ·(repeat' ((conv=>whnf);first|refine vA ?_|((first|refine vD ?_ ?_|refine vF ?_ ?_)<;>intro hc<;>try simp only [vL] at hc)|refine vT ?_|(refine vQ ?_ fun x hx=>?_;·omega)|((first|refine vO ?_ ?_|refine vS ?_ fun x hx=>?_);·omega)|refine vX ?_));all_goals try conv=>whnf
   all_goals omega
def zch (a b:List Int) (v w:Nat):Bool:=decide (at0 a v=at0 a w∧at0 b v=at0 b w)
abbrev pkD (x y:Int):D := .agg [.int .i64 x,.int .i64 y]
def zdW (a b:List Int) (k:Nat) (x y:Int):Option Nat:=(List.range k).find? fun j=>decide (at0 a j=x∧at0 b j=y)
def znV (a b:List Int) (k:Nat) (es:List (D×D)):Prop := ∀ x y,zy es (pkD x y)=some ((zdW a b k x y).map fun (j:Nat)=>D.int .i64 (j:Int))
theorem zgT (k:D) (l:List (D×D)) : ∀ es:List (D×D),zy es k=some none→zy (es++l) k=zy l k
 | [],_=>rfl
 | (a,v)::r,h=>by
  simp only [zy] at h
  show zy ((a,v)::(r++l)) k=_
  simp only [zy]
  split at h
  ·cases h
  ·exact zgT k l r h
  ·cases h
theorem zpU (k:D) (l:List (D×D)) : ∀ (es:List (D×D)) (x:D),zy es k=some (some x)→zy (es++l) k=some (some x)
 | [],_,h=>by cases h
 | (a,v)::r,x,h=>by
  simp only [zy] at h
  show zy ((a,v)::(r++l)) k=_
  simp only [zy]
  split at h
  ·exact h
  ·exact zpU k l r x h
  ·cases h
theorem zzy (x y x' y':Int):D.eqk (pkD x y) (pkD x' y')=some (decide (x=x')&&(decide (y=y')&&true)):=rfl
theorem zol (a b:List Int) (k:Nat) (x y:Int):zdW a b (k+1) x y=match zdW a b k x y with
  | some j=>some j
  | none=>if at0 a k=x∧at0 b k=y then some k else none:=by
 unfold zdW
 rw [List.range_succ,List.find?_append]
 cases h:(List.range k).find? fun j=>decide (at0 a j=x∧at0 b j=y) with
 | some j=>rfl
 | none =>
  show (none:Option Nat).or _=_
  rw [Option.none_or]
  simp only [List.find?]
  by_cases e:at0 a k=x∧at0 b k=y
  ·rw [if_pos e,decide_eq_true e]
  ·rw [if_neg e,decide_eq_false e]
theorem zwh {a b:List Int} {k j:Nat} {es:List (D×D)} (h:znV a b k es) (hf:zdW a b k (at0 a k) (at0 b k)=some j):znV a b (k+1) es:=by
 intro x y
 rw [h x y,zol]
 cases e:zdW a b k x y with
 | some i=>rfl
 | none =>
  show _=some (Option.map _ (if at0 a k=x∧at0 b k=y then some k else none))
  rw [if_neg]
  rintro ⟨rfl,rfl⟩;rw [hf] at e;cases e
theorem zxM {a b:List Int} {k:Nat} {es:List (D×D)} (h:znV a b k es) (hf:zdW a b k (at0 a k) (at0 b k)=none):znV a b (k+1) (es++[(pkD (at0 a k) (at0 b k),.int .i64 (k:Int))]):=by
 intro x y
 rw [zol]
 cases e:zdW a b k x y with
 | some i=>exact zpU _ _ _ _ (by rw [h x y,e];rfl)
 | none =>
  rw [zgT _ _ _ (by rw [h x y,e];rfl)]
  show _=some (Option.map _ (if at0 a k=x∧at0 b k=y then some k else none))
  simp only [zy,zzy]
  by_cases e1:at0 a k=x∧at0 b k=y
  ·obtain ⟨rfl,rfl⟩:=e1
   simp
  ·rw [if_neg e1]
   by_cases e2:x=at0 a k
   ·have e3 : ¬ y=at0 b k:=fun e3=>e1 ⟨e2.symm,e3.symm⟩
    simp [e2,e3]
   ·simp [e2]
theorem zti (a b:List Int) (k:Nat):z8 (zch a b) k=(zdW a b k (at0 a k) (at0 b k)).getD k:=rfl
theorem zw9 {e:Nat→Nat→Bool} {n k j:Nat} (h:z8 e k=j):(((List.range n).map fun i=>D.int .i64 (if i < k then (z8 e i:Int) else 0)).set k (D.int .i64 (j:Int)))=(List.range n).map fun i=>D.int .i64 (if i < k+1 then (z8 e i:Int) else 0):=by
 refine (zi7 _).trans (zad fun u hu=>?_)
 by_cases e1:u=k
 ·subst e1;rw [if_pos rfl,if_pos (by omega),h]
 ·rw [if_neg e1]
  by_cases e2:u < k
  ·rw [if_pos e2,if_pos (by omega)]
  ·rw [if_neg e2,if_neg (by omega)]
theorem zyU (a b:List Int) (hl:b.length=a.length) (hn:a.length≤64):Fn Tryz.prog T ze5 [.d (dI a),.d (dI b)] [] (.d (dI (ptL a.length (z8 (zch a b))))) []:=by
 refine zd zp zoA (by show 2≤48;decide) ?_
 (repeat' ((conv=>whnf);first|refine vA ?_|refine vJ fun hg=>?_|refine vT ?_|(refine vP ?_ ?_;·(simp only [vM] at *;omega))|fail));all_goals try conv=>whnf
 refine zt (fun ((k,es,zs):Nat×List (D×D)×List D)=>[(0,.d (dI a)),(1,.d (dI b)),(5,.map 0),(6,.own 1),(16,.d (.int .i64 ((a.map (D.int .i64)).length:Int))),(17,.d (.int .i64 ((k:Int))))]) (fun ((k,es,zs):Nat×List (D×D)×List D)=>[(0,some (.map es)),(1,some (.row 1 zs))]) 2 (fun ((k,es,zs):Nat×List (D×D)×List D)=>k≤a.length∧znV a b k es∧zs=(List.range a.length).map fun i=>D.int .i64 (if i < k then (z8 (zch a b) i:Int) else 0)) (fun ((k,es,zs):Nat×List (D×D)×List D)=>a.length - k) ((0,[],List.replicate (((a.map (D.int .i64)).length:Int)).toNat (D.int .i64 0))) [(0,0),(1,1)] [] (⟨by simp,fun x y=>by simp [zy,zdW],by simp only [Nat.not_lt_zero,if_false];rw [List.length_map,Int.toNat_natCast];exact zbW _ _⟩) (by (refine ⟨rfl,rfl,rfl,?_,?_⟩;repeat' first|exact trivial|exact rfl|refine And.intro ?_ ?_|refine ⟨_,rfl,?_⟩|decide)) ?_
 rintro ⟨k,es,zs⟩ ⟨hk,hM,rfl⟩
 by_cases hkl:k < a.length
 ·obtain ⟨x,e1⟩ : ∃ x,a[k]? = some x:=⟨_,List.getElem?_eq_getElem hkl⟩
  obtain ⟨y,e2⟩ : ∃ y,b[k]? = some y:=⟨_,List.getElem?_eq_getElem (by omega)⟩
  have f1:at0 a k=x:=zq e1
  have f2:at0 b k=y:=zq e2
  cases hf:zdW a b k x y with
  | some j =>
   have hfd:zy es (pkD x y)=some (some (.int .i64 (j:Int))):=by rw [hM x y,hf];rfl
   (repeat' ((conv=>whnf);first|refine vA ?_|refine vE ?_|refine vG ?_|(refine vF ?_ ?_<;>intro hc<;>try simp only [vL] at hc)|refine vT ?_|refine vN ‹_› ?_|((first|refine vO ?_ ?_|refine vP ?_ ?_);·first|omega|(simp only [vM] at *;omega))|(refine vU ?_ ?_;·kernel_rfl)|refine zaj.mk _ ‹_› ?_));all_goals try conv=>whnf
   ·have hlo:z8 (zch a b) k=j:=by rw [zti,f1,f2,hf];rfl
    refine ⟨(k+1,es,_),[(0,0),(1,1)],[],?_,?_,by (refine ⟨rfl,rfl,rfl,?_,?_⟩;repeat' first|exact trivial|exact rfl|refine And.intro ?_ ?_|refine ⟨_,rfl,?_⟩|decide)⟩
    ·exact ⟨by (omega),zwh hM (by rw [f1,f2];exact hf),zw9 hlo⟩
    ·((simp only [vM] at *;omega))
   all_goals omega
  | none =>
   have hfd:zy es (pkD x y)=some none:=by rw [hM x y,hf];rfl
   have hfn:zy (es++[(pkD x y,.int .i64 (k:Int))]) (pkD x y)=some (some (.int .i64 (k:Int))):=by rw [zgT _ _ _ hfd];simp [zy,zzy]
   (repeat' ((conv=>whnf);first|refine vA ?_|(refine vF ?_ ?_<;>intro hc<;>try simp only [vL] at hc)|refine vT ?_|refine vN ‹_› ?_|((first|refine vO ?_ ?_|refine vP ?_ ?_);·first|omega|(simp only [vM] at *;omega))|(refine vU ?_ ?_;·kernel_rfl)|refine zaj.mk _ ‹_› ?_));all_goals try conv=>whnf
   ·have hlo:z8 (zch a b) k=k:=by rw [zti,f1,f2,hf];rfl
    refine ⟨(k+1,_,_),[(0,0),(1,1)],[],?_,?_,by (refine ⟨rfl,rfl,rfl,?_,?_⟩;repeat' first|exact trivial|exact rfl|refine And.intro ?_ ?_|refine ⟨_,rfl,?_⟩|decide)⟩
    ·exact ⟨by (omega),by subst f1 f2;exact zxM hM hf,zw9 hlo⟩
    ·((simp only [vM] at *;omega))
   all_goals omega
 ·(repeat' ((conv=>whnf);first|refine vA ?_|(refine vF ?_ ?_<;>intro hc<;>try simp only [vL] at hc)|refine vT ?_|(refine vQ ?_ fun x hx=>?_;·omega)|(refine vU ?_ ?_;·kernel_rfl)|fail));all_goals try conv=>whnf
  ·omega
  ·have e0:k=a.length:=by omega
   subst e0
   refine congrArg (fun l=>some (D.arr 1 l)) ?_
   unfold ptL
   rw [List.map_map]
   exact zad fun u hu=>by rw [if_pos hu];rfl
theorem zvb {n:Nat} {q:Nat→Nat} (hq:zdE n q) (hn:n≤64) (keys:List Int) (hl:keys.length=n):Fn Tryz.prog T zfO [.d (dI (ptL n q)),.d (dI keys)] [] (.d (.tup [dI (ptL n (z8 (zch (ptL n q) keys))),.int .i64 0])) []:=by
 have hp:=zcc (n:=n) (q:=q)
 have cd:=zyU (T:=T) (ptL n q) keys (by omega) (by omega)
 rw [hp] at cd
 refine zd zp zpL (by show 2≤20;decide) ?_
 (repeat' ((conv=>whnf);first|refine vA ?_|refine vH ?_|(refine vD ?_ ?_<;>intro hc<;>try simp only [vL] at hc)|refine vJ fun hg=>?_|refine vT ?_|refine yD (zyW hq hn) ⟨⟨rfl,rfl⟩,rfl⟩ rfl ?_|refine yN cd ⟨⟨rfl,rfl⟩,⟨rfl,rfl⟩,rfl⟩ ?_));all_goals try conv=>whnf
 ·omega
 ·rfl
end Go.Ab
namespace Go.Ab
open Go Go.Proofs
section
variable {p:PM} {a w:Int} (hat:At p a w)
include hat
theorem ziG {i:Nat} : (zav p a w).getLsbD i=true↔i < p.W.toNat∧at0 (zb p.cell a.toNat) i=at0 (zb p.cell a.toNat) w.toNat:=by
 obtain ⟨-,-,h1,-,h3,-⟩:=hat.rows
 rw [zav,if_pos hat,zhP,zi6]
 simp only [Bool.and_eq_true,decide_eq_true_eq,beq_iff_eq]
 constructor
 ·rintro ⟨⟨-,h4⟩,h5⟩;exact ⟨by omega,h5⟩
 ·rintro ⟨h4,h5⟩;exact ⟨⟨by omega,by omega⟩,h5⟩
theorem zyC {s:BitVec 64} {i:Nat} : (zmg p a w s).getLsbD i=true↔(s.getLsbD i=true∧(zav p a w).getLsbD i=true) ∧ ∀ u,s.getLsbD u=true→(zav p a w).getLsbD u=true→at0 (zb p.rank a.toNat) i≤at0 (zb p.rank a.toNat) u:=by
 obtain ⟨-,-,h1,h2,h3,-⟩:=hat.rows
 have hc : ∀ i,(zhP (zb p.cell a.toNat) w.toNat).getLsbD i=(zav p a w).getLsbD i:=fun i=>by rw [zav,if_pos hat]
 rw [zmg,if_pos hat,zwN,zAt]
 simp only [BitVec.getLsbD_and,Bool.and_eq_true,hc]
 constructor
 ·rintro ⟨h4,h5,h6⟩
  exact ⟨h5,fun u hu hu'=>h6 u (by have:=(ziG hat).1 hu';omega) ⟨hu,hu'⟩⟩
 ·rintro ⟨h4,h5⟩
  exact ⟨by have:=(ziG hat).1 h4.2;omega,h4,fun u _ hu=>h5 u hu.1 hu.2⟩
theorem zqd {i:Nat} (h:(zav p a w).getLsbD i=true):0≤at0 (zb p.rank a.toNat) i:=by
 obtain ⟨-,-,h1,h2,h3,-⟩:=hat.rows
 have hg:=zM hat.ok
 have h4:=(ziG hat).1 h
 have ha:=hat.a0
 have ha':=hat.a1
 exact ((hg.ranked a.toNat (by omega)) i (by omega)).1
end
end Go.Ab
namespace Go.Ab
open Go Go.Proofs
set_option maxRecDepth 10000
set_option maxHeartbeats 4000000
variable {T:Nat→Obj→Prop}
def zdY (p:PM) (a:Int) (s:BitVec 64):BitVec 64:=zQ (fun w=>decide (zav p a w &&& ~~~s=0#64)) p.W.toNat
def zn2 (p:PM) (a:Int) (c s:BitVec 64):BitVec 64:=zQ (fun w=>decide (zmg p a w c &&& ~~~s=0#64)) p.W.toNat
def zeK (p:PM) (a:Int) (s:BitVec 64):BitVec 64:=zQ (fun w=>decide ((zbF p a).1.getD w 0#64 &&& ~~~s=0#64)) p.W.toNat
end Go.Ab
namespace Go.Ab
structure Nd where
 op:Int
 i:Int
 e:Int
 g:Int
 x:Int
 y:Int
 deriving DecidableEq,Inhabited
structure Hd where
 op:Int
 i:Int
 e:Int
 g:Int
 deriving DecidableEq,Inhabited
def Nd.hd (n:Nd):Hd:=⟨n.op,n.i,n.e,n.g⟩
def zaY (op:Int):Bool:=decide (1≤op∧op≤21)
def zK (op:Int):Bool:=decide (4≤op∧op≤21)
def zB (op:Int):Bool:=decide (5≤op∧op≤8∨op=13∨op=14∨op=16∨op=19∨op=21)
def z2 (op:Int):Bool:=decide (op=3)
def zH (op:Int):Bool:=decide (op=9∨op=10∨op=14∨op=15)
def zU (op:Int):Bool:=decide (op=17)
def zO (op:Int):Bool:=decide (11≤op∧op≤13)
def zaH (op:Int):Int :=
 if op=9∨op=10 then 1 else if op=11 then 2 else if op=12 then 4 else if op=13 then 8 else if op=14 then 16 else if op=15 then 32 else if op=16 then 64 else if op=17 then 128 else
 if 18≤op∧op≤21 then 256 else 0
theorem zX {op:Int} (h:zB op=true):zK op=true:=by
 simp only [zK,zB,decide_eq_true_eq] at h ⊢;omega
def zbL (used:Bool) (f at_:Int):Bool:=used&&decide (0≤f)&&decide (f < at_) || !used&&decide (f=0)
def zE (used:Bool) (v lo hi:Int):Bool:=used&&(decide (v < lo)||decide (hi < v))
def zbe (n:Nd) (at_:Int):Int :=
 if zaY n.op=false then 10 else
 if zbL (zK n.op) n.x at_=false∨zbL (zB n.op) n.y at_=false then 3 else
 if (!(z2 n.op||zH n.op||zU n.op)&&decide (n.i≠0)||(!zU n.op&&decide (n.e≠0))||(!zO n.op&&decide (n.g≠0)))=true then 3 else
 if (zE (z2 n.op) n.i 0 7||zE (zH n.op) n.i 0 3||zE (zU n.op) n.i 0 7||zE (zU n.op) n.e 0 7||zE (zO n.op) n.g 1 15)=true then 2 else 0
def ze4:List Nd→Nat→Int
 | [],_=>0
 | n::r,k=>if zbe n k≠0 then zbe n k else ze4 r (k+1)
def zaX (f:List Nd):Int:=if f.length=0 then 3 else if 200 < f.length then 8 else ze4 f 0
def zao (f:List Nd):Prop := ∀ (k:Nat) n,f[k]? = some n→zbe n k=0
theorem zoi : ∀ (f:List Nd) (k:Nat),ze4 f k=0 ↔ ∀ (j:Nat) n,f[j]? = some n→zbe n (k+j:Nat)=0
 | [],k=>by simp [ze4]
 | n::r,k=>by
  unfold ze4
  constructor
  ·intro h
   split at h
   ·contradiction
   ·rename_i h0
    intro j m hj
    cases j with
    | zero=>simp at hj;subst hj;simpa using h0
    | succ j =>
     have:=(zoi r (k+1)).1 h j m (by simpa using hj)
     rwa [show k+1+j=k+(j+1) by omega] at this
  ·intro h
   have h0:=h 0 n (by simp)
   rw [if_neg (by simpa using h0)]
   refine (zoi r (k+1)).2 fun j m hj=>?_
   have:=h (j+1) m (by simpa using hj)
   rwa [show k+(j+1)=k+1+j by omega] at this
theorem zdN {f:List Nd} : zaX f=0↔0 < f.length∧f.length≤200∧zao f:=by
 unfold zaX zao
 have:=zoi f 0
 simp only [Nat.zero_add] at this
 by_cases h1:f.length=0
 ·rw [if_pos h1];omega
 ·rw [if_neg h1]
  by_cases h2:200 < f.length
  ·rw [if_pos h2];omega
  ·rw [if_neg h2,this]
   exact ⟨fun h=>⟨by omega,by omega,h⟩,fun h=>h.2.2⟩
theorem zlH {n:Nd} {a:Int} (h:zbe n a=0):zaY n.op=true∧(zK n.op=true→0≤n.x∧n.x < a)∧(zK n.op=false→n.x=0)∧(zB n.op=true→0≤n.y∧n.y < a)∧(zB n.op=false→n.y=0) ∧
  (z2 n.op=true→0≤n.i∧n.i≤7)∧(zH n.op=true→0≤n.i∧n.i≤3)∧(zU n.op=true→0≤n.i∧n.i≤7∧0≤n.e∧n.e≤7)∧(zO n.op=true→1≤n.g∧n.g≤15) ∧
  (z2 n.op=false→zH n.op=false→zU n.op=false→n.i=0)∧(zU n.op=false→n.e=0)∧(zO n.op=false→n.g=0):=by
 unfold zbe at h
 split at h
 ·cases h
 ·rename_i h1
  split at h
  ·cases h
  ·rename_i h2
   split at h
   ·cases h
   ·rename_i h3
    split at h
    ·cases h
    ·rename_i h4
     generalize zK n.op=a1 at *
     generalize zB n.op=a2 at *
     generalize z2 n.op=a3 at *
     generalize zH n.op=a4 at *
     generalize zU n.op=a5 at *
     generalize zO n.op=a6 at *
     refine ⟨by simpa using h1,?_⟩
     simp only [zbL,zE] at h2 h3 h4
     cases a1<;>cases a2<;>cases a3<;>cases a4<;>cases a5<;>cases a6<;>simp at h2 h3 h4 ⊢ <;> omega
theorem zCI {n:Nd} {a:Int} (h:zaY n.op=true∧(zK n.op=true→0≤n.x∧n.x < a)∧(zK n.op=false→n.x=0)∧(zB n.op=true→0≤n.y∧n.y < a)∧(zB n.op=false→n.y=0) ∧
  (z2 n.op=true→0≤n.i∧n.i≤7)∧(zH n.op=true→0≤n.i∧n.i≤3)∧(zU n.op=true→0≤n.i∧n.i≤7∧0≤n.e∧n.e≤7)∧(zO n.op=true→1≤n.g∧n.g≤15) ∧
  (z2 n.op=false→zH n.op=false→zU n.op=false→n.i=0)∧(zU n.op=false→n.e=0)∧(zO n.op=false→n.g=0)):zbe n a=0:=by
 unfold zbe
 generalize zK n.op=a1 at *
 generalize zB n.op=a2 at *
 generalize z2 n.op=a3 at *
 generalize zH n.op=a4 at *
 generalize zU n.op=a5 at *
 generalize zO n.op=a6 at *
 rw [if_neg (by simp [h.1]),if_neg,if_neg,if_neg]
 all_goals
  try simp only [zbL,zE]
  cases a1<;>cases a2<;>cases a3<;>cases a4<;>cases a5<;>cases a6<;>simp at h ⊢ <;> omega
structure FSt where
 out:List Nd
 done:List (Nat×Nat)
def put (l:List Nd) (x:Nd):Nat×List Nd:=match l.idxOf? x with
 | some k=>(k,l)
 | none=>(l.length,l++[x])
def fin (f:List Nd):Nat→Nat→FSt→Nat×FSt
 | 0,_,s=>(0,s)
 | k+1,i,s=>match s.done.lookup i with
  | some r=>(r,s)
  | none =>
   let n:=f.getD i default
   let a:=cond (zK n.op) (fin f k n.x.toNat s) (n.x.toNat,s)
   let b:=cond (zB n.op) (fin f k n.y.toNat a.2) (n.y.toNat,a.2)
   let p:=put b.2.out { n with x:=a.1,y:=b.1 }
   (p.1,⟨p.2,b.2.done++[(i,p.1)]⟩)
def zbl (f:List Nd) (root:Nat):List Nd:=(fin f (root+1) root ⟨[],[]⟩).2.out
inductive Tm where
 | z (h:Hd)
 | u (h:Hd) (x:Tm)
 | b (h:Hd) (x y:Tm)
def tm (f:List Nd):Nat→Nat→Tm
 | 0,_ => .z default
 | k+1,i =>
  let n:=f.getD i default
  cond (zB n.op) (.b n.hd (tm f k n.x.toNat) (tm f k n.y.toNat)) (cond (zK n.op) (.u n.hd (tm f k n.x.toNat)) (.z n.hd))
def zaa (f:List Nd) (i:Nat):Tm:=tm f (i+1) i
theorem zjL {f:List Nd} (hf:zao f) {i:Nat} (hi:i < f.length):zbe (f.getD i default) i=0:=hf i _ (by simp [hi])
theorem zbj {f:List Nd} (hf:zao f) {i:Nat} (hi:i < f.length) (h:zK (f.getD i default).op=true):0≤(f.getD i default).x∧(f.getD i default).x.toNat < i:=by
 have:=(zlH (zjL hf hi)).2.1 h;omega
theorem zd1 {f:List Nd} (hf:zao f) {i:Nat} (hi:i < f.length) (h:zB (f.getD i default).op=true):0≤(f.getD i default).y∧(f.getD i default).y.toNat < i:=by
 have:=(zlH (zjL hf hi)).2.2.2.1 h;omega
theorem zjT {f:List Nd} (hf:zao f) : ∀ (k k' i:Nat),i < f.length→i < k→i < k'→tm f k i=tm f k' i
 | 0,_,_,_,h,_=>by omega
 | _+1,0,_,_,_,h=>by omega
 | k+1,k'+1,i,hi,h1,h2=>by
  unfold tm
  simp only
  cases hy:zB (f.getD i default).op with
  | true =>
   have e1:=zbj hf hi (zX hy)
   have e2:=zd1 hf hi hy
   simp only [cond_true]
   rw [zjT hf k k' _ (by omega) (by omega) (by omega),zjT hf k k' (f.getD i default).y.toNat (by omega) (by omega) (by omega)]
  | false =>
   simp only [cond_false]
   cases hx:zK (f.getD i default).op with
   | true =>
    have e1:=zbj hf hi hx
    simp only [cond_true]
    rw [zjT hf k k' _ (by omega) (by omega) (by omega)]
   | false=>rfl
theorem zfC {f:List Nd} (hf:zao f) {i:Nat} (hi:i < f.length):zaa f i=cond (zB (f.getD i default).op) (.b (f.getD i default).hd (zaa f (f.getD i default).x.toNat) (zaa f (f.getD i default).y.toNat)) (cond (zK (f.getD i default).op) (.u (f.getD i default).hd (zaa f (f.getD i default).x.toNat)) (.z (f.getD i default).hd)):=by
 unfold zaa
 rw [tm]
 try simp only
 cases hy:zB (f.getD i default).op with
 | true =>
  have e1:=zbj hf hi (zX hy)
  have e2:=zd1 hf hi hy
  simp only [cond_true]
  rw [zjT hf i _ _ (by omega) (by omega) (Nat.lt_succ_self _),zjT hf i _ (f.getD i default).y.toNat (by omega) (by omega) (Nat.lt_succ_self _)]
 | false =>
  simp only [cond_false]
  cases hx:zK (f.getD i default).op with
  | true =>
   have e1:=zbj hf hi hx
   simp only [cond_true]
   rw [zjT hf i _ _ (by omega) (by omega) (Nat.lt_succ_self _)]
  | false=>rfl
theorem zkN {f g:List Nd} (hf:zao f) : ∀ (k i:Nat),i < f.length→tm (f++g) k i=tm f k i
 | 0,_,_=>rfl
 | k+1,i,hi=>by
  unfold tm
  simp only
  have e:(f++g).getD i default=f.getD i default:=by simp [List.getD,List.getElem?_append_left hi]
  rw [e]
  cases hy:zB (f.getD i default).op with
  | true =>
   have e1:=zbj hf hi (zX hy)
   have e2:=zd1 hf hi hy
   simp only [cond_true]
   rw [zkN hf k _ (by omega),zkN hf k (f.getD i default).y.toNat (by omega)]
  | false =>
   simp only [cond_false]
   cases hx:zK (f.getD i default).op with
   | true =>
    have e1:=zbj hf hi hx
    simp only [cond_true]
    rw [zkN hf k _ (by omega)]
   | false=>rfl
theorem zay {f g:List Nd} (hf:zao f) {i:Nat} (hi:i < f.length):zaa (f++g) i=zaa f i:=zkN hf _ _ hi
def Tm.all (p:Hd→Prop):Tm→Prop
 | .z h=>p h
 | .u h x=>p h∧x.all p
 | .b h x y=>p h∧x.all p∧y.all p
def Tm.size:Tm→Nat
 | .z _=>1
 | .u _ x=>x.size+1
 | .b _ x y=>x.size+y.size+1
structure zdn (h:Hd):Prop where
 op:zaY h.op=true
 fact:z2 h.op=true→0≤h.i∧h.i≤7
 agent:zH h.op=true→0≤h.i∧h.i≤3
 event:zU h.op=true→0≤h.i∧h.i≤7∧0≤h.e∧h.e≤7
 group:zO h.op=true→1≤h.g∧h.g≤15
 i0:z2 h.op=false→zH h.op=false→zU h.op=false→h.i=0
 e0:zU h.op=false→h.e=0
 g0:zO h.op=false→h.g=0
theorem zaF {n:Nd} {a:Int} : zbe n a=0↔zdn n.hd∧(zK n.op=true→0≤n.x∧n.x < a)∧(zK n.op=false→n.x=0)∧(zB n.op=true→0≤n.y∧n.y < a)∧(zB n.op=false→n.y=0):=by
 constructor
 ·intro h
  obtain ⟨h1,h2,h3,h4,h5,h6,h7,h8,h9,h10,h11,h12⟩:=zlH h
  exact ⟨⟨h1,h6,h7,h8,h9,h10,h11,h12⟩,h2,h3,h4,h5⟩
 ·rintro ⟨⟨h1,h6,h7,h8,h9,h10,h11,h12⟩,h2,h3,h4,h5⟩
  exact zCI ⟨h1,h2,h3,h4,h5,h6,h7,h8,h9,h10,h11,h12⟩
def Tm.ok:Tm→Prop
 | .z h=>zdn h∧zK h.op=false∧zB h.op=false
 | .u h x=>zdn h∧zK h.op=true∧zB h.op=false∧x.ok
 | .b h x y=>zdn h∧zK h.op=true∧zB h.op=true∧x.ok∧y.ok
theorem zjS {f:List Nd} (hf:zao f) : ∀ (n i:Nat),i < n→i < f.length→(zaa f i).ok
 | 0,_,h,_=>by omega
 | n+1,i,h,hi=>by
  rw [zfC hf hi]
  have h0:=(zaF.1 (zjL hf hi)).1
  cases hy:zB (f.getD i default).op with
  | true =>
   have e1:=zbj hf hi (zX hy)
   have e2:=zd1 hf hi hy
   exact ⟨h0,zX hy,hy,zjS hf n _ (by omega) (by omega),zjS hf n _ (by omega) (by omega)⟩
  | false =>
   cases hx:zK (f.getD i default).op with
   | true =>
    have e1:=zbj hf hi hx
    exact ⟨h0,hx,hy,zjS hf n _ (by omega) (by omega)⟩
   | false=>exact ⟨h0,hx,hy⟩
def nd (h:Hd) (x y:Nat):Nd:=⟨h.op,h.i,h.e,h.g,x,y⟩
def zc:Tm→List Nd→Nat×List Nd
 | .z h,l=>put l (nd h 0 0)
 | .u h x,l=>put (zc x l).2 (nd h (zc x l).1 0)
 | .b h x y,l=>put (zc y (zc x l).2).2 (nd h (zc x l).1 (zc y (zc x l).2).1)
theorem zan {l:List Nd} {x:Nd} {k:Nat} (h:l.idxOf? x=some k):put l x=(k,l):=by unfold put;rw [h]
theorem zbt {l:List Nd} {x:Nd} (h:l.idxOf? x=none):put l x=(l.length,l++[x]):=by unfold put;rw [h]
theorem zmE {l m:List Nd} {x:Nd} {k:Nat} (h:l.idxOf? x=some k):(l++m).idxOf? x=some k:=by
 simp only [List.idxOf?] at h ⊢
 rw [List.findIdx?_append,h];rfl
theorem zso {l:List Nd} {x:Nd} {k:Nat} (h:l.idxOf? x=some k):l[k]? = some x:=by
 simp only [List.idxOf?] at h
 obtain ⟨h1,h2,h3⟩:=List.findIdx?_eq_some_iff_getElem.1 h
 simp at h2
 simp [h1,h2]
theorem zAW {l:List Nd} {x:Nd} (h:l.idxOf? x=none):(l++[x]).idxOf? x=some l.length:=by
 simp only [List.idxOf?] at h ⊢
 rw [List.findIdx?_append,h]
 simp
theorem zbh (l:List Nd) (x:Nd):(∃ m,(put l x).2=l++m)∧(put l x).2.idxOf? x=some (put l x).1:=by
 cases h:l.idxOf? x with
 | some k=>rw [zan h];exact ⟨⟨[],by simp⟩,h⟩
 | none=>rw [zbt h];exact ⟨⟨[x],rfl⟩,zAW h⟩
theorem zca : ∀ (t:Tm) (l:List Nd),∃ m,(zc t l).2=l++m
 | .z h,l=>(zbh _ _).1
 | .u h x,l=>by
  obtain ⟨m,hm⟩:=zca x l
  obtain ⟨m',hm'⟩:=(zbh (zc x l).2 (nd h (zc x l).1 0)).1
  exact ⟨m++m',by rw [zc,hm',hm,List.append_assoc]⟩
 | .b h x y,l=>by
  obtain ⟨m,hm⟩:=zca x l
  obtain ⟨m2,hm2⟩:=zca y (zc x l).2
  obtain ⟨m',hm'⟩:=(zbh (zc y (zc x l).2).2 (nd h (zc x l).1 (zc y (zc x l).2).1)).1
  exact ⟨m++m2++m',by rw [zc,hm',hm2,hm,List.append_assoc,List.append_assoc,List.append_assoc]⟩
def zcJ (t:Tm) (l:List Nd) (r:Nat):Prop:=zc t l=(r,l)
theorem zcJ.mono : ∀ {t:Tm} {l:List Nd} {r:Nat} (m:List Nd),zcJ t l r→zcJ t (l++m) r
 | .z h,l,r,m,hh=>by
  unfold zcJ zc at *
  cases hi:l.idxOf? (nd h 0 0) with
  | some k=>rw [zan hi] at hh;cases hh;rw [zan (zmE hi)]
  | none=>rw [zbt hi] at hh;have:=congrArg (fun p=>p.2.length) hh;simp at this
 | .u h x,l,r,m,hh=>by
  unfold zcJ at *
  obtain ⟨a,ha⟩:=zca x l
  obtain ⟨b,hb⟩:=(zbh (zc x l).2 (nd h (zc x l).1 0)).1
  have e:a=[]∧b=[]:=by
   have:(zc (.u h x) l).2=l++a++b:=by rw [zc,hb,ha]
   rw [hh] at this
   have:=congrArg List.length this
   simp only [List.length_append] at this
   exact ⟨List.length_eq_zero_iff.1 (by omega),List.length_eq_zero_iff.1 (by omega)⟩
  obtain ⟨rfl,rfl⟩:=e
  rw [List.append_nil] at ha
  have hx:zcJ x l (zc x l).1:=Prod.ext rfl ha
  have hx':=zcJ.mono m hx
  unfold zcJ at hx'
  rw [zc,ha] at hh
  rw [zc,hx']
  cases hi:l.idxOf? (nd h (zc x l).1 0) with
  | some k=>rw [zan hi] at hh;cases hh;exact zan (zmE hi)
  | none=>rw [zbt hi] at hh;have:=congrArg (fun p=>p.2.length) hh;simp at this
 | .b h x y,l,r,m,hh=>by
  unfold zcJ at *
  obtain ⟨a,ha⟩:=zca x l
  obtain ⟨c,hc⟩:=zca y (zc x l).2
  obtain ⟨b,hb⟩:=(zbh (zc y (zc x l).2).2 (nd h (zc x l).1 (zc y (zc x l).2).1)).1
  have e:a=[]∧c=[]∧b=[]:=by
   have:(zc (.b h x y) l).2=l++a++c++b:=by rw [zc,hb,hc,ha]
   rw [hh] at this
   have:=congrArg List.length this
   simp only [List.length_append] at this
   exact ⟨List.length_eq_zero_iff.1 (by omega),List.length_eq_zero_iff.1 (by omega),List.length_eq_zero_iff.1 (by omega)⟩
  obtain ⟨rfl,rfl,rfl⟩:=e
  rw [List.append_nil] at ha hc
  rw [ha] at hc
  have hx:zcJ x l (zc x l).1:=Prod.ext rfl ha
  have hy:zcJ y l (zc y l).1:=Prod.ext rfl hc
  have hx':=zcJ.mono m hx
  have hy':=zcJ.mono m hy
  unfold zcJ at hx' hy'
  rw [zc,ha,hc] at hh
  rw [zc,hx']
  simp only
  rw [hy']
  cases hi:l.idxOf? (nd h (zc x l).1 (zc y l).1) with
  | some k=>rw [zan hi] at hh;cases hh;exact zan (zmE hi)
  | none=>rw [zbt hi] at hh;have:=congrArg (fun p=>p.2.length) hh;simp at this
theorem zgc : ∀ (t:Tm) (l:List Nd),zcJ t (zc t l).2 (zc t l).1
 | .z h,l=>by
  unfold zcJ zc
  exact zan (zbh _ _).2
 | .u h x,l=>by
  obtain ⟨m,hm⟩:=(zbh (zc x l).2 (nd h (zc x l).1 0)).1
  have h1:=(zgc x l).mono m
  rw [← hm] at h1
  unfold zcJ at *
  rw [zc,zc,h1]
  exact zan (zbh _ _).2
 | .b h x y,l=>by
  obtain ⟨m,hm⟩:=(zbh (zc y (zc x l).2).2 (nd h (zc x l).1 (zc y (zc x l).2).1)).1
  obtain ⟨m2,hm2⟩:=zca y (zc x l).2
  have h1:=((zgc x l).mono m2).mono m
  rw [← hm2] at h1
  have h2:=(zgc y (zc x l).2).mono m
  rw [← hm] at h1 h2
  unfold zcJ at *
  rw [zc,zc,h1]
  simp only
  rw [h2]
  exact zan (zbh _ _).2
theorem zlX (l:List Nd) (x:Nd):(put l x).1 < (put l x).2.length:=by
 have:=zso (zbh l x).2
 exact (List.getElem?_eq_some_iff.1 this).1
theorem zh0 : ∀ (t:Tm) (l:List Nd),(zc t l).1 < (zc t l).2.length
 | .z _,_=>zlX _ _
 | .u _ _,_=>zlX _ _
 | .b _ _ _,_=>zlX _ _
theorem zqQ {l:List Nd} {x:Nd} (hl:zao l) (h:zbe x l.length=0):zao (put l x).2:=by
 cases hi:l.idxOf? x with
 | some k=>rw [zan hi];exact hl
 | none =>
  rw [zbt hi]
  intro k n hk
  simp only [List.getElem?_append] at hk
  split at hk
  ·exact hl k n hk
  ·rename_i h1
   have:k=l.length:=by
    have:=(List.getElem?_eq_some_iff.1 hk).1;simp at this;omega
   subst this
   simp at hk;subst hk;exact h
theorem zqR {l:List Nd} {x:Nd} (hl:zao l) (h:zbe x l.length=0):(put l x).2.getD (put l x).1 default=x:=by
 have:=zso (zbh l x).2
 simp [List.getD,this]
theorem zzm {k:Nat} : ((k:Nat):Int).toNat=k:=by omega
theorem zaM : ∀ (t:Tm) (l:List Nd),t.ok→zao l→zao (zc t l).2∧zaa (zc t l).2 (zc t l).1=t
 | .z h,l,ht,hl=>by
  have hn:zbe (nd h 0 0) l.length=0:=zaF.2 ⟨ht.1,fun e=>by have:=ht.2.1;simp [nd] at e;simp [this] at e,fun _=>rfl,fun e=>by have:=ht.2.2;simp [nd] at e;simp [this] at e,fun _=>rfl⟩
  have h1:=zqQ hl hn
  refine ⟨h1,?_⟩
  have h2:=zfC h1 (zlX l (nd h 0 0))
  rw [zqR hl hn] at h2
  rw [zc,h2]
  simp only [nd,ht.2.1,ht.2.2,cond_false,Nd.hd]
 | .u h x,l,ht,hl=>by
  obtain ⟨a1,a2⟩:=zaM x l ht.2.2.2 hl
  have a3:=zh0 x l
  have hn:zbe (nd h (zc x l).1 0) (zc x l).2.length=0:=zaF.2 ⟨ht.1,fun e=>⟨by simp [nd],by simp only [nd];omega⟩,fun e=>by have:=ht.2.1;simp [nd] at e;simp [this] at e,fun e=>by have:=ht.2.2.1;simp [nd] at e;simp [this] at e,fun _=>rfl⟩
  have h1:=zqQ a1 hn
  refine ⟨h1,?_⟩
  have h2:=zfC h1 (zlX (zc x l).2 (nd h (zc x l).1 0))
  rw [zqR a1 hn] at h2
  obtain ⟨m,hm⟩:=(zbh (zc x l).2 (nd h (zc x l).1 0)).1
  rw [zc,h2]
  simp only [nd,ht.2.1,ht.2.2.1,cond_false,cond_true,Nd.hd,zzm]
  have h3:zaa (put (zc x l).2 (nd h (zc x l).1 0)).2 (zc x l).1=x:=by rw [hm,zay a1 a3,a2]
  simp only [nd] at h3
  rw [h3]
 | .b h x y,l,ht,hl=>by
  obtain ⟨a1,a2⟩:=zaM x l ht.2.2.2.1 hl
  have a3:=zh0 x l
  obtain ⟨b1,b2⟩:=zaM y (zc x l).2 ht.2.2.2.2 a1
  have b3:=zh0 y (zc x l).2
  obtain ⟨m2,hm2⟩:=zca y (zc x l).2
  have hn:zbe (nd h (zc x l).1 (zc y (zc x l).2).1) (zc y (zc x l).2).2.length=0:=zaF.2 ⟨ht.1,fun e=>⟨by simp [nd],by simp only [nd];rw [hm2,List.length_append];omega⟩,
   fun e=>by have:=ht.2.1;simp [nd] at e;simp [this] at e,fun e=>⟨by simp [nd],by simp only [nd];omega⟩,fun e=>by have:=ht.2.2.1;simp [nd] at e;simp [this] at e⟩
  have h1:=zqQ b1 hn
  refine ⟨h1,?_⟩
  have h2:=zfC h1 (zlX (zc y (zc x l).2).2 (nd h (zc x l).1 (zc y (zc x l).2).1))
  rw [zqR b1 hn] at h2
  obtain ⟨m,hm⟩:=(zbh (zc y (zc x l).2).2 (nd h (zc x l).1 (zc y (zc x l).2).1)).1
  rw [zc,h2]
  simp only [nd,ht.2.1,ht.2.2.1,cond_false,cond_true,Nd.hd,zzm]
  have h3:zaa (put (zc y (zc x l).2).2 (nd h (zc x l).1 (zc y (zc x l).2).1)).2 (zc x l).1=x:=by
   rw [hm,zay b1 (by rw [hm2,List.length_append];omega),hm2,zay a1 a3,a2]
  have h4:zaa (put (zc y (zc x l).2).2 (nd h (zc x l).1 (zc y (zc x l).2).1)).2 (zc y (zc x l).2).1=y:=by
   rw [hm,zay b1 b3,b2]
  simp only [nd] at h3 h4
  rw [h3,h4]
theorem zsC (p:Hd→Prop) (l:List Nd) (x:Nd):(∀ n∈(put l x).2,p n.hd)↔(∀ n∈l,p n.hd)∧p x.hd:=by
 cases hi:l.idxOf? x with
 | some k =>
  rw [zan hi]
  have:=List.mem_of_getElem? (zso hi)
  exact ⟨fun h=>⟨h,h x this⟩,fun h=>h.1⟩
 | none =>
  rw [zbt hi]
  simp only [List.mem_append,List.mem_singleton]
  exact ⟨fun h=>⟨fun n hn=>h n (.inl hn),h x (.inr rfl)⟩,fun h n hn=>hn.elim (h.1 n) (fun e=>e▸h.2)⟩
theorem zmw (p:Hd→Prop) : ∀ (t:Tm) (l:List Nd),(∀ n∈(zc t l).2,p n.hd)↔(∀ n∈l,p n.hd)∧t.all p
 | .z h,l=>zsC p l _
 | .u h x,l=>by
  rw [zc,zsC,zmw p x l,Tm.all]
  exact ⟨fun ⟨⟨a,b⟩,c⟩=>⟨a,c,b⟩,fun ⟨a,c,b⟩=>⟨⟨a,b⟩,c⟩⟩
 | .b h x y,l=>by
  rw [zc,zsC,zmw p y _,zmw p x l,Tm.all]
  exact ⟨fun ⟨⟨⟨a,b⟩,d⟩,c⟩=>⟨a,c,b,d⟩,fun ⟨a,c,b,d⟩=>⟨⟨⟨a,b⟩,d⟩,c⟩⟩
theorem zmc : ∀ (t:Tm) (l:List Nd) (r:Nat),t.ok→zao l→l.length≤r→r < (zc t l).2.length→(zaa (zc t l).2 r).size≤t.size∧(r+1 < (zc t l).2.length→(zaa (zc t l).2 r).size < t.size)
 | .z h,l,r,ht,hl,h1,h2=>by
  obtain ⟨o1,o2⟩:=zaM (.z h) l ht hl
  have:(zc (.z h) l).1=r ∧ ¬ r+1 < (zc (.z h) l).2.length:=by
   unfold zc at h2 ⊢
   cases hi:l.idxOf? (nd h 0 0) with
   | some k=>rw [zan hi] at h2;simp at h2;omega
   | none=>rw [zbt hi] at h2 ⊢;simp at h2 ⊢;omega
  rw [← this.1,o2]
  rw [this.1]
  exact ⟨Nat.le_refl _,fun h=>absurd h this.2⟩
 | .u h x,l,r,ht,hl,h1,h2=>by
  obtain ⟨o1,o2⟩:=zaM (.u h x) l ht hl
  obtain ⟨a1,a2⟩:=zaM x l ht.2.2.2 hl
  have ih:=zmc x l r ht.2.2.2 hl h1
  by_cases hr:r < (zc x l).2.length
  ·obtain ⟨m,hm⟩:=(zbh (zc x l).2 (nd h (zc x l).1 0)).1
   have e:zaa (zc (.u h x) l).2 r=zaa (zc x l).2 r:=by rw [zc,hm,zay a1 hr]
   rw [e]
   have:=(ih hr).1
   simp only [Tm.size]
   omega
  ·have:(zc (.u h x) l).1=r ∧ ¬ r+1 < (zc (.u h x) l).2.length:=by
    unfold zc at h2 ⊢
    cases hi:(zc x l).2.idxOf? (nd h (zc x l).1 0) with
    | some k=>rw [zan hi] at h2;simp at h2;omega
    | none=>rw [zbt hi] at h2 ⊢;simp at h2 ⊢;omega
   rw [← this.1,o2,this.1]
   exact ⟨Nat.le_refl _,fun h=>absurd h this.2⟩
 | .b h x y,l,r,ht,hl,h1,h2=>by
  obtain ⟨o1,o2⟩:=zaM (.b h x y) l ht hl
  obtain ⟨a1,a2⟩:=zaM x l ht.2.2.2.1 hl
  obtain ⟨b1,b2⟩:=zaM y (zc x l).2 ht.2.2.2.2 a1
  have ih:=zmc x l r ht.2.2.2.1 hl h1
  obtain ⟨m2,hm2⟩:=zca y (zc x l).2
  obtain ⟨m,hm⟩:=(zbh (zc y (zc x l).2).2 (nd h (zc x l).1 (zc y (zc x l).2).1)).1
  by_cases hr:r < (zc x l).2.length
  ·have e:zaa (zc (.b h x y) l).2 r=zaa (zc x l).2 r:=by
    rw [zc,hm,zay b1 (by rw [hm2,List.length_append];omega),hm2,zay a1 hr]
   rw [e]
   have:=(ih hr).1
   simp only [Tm.size]
   omega
  ·have ih2:=zmc y (zc x l).2 r ht.2.2.2.2 a1 (by omega)
   by_cases hr2:r < (zc y (zc x l).2).2.length
   ·have e:zaa (zc (.b h x y) l).2 r=zaa (zc y (zc x l).2).2 r:=by
     rw [zc,hm,zay b1 hr2]
    rw [e]
    have:=(ih2 hr2).1
    simp only [Tm.size]
    omega
   ·have:(zc (.b h x y) l).1=r ∧ ¬ r+1 < (zc (.b h x y) l).2.length:=by
     unfold zc at h2 ⊢
     cases hi:(zc y (zc x l).2).2.idxOf? (nd h (zc x l).1 (zc y (zc x l).2).1) with
     | some k=>rw [zan hi] at h2;simp at h2;omega
     | none=>rw [zbt hi] at h2 ⊢;simp at h2 ⊢;omega
    rw [← this.1,o2,this.1]
    exact ⟨Nat.le_refl _,fun h=>absurd h this.2⟩
theorem zaZ:zao []:=fun k n h=>by simp at h
theorem zsV {t:Tm} (ht:t.ok):(zc t []).1+1=(zc t []).2.length:=by
 have h1:=zh0 t []
 have h2:=(zaM t [] ht zaZ).2
 by_cases h:(zc t []).1+1 < (zc t []).2.length
 ·have:=(zmc t [] (zc t []).1 ht zaZ (by simp) h1).2 h
  rw [h2] at this;omega
 ·omega
end Go.Ab
namespace Go.Ab
structure zkO (f:List Nd) (s:FSt):Prop where
 has : ∀ i r,s.done.lookup i=some r→zcJ (zaa f i) s.out r
 rng : ∀ p∈s.done,p.1 < f.length
 keys:(s.done.map Prod.fst).Nodup
 len:s.out.length≤s.done.length
theorem zwx {d:List (Nat×Nat)} {i:Nat} (h : ∀ p∈d,p.1≠i):d.lookup i=none:=by
 induction d with
 | nil=>rfl
 | cons p d ih =>
  obtain ⟨a,b⟩:=p
  have h0:=h (a,b) (by simp)
  have:(i==a)=false:=by simpa using fun e=>h0 e.symm
  simp only [List.lookup,this]
  exact ih fun q hq=>h q (by simp [hq])
theorem zrL {d:List (Nat×Nat)} {i:Nat} (h:d.lookup i=none) : ∀ p∈d,p.1≠i:=by
 induction d with
 | nil=>simp
 | cons p d ih =>
  obtain ⟨a,b⟩:=p
  simp only [List.lookup] at h
  split at h
  ·cases h
  ·rename_i e
   intro q hq
   rcases List.mem_cons.1 hq with rfl|hq
   ·intro h';subst h';simp at e
   ·exact ih h q hq
theorem lookup_append {d:List (Nat×Nat)} {i j r q:Nat} (h:(d++[(i,r)]).lookup j=some q):d.lookup j=some q∨(j=i∧q=r∧d.lookup j=none):=by
 induction d with
 | nil =>
  simp only [List.nil_append,List.lookup] at h
  split at h
  ·rename_i e;simp at e;cases h;exact .inr ⟨e,rfl,rfl⟩
  ·cases h
 | cons p d ih =>
  obtain ⟨a,b⟩:=p
  simp only [List.cons_append,List.lookup] at h ⊢
  split at h
  ·exact .inl h
  ·exact ih h
theorem zka {f:List Nd} (hf:zao f) : ∀ (k i:Nat) (s:FSt),i < k→i < f.length→zkO f s →
  zkO f (fin f k i s).2∧(fin f k i s).1=(zc (zaa f i) s.out).1∧(fin f k i s).2.out=(zc (zaa f i) s.out).2∧(∃ l,(fin f k i s).2.done=s.done++l ∧ ∀ p∈l,p.1≤i)
 | 0,i,s,h,_,_=>by omega
 | k+1,i,s,hk,hi,hs=>by
  unfold fin
  cases hd:s.done.lookup i with
  | some r =>
   have:=hs.has i r hd
   unfold zcJ at this
   refine ⟨hs,?_,?_,[],by simp,by simp⟩
   ·rw [this]
   ·rw [this]
  | none =>
   simp only
   have key : ∀ (a b:Nat) (s2:FSt),zkO f s2→(∃ l,s2.done=s.done++l ∧ ∀ p∈l,p.1 < i)→zc (zaa f i) s.out=put s2.out (nd (f.getD i default).hd a b) →
     (∃ m,s2.out=s.out++m) →
     zkO f ⟨(put s2.out (nd (f.getD i default).hd a b)).2,s2.done++[(i,(put s2.out (nd (f.getD i default).hd a b)).1)]⟩∧(put s2.out (nd (f.getD i default).hd a b)).1=(zc (zaa f i) s.out).1 ∧
     (put s2.out (nd (f.getD i default).hd a b)).2=(zc (zaa f i) s.out).2∧(∃ l,s2.done++[(i,(put s2.out (nd (f.getD i default).hd a b)).1)]=s.done++l ∧ ∀ p∈l,p.1≤i):=by
    intro a b s2 h2 hl hT hm
    obtain ⟨l,hl1,hl2⟩:=hl
    obtain ⟨m,hm⟩:=(zbh s2.out (nd (f.getD i default).hd a b)).1
    have hni : ∀ p∈s2.done,p.1≠i:=by
     intro p hp
     rw [hl1,List.mem_append] at hp
     rcases hp with hp|hp
     ·exact zrL hd p hp
     ·have:=hl2 p hp;omega
    refine ⟨⟨fun j r hj=>?_,fun p hp=>?_,?_,?_⟩,by rw [hT],by rw [hT],l++[(i,(put s2.out (nd (f.getD i default).hd a b)).1)],by rw [hl1,List.append_assoc],fun p hp=>?_⟩
    ·rcases lookup_append hj with h|⟨rfl,rfl,-⟩
     ·have:=(h2.has j r h).mono m
      rw [← hm] at this;exact this
     ·rw [← hT];exact zgc _ _
    ·rcases List.mem_append.1 hp with hp|hp
     ·exact h2.rng p hp
     ·simp at hp;subst hp;exact hi
    ·simp only [List.map_append,List.map_cons,List.map_nil]
     rw [List.nodup_append]
     refine ⟨h2.keys,by simp,fun x hx y hy=>?_⟩
     simp at hy;subst hy
     obtain ⟨p,hp,rfl⟩:=List.mem_map.1 hx
     exact hni p hp
    ·have:=h2.len
     simp only [List.length_append,List.length_cons,List.length_nil]
     cases hx:s2.out.idxOf? (nd (f.getD i default).hd a b) with
     | some k=>rw [zan hx];simp only;omega
     | none=>rw [zbt hx];simp only [List.length_append,List.length_cons,List.length_nil];omega
    ·rcases List.mem_append.1 hp with hp|hp
     ·have:=hl2 p hp;omega
     ·simp at hp;subst hp;exact Nat.le_refl _
   have hT:=zfC hf hi
   have hn:=zaF.1 (zjL hf hi)
   cases hy:zB (f.getD i default).op with
   | true =>
    have hx:=zX hy
    have e1:=zbj hf hi hx
    have e2:=zd1 hf hi hy
    simp only [hy,hx,cond_true] at hT ⊢
    obtain ⟨a1,a2,a3,la,a4,a5⟩:=zka hf k (f.getD i default).x.toNat s (by omega) (by omega) hs
    obtain ⟨b1,b2,b3,lb,b4,b5⟩:=zka hf k (f.getD i default).y.toNat (fin f k (f.getD i default).x.toNat s).2 (by omega) (by omega) a1
    obtain ⟨m1,hm1⟩:=zca (zaa f (f.getD i default).x.toNat) s.out
    obtain ⟨m2,hm2⟩:=zca (zaa f (f.getD i default).y.toNat) (fin f k (f.getD i default).x.toNat s).2.out
    refine key _ _ _ b1 ⟨la++lb,by rw [b4,a4,List.append_assoc],fun p hp=>?_⟩ ?_ ⟨m1++m2,by rw [b3,hm2,a3,hm1,List.append_assoc]⟩
    ·rcases List.mem_append.1 hp with hp|hp
     ·have:=a5 p hp;omega
     ·have:=b5 p hp;omega
    ·rw [hT,zc,b3,b2,a3,a2]
   | false =>
    cases hx:zK (f.getD i default).op with
    | true =>
     have e1:=zbj hf hi hx
     simp only [hy,hx,cond_true,cond_false] at hT ⊢
     obtain ⟨a1,a2,a3,la,a4,a5⟩:=zka hf k (f.getD i default).x.toNat s (by omega) (by omega) hs
     obtain ⟨m1,hm1⟩:=zca (zaa f (f.getD i default).x.toNat) s.out
     have e0:(f.getD i default).y.toNat=0:=by rw [hn.2.2.2.2 hy];rfl
     refine key _ _ _ a1 ⟨la,a4,fun p hp=>by have:=a5 p hp;omega⟩ ?_ ⟨m1,by rw [a3,hm1]⟩
     rw [hT,zc,a2,a3,e0]
    | false =>
     simp only [hy,hx,cond_true,cond_false] at hT ⊢
     have e0:(f.getD i default).y.toNat=0:=by rw [hn.2.2.2.2 hy];rfl
     have e1:(f.getD i default).x.toNat=0:=by rw [hn.2.2.1 hx];rfl
     refine key _ _ _ hs ⟨[],by simp,by simp⟩ ?_ ⟨[],by simp⟩
     rw [hT,zc,e0,e1]
theorem zh1 {f:List Nd} (hf:zao f) : ∀ (k k' i:Nat) (s:FSt),i < k→i < k'→i < f.length→fin f k i s=fin f k' i s
 | 0,_,_,_,h,_,_=>by omega
 | _+1,0,_,_,_,h,_=>by omega
 | k+1,k'+1,i,s,h1,h2,hi=>by
  unfold fin
  cases hd:s.done.lookup i with
  | some r=>rfl
  | none =>
   simp only
   cases hy:zB (f.getD i default).op with
   | true =>
    have hx:=zX hy
    have e1:=zbj hf hi hx
    have e2:=zd1 hf hi hy
    simp only [hx,cond_true]
    rw [zh1 hf k k' (f.getD i default).x.toNat s (by omega) (by omega) (by omega),zh1 hf k k' (f.getD i default).y.toNat _ (by omega) (by omega) (by omega)]
   | false =>
    cases hx:zK (f.getD i default).op with
    | true =>
     have e1:=zbj hf hi hx
     simp only [cond_true,cond_false]
     rw [zh1 hf k k' (f.getD i default).x.toNat s (by omega) (by omega) (by omega)]
    | false=>rfl
theorem zsp (f:List Nd):zkO f ⟨[],[]⟩:=⟨fun i r h=>by simp at h,by simp,by simp,by simp⟩
theorem zs6 {l:List Nat} {n:Nat} (h:l.Nodup) (hn : ∀ x∈l,x < n):l.length≤n:=by
 have h2:l ⊆ List.range n:=fun x hx=>List.mem_range.2 (hn x hx)
 have:=List.Nodup.length_le_of_subset h h2
 simpa using this
structure zpk (t:Tm) (c:List Nd):Prop where
 ok:zao c
 pos:0 < c.length
 tree:zaa c (c.length - 1)=t
 all : ∀ p:Hd→Prop,(∀ n∈c,p n.hd)↔t.all p
theorem zDh {t:Tm} (ht:t.ok):zpk t (zc t []).2:=by
 have h1:=zsV ht
 obtain ⟨h2,h3⟩:=zaM t [] ht zaZ
 refine ⟨h2,by omega,by rw [← h1,Nat.add_sub_cancel];exact h3,fun p=>?_⟩
 rw [zmw p t []];simp
theorem zfU {f:List Nd} (hf:zao f) {i:Nat} (hi:i < f.length):zbl f i=(zc (zaa f i) []).2∧(zbl f i).length≤f.length∧(fin f (i+1) i ⟨[],[]⟩).1+1=(zbl f i).length:=by
 obtain ⟨a1,a2,a3,a4⟩:=zka hf (i+1) i ⟨[],[]⟩ (by omega) hi (zsp f)
 refine ⟨a3,?_,?_⟩
 ·have h1:=a1.len
  have h2:=zs6 a1.keys (n:=f.length) (fun x hx=>by obtain ⟨p,hp,rfl⟩:=List.mem_map.1 hx;exact a1.rng p hp)
  rw [List.length_map] at h2
  unfold zbl;omega
 ·unfold zbl
  rw [a2,a3]
  exact zsV (zjS hf (i+1) i (by omega) hi)
theorem zhQ {f:List Nd} (hf:zao f) {i:Nat} (hi:i < f.length):zpk (zaa f i) (zbl f i):=by
 rw [(zfU hf hi).1];exact zDh (zjS hf (i+1) i (by omega) hi)
def za0 {β:Type} (v:Hd→β→β→β) (d:β):List Nd→List β→List β
 | [],acc=>acc
 | n::r,acc=>za0 v d r (acc++[v n.hd (acc.getD n.x.toNat d) (acc.getD n.y.toNat d)])
def ev {β:Type} (v:Hd→β→β→β) (d:β):Tm→β
 | .z h=>v h d d
 | .u h x=>v h (ev v d x) d
 | .b h x y=>v h (ev v d x) (ev v d y)
structure zxo {β:Type} (v:Hd→β→β→β):Prop where
 x : ∀ h a b c,zK h.op=false→v h a c=v h b c
 y : ∀ h a b c,zB h.op=false→v h c a=v h c b
theorem zqY {β:Type} (v:Hd→β→β→β) (d:β) : ∀ (l:List Nd) (acc:List β),(za0 v d l acc).length=acc.length+l.length
 | [],acc=>by simp [za0]
 | n::r,acc=>by rw [za0,zqY v d r];simp;omega
theorem zxb {β:Type} {v:Hd→β→β→β} {d:β} (hv:zxo v) {f:List Nd} (hf:zao f) : ∀ (l:List Nd) (acc:List β),f.drop acc.length=l→acc.length≤f.length→(∀ i,i < acc.length→acc.getD i d=ev v d (zaa f i)) →
  ∀ i,i < f.length→(za0 v d l acc).getD i d=ev v d (zaa f i)
 | [],acc,h1,h2,h3,i,hi=>by
  have:acc.length=f.length:=by
   have:=congrArg List.length h1;simp at this;omega
  exact h3 i (by omega)
 | n::r,acc,h1,h2,h3,i,hi=>by
  have hlt:acc.length < f.length:=by
   have:=congrArg List.length h1;simp at this;omega
  have hn:f.getD acc.length default=n:=by
   have:=congrArg (fun l=>l[0]?) h1
   simp at this
   simp [List.getD,this]
  rw [za0]
  refine zxb hv hf r _ ?_ (by simp;omega) (fun j hj=>?_) i hi
  ·simp only [List.length_append,List.length_cons,List.length_nil]
   have:=congrArg List.tail h1
   simpa using this
  ·by_cases hj2:j < acc.length
   ·rw [show (acc++[v n.hd (acc.getD n.x.toNat d) (acc.getD n.y.toNat d)]).getD j d=acc.getD j d by simp [List.getD,List.getElem?_append_left hj2]]
    exact h3 j hj2
   ·simp at hj
    have e:j=acc.length:=by omega
    subst e
    rw [show (acc++[v n.hd (acc.getD n.x.toNat d) (acc.getD n.y.toNat d)]).getD acc.length d=v n.hd (acc.getD n.x.toNat d) (acc.getD n.y.toNat d) by simp [List.getD]]
    rw [zfC hf hlt,hn]
    cases hy:zB n.op with
    | true =>
     have hx:=zX hy
     have e1:=zbj hf hlt (by rw [hn];exact hx)
     have e2:=zd1 hf hlt (by rw [hn];exact hy)
     rw [hn] at e1 e2
     simp only [cond_true,ev]
     rw [h3 _ e1.2,h3 _ e2.2]
    | false =>
     cases hx:zK n.op with
     | true =>
      have e1:=zbj hf hlt (by rw [hn];exact hx)
      rw [hn] at e1
      simp only [cond_true,cond_false,ev]
      rw [h3 _ e1.2]
      exact hv.y _ _ _ _ hy
     | false =>
      simp only [cond_false,ev]
      rw [hv.x _ _ d _ hx,hv.y _ _ d _ hy]
theorem ztD {β:Type} {v:Hd→β→β→β} {d:β} (hv:zxo v) {t:Tm} {c:List Nd} (hc:zpk t c):(za0 v d c []).getD (c.length - 1) d=ev v d t:=by
 have hp:=hc.pos
 rw [zxb hv hc.ok c [] (by simp) (by simp) (fun i hi=>by simp at hi) (c.length - 1) (by omega),hc.tree]
end Go.Ab
namespace Go.Ab
open Go Go.Proofs
set_option maxRecDepth 10000
set_option maxHeartbeats 4000000
variable {T:Nat→Obj→Prop}
theorem zP.yes {b:Bool} {p q:Prop} (hb:b=true) (h:p):zP b p q:=⟨fun _=>h,fun e=>by rw [hb] at e;cases e⟩
theorem zP.no {b:Bool} {p q:Prop} (hb:b=false) (h:q):zP b p q:=⟨fun e=>(by rw [hb] at e;cases e),fun _=>h⟩
theorem zP.decY {x:Prop} [Decidable x] {p q:Prop} (hx:x) (h:p):zP (decide x) p q := .yes (decide_eq_true hx) h
theorem zP.decN {x:Prop} [Decidable x] {p q:Prop} (hx : ¬x) (h:q):zP (decide x) p q := .no (decide_eq_false hx) h
abbrev dNd (n:Nd):D := .agg [.int .i64 n.op,.int .i64 n.i,.int .i64 n.e,.int .i64 n.g,.int .i64 n.x,.int .i64 n.y]
abbrev dF (f:List Nd):D := .arr 6 (f.map dNd)
abbrev zDl (op:Int):D := .agg [.bool (zK op),.bool (zB op),.bool (z2 op),.bool (zH op),.bool (zO op),.bool (zU op),.int .i64 (zaH op)]
theorem zwV (op:Int):Fn Tryz.prog T zag [.d (.int .i64 op)] [] (.d (.tup [zDl op,.bool (zaY op)])) []:=by
 by_cases h:1≤op∧op≤21
 ·have:op=1∨op=2∨op=3∨op=4∨op=5∨op=6∨op=7∨op=8∨op=9∨op=10∨op=11∨op=12∨op=13∨op=14∨op=15∨op=16∨op=17∨op=18∨op=19∨op=20∨op=21:=by omega
  clear h
  rcases this with rfl|rfl|rfl|rfl|rfl|rfl|rfl|rfl|rfl|rfl|rfl|rfl|rfl|rfl|rfl|rfl|rfl|rfl|rfl|rfl|rfl
  all_goals refine zd zp zls (by show 1≤55;decide) ?_
  all_goals (repeat' ((conv=>whnf);first|refine zP.decN (by omega) ?_|refine zP.decY (by omega) ?_|refine vA ?_|refine vT ?_));all_goals try conv=>whnf
  all_goals first|rfl|kernel_rfl|skip
 ·refine zd zp zls (by show 1≤55;decide) ?_
  (repeat' ((conv=>whnf);first|refine zP.decN (by omega) ?_|refine vA ?_|refine vT ?_));all_goals try conv=>whnf
  have e1:zaY op=false:=by simp only [zaY,decide_eq_false_iff_not];omega
  have e2:zK op=false:=by simp only [zK,decide_eq_false_iff_not];omega
  have e3:zB op=false:=by simp only [zB,decide_eq_false_iff_not];omega
  have e4:z2 op=false:=by simp only [z2,decide_eq_false_iff_not];omega
  have e5:zH op=false:=by simp only [zH,decide_eq_false_iff_not];omega
  have e6:zO op=false:=by simp only [zO,decide_eq_false_iff_not];omega
  have e7:zU op=false:=by simp only [zU,decide_eq_false_iff_not];omega
  have e8:zaH op=0:=by unfold zaH; (repeat' rw [if_neg (by omega)])
  rw [e1,zDl,e2,e3,e4,e5,e6,e7,e8]
  first|rfl|skip
theorem zxQ (u:Bool) (f a:Int):Fn Tryz.prog T zfM [.d (.bool u),.d (.int .i64 f),.d (.int .i64 a)] [] (.d (.bool (zbL u f a))) []:=by
 refine zd zp zpJ (by show 3≤25;decide) ?_
 (repeat' ((conv=>whnf);first|refine vA ?_|refine vE ?_|((first|refine vF ?_ ?_|refine vI ?_ ?_)<;>intro hc<;>try simp only [vL] at hc)|refine vT ?_|refine vZ ?_));all_goals try conv=>whnf
 all_goals (cases u<;>simp_all [zbL]<;>omega)
theorem zxR (u:Bool) (v lo hi:Int):Fn Tryz.prog T zdO [.d (.bool u),.d (.int .i64 v),.d (.int .i64 lo),.d (.int .i64 hi)] [] (.d (.bool (zE u v lo hi))) []:=by
 refine zd zp zlr (by show 4≤20;decide) ?_
 (repeat' ((conv=>whnf);first|refine vA ?_|((first|refine vF ?_ ?_|refine vI ?_ ?_)<;>intro hc<;>try simp only [vL] at hc)|refine vT ?_|refine vZ ?_));all_goals try conv=>whnf
 all_goals (cases u<;>simp_all [zE]<;>omega)
def zB1 (ok ux uy fa ag ev gr:Bool) (n:Nd) (at_:Int):Int :=
 if ok=false then 10 else
 if zbL ux n.x at_=false∨zbL uy n.y at_=false then 3 else
 if (!(fa||ag||ev)&&decide (n.i≠0)||(!ev&&decide (n.e≠0))||(!gr&&decide (n.g≠0)))=true then 3 else
 if (zE fa n.i 0 7||zE ag n.i 0 3||zE ev n.i 0 7||zE ev n.e 0 7||zE gr n.g 1 15)=true then 2 else 0
set_option maxHeartbeats 40000000 in
theorem zwi (ok ux uy fa ag ev gr:Bool) (fr:Int) (n:Nd) (a:Int) (hu:Fn Tryz.prog T zag [.d (.int .i64 n.op)] [] (.d (.tup [.agg [.bool ux,.bool uy,.bool fa,.bool ag,.bool gr,.bool ev,.int .i64 fr],.bool ok])) []) :
  Fn Tryz.prog T zcV [.d (dNd n),.d (.int .i64 a)] [] (.d (.int .i64 (zB1 ok ux uy fa ag ev gr n a))) []:=by
 refine zd zp znN (by show 2≤106;decide) ?_
 (repeat' ((conv=>whnf);first|refine vA ?_|refine vE ?_|((first|refine vD ?_ ?_|refine vI ?_ ?_)<;>intro hc)|refine vT ?_|refine vX ?_|refine yD hu (by (repeat refine ⟨⟨rfl,rfl⟩,?_⟩);rfl) rfl ?_|refine yD (zxQ _ _ _) ⟨⟨rfl,rfl⟩,⟨rfl,rfl⟩,⟨rfl,rfl⟩,rfl⟩ rfl ?_|refine yD (zxR _ _ _ _) (by (repeat refine ⟨⟨rfl,rfl⟩,?_⟩);rfl) rfl ?_));all_goals try conv=>whnf
 all_goals (clear hu;simp_all [zB1])
theorem zop (n:Nd) (a:Int):Fn Tryz.prog T zcV [.d (dNd n),.d (.int .i64 a)] [] (.d (.int .i64 (zbe n a))) []:=by
 exact zwi _ _ _ _ _ _ _ _ n a (zwV n.op)
theorem zs2 (f:List Nd):Fn Tryz.prog T zgO [.d (dF f)] [] (.d (.int .i64 (zaX f))) []:=by
 refine zd zp zrG (by show 1≤26;decide) ?_
 (repeat' ((conv=>whnf);first|refine vA ?_|(refine vF ?_ ?_<;>intro hc<;>try simp only [vL] at hc)|refine vJ fun hg=>?_|refine vT ?_|refine vX ?_));all_goals try conv=>whnf
 ·simp_all [zaX]
 ·rw [zaX,if_neg (by omega),if_pos (by omega)]
 ·have h0 : ¬f.length=0:=by omega
  refine z1 (fun (k:Nat)=>[(12,.d (dF f)),(13,.d (.int .i64 ((f.map dNd).length:Int))),(14,.d (.int .i64 ((k:Int))))]) (fun (k:Nat)=>k≤f.length∧zaX f=ze4 (f.drop k) k) (fun (k:Nat)=>f.length - k) (0) (⟨by simp,by rw [zaX,if_neg (by omega),if_neg (by omega)];rfl⟩) (by (repeat' first|exact trivial|exact rfl|refine And.intro ?_ ?_)) ?_
  rintro k ⟨hk,hI⟩
  (repeat' ((conv=>whnf);first|refine vA ?_|((first|refine vD ?_ ?_|refine vF ?_ ?_)<;>intro hc<;>try simp only [vL] at hc)|refine vT ?_|(refine vQ ?_ fun x hx=>?_;·omega)|(refine vO ?_ ?_;·omega)|refine vX ?_|refine yD (zop _ _) ⟨⟨rfl,rfl⟩,⟨rfl,rfl⟩,rfl⟩ rfl ?_));all_goals try conv=>whnf
  ·rw [hI,zap hx,ze4,if_pos hc]
  ·exact ⟨k+1,[],[],⟨by (omega),by rw [hI,zap hx,ze4,if_neg (by simpa using hc)]⟩,by (omega),by (refine ⟨rfl,rfl,rfl,?_,?_⟩;repeat' first|exact trivial|exact rfl|refine And.intro ?_ ?_)⟩
  ·rw [hI,List.drop_eq_nil_of_le (by omega)];rfl
end Go.Ab
namespace Go.Ab
open Go Go.Proofs
set_option maxRecDepth 10000
set_option maxHeartbeats 4000000
variable {T:Nat→Obj→Prop}
abbrev zR (d:List (Nat×Nat)):List (D×D):=d.map fun p=>(D.int .i64 (p.1:Int),D.int .i64 (p.2:Int))
def zaw (l:List Nd) (k:Nat):List (D×D):=match l with
 | []=>[]
 | n::r=>(dNd n,.int .i64 (k:Int))::zaw r (k+1)
theorem zw8 (a b:Nd):D.eqk (dNd a) (dNd b)=some (decide (a=b)):=by
 obtain ⟨a1,a2,a3,a4,a5,a6⟩:=a
 obtain ⟨b1,b2,b3,b4,b5,b6⟩:=b
 show some (decide (a1=b1)&&(decide (a2=b2)&&(decide (a3=b3)&&(decide (a4=b4)&&(decide (a5=b5)&&(decide (a6=b6)&&true))))))=_
 simp only [Nd.mk.injEq,Bool.decide_and,Bool.and_true]
theorem zsX (d:List (Nat×Nat)) (i:Nat):zy (zR d) (.int .i64 (i:Int))=some ((d.lookup i).map fun r=>D.int .i64 (r:Int)):=by
 induction d with
 | nil=>rfl
 | cons p d ih =>
  obtain ⟨a,b⟩:=p
  show (match some (decide ((i:Int)=(a:Int))) with
   | some true=>some (some (D.int .i64 (b:Int)))
   | some false=>zy (zR d) (.int .i64 (i:Int))
   | none=>none)=_
  by_cases h:i=a
  ·subst h;simp [List.lookup]
  ·have h1:decide ((i:Int)=(a:Int))=false:=by simp only [decide_eq_false_iff_not];omega
   have h2:(i==a)=false:=by simpa using h
   rw [h1]
   simp only [List.lookup,h2]
   exact ih
theorem zqz (x:Nd) : ∀ (l:List Nd) (k:Nat),zy (zaw l k) (dNd x)=some ((l.idxOf? x).map fun r=>D.int .i64 ((k+r:Nat):Int))
 | [],k=>rfl
 | n::r,k=>by
  have ih:=zqz x r (k+1)
  show (match D.eqk (dNd x) (dNd n) with
   | some true=>some (some (D.int .i64 (k:Int)))
   | some false=>zy (zaw r (k+1)) (dNd x)
   | none=>none)=_
  rw [zw8]
  by_cases h:x=n
  ·subst h;simp [List.idxOf?,List.findIdx?_cons]
  ·have h2:(n==x)=false:=by simpa using fun e=>h e.symm
   simp only [h,decide_false,ih,List.idxOf?,List.findIdx?_cons,h2]
   cases r.findIdx? (· == x) with
   | none=>rfl
   | some j=>simp;omega
theorem zpR (x:Nd) : ∀ (l:List Nd) (k:Nat),zaw (l++[x]) k=zaw l k++[(dNd x,.int .i64 ((k+l.length:Nat):Int))]
 | [],k=>rfl
 | n::r,k=>by
  show (dNd n,D.int .i64 (k:Int))::zaw (r++[x]) (k+1)=_
  rw [zpR x r (k+1),show k+1+r.length=k+(n::r).length by simp;omega]
  rfl
theorem zdK (x:Nd) (l:List Nd):zaw (l++[x]) 0=zaw l 0++[(dNd x,.int .i64 (((l.map dNd).length:Nat):Int))]:=by
 rw [zpR,List.length_map,Nat.zero_add]
abbrev zbq:V := .fn zn [.ptr 0 0,.ptr 1 0,.ptr 2 0,.ptr 3 0,.ptr 4 0]
abbrev zby (f:List Nd) (out:V) (s:FSt):List Ob:=[.box [.map 5],.box [.d (dF f)],.box [zbq],.box [.map 6],.box [out],.map (zR s.done),.map (zaw s.out 0)]
abbrev zbz (i:Int):List V:=[.d (.int .i64 i),.ptr 0 0,.ptr 1 0,.ptr 2 0,.ptr 3 0,.ptr 4 0]
abbrev zez (f:List Nd) (s:FSt):List (Option Ob):=[some (.box [.map 5]),some (.box [.d (dF f)]),some (.box [zbq]),some (.box [.map 6]),some (.box [.own 8]),some (.map (zR s.done)),some (.map (zaw s.out 0)),none,some (.row 6 (s.out.map dNd))]
abbrev zfW (f:List Nd) (s:FSt):List (Option Ob):=[some (.box [.map 5]),some (.box [.d (dF f)]),some (.box [zbq]),some (.box [.map 6]),some (.box [.own 7]),some (.map (zR s.done)),some (.map (zaw s.out 0)),some (.row 6 (s.out.map dNd))]
theorem zfD {op:Int} {x y:Bool} (hx:zK op=x) (hy:zB op=y):Fn Tryz.prog T zag [.d (.int .i64 op)] [] (.d (.tup [.agg [.bool x,.bool y,.bool (z2 op),.bool (zH op),.bool (zO op),.bool (zU op),.int .i64 (zaH op)],.bool (zaY op)])) []:=by
 subst hx;subst hy
 exact zwV op
theorem zbc (d:List (Nat×Nat)) (i r:Nat):zR (d++[(i,r)])=zR d++[(.int .i64 (i:Int),.int .i64 (r:Int))]:=by simp
theorem zeD {x:Nd} {l:List Nd} {j:Nat} (h:l.idxOf? x=some j):zy (zaw l 0) (dNd x)=some (some (.int .i64 (j:Int))):=by
 rw [zqz,h];simp
theorem zc3 {x:Nd} {l:List Nd} (h:l.idxOf? x=none):zy (zaw l 0) (dNd x)=some none:=by
 rw [zqz,h];rfl
theorem zI {d:List (Nat×Nat)} {i:Nat} (h:d.lookup i=none):zy (zR d) (.int .i64 (i:Int))=some none:=by
 rw [zsX,h];rfl
theorem zrr {f:List Nd} (hf:zao f) {k:Nat} {s:FSt} (hk:k < f.length) (hd:s.done.lookup k=none) (hx:zK (f.getD k default).op=false) (hy:zB (f.getD k default).op=false) :
  fin f (k+1) k s=((put s.out (f.getD k default)).1,⟨(put s.out (f.getD k default)).2,s.done++[(k,(put s.out (f.getD k default)).1)]⟩):=by
 have hn:=zaF.1 (zjL hf hk)
 rw [fin,hd]
 simp only [hx,hy,cond_false]
 have e0:(((f.getD k default).y.toNat:Nat):Int)=(f.getD k default).y:=by rw [hn.2.2.2.2 hy];rfl
 have e1:(((f.getD k default).x.toNat:Nat):Int)=(f.getD k default).x:=by rw [hn.2.2.1 hx];rfl
 rw [e0,e1]
theorem zrs {f:List Nd} (hf:zao f) {k:Nat} {s:FSt} (hk:k < f.length) (hd:s.done.lookup k=none) {n:Nd} (hn:f.getD k default=n) (hx:zK n.op=true) (hy:zB n.op=false) {r:Nat} {s1:FSt} (h1:fin f (n.x.toNat+1) n.x.toNat s=(r,s1)) :
  fin f (k+1) k s=((put s1.out ⟨n.op,n.i,n.e,n.g,(r:Int),n.y⟩).1,⟨(put s1.out ⟨n.op,n.i,n.e,n.g,(r:Int),n.y⟩).2,s1.done++[(k,(put s1.out ⟨n.op,n.i,n.e,n.g,(r:Int),n.y⟩).1)]⟩):=by
 subst hn
 have hn:=zaF.1 (zjL hf hk)
 have e1:=zbj hf hk hx
 rw [fin,hd]
 simp only [hx,hy,cond_false,cond_true]
 rw [zh1 hf k ((f.getD k default).x.toNat+1) _ _ (by omega) (by omega) (by omega),h1]
 have e0:(((f.getD k default).y.toNat:Nat):Int)=(f.getD k default).y:=by rw [hn.2.2.2.2 hy];rfl
 simp only [e0]
theorem zrt {f:List Nd} (hf:zao f) {k:Nat} {s:FSt} (hk:k < f.length) (hd:s.done.lookup k=none) {n:Nd} (hn:f.getD k default=n) (hx:zK n.op=true) (hy:zB n.op=true) {r r2:Nat} {s1 s2:FSt} (h1:fin f (n.x.toNat+1) n.x.toNat s=(r,s1)) (h2:fin f (n.y.toNat+1) n.y.toNat s1=(r2,s2)) :
  fin f (k+1) k s=((put s2.out ⟨n.op,n.i,n.e,n.g,(r:Int),(r2:Int)⟩).1,⟨(put s2.out ⟨n.op,n.i,n.e,n.g,(r:Int),(r2:Int)⟩).2,s2.done++[(k,(put s2.out ⟨n.op,n.i,n.e,n.g,(r:Int),(r2:Int)⟩).1)]⟩):=by
 subst hn
 have e1:=zbj hf hk hx
 have e2:=zd1 hf hk hy
 rw [fin,hd]
 simp only [hx,hy,cond_true]
 rw [zh1 hf k ((f.getD k default).x.toNat+1) (f.getD k default).x.toNat s (by omega) (by omega) (by omega),h1]
 simp only
 rw [zh1 hf k ((f.getD k default).y.toNat+1) (f.getD k default).y.toNat s1 (by omega) (by omega) (by omega),h2]
theorem zdd {f:List Nd} (hf:zao f) {j k:Nat} {s:FSt} (hj:j < k) (hjf:j < f.length) (hs:zkO f s) (hd:s.done.lookup k=none):zkO f (fin f (j+1) j s).2∧(fin f (j+1) j s).2.done.lookup k=none:=by
 obtain ⟨h1,h2,h3,l,h4,h5⟩:=zka hf (j+1) j s (by omega) hjf hs
 refine ⟨h1,?_⟩
 rw [h4]
 exact zwx fun p hp=>by
  rcases List.mem_append.1 hp with hp|hp
  ·exact zrL hd p hp
  ·have:=h5 p hp;omega
theorem zeJ {f:List Nd} {s:FSt} (hs:zkO f s):s.out.length≤f.length:=by
 have h1:=hs.len
 have h2:=zs6 hs.keys (n:=f.length) (fun x hx=>by obtain ⟨p,hp,rfl⟩:=List.mem_map.1 hx;exact hs.rng p hp)
 rw [List.length_map] at h2
 omega
theorem zL.objsE {P:Program} {M:Nat→Option Ob} {n f:Nat} {vs lvs:List V} {obs:List Ob} {y:D} {obs':List (Option Ob)} {K:V→Upd→Nat→Prop} (js:List Nat) (hf:Fn P T f lvs obs (.d y) obs') (ha:VPasses M js [] 20 lvs vs)
  (ho:zbb M js [] obs js) (hnd:nodup js=true) (hsj:zfp js (zY M vs)=true) (hle:js.length≤obs'.length) (u:Upd) (hu:zir js [] n obs' false=u)
  (hK:K (.d y) u (obs'.length - js.length)):zL (zc4 P T) M n f vs K := .objs js hf ha ho hnd hsj hle (by rw [hu];exact hK)
end Go.Ab
namespace Go.Ab
def uni (m:Hd→Nat) (c:List Nd):Nat:=c.foldl (fun s n=>s|||m n.hd) 0
theorem zAb (m:Hd→Nat) : ∀ (c:List Nd) (s:Nat) (i:Nat),(c.foldl (fun s n=>s|||m n.hd) s).testBit i=(s.testBit i||c.any fun n=>(m n.hd).testBit i)
 | [],s,i=>by simp
 | n::r,s,i=>by simp only [List.foldl_cons,zAb m r,Nat.testBit_or,List.any_cons,Bool.or_assoc]
theorem zih (m:Hd→Nat) (c:List Nd) (i:Nat):(uni m c).testBit i=c.any fun n=>(m n.hd).testBit i:=by
 unfold uni;rw [zAb];simp
theorem zkn (m:Hd→Nat) {c:List Nd} {k:Nat} {n:Nd} (h:c[k]? = some n):uni m (c.take (k+1))=uni m (c.take k)|||m n.hd:=by
 unfold uni
 rw [List.take_add_one,h]
 simp
theorem zfq (m:Hd→Nat) {b:Nat} : ∀ {c:List Nd},uni m c < 2 ^ b ↔ ∀ n∈c,m n.hd < 2 ^ b:=by
 intro c
 constructor
 ·intro h n hn
  refine Nat.lt_pow_two_of_testBit _ fun i hi=>?_
  have h1:=Nat.testBit_lt_two_pow (Nat.lt_of_lt_of_le h (Nat.pow_le_pow_right (by omega) hi))
  rw [zih] at h1
  exact Bool.eq_false_iff.2 fun h2=>by
   have:(c.any fun n=>(m n.hd).testBit i)=true:=List.any_eq_true.2 ⟨n,hn,h2⟩
   rw [this] at h1;cases h1
 ·intro h
  refine Nat.lt_pow_two_of_testBit _ fun i hi=>?_
  rw [zih]
  refine List.any_eq_false.2 fun n hn=>?_
  have:=Nat.testBit_lt_two_pow (Nat.lt_of_lt_of_le (h n hn) (Nat.pow_le_pow_right (by omega) hi))
  simp [this]
theorem zrO {k:IntKind} {a:Nat} (h:a < 2 ^ k.bits):(BitVec.ofInt k.bits (a:Int)).toNat=a:=by
 rw [BitVec.toNat_ofInt,Int.emod_eq_of_lt (Int.natCast_nonneg a) (show (a:Int) < ((2 ^ k.bits:Nat):Int) from Int.ofNat_lt.2 h)]
 rfl
theorem zv6 {a:Nat} (h:a < 2 ^ 63):IntKind.wrap .i64 (a:Int)=a:=zv5 ⟨by omega,by omega⟩
theorem zhN {a b:Nat} (ha:a < 2 ^ 63) (hb:b < 2 ^ 63):zbI .i64 (fun p q=>p|||q) (a:Int) (b:Int)=((a|||b:Nat):Int):=by
 unfold zbI
 rw [BitVec.toNat_or,zrO (k := .i64) (by simp [IntKind.bits];omega),zrO (k := .i64) (by simp [IntKind.bits];omega)]
 exact zv6 (Nat.or_lt_two_pow ha hb)
theorem zio {a b:Nat} (ha:a < 2 ^ 63) (hb:b < 2 ^ 63):zbI .i64 (fun p q=>p &&& ~~~q) (a:Int) (b:Int)=0 ↔ ∀ i,a.testBit i=true→b.testBit i=true:=by
 unfold zbI
 have h64 : ∀ {a:Nat},a < 2 ^ 63→a < 2 ^ 64:=fun h=>by omega
 have e:(BitVec.ofInt IntKind.i64.bits (a:Int) &&& ~~~BitVec.ofInt IntKind.i64.bits (b:Int)).toNat < 2 ^ 63:=by
  rw [BitVec.toNat_and,zrO (k := .i64) (h64 ha)]
  exact Nat.lt_of_le_of_lt Nat.and_le_left ha
 rw [zv6 e]
 have e2:(((BitVec.ofInt IntKind.i64.bits (a:Int) &&& ~~~BitVec.ofInt IntKind.i64.bits (b:Int)).toNat:Nat):Int)=0↔(BitVec.ofInt IntKind.i64.bits (a:Int) &&& ~~~BitVec.ofInt IntKind.i64.bits (b:Int))=0#_:=by
  constructor
  ·intro h;exact BitVec.eq_of_toNat_eq (by simpa using (show (BitVec.ofInt IntKind.i64.bits (a:Int) &&& ~~~BitVec.ofInt IntKind.i64.bits (b:Int)).toNat=0 by omega))
  ·intro h;rw [h];simp
 rw [e2]
 have bit : ∀ {c:Nat},c < 2 ^ 63 → ∀ i,(BitVec.ofInt IntKind.i64.bits (c:Int)).getLsbD i=c.testBit i:=fun {c} hc i=>by
  rw [← BitVec.testBit_toNat,zrO (k := .i64) (h64 hc)]
 constructor
 ·intro h i hi
  have h2:=congrArg (fun x=>x.getLsbD i) h
  have hlt:i < 64:=by
   refine Nat.lt_of_not_le fun hle=>?_
   have:=Nat.testBit_lt_two_pow (Nat.lt_of_lt_of_le (h64 ha) (Nat.pow_le_pow_right (by omega) hle))
   rw [this] at hi;cases hi
  simp only [BitVec.getLsbD_and,BitVec.getLsbD_not,bit ha,bit hb,hi,Bool.true_and,BitVec.getLsbD_zero] at h2
  have:decide (i < IntKind.i64.bits)=true:=decide_eq_true hlt
  rw [this] at h2
  simpa using h2
 ·intro h
  apply BitVec.eq_of_getLsbD_eq
  intro i hi
  simp only [BitVec.getLsbD_and,BitVec.getLsbD_not,bit ha,bit hb,BitVec.getLsbD_zero]
  cases ha':a.testBit i with
  | false=>simp
  | true=>simp [h i ha']
theorem zCZ {a n:Nat} : (a:Int).fdiv (2 ^ n)=((a >>> n:Nat):Int):=by
 have e:((2:Int) ^ n)=((2 ^ n:Nat):Int):=by simp
 rw [e,Nat.shiftRight_eq_div_pow,Int.fdiv_eq_ediv_of_nonneg _ (Int.natCast_nonneg _)];rfl
def zai (h:Hd):Nat:=(zaH h.op).toNat
def zbp (h:Hd):Nat:=if z2 h.op=true then 2 ^ h.i.toNat else 0
def zaz (h:Hd):Nat:=if zH h.op=true then 2 ^ h.i.toNat else h.g.toNat
theorem zxY (h:Hd):((zai h:Nat):Int)=zaH h.op:=by
 unfold zai zaH
 repeat' split
 all_goals rfl
theorem zh4 (h:Hd):zai h < 2 ^ 9:=by
 unfold zai zaH
 repeat' split
 all_goals decide
theorem zqw {h:Hd} (hh:zdn h):zbp h < 2 ^ 8:=by
 unfold zbp
 split
 ·rename_i h1
  have:=hh.fact h1
  exact Nat.pow_lt_pow_right (by omega) (by omega)
 ·decide
theorem zn1 {h:Hd} (hh:zdn h):zaz h < 2 ^ 4:=by
 unfold zaz
 split
 ·rename_i h1
  have:=hh.agent h1
  exact Nat.pow_lt_pow_right (by omega) (by omega)
 ·cases hg:zO h.op with
  | true=>have:=hh.group hg;omega
  | false=>have:=hh.g0 hg;omega
end Go.Ab
namespace Go.Ab
open Go Go.Proofs
set_option maxRecDepth 10000
set_option maxHeartbeats 4000000
variable {T:Nat→Obj→Prop}
def zlh (p:PM) (g:Nat) (s:BitVec 64) (k:Nat):BitVec 64:=(List.range k).foldl (fun o (a:Nat)=>if g.testBit a=true then o&&&zdY p (a:Int) s else o) (zaQ p.W)
def zoh (p:PM) (g:Nat) (s:BitVec 64):BitVec 64:=zlh p g s p.cell.length
theorem zwg (p:PM) (g:Nat) (s:BitVec 64) (k:Nat):zlh p g s (k+1)=if g.testBit k=true then zlh p g s k&&&zdY p (k:Int) s else zlh p g s k:=by
 rw [zlh,List.range_succ,List.foldl_append];rfl
end Go.Ab
namespace Go.Ab
open Go Go.Proofs
set_option maxRecDepth 10000
set_option maxHeartbeats 4000000
variable {T:Nat→Obj→Prop}
theorem zjR {x s:BitVec 64} : x &&& ~~~s=0#64 ↔ ∀ i,x.getLsbD i=true→s.getLsbD i=true:=by
 rw [zBQ]
 constructor
 ·intro h i hi
  have h1:=h i
  rw [BitVec.getLsbD_and,BitVec.getLsbD_not,hi,Bool.true_and] at h1
  have:i < 64:=BitVec.lt_of_getLsbD hi
  simpa [this] using h1
 ·intro h i
  rw [BitVec.getLsbD_and,BitVec.getLsbD_not]
  cases hx:x.getLsbD i with
  | false=>simp
  | true=>simp [h i hx]
theorem ziB {x y:BitVec 64} (h : ∀ i,x.getLsbD i=true↔y.getLsbD i=true):x=y :=
 BitVec.eq_of_getLsbD_eq fun i _=>Bool.eq_iff_iff.2 (h i)
theorem zig {n:Nat} (hn:n≤64) {f:Nat→Bool} {w:Nat} : (zQ f n).getLsbD w=true↔w < n∧f w=true:=by
 rw [zi6]
 simp only [Bool.and_eq_true,decide_eq_true_eq]
 exact ⟨fun h=>⟨h.1.2,h.2⟩,fun h=>⟨⟨by omega,h.1⟩,h.2⟩⟩
theorem zhr {n:Nat} (hn:n≤64) {P:Nat→Prop} [DecidablePred P] {w:Nat} : (zQ (fun w=>decide (P w)) n).getLsbD w=true↔w < n∧P w:=by
 rw [zig hn,decide_eq_true_eq]
def InC (p:PM) (a w v:Nat):Prop:=v < p.W.toNat∧at0 (zb p.cell a) v=at0 (zb p.cell a) w
def rkA (p:PM) (a w:Nat):Int:=at0 (zb p.rank a) w
section
variable {p:PM} (hg:zxj p) (hc0:zm p=0)
include hc0
theorem zD7 {a w:Nat} (ha:a < p.cell.length) (hw:w < p.W.toNat):At p a w:=⟨hc0,by omega,by omega,by omega,by omega⟩
theorem W64:p.W.toNat≤64:=by have:=(zM hc0).w2;omega
theorem zc1 {i:Nat} : (zaQ p.W).getLsbD i=true↔i < p.W.toNat:=by
 have h1:=(zM hc0).w1
 have h2:=W64 hc0
 by_cases h:i < 64
 ·rw [zAp (by omega) h,decide_eq_true_eq];omega
 ·exact ⟨fun h'=>absurd (BitVec.lt_of_getLsbD h') h,fun h'=>by omega⟩
theorem zdp {a w i:Nat} (ha:a < p.cell.length) (hw:w < p.W.toNat):(zav p a w).getLsbD i=true↔InC p a w i:=ziG (zD7 hc0 ha hw)
theorem zoN {a:Nat} (ha:a < p.cell.length) {s:BitVec 64} {w:Nat} : (zdY p a s).getLsbD w=true↔w < p.W.toNat ∧ ∀ v,InC p a w v→s.getLsbD v=true:=by
 unfold zdY
 rw [zhr (W64 hc0)]
 refine and_congr_right fun hw=>?_
 rw [zjR]
 exact ⟨fun h v hv=>h v ((zdp hc0 ha hw).2 hv),fun h v hv=>h v ((zdp hc0 ha hw).1 hv)⟩
theorem znr {a:Nat} (ha:a < p.cell.length) {s:BitVec 64} {w:Nat} : (zeK p a s).getLsbD w=true↔w < p.W.toNat ∧ ∀ v,InC p a w v→rkA p a v≤rkA p a w→s.getLsbD v=true:=by
 have e:zbF p a=(za8 p a,0):=by rw [zbF,if_neg (by omega),if_neg (by omega)];rfl
 unfold zeK
 rw [e,zhr (W64 hc0)]
 refine and_congr_right fun hw=>?_
 have hx:(za8 p a).getD w 0#64=zaV (zb p.cell a) (zb p.rank a) w p.W.toNat:=by simp [za8,List.getD,hw]
 rw [zjR,hx]
 have hb : ∀ i,(zaV (zb p.cell a) (zb p.rank a) w p.W.toNat).getLsbD i=true↔InC p a w i∧rkA p a i≤rkA p a w:=fun i=>by
  unfold zaV
  rw [zig (W64 hc0)]
  simp only [Bool.and_eq_true,beq_iff_eq,decide_eq_true_eq]
  exact ⟨fun h=>⟨⟨h.1,h.2.1⟩,h.2.2⟩,fun h=>⟨h.1.1,h.1.2,h.2⟩⟩
 exact ⟨fun h v h1 h2=>h v ((hb v).2 ⟨h1,h2⟩),fun h v hv=>by
  obtain ⟨h1,h2⟩:=(hb v).1 hv
  exact h v h1 h2⟩
def Suc (p:PM) (g w v:Nat):Prop:=w < p.W.toNat ∧ ∃ a,a < p.cell.length∧g.testBit a=true∧InC p a w v
omit hc0 in
theorem Suc.lt {g w v:Nat} (h:Suc p g w v):v < p.W.toNat:=by obtain ⟨_,a,_,_,h⟩:=h;exact h.1
theorem zrp {g:Nat} {s:BitVec 64} {w:Nat} : ∀ k,k≤p.cell.length→((zlh p g s k).getLsbD w=true↔w < p.W.toNat ∧ ∀ a,a < k→g.testBit a=true → ∀ v,InC p a w v→s.getLsbD v=true)
 | 0,_=>by
  show (zaQ p.W).getLsbD w=true↔_
  rw [zc1 hc0]
  exact ⟨fun h=>⟨h,fun a h=>by omega⟩,fun h=>h.1⟩
 | k+1,hk=>by
  have ih:=zrp (g:=g) (s:=s) (w:=w) k (by omega)
  rw [zwg]
  split
  ·rename_i hb
   rw [BitVec.getLsbD_and,Bool.and_eq_true,ih,zoN hc0 (by omega)]
   constructor
   ·rintro ⟨⟨h1,h2⟩,-,h3⟩
    refine ⟨h1,fun a ha hga v hv=>?_⟩
    by_cases e:a=k
    ·subst e;exact h3 v hv
    ·exact h2 a (by omega) hga v hv
   ·rintro ⟨h1,h2⟩
    exact ⟨⟨h1,fun a ha=>h2 a (by omega)⟩,h1,h2 k (by omega) hb⟩
  ·rename_i hb
   rw [ih]
   constructor
   ·rintro ⟨h1,h2⟩
    refine ⟨h1,fun a ha hga v hv=>?_⟩
    by_cases e:a=k
    ·subst e;exact absurd hga hb
    ·exact h2 a (by omega) hga v hv
   ·rintro ⟨h1,h2⟩
    exact ⟨h1,fun a ha=>h2 a (by omega)⟩
theorem zsS {g:Nat} {s:BitVec 64} {w:Nat} : (zoh p g s).getLsbD w=true↔w < p.W.toNat ∧ ∀ v,Suc p g w v→s.getLsbD v=true:=by
 rw [zoh,zrp hc0 _ (Nat.le_refl _)]
 refine and_congr_right fun hw=>?_
 exact ⟨fun h v ⟨_,a,h1,h2,h3⟩=>h a h1 h2 v h3,fun h a h1 h2 v h3=>h v ⟨hw,a,h1,h2,h3⟩⟩
end
inductive CP (p:PM) (g:Nat) (c:BitVec 64):Nat→Nat→Prop where
 | base {w v:Nat} : Suc p g w v→c.getLsbD v=true→CP p g c w v
 | step {w u v:Nat} : CP p g c w u→Suc p g u v→c.getLsbD v=true→CP p g c w v
theorem CP.pre {p:PM} {g:Nat} {c:BitVec 64} {w u v:Nat} (h:Suc p g w u) (hu:c.getLsbD u=true) (hp:CP p g c u v):CP p g c w v:=by
 induction hp with
 | base h1 h2=>exact .step (.base h hu) h1 h2
 | step _ h1 h2 ih=>exact .step ih h1 h2
noncomputable def zjF (p:PM) (g:Nat) (c s:BitVec 64):BitVec 64:=zQ (fun w => @decide (∀ v,CP p g c w v→s.getLsbD v=true) (Classical.propDecidable _)) p.W.toNat
theorem zgK {p:PM} (hc0:zm p=0) {g:Nat} {c s:BitVec 64} {w:Nat} : (zjF p g c s).getLsbD w=true↔w < p.W.toNat ∧ ∀ v,CP p g c w v→s.getLsbD v=true:=by
 unfold zjF
 rw [zig (W64 hc0),@decide_eq_true_eq _ (Classical.propDecidable _)]
def zr5 (p:PM) (g:Nat) (c s out:BitVec 64):BitVec 64:=zoh p g (zaQ p.W &&& ~~~c|||s&&&out)
theorem zgi {p:PM} (hc0:zm p=0) {g:Nat} {c s out:BitVec 64} {w:Nat} : (zr5 p g c s out).getLsbD w=true↔w < p.W.toNat ∧ ∀ v,Suc p g w v→c.getLsbD v=true→s.getLsbD v=true∧out.getLsbD v=true:=by
 unfold zr5
 rw [zsS hc0]
 refine and_congr_right fun hw=>forall_congr' fun v=>?_
 constructor
 ·intro h h1 h2
  have h3:=h h1
  rw [BitVec.getLsbD_or,BitVec.getLsbD_and,BitVec.getLsbD_and,BitVec.getLsbD_not,h2] at h3
  simpa using h3
 ·intro h h1
  have hv:=h1.lt
  have h64:=W64 hc0
  rw [BitVec.getLsbD_or,BitVec.getLsbD_and,BitVec.getLsbD_and,BitVec.getLsbD_not,(zc1 hc0).2 hv]
  cases hcv:c.getLsbD v with
  | false=>simp;omega
  | true=>simp [h h1 hcv]
structure Com (p:PM) (g:Nat) (c s out:BitVec 64):Prop where
 lo : ∀ w,(zjF p g c s).getLsbD w=true→out.getLsbD w=true
 dec : ∀ w,(zr5 p g c s out).getLsbD w=true→out.getLsbD w=true
 all : ∀ w,out.getLsbD w=true→w < p.W.toNat
theorem Com.start {p:PM} (hc0:zm p=0) (g:Nat) (c s:BitVec 64):Com p g c s (zaQ p.W) :=
 ⟨fun w h=>(zc1 hc0).2 ((zgK hc0).1 h).1,fun w h=>(zc1 hc0).2 ((zgi hc0).1 h).1,fun w h=>(zc1 hc0).1 h⟩
theorem Com.next {p:PM} (hc0:zm p=0) {g:Nat} {c s out:BitVec 64} (h:Com p g c s out):Com p g c s (zr5 p g c s out) where
 lo w hw:=by
  obtain ⟨h1,h2⟩:=(zgK hc0).1 hw
  refine (zgi hc0).2 ⟨h1,fun v hv hcv=>⟨h2 v (.base hv hcv),h.lo v ((zgK hc0).2 ⟨hv.lt,fun u hu=>h2 u (hu.pre hv hcv)⟩)⟩⟩
 dec w hw:=by
  obtain ⟨h1,h2⟩:=(zgi hc0).1 hw
  exact (zgi hc0).2 ⟨h1,fun v hv hcv=>⟨(h2 v hv hcv).1,h.dec v (h2 v hv hcv).2⟩⟩
 all w hw:=((zgi hc0).1 hw).1
theorem Com.done {p:PM} (hc0:zm p=0) {g:Nat} {c s out:BitVec 64} (h:Com p g c s out) (e:zr5 p g c s out=out):out=zjF p g c s:=by
 refine ziB fun w=>⟨fun hw=>(zgK hc0).2 ⟨h.all w hw,fun v hv=>?_⟩,h.lo w⟩
 have key : ∀ v,CP p g c w v→s.getLsbD v=true∧out.getLsbD v=true:=fun v hv=>by
  induction hv with
  | base h1 h2=>rw [← e] at hw;exact ((zgi hc0).1 hw).2 _ h1 h2
  | step _ h1 h2 ih =>
   have ih:=ih.2
   rw [← e] at ih
   exact ((zgi hc0).1 ih).2 _ h1 h2
 exact (key v hv).1
end Go.Ab
namespace Go.Ab
open Go Go.Proofs
set_option maxRecDepth 10000
set_option maxHeartbeats 4000000
variable {T:Nat→Obj→Prop}
noncomputable def zaq (p:PM) (h:Hd) (x y:BitVec 64):BitVec 64 :=
 if h.op=1 then zaQ p.W else if h.op=3 then p.val.getD h.i.toNat 0#64 else if h.op=4 then zaQ p.W &&& ~~~x else if h.op=5 then x&&&y else if h.op=6 then x|||y else if h.op=7 then zaQ p.W &&& ~~~x|||y else
 if h.op=8 then zaQ p.W &&& ~~~(x ^^^ y) else if h.op=9 then zdY p h.i x else if h.op=10 then zaQ p.W &&& ~~~zdY p h.i (zaQ p.W &&& ~~~x) else if h.op=11 then zoh p h.g.toNat x else
 if h.op=13 then zjF p h.g.toNat x y else if h.op=14 then zn2 p h.i x y else if h.op=15 then zeK p h.i x else 0#64
end Go.Ab
namespace Go.Ab
open Go Go.Proofs
set_option maxRecDepth 10000
set_option maxHeartbeats 4000000
set_option maxHeartbeats 40000000
variable {T:Nat→Obj→Prop}
theorem zDn {f:List Nd} (hL:f.length≤1000) {k:Nat} {n:Nd} (hn:f[k]? = some n) {s:FSt} (hl:s.out.length≤1000) (hfd:zy (zR (FSt.done s)) (.int .i64 (k:Int))=some none) (hu:Fn Tryz.prog T zag [.d (.int .i64 n.op)] [] (.d (.tup [.agg [.bool false,.bool false,.bool (z2 n.op),.bool (zH n.op),.bool (zO n.op),.bool (zU n.op),.int .i64 (zaH n.op)],.bool (zaY n.op)])) []) {j:Nat} (hfn:zy (zaw (FSt.out s) 0) (dNd n)=some (some (.int .i64 (j:Int)))) :
  Fn Tryz.prog T zn (zbz (k:Int)) (zby f (.own 7) s++[.row 6 (s.out.map dNd)]) (.d (.int .i64 (j:Int))) [some (.box [.map 5]),some (.box [.d (dF f)]),some (.box [zbq]),some (.box [.map 6]),some (.box [.own 8]),some (.map (zR (FSt.done s)++[(.int .i64 (k:Int),.int .i64 (j:Int))])),some (.map (zaw (FSt.out s) 0)),none,some (.row 6 ((FSt.out s).map dNd))]:=by
 refine zT zp zab (by show 6≤68;decide) _ (fun e env mem n h=>h) ?_
 (repeat' ((conv=>whnf);first|refine vA ?_|refine vE ?_|refine vG ?_|refine vH ?_|refine vT ?_|refine vN ‹_› ?_|refine yD hu (by (repeat refine ⟨⟨rfl,rfl⟩,?_⟩);rfl) rfl ?_|refine zaj.mk _ ‹_› ?_));all_goals try conv=>whnf
 refine ⟨trivial,_,[(0,0),(1,1),(2,2),(3,3),(4,4),(5,5),(6,6),(8,7)],[],rfl,.inl (by (repeat' exact rfl)),⟨by rfl,by rfl,by rfl,trivial,by (repeat' first|exact trivial|exact rfl|refine And.intro ?_ ?_|refine ⟨_,rfl,?_⟩|exact of_decide_eq_true rfl)⟩,by (repeat' first|exact trivial|exact rfl|refine And.intro ?_ ?_|refine ⟨_,rfl,?_⟩)⟩
theorem zDo {f:List Nd} (hL:f.length≤1000) {k:Nat} {n:Nd} (hn:f[k]? = some n) {s:FSt} (hl:s.out.length≤1000) (hfd:zy (zR (FSt.done s)) (.int .i64 (k:Int))=some none) (hu:Fn Tryz.prog T zag [.d (.int .i64 n.op)] [] (.d (.tup [.agg [.bool false,.bool false,.bool (z2 n.op),.bool (zH n.op),.bool (zO n.op),.bool (zU n.op),.int .i64 (zaH n.op)],.bool (zaY n.op)])) []) (hfn:zy (zaw (FSt.out s) 0) (dNd n)=some none) :
  Fn Tryz.prog T zn (zbz (k:Int)) (zby f (.own 7) s++[.row 6 (s.out.map dNd)]) (.d (.int .i64 ((((FSt.out s).map dNd).length:Nat):Int))) [some (.box [.map 5]),some (.box [.d (dF f)]),some (.box [zbq]),some (.box [.map 6]),some (.box [.own 8]),some (.map (zR (FSt.done s)++[(.int .i64 (k:Int),.int .i64 ((((FSt.out s).map dNd).length:Nat):Int))])),some (.map (zaw (FSt.out s) 0++[(dNd n,.int .i64 ((((FSt.out s).map dNd).length:Nat):Int))])),none,some (.row 6 ((FSt.out s).map dNd++[dNd n]))]:=by
 refine zT zp zab (by show 6≤68;decide) _ (fun e env mem n h=>h) ?_
 (repeat' ((conv=>whnf);first|refine vA ?_|refine vH ?_|refine vJ fun hg=>?_|refine vT ?_|refine vN ‹_› ?_|(refine vP ?_ ?_;·(simp only [vM] at *;omega))|refine yD hu (by (repeat refine ⟨⟨rfl,rfl⟩,?_⟩);rfl) rfl ?_|refine zaj.mk _ ‹_› ?_));all_goals try conv=>whnf
 refine ⟨trivial,_,[(0,0),(1,1),(2,2),(3,3),(4,4),(5,5),(6,6),(8,11)],[],rfl,.inl (by (repeat' exact rfl)),⟨by rfl,by rfl,by rfl,trivial,by (repeat' first|exact trivial|exact rfl|refine And.intro ?_ ?_|refine ⟨_,rfl,?_⟩|exact of_decide_eq_true rfl)⟩,by (repeat' first|exact trivial|exact rfl|refine And.intro ?_ ?_|refine ⟨_,rfl,?_⟩)⟩
end Go.Ab
namespace Go.Ab
open Go Go.Proofs
set_option maxRecDepth 10000
set_option maxHeartbeats 4000000
set_option maxHeartbeats 40000000
variable {T:Nat→Obj→Prop}
theorem zDp {f:List Nd} (hL:f.length≤1000) {k:Nat} {n:Nd} (hn:f[k]? = some n) {s:FSt} (hl:s.out.length≤1000) (hfd:zy (zR (FSt.done s)) (.int .i64 (k:Int))=some none) (hu:Fn Tryz.prog T zag [.d (.int .i64 n.op)] [] (.d (.tup [.agg [.bool true,.bool false,.bool (z2 n.op),.bool (zH n.op),.bool (zO n.op),.bool (zU n.op),.int .i64 (zaH n.op)],.bool (zaY n.op)])) []) {r1:Nat} {s1:FSt} (hl1:s1.out.length≤1000) (c1:Fn Tryz.prog T zn (zbz n.x) (zby f (.own 7) s++[.row 6 (s.out.map dNd)]) (.d (.int .i64 (r1:Int))) (zez f s1)) (hfd1:zy (zR s1.done) (.int .i64 (k:Int))=some none) {j:Nat} (hfn:zy (zaw s1.out 0) (dNd ⟨n.op,n.i,n.e,n.g,(r1:Int),n.y⟩)=some (some (.int .i64 (j:Int)))) :
  Fn Tryz.prog T zn (zbz (k:Int)) (zby f (.own 7) s++[.row 6 (s.out.map dNd)]) (.d (.int .i64 (j:Int))) [some (.box [.map 5]),some (.box [.d (dF f)]),some (.box [zbq]),some (.box [.map 6]),some (.box [.own 8]),some (.map (zR s1.done++[(.int .i64 (k:Int),.int .i64 (j:Int))])),some (.map (zaw s1.out 0)),none,some (.row 6 (s1.out.map dNd))]:=by
 refine zT zp zab (by show 6≤68;decide) _ (fun e env mem n h=>h) ?_
 (repeat' ((conv=>whnf);first|refine vA ?_|refine vG ?_|refine vT ?_|refine vN ‹_› ?_|refine yD hu (by (repeat refine ⟨⟨rfl,rfl⟩,?_⟩);rfl) rfl ?_|refine zaj.mk _ ‹_› ?_));all_goals try conv=>whnf
 refine zL.objsE [0,1,2,3,4,5,6,7] (c1) (by (repeat' first|exact rfl|refine And.intro ?_ ?_|refine ⟨_,rfl,?_⟩)) (by (repeat' first|exact rfl|refine And.intro ?_ ?_|refine ⟨_,rfl,?_⟩)) (by rfl) (by kernel_rfl) (by simp) [(0,some (.box [.map 5])),(1,some (.box [.d (dF f)])),(2,some (.box [zbq])),(3,some (.box [.map 6])),(4,some (.box [.own 10])),(5,some (.map (zR s1.done))),(6,some (.map (zaw s1.out 0))),(7,none),(10,some (.row 6 (s1.out.map dNd)))] rfl ?_
 (repeat' ((conv=>whnf);first|refine vA ?_|refine vE ?_|refine vG ?_|refine vH ?_|refine vT ?_|refine zaj.mk _ ‹_› ?_));all_goals try conv=>whnf
 refine ⟨trivial,_,[(0,0),(1,1),(2,2),(3,3),(4,4),(5,5),(6,6),(8,10)],[],rfl,.inl (by (repeat' exact rfl)),⟨by rfl,by rfl,by rfl,trivial,by (repeat' first|exact trivial|exact rfl|refine And.intro ?_ ?_|refine ⟨_,rfl,?_⟩|exact of_decide_eq_true rfl)⟩,by (repeat' first|exact trivial|exact rfl|refine And.intro ?_ ?_|refine ⟨_,rfl,?_⟩)⟩
theorem zDq {f:List Nd} (hL:f.length≤1000) {k:Nat} {n:Nd} (hn:f[k]? = some n) {s:FSt} (hl:s.out.length≤1000) (hfd:zy (zR (FSt.done s)) (.int .i64 (k:Int))=some none) (hu:Fn Tryz.prog T zag [.d (.int .i64 n.op)] [] (.d (.tup [.agg [.bool true,.bool false,.bool (z2 n.op),.bool (zH n.op),.bool (zO n.op),.bool (zU n.op),.int .i64 (zaH n.op)],.bool (zaY n.op)])) []) {r1:Nat} {s1:FSt} (hl1:s1.out.length≤1000) (c1:Fn Tryz.prog T zn (zbz n.x) (zby f (.own 7) s++[.row 6 (s.out.map dNd)]) (.d (.int .i64 (r1:Int))) (zez f s1)) (hfd1:zy (zR s1.done) (.int .i64 (k:Int))=some none) (hfn:zy (zaw s1.out 0) (dNd ⟨n.op,n.i,n.e,n.g,(r1:Int),n.y⟩)=some none) :
  Fn Tryz.prog T zn (zbz (k:Int)) (zby f (.own 7) s++[.row 6 (s.out.map dNd)]) (.d (.int .i64 (((s1.out.map dNd).length:Nat):Int))) [some (.box [.map 5]),some (.box [.d (dF f)]),some (.box [zbq]),some (.box [.map 6]),some (.box [.own 8]),some (.map (zR s1.done++[(.int .i64 (k:Int),.int .i64 (((s1.out.map dNd).length:Nat):Int))])),some (.map (zaw s1.out 0++[(dNd ⟨n.op,n.i,n.e,n.g,(r1:Int),n.y⟩,.int .i64 (((s1.out.map dNd).length:Nat):Int))])),none,some (.row 6 (s1.out.map dNd++[dNd ⟨n.op,n.i,n.e,n.g,(r1:Int),n.y⟩]))]:=by
 refine zT zp zab (by show 6≤68;decide) _ (fun e env mem n h=>h) ?_
 (repeat' ((conv=>whnf);first|refine vA ?_|refine vG ?_|refine vT ?_|refine vN ‹_› ?_|refine yD hu (by (repeat refine ⟨⟨rfl,rfl⟩,?_⟩);rfl) rfl ?_|refine zaj.mk _ ‹_› ?_));all_goals try conv=>whnf
 refine zL.objsE [0,1,2,3,4,5,6,7] (c1) (by (repeat' first|exact rfl|refine And.intro ?_ ?_|refine ⟨_,rfl,?_⟩)) (by (repeat' first|exact rfl|refine And.intro ?_ ?_|refine ⟨_,rfl,?_⟩)) (by rfl) (by kernel_rfl) (by simp) [(0,some (.box [.map 5])),(1,some (.box [.d (dF f)])),(2,some (.box [zbq])),(3,some (.box [.map 6])),(4,some (.box [.own 10])),(5,some (.map (zR s1.done))),(6,some (.map (zaw s1.out 0))),(7,none),(10,some (.row 6 (s1.out.map dNd)))] rfl ?_
 (repeat' ((conv=>whnf);first|refine vA ?_|refine vH ?_|refine vJ fun hg=>?_|refine vT ?_|(refine vP ?_ ?_;·(simp only [vM] at *;omega))|refine zaj.mk _ ‹_› ?_));all_goals try conv=>whnf
 refine ⟨trivial,_,[(0,0),(1,1),(2,2),(3,3),(4,4),(5,5),(6,6),(8,12)],[],rfl,.inl (by (repeat' exact rfl)),⟨by rfl,by rfl,by rfl,trivial,by (repeat' first|exact trivial|exact rfl|refine And.intro ?_ ?_|refine ⟨_,rfl,?_⟩|exact of_decide_eq_true rfl)⟩,by (repeat' first|exact trivial|exact rfl|refine And.intro ?_ ?_|refine ⟨_,rfl,?_⟩)⟩
end Go.Ab
namespace Go.Ab
open Go Go.Proofs
set_option maxRecDepth 10000
set_option maxHeartbeats 4000000
set_option maxHeartbeats 40000000
variable {T:Nat→Obj→Prop}
theorem zDr {f:List Nd} (hL:f.length≤1000) {k:Nat} {n:Nd} (hn:f[k]? = some n) {s:FSt} (hl:s.out.length≤1000) (hfd:zy (zR (FSt.done s)) (.int .i64 (k:Int))=some none) (hu:Fn Tryz.prog T zag [.d (.int .i64 n.op)] [] (.d (.tup [.agg [.bool true,.bool true,.bool (z2 n.op),.bool (zH n.op),.bool (zO n.op),.bool (zU n.op),.int .i64 (zaH n.op)],.bool (zaY n.op)])) []) {r1:Nat} {s1:FSt} (hl1:s1.out.length≤1000) (c1:Fn Tryz.prog T zn (zbz n.x) (zby f (.own 7) s++[.row 6 (s.out.map dNd)]) (.d (.int .i64 (r1:Int))) (zez f s1)) (hfd1:zy (zR s1.done) (.int .i64 (k:Int))=some none) {r2:Nat} {s2:FSt} (hl2:s2.out.length≤1000) (c2:Fn Tryz.prog T zn (zbz n.y) (zby f (.own 7) s1++[.row 6 (s1.out.map dNd)]) (.d (.int .i64 (r2:Int))) (zez f s2)) (hfd2:zy (zR s2.done) (.int .i64 (k:Int))=some none) {j:Nat} (hfn:zy (zaw s2.out 0) (dNd ⟨n.op,n.i,n.e,n.g,(r1:Int),(r2:Int)⟩)=some (some (.int .i64 (j:Int)))) :
  Fn Tryz.prog T zn (zbz (k:Int)) (zby f (.own 7) s++[.row 6 (s.out.map dNd)]) (.d (.int .i64 (j:Int))) [some (.box [.map 5]),some (.box [.d (dF f)]),some (.box [zbq]),some (.box [.map 6]),some (.box [.own 8]),some (.map (zR s2.done++[(.int .i64 (k:Int),.int .i64 (j:Int))])),some (.map (zaw s2.out 0)),none,some (.row 6 (s2.out.map dNd))]:=by
 refine zT zp zab (by show 6≤68;decide) _ (fun e env mem n h=>h) ?_
 (repeat' ((conv=>whnf);first|refine vA ?_|refine vG ?_|refine vT ?_|refine vN ‹_› ?_|refine yD hu (by (repeat refine ⟨⟨rfl,rfl⟩,?_⟩);rfl) rfl ?_|refine zaj.mk _ ‹_› ?_));all_goals try conv=>whnf
 refine zL.objsE [0,1,2,3,4,5,6,7] (c1) (by (repeat' first|exact rfl|refine And.intro ?_ ?_|refine ⟨_,rfl,?_⟩)) (by (repeat' first|exact rfl|refine And.intro ?_ ?_|refine ⟨_,rfl,?_⟩)) (by rfl) (by kernel_rfl) (by simp) [(0,some (.box [.map 5])),(1,some (.box [.d (dF f)])),(2,some (.box [zbq])),(3,some (.box [.map 6])),(4,some (.box [.own 10])),(5,some (.map (zR s1.done))),(6,some (.map (zaw s1.out 0))),(7,none),(10,some (.row 6 (s1.out.map dNd)))] rfl ?_
 (repeat' ((conv=>whnf);first|refine vA ?_|refine vG ?_|refine vT ?_));all_goals try conv=>whnf
 refine zL.objsE [0,1,2,3,4,5,6,10] (c2) (by (repeat' first|exact rfl|refine And.intro ?_ ?_|refine ⟨_,rfl,?_⟩)) (by (repeat' first|exact rfl|refine And.intro ?_ ?_|refine ⟨_,rfl,?_⟩)) (by rfl) (by kernel_rfl) (by simp) [(0,some (.box [.map 5])),(1,some (.box [.d (dF f)])),(2,some (.box [zbq])),(3,some (.box [.map 6])),(4,some (.box [.own 11])),(5,some (.map (zR s2.done))),(6,some (.map (zaw s2.out 0))),(10,none),(11,some (.row 6 (s2.out.map dNd)))] rfl ?_
 (repeat' ((conv=>whnf);first|refine vA ?_|refine vE ?_|refine vG ?_|refine vT ?_|refine zaj.mk _ ‹_› ?_));all_goals try conv=>whnf
 refine ⟨trivial,_,[(0,0),(1,1),(2,2),(3,3),(4,4),(5,5),(6,6),(8,11)],[],rfl,.inl (by (repeat' exact rfl)),⟨by rfl,by rfl,by rfl,trivial,by (repeat' first|exact trivial|exact rfl|refine And.intro ?_ ?_|refine ⟨_,rfl,?_⟩|exact of_decide_eq_true rfl)⟩,by (repeat' first|exact trivial|exact rfl|refine And.intro ?_ ?_|refine ⟨_,rfl,?_⟩)⟩
theorem zDs {f:List Nd} (hL:f.length≤1000) {k:Nat} {n:Nd} (hn:f[k]? = some n) {s:FSt} (hl:s.out.length≤1000) (hfd:zy (zR (FSt.done s)) (.int .i64 (k:Int))=some none) (hu:Fn Tryz.prog T zag [.d (.int .i64 n.op)] [] (.d (.tup [.agg [.bool true,.bool true,.bool (z2 n.op),.bool (zH n.op),.bool (zO n.op),.bool (zU n.op),.int .i64 (zaH n.op)],.bool (zaY n.op)])) []) {r1:Nat} {s1:FSt} (hl1:s1.out.length≤1000) (c1:Fn Tryz.prog T zn (zbz n.x) (zby f (.own 7) s++[.row 6 (s.out.map dNd)]) (.d (.int .i64 (r1:Int))) (zez f s1)) (hfd1:zy (zR s1.done) (.int .i64 (k:Int))=some none) {r2:Nat} {s2:FSt} (hl2:s2.out.length≤1000) (c2:Fn Tryz.prog T zn (zbz n.y) (zby f (.own 7) s1++[.row 6 (s1.out.map dNd)]) (.d (.int .i64 (r2:Int))) (zez f s2)) (hfd2:zy (zR s2.done) (.int .i64 (k:Int))=some none) (hfn:zy (zaw s2.out 0) (dNd ⟨n.op,n.i,n.e,n.g,(r1:Int),(r2:Int)⟩)=some none) :
  Fn Tryz.prog T zn (zbz (k:Int)) (zby f (.own 7) s++[.row 6 (s.out.map dNd)]) (.d (.int .i64 (((s2.out.map dNd).length:Nat):Int))) [some (.box [.map 5]),some (.box [.d (dF f)]),some (.box [zbq]),some (.box [.map 6]),some (.box [.own 8]),some (.map (zR s2.done++[(.int .i64 (k:Int),.int .i64 (((s2.out.map dNd).length:Nat):Int))])),some (.map (zaw s2.out 0++[(dNd ⟨n.op,n.i,n.e,n.g,(r1:Int),(r2:Int)⟩,.int .i64 (((s2.out.map dNd).length:Nat):Int))])),none,some (.row 6 (s2.out.map dNd++[dNd ⟨n.op,n.i,n.e,n.g,(r1:Int),(r2:Int)⟩]))]:=by
 refine zT zp zab (by show 6≤68;decide) _ (fun e env mem n h=>h) ?_
 (repeat' ((conv=>whnf);first|refine vA ?_|refine vG ?_|refine vT ?_|refine vN ‹_› ?_|refine yD hu (by (repeat refine ⟨⟨rfl,rfl⟩,?_⟩);rfl) rfl ?_|refine zaj.mk _ ‹_› ?_));all_goals try conv=>whnf
 refine zL.objsE [0,1,2,3,4,5,6,7] (c1) (by (repeat' first|exact rfl|refine And.intro ?_ ?_|refine ⟨_,rfl,?_⟩)) (by (repeat' first|exact rfl|refine And.intro ?_ ?_|refine ⟨_,rfl,?_⟩)) (by rfl) (by kernel_rfl) (by simp) [(0,some (.box [.map 5])),(1,some (.box [.d (dF f)])),(2,some (.box [zbq])),(3,some (.box [.map 6])),(4,some (.box [.own 10])),(5,some (.map (zR s1.done))),(6,some (.map (zaw s1.out 0))),(7,none),(10,some (.row 6 (s1.out.map dNd)))] rfl ?_
 (repeat' ((conv=>whnf);first|refine vA ?_|refine vG ?_|refine vT ?_));all_goals try conv=>whnf
 refine zL.objsE [0,1,2,3,4,5,6,10] (c2) (by (repeat' first|exact rfl|refine And.intro ?_ ?_|refine ⟨_,rfl,?_⟩)) (by (repeat' first|exact rfl|refine And.intro ?_ ?_|refine ⟨_,rfl,?_⟩)) (by rfl) (by kernel_rfl) (by simp) [(0,some (.box [.map 5])),(1,some (.box [.d (dF f)])),(2,some (.box [zbq])),(3,some (.box [.map 6])),(4,some (.box [.own 11])),(5,some (.map (zR s2.done))),(6,some (.map (zaw s2.out 0))),(10,none),(11,some (.row 6 (s2.out.map dNd)))] rfl ?_
 (repeat' ((conv=>whnf);first|refine vA ?_|refine vJ fun hg=>?_|refine vT ?_|(refine vP ?_ ?_;·(simp only [vM] at *;omega))|refine zaj.mk _ ‹_› ?_));all_goals try conv=>whnf
 refine ⟨trivial,_,[(0,0),(1,1),(2,2),(3,3),(4,4),(5,5),(6,6),(8,13)],[],rfl,.inl (by (repeat' exact rfl)),⟨by rfl,by rfl,by rfl,trivial,by (repeat' first|exact trivial|exact rfl|refine And.intro ?_ ?_|refine ⟨_,rfl,?_⟩|exact of_decide_eq_true rfl)⟩,by (repeat' first|exact trivial|exact rfl|refine And.intro ?_ ?_|refine ⟨_,rfl,?_⟩)⟩
end Go.Ab
namespace Go.Ab
open Go Go.Proofs
set_option maxRecDepth 10000
set_option maxHeartbeats 4000000
set_option maxHeartbeats 40000000
variable {T:Nat→Obj→Prop}
theorem zDt {f:List Nd} (hL:f.length≤1000) {k:Nat} {n:Nd} (hn:f[k]? = some n) (hfd:zy (zR (FSt.done ⟨[],[]⟩)) (.int .i64 (k:Int))=some none) (hu:Fn Tryz.prog T zag [.d (.int .i64 n.op)] [] (.d (.tup [.agg [.bool false,.bool false,.bool (z2 n.op),.bool (zH n.op),.bool (zO n.op),.bool (zU n.op),.int .i64 (zaH n.op)],.bool (zaY n.op)])) []) (hfn:zy (zaw (FSt.out ⟨[],[]⟩) 0) (dNd n)=some none) :
  Fn Tryz.prog T zn (zbz (k:Int)) (zby f (.nils 6) ⟨[],[]⟩) (.d (.int .i64 ((((FSt.out ⟨[],[]⟩).map dNd).length:Nat):Int))) [some (.box [.map 5]),some (.box [.d (dF f)]),some (.box [zbq]),some (.box [.map 6]),some (.box [.own 7]),some (.map (zR (FSt.done ⟨[],[]⟩)++[(.int .i64 (k:Int),.int .i64 ((((FSt.out ⟨[],[]⟩).map dNd).length:Nat):Int))])),some (.map (zaw (FSt.out ⟨[],[]⟩) 0++[(dNd n,.int .i64 ((((FSt.out ⟨[],[]⟩).map dNd).length:Nat):Int))])),some (.row 6 ((FSt.out ⟨[],[]⟩).map dNd++[dNd n]))]:=by
 refine zT zp zab (by show 6≤68;decide) _ (fun e env mem n h=>h) ?_
 (repeat' ((conv=>whnf);first|refine vA ?_|refine vH ?_|refine vT ?_|refine vN ‹_› ?_|(refine vP ?_ ?_;·(simp only [vM] at *;omega))|refine yD hu (by (repeat refine ⟨⟨rfl,rfl⟩,?_⟩);rfl) rfl ?_|refine zaj.mk _ ‹_› ?_));all_goals try conv=>whnf
 refine ⟨trivial,_,[(0,0),(1,1),(2,2),(3,3),(4,4),(5,5),(6,6),(7,10)],[],rfl,.inl (by (repeat' exact rfl)),⟨by rfl,by rfl,by rfl,trivial,by (repeat' first|exact trivial|exact rfl|refine And.intro ?_ ?_|refine ⟨_,rfl,?_⟩|exact of_decide_eq_true rfl)⟩,by (repeat' first|exact trivial|exact rfl|refine And.intro ?_ ?_|refine ⟨_,rfl,?_⟩)⟩
end Go.Ab
namespace Go.Ab
open Go Go.Proofs
set_option maxRecDepth 10000
set_option maxHeartbeats 4000000
set_option maxHeartbeats 40000000
variable {T:Nat→Obj→Prop}
theorem zDu {f:List Nd} (hL:f.length≤1000) {k:Nat} {n:Nd} (hn:f[k]? = some n) (hfd:zy (zR (FSt.done ⟨[],[]⟩)) (.int .i64 (k:Int))=some none) (hu:Fn Tryz.prog T zag [.d (.int .i64 n.op)] [] (.d (.tup [.agg [.bool true,.bool false,.bool (z2 n.op),.bool (zH n.op),.bool (zO n.op),.bool (zU n.op),.int .i64 (zaH n.op)],.bool (zaY n.op)])) []) {r1:Nat} {s1:FSt} (hl1:s1.out.length≤1000) (c1:Fn Tryz.prog T zn (zbz n.x) (zby f (.nils 6) ⟨[],[]⟩) (.d (.int .i64 (r1:Int))) (zfW f s1)) (hfd1:zy (zR s1.done) (.int .i64 (k:Int))=some none) {j:Nat} (hfn:zy (zaw s1.out 0) (dNd ⟨n.op,n.i,n.e,n.g,(r1:Int),n.y⟩)=some (some (.int .i64 (j:Int)))) :
  Fn Tryz.prog T zn (zbz (k:Int)) (zby f (.nils 6) ⟨[],[]⟩) (.d (.int .i64 (j:Int))) [some (.box [.map 5]),some (.box [.d (dF f)]),some (.box [zbq]),some (.box [.map 6]),some (.box [.own 7]),some (.map (zR s1.done++[(.int .i64 (k:Int),.int .i64 (j:Int))])),some (.map (zaw s1.out 0)),some (.row 6 (s1.out.map dNd))]:=by
 refine zT zp zab (by show 6≤68;decide) _ (fun e env mem n h=>h) ?_
 (repeat' ((conv=>whnf);first|refine vA ?_|refine vG ?_|refine vT ?_|refine vN ‹_› ?_|refine yD hu (by (repeat refine ⟨⟨rfl,rfl⟩,?_⟩);rfl) rfl ?_|refine zaj.mk _ ‹_› ?_));all_goals try conv=>whnf
 refine zL.objsE [0,1,2,3,4,5,6] (c1) (by (repeat' first|exact rfl|refine And.intro ?_ ?_|refine ⟨_,rfl,?_⟩)) (by (repeat' first|exact rfl|refine And.intro ?_ ?_|refine ⟨_,rfl,?_⟩)) (by rfl) (by kernel_rfl) (by simp) [(0,some (.box [.map 5])),(1,some (.box [.d (dF f)])),(2,some (.box [zbq])),(3,some (.box [.map 6])),(4,some (.box [.own 9])),(5,some (.map (zR s1.done))),(6,some (.map (zaw s1.out 0))),(9,some (.row 6 (s1.out.map dNd)))] rfl ?_
 (repeat' ((conv=>whnf);first|refine vA ?_|refine vE ?_|refine vG ?_|refine vH ?_|refine vT ?_|refine zaj.mk _ ‹_› ?_));all_goals try conv=>whnf
 refine ⟨trivial,_,[(0,0),(1,1),(2,2),(3,3),(4,4),(5,5),(6,6),(7,9)],[],rfl,.inl (by (repeat' exact rfl)),⟨by rfl,by rfl,by rfl,trivial,by (repeat' first|exact trivial|exact rfl|refine And.intro ?_ ?_|refine ⟨_,rfl,?_⟩|exact of_decide_eq_true rfl)⟩,by (repeat' first|exact trivial|exact rfl|refine And.intro ?_ ?_|refine ⟨_,rfl,?_⟩)⟩
theorem zDv {f:List Nd} (hL:f.length≤1000) {k:Nat} {n:Nd} (hn:f[k]? = some n) (hfd:zy (zR (FSt.done ⟨[],[]⟩)) (.int .i64 (k:Int))=some none) (hu:Fn Tryz.prog T zag [.d (.int .i64 n.op)] [] (.d (.tup [.agg [.bool true,.bool false,.bool (z2 n.op),.bool (zH n.op),.bool (zO n.op),.bool (zU n.op),.int .i64 (zaH n.op)],.bool (zaY n.op)])) []) {r1:Nat} {s1:FSt} (hl1:s1.out.length≤1000) (c1:Fn Tryz.prog T zn (zbz n.x) (zby f (.nils 6) ⟨[],[]⟩) (.d (.int .i64 (r1:Int))) (zfW f s1)) (hfd1:zy (zR s1.done) (.int .i64 (k:Int))=some none) (hfn:zy (zaw s1.out 0) (dNd ⟨n.op,n.i,n.e,n.g,(r1:Int),n.y⟩)=some none) :
  Fn Tryz.prog T zn (zbz (k:Int)) (zby f (.nils 6) ⟨[],[]⟩) (.d (.int .i64 (((s1.out.map dNd).length:Nat):Int))) [some (.box [.map 5]),some (.box [.d (dF f)]),some (.box [zbq]),some (.box [.map 6]),some (.box [.own 7]),some (.map (zR s1.done++[(.int .i64 (k:Int),.int .i64 (((s1.out.map dNd).length:Nat):Int))])),some (.map (zaw s1.out 0++[(dNd ⟨n.op,n.i,n.e,n.g,(r1:Int),n.y⟩,.int .i64 (((s1.out.map dNd).length:Nat):Int))])),some (.row 6 (s1.out.map dNd++[dNd ⟨n.op,n.i,n.e,n.g,(r1:Int),n.y⟩]))]:=by
 refine zT zp zab (by show 6≤68;decide) _ (fun e env mem n h=>h) ?_
 (repeat' ((conv=>whnf);first|refine vA ?_|refine vG ?_|refine vT ?_|refine vN ‹_› ?_|refine yD hu (by (repeat refine ⟨⟨rfl,rfl⟩,?_⟩);rfl) rfl ?_|refine zaj.mk _ ‹_› ?_));all_goals try conv=>whnf
 refine zL.objsE [0,1,2,3,4,5,6] (c1) (by (repeat' first|exact rfl|refine And.intro ?_ ?_|refine ⟨_,rfl,?_⟩)) (by (repeat' first|exact rfl|refine And.intro ?_ ?_|refine ⟨_,rfl,?_⟩)) (by rfl) (by kernel_rfl) (by simp) [(0,some (.box [.map 5])),(1,some (.box [.d (dF f)])),(2,some (.box [zbq])),(3,some (.box [.map 6])),(4,some (.box [.own 9])),(5,some (.map (zR s1.done))),(6,some (.map (zaw s1.out 0))),(9,some (.row 6 (s1.out.map dNd)))] rfl ?_
 (repeat' ((conv=>whnf);first|refine vA ?_|refine vH ?_|refine vJ fun hg=>?_|refine vT ?_|(refine vP ?_ ?_;·(simp only [vM] at *;omega))|refine zaj.mk _ ‹_› ?_));all_goals try conv=>whnf
 refine ⟨trivial,_,[(0,0),(1,1),(2,2),(3,3),(4,4),(5,5),(6,6),(7,11)],[],rfl,.inl (by (repeat' exact rfl)),⟨by rfl,by rfl,by rfl,trivial,by (repeat' first|exact trivial|exact rfl|refine And.intro ?_ ?_|refine ⟨_,rfl,?_⟩|exact of_decide_eq_true rfl)⟩,by (repeat' first|exact trivial|exact rfl|refine And.intro ?_ ?_|refine ⟨_,rfl,?_⟩)⟩
end Go.Ab
namespace Go.Ab
open Go Go.Proofs
set_option maxRecDepth 10000
set_option maxHeartbeats 4000000
set_option maxHeartbeats 40000000
variable {T:Nat→Obj→Prop}
theorem zDw {f:List Nd} (hL:f.length≤1000) {k:Nat} {n:Nd} (hn:f[k]? = some n) (hfd:zy (zR (FSt.done ⟨[],[]⟩)) (.int .i64 (k:Int))=some none) (hu:Fn Tryz.prog T zag [.d (.int .i64 n.op)] [] (.d (.tup [.agg [.bool true,.bool true,.bool (z2 n.op),.bool (zH n.op),.bool (zO n.op),.bool (zU n.op),.int .i64 (zaH n.op)],.bool (zaY n.op)])) []) {r1:Nat} {s1:FSt} (hl1:s1.out.length≤1000) (c1:Fn Tryz.prog T zn (zbz n.x) (zby f (.nils 6) ⟨[],[]⟩) (.d (.int .i64 (r1:Int))) (zfW f s1)) (hfd1:zy (zR s1.done) (.int .i64 (k:Int))=some none) {r2:Nat} {s2:FSt} (hl2:s2.out.length≤1000) (c2:Fn Tryz.prog T zn (zbz n.y) (zby f (.own 7) s1++[.row 6 (s1.out.map dNd)]) (.d (.int .i64 (r2:Int))) (zez f s2)) (hfd2:zy (zR s2.done) (.int .i64 (k:Int))=some none) {j:Nat} (hfn:zy (zaw s2.out 0) (dNd ⟨n.op,n.i,n.e,n.g,(r1:Int),(r2:Int)⟩)=some (some (.int .i64 (j:Int)))) :
  Fn Tryz.prog T zn (zbz (k:Int)) (zby f (.nils 6) ⟨[],[]⟩) (.d (.int .i64 (j:Int))) [some (.box [.map 5]),some (.box [.d (dF f)]),some (.box [zbq]),some (.box [.map 6]),some (.box [.own 7]),some (.map (zR s2.done++[(.int .i64 (k:Int),.int .i64 (j:Int))])),some (.map (zaw s2.out 0)),some (.row 6 (s2.out.map dNd))]:=by
 refine zT zp zab (by show 6≤68;decide) _ (fun e env mem n h=>h) ?_
 (repeat' ((conv=>whnf);first|refine vA ?_|refine vG ?_|refine vT ?_|refine vN ‹_› ?_|refine yD hu (by (repeat refine ⟨⟨rfl,rfl⟩,?_⟩);rfl) rfl ?_|refine zaj.mk _ ‹_› ?_));all_goals try conv=>whnf
 refine zL.objsE [0,1,2,3,4,5,6] (c1) (by (repeat' first|exact rfl|refine And.intro ?_ ?_|refine ⟨_,rfl,?_⟩)) (by (repeat' first|exact rfl|refine And.intro ?_ ?_|refine ⟨_,rfl,?_⟩)) (by rfl) (by kernel_rfl) (by simp) [(0,some (.box [.map 5])),(1,some (.box [.d (dF f)])),(2,some (.box [zbq])),(3,some (.box [.map 6])),(4,some (.box [.own 9])),(5,some (.map (zR s1.done))),(6,some (.map (zaw s1.out 0))),(9,some (.row 6 (s1.out.map dNd)))] rfl ?_
 (repeat' ((conv=>whnf);first|refine vA ?_|refine vG ?_|refine vT ?_));all_goals try conv=>whnf
 refine zL.objsE [0,1,2,3,4,5,6,9] (c2) (by (repeat' first|exact rfl|refine And.intro ?_ ?_|refine ⟨_,rfl,?_⟩)) (by (repeat' first|exact rfl|refine And.intro ?_ ?_|refine ⟨_,rfl,?_⟩)) (by rfl) (by kernel_rfl) (by simp) [(0,some (.box [.map 5])),(1,some (.box [.d (dF f)])),(2,some (.box [zbq])),(3,some (.box [.map 6])),(4,some (.box [.own 10])),(5,some (.map (zR s2.done))),(6,some (.map (zaw s2.out 0))),(9,none),(10,some (.row 6 (s2.out.map dNd)))] rfl ?_
 (repeat' ((conv=>whnf);first|refine vA ?_|refine vE ?_|refine vG ?_|refine vT ?_|refine zaj.mk _ ‹_› ?_));all_goals try conv=>whnf
 refine ⟨trivial,_,[(0,0),(1,1),(2,2),(3,3),(4,4),(5,5),(6,6),(7,10)],[],rfl,.inl (by (repeat' exact rfl)),⟨by rfl,by rfl,by rfl,trivial,by (repeat' first|exact trivial|exact rfl|refine And.intro ?_ ?_|refine ⟨_,rfl,?_⟩|exact of_decide_eq_true rfl)⟩,by (repeat' first|exact trivial|exact rfl|refine And.intro ?_ ?_|refine ⟨_,rfl,?_⟩)⟩
theorem zDx {f:List Nd} (hL:f.length≤1000) {k:Nat} {n:Nd} (hn:f[k]? = some n) (hfd:zy (zR (FSt.done ⟨[],[]⟩)) (.int .i64 (k:Int))=some none) (hu:Fn Tryz.prog T zag [.d (.int .i64 n.op)] [] (.d (.tup [.agg [.bool true,.bool true,.bool (z2 n.op),.bool (zH n.op),.bool (zO n.op),.bool (zU n.op),.int .i64 (zaH n.op)],.bool (zaY n.op)])) []) {r1:Nat} {s1:FSt} (hl1:s1.out.length≤1000) (c1:Fn Tryz.prog T zn (zbz n.x) (zby f (.nils 6) ⟨[],[]⟩) (.d (.int .i64 (r1:Int))) (zfW f s1)) (hfd1:zy (zR s1.done) (.int .i64 (k:Int))=some none) {r2:Nat} {s2:FSt} (hl2:s2.out.length≤1000) (c2:Fn Tryz.prog T zn (zbz n.y) (zby f (.own 7) s1++[.row 6 (s1.out.map dNd)]) (.d (.int .i64 (r2:Int))) (zez f s2)) (hfd2:zy (zR s2.done) (.int .i64 (k:Int))=some none) (hfn:zy (zaw s2.out 0) (dNd ⟨n.op,n.i,n.e,n.g,(r1:Int),(r2:Int)⟩)=some none) :
  Fn Tryz.prog T zn (zbz (k:Int)) (zby f (.nils 6) ⟨[],[]⟩) (.d (.int .i64 (((s2.out.map dNd).length:Nat):Int))) [some (.box [.map 5]),some (.box [.d (dF f)]),some (.box [zbq]),some (.box [.map 6]),some (.box [.own 7]),some (.map (zR s2.done++[(.int .i64 (k:Int),.int .i64 (((s2.out.map dNd).length:Nat):Int))])),some (.map (zaw s2.out 0++[(dNd ⟨n.op,n.i,n.e,n.g,(r1:Int),(r2:Int)⟩,.int .i64 (((s2.out.map dNd).length:Nat):Int))])),some (.row 6 (s2.out.map dNd++[dNd ⟨n.op,n.i,n.e,n.g,(r1:Int),(r2:Int)⟩]))]:=by
 refine zT zp zab (by show 6≤68;decide) _ (fun e env mem n h=>h) ?_
 (repeat' ((conv=>whnf);first|refine vA ?_|refine vG ?_|refine vT ?_|refine vN ‹_› ?_|refine yD hu (by (repeat refine ⟨⟨rfl,rfl⟩,?_⟩);rfl) rfl ?_|refine zaj.mk _ ‹_› ?_));all_goals try conv=>whnf
 refine zL.objsE [0,1,2,3,4,5,6] (c1) (by (repeat' first|exact rfl|refine And.intro ?_ ?_|refine ⟨_,rfl,?_⟩)) (by (repeat' first|exact rfl|refine And.intro ?_ ?_|refine ⟨_,rfl,?_⟩)) (by rfl) (by kernel_rfl) (by simp) [(0,some (.box [.map 5])),(1,some (.box [.d (dF f)])),(2,some (.box [zbq])),(3,some (.box [.map 6])),(4,some (.box [.own 9])),(5,some (.map (zR s1.done))),(6,some (.map (zaw s1.out 0))),(9,some (.row 6 (s1.out.map dNd)))] rfl ?_
 (repeat' ((conv=>whnf);first|refine vA ?_|refine vG ?_|refine vT ?_));all_goals try conv=>whnf
 refine zL.objsE [0,1,2,3,4,5,6,9] (c2) (by (repeat' first|exact rfl|refine And.intro ?_ ?_|refine ⟨_,rfl,?_⟩)) (by (repeat' first|exact rfl|refine And.intro ?_ ?_|refine ⟨_,rfl,?_⟩)) (by rfl) (by kernel_rfl) (by simp) [(0,some (.box [.map 5])),(1,some (.box [.d (dF f)])),(2,some (.box [zbq])),(3,some (.box [.map 6])),(4,some (.box [.own 10])),(5,some (.map (zR s2.done))),(6,some (.map (zaw s2.out 0))),(9,none),(10,some (.row 6 (s2.out.map dNd)))] rfl ?_
 (repeat' ((conv=>whnf);first|refine vA ?_|refine vJ fun hg=>?_|refine vT ?_|(refine vP ?_ ?_;·(simp only [vM] at *;omega))|refine zaj.mk _ ‹_› ?_));all_goals try conv=>whnf
 refine ⟨trivial,_,[(0,0),(1,1),(2,2),(3,3),(4,4),(5,5),(6,6),(7,12)],[],rfl,.inl (by (repeat' exact rfl)),⟨by rfl,by rfl,by rfl,trivial,by (repeat' first|exact trivial|exact rfl|refine And.intro ?_ ?_|refine ⟨_,rfl,?_⟩|exact of_decide_eq_true rfl)⟩,by (repeat' first|exact trivial|exact rfl|refine And.intro ?_ ?_|refine ⟨_,rfl,?_⟩)⟩
end Go.Ab
namespace Go.Ab
open Go Go.Proofs
set_option maxRecDepth 10000
set_option maxHeartbeats 4000000
variable {T:Nat→Obj→Prop}
theorem zDC {f:List Nd} (hf:zao f) (hL:f.length≤1000) : ∀ (m k:Nat) (i:Int) (s:FSt),k < m→i=k→k < f.length→zkO f s →
  Fn Tryz.prog T zn (zbz i) (zby f (.own 7) s++[.row 6 (s.out.map dNd)]) (.d (.int .i64 ((fin f (k+1) k s).1:Int))) (zez f (fin f (k+1) k s).2):=by
 intro m
 induction m with
 | zero=>intro k i s h;omega
 | succ m ih =>
  intro k i s hk hi hkf hs
  subst hi
  have hl:s.out.length≤1000:=Nat.le_trans (zeJ hs) hL
  cases hd:s.done.lookup k with
  | some r =>
   have e:fin f (k+1) k s=(r,s):=by rw [fin,hd]
   have hfd:zy (zR s.done) (.int .i64 (k:Int))=some (some (D.int .i64 (r:Int))):=by rw [zsX,hd];rfl
   rw [e]
   refine zT zp zab (by show 6≤68;decide) _ (fun e env mem n h=>h) ?_
   (repeat' ((conv=>whnf);first|refine vA ?_|refine vG ?_|refine vT ?_|refine zaj.mk _ ‹_› ?_));all_goals try conv=>whnf
   refine ⟨trivial,_,[(0,0),(1,1),(2,2),(3,3),(4,4),(5,5),(6,6),(8,7)],[],rfl,.inl (by (repeat' exact rfl)),⟨by rfl,by rfl,by rfl,trivial,by (repeat' first|exact trivial|exact rfl|refine And.intro ?_ ?_|refine ⟨_,rfl,?_⟩|exact of_decide_eq_true rfl)⟩,by (repeat' first|exact trivial|exact rfl|refine And.intro ?_ ?_|refine ⟨_,rfl,?_⟩)⟩
  | none =>
   obtain ⟨n,hn⟩ : ∃ n,f[k]? = some n:=⟨f[k],by simp [hkf]⟩
   have hn':f.getD k default=n:=by simp [List.getD,hn]
   cases hx:zK n.op with
   | false =>
    have hy:zB n.op=false:=by
     cases hy:zB n.op with
     | true=>rw [zX hy] at hx;cases hx
     | false=>rfl
    have hu:=zfD (T:=T) hx hy
    have e:=zrr hf hkf hd (by rw [hn'];exact hx) (by rw [hn'];exact hy)
    rw [hn'] at e
    cases hp:s.out.idxOf? n with
    | some j =>
     rw [zan hp] at e
     rw [e]
     simp only [zez,zbc]
     exact zDn hL hn hl (zI hd) hu (zeD hp)
    | none =>
     rw [zbt hp,← List.length_map (f:=dNd)] at e
     rw [e]
     simp only [zez,zbc,zdK,List.map_append,List.map_cons,List.map_nil]
     exact zDo hL hn hl (zI hd) hu (zc3 hp)
   | true =>
    have hxk:=zbj hf hkf (by rw [hn'];exact hx)
    rw [hn'] at hxk
    obtain ⟨i1,d1⟩:=zdd hf hxk.2 (by omega) hs hd
    have c1:=ih n.x.toNat n.x s (by omega) (by omega) (by omega) hs
    cases h1:fin f (n.x.toNat+1) n.x.toNat s with
    | mk r1 s1 =>
    rw [h1] at i1 d1 c1
    simp only at i1 d1 c1
    have l1:s1.out.length≤1000:=Nat.le_trans (zeJ i1) hL
    cases hy:zB n.op with
    | false =>
     have hu:=zfD (T:=T) hx hy
     have e:=zrs hf hkf hd hn' hx hy h1
     cases hp:s1.out.idxOf? ⟨n.op,n.i,n.e,n.g,(r1:Int),n.y⟩ with
     | some j =>
      rw [zan hp] at e
      rw [e]
      simp only [zez,zbc]
      exact zDp hL hn hl (zI hd) hu l1 c1 (zI d1) (zeD hp)
     | none =>
      rw [zbt hp,← List.length_map (f:=dNd)] at e
      rw [e]
      simp only [zez,zbc,zdK,List.map_append,List.map_cons,List.map_nil]
      exact zDq hL hn hl (zI hd) hu l1 c1 (zI d1) (zc3 hp)
    | true =>
     have hyk:=zd1 hf hkf (by rw [hn'];exact hy)
     rw [hn'] at hyk
     obtain ⟨i2,d2⟩:=zdd hf hyk.2 (by omega) i1 d1
     have c2:=ih n.y.toNat n.y s1 (by omega) (by omega) (by omega) i1
     cases h2:fin f (n.y.toNat+1) n.y.toNat s1 with
     | mk r2 s2 =>
     rw [h2] at i2 d2 c2
     simp only at i2 d2 c2
     have l2:s2.out.length≤1000:=Nat.le_trans (zeJ i2) hL
     have hu:=zfD (T:=T) hx hy
     have e:=zrt hf hkf hd hn' hx hy h1 h2
     cases hp:s2.out.idxOf? ⟨n.op,n.i,n.e,n.g,(r1:Int),(r2:Int)⟩ with
     | some j =>
      rw [zan hp] at e
      rw [e]
      simp only [zez,zbc]
      exact zDr hL hn hl (zI hd) hu l1 c1 (zI d1) l2 c2 (zI d2) (zeD hp)
     | none =>
      rw [zbt hp,← List.length_map (f:=dNd)] at e
      rw [e]
      simp only [zez,zbc,zdK,List.map_append,List.map_cons,List.map_nil]
      exact zDs hL hn hl (zI hd) hu l1 c1 (zI d1) l2 c2 (zI d2) (zc3 hp)
theorem zCr {f:List Nd} (hf:zao f) (hL:f.length≤1000) : ∀ (m k:Nat) (i:Int),k < m→i=k→k < f.length →
  Fn Tryz.prog T zn (zbz i) (zby f (.nils 6) ⟨[],[]⟩) (.d (.int .i64 ((fin f (k+1) k ⟨[],[]⟩).1:Int))) (zfW f (fin f (k+1) k ⟨[],[]⟩).2):=by
 intro m
 induction m with
 | zero=>intro k i h;omega
 | succ m ih =>
  intro k i hk hi hkf
  subst hi
  have hs:=zsp f
  have hd:(FSt.mk [] []).done.lookup k=none:=rfl
  have hx0:True:=trivial
  cases hx0 with
  | intro =>
   obtain ⟨n,hn⟩ : ∃ n,f[k]? = some n:=⟨f[k],by simp [hkf]⟩
   have hn':f.getD k default=n:=by simp [List.getD,hn]
   cases hx:zK n.op with
   | false =>
    have hy:zB n.op=false:=by
     cases hy:zB n.op with
     | true=>rw [zX hy] at hx;cases hx
     | false=>rfl
    have hu:=zfD (T:=T) hx hy
    have e:=zrr hf hkf hd (by rw [hn'];exact hx) (by rw [hn'];exact hy)
    rw [hn'] at e
    have hp:([]:List Nd).idxOf? n=none:=rfl
    rw [zbt hp,← List.length_map (f:=dNd)] at e
    rw [e]
    simp only [zfW,zbc,zdK,List.map_append,List.map_cons,List.map_nil]
    exact zDt hL hn (zI hd) hu (zc3 hp)
   | true =>
    have hxk:=zbj hf hkf (by rw [hn'];exact hx)
    rw [hn'] at hxk
    obtain ⟨i1,d1⟩:=zdd hf hxk.2 (by omega) hs hd
    have c1:=ih n.x.toNat n.x (by omega) (by omega) (by omega)
    cases h1:fin f (n.x.toNat+1) n.x.toNat (FSt.mk [] []) with
    | mk r1 s1 =>
    rw [h1] at i1 d1 c1
    simp only at i1 d1 c1
    have l1:s1.out.length≤1000:=Nat.le_trans (zeJ i1) hL
    cases hy:zB n.op with
    | false =>
     have hu:=zfD (T:=T) hx hy
     have e:=zrs hf hkf hd hn' hx hy h1
     cases hp:s1.out.idxOf? ⟨n.op,n.i,n.e,n.g,(r1:Int),n.y⟩ with
     | some j =>
      rw [zan hp] at e
      rw [e]
      simp only [zfW,zbc]
      exact zDu hL hn (zI hd) hu l1 c1 (zI d1) (zeD hp)
     | none =>
      rw [zbt hp,← List.length_map (f:=dNd)] at e
      rw [e]
      simp only [zfW,zbc,zdK,List.map_append,List.map_cons,List.map_nil]
      exact zDv hL hn (zI hd) hu l1 c1 (zI d1) (zc3 hp)
    | true =>
     have hyk:=zd1 hf hkf (by rw [hn'];exact hy)
     rw [hn'] at hyk
     obtain ⟨i2,d2⟩:=zdd hf hyk.2 (by omega) i1 d1
     have c2:=zDC (T:=T) hf hL (n.y.toNat+1) n.y.toNat n.y s1 (by omega) (by omega) (by omega) i1
     cases h2:fin f (n.y.toNat+1) n.y.toNat s1 with
     | mk r2 s2 =>
     rw [h2] at i2 d2 c2
     simp only at i2 d2 c2
     have l2:s2.out.length≤1000:=Nat.le_trans (zeJ i2) hL
     have hu:=zfD (T:=T) hx hy
     have e:=zrt hf hkf hd hn' hx hy h1 h2
     cases hp:s2.out.idxOf? ⟨n.op,n.i,n.e,n.g,(r1:Int),(r2:Int)⟩ with
     | some j =>
      rw [zan hp] at e
      rw [e]
      simp only [zfW,zbc]
      exact zDw hL hn (zI hd) hu l1 c1 (zI d1) l2 c2 (zI d2) (zeD hp)
     | none =>
      rw [zbt hp,← List.length_map (f:=dNd)] at e
      rw [e]
      simp only [zfW,zbc,zdK,List.map_append,List.map_cons,List.map_nil]
      exact zDx hL hn (zI hd) hu l1 c1 (zI d1) l2 c2 (zI d2) (zc3 hp)
end Go.Ab
namespace Go.Ab
open Go Go.Proofs
set_option maxRecDepth 10000
set_option maxHeartbeats 4000000
variable {T:Nat→Obj→Prop}
theorem zrw {f:List Nd} (hf:zao f) (hL:f.length≤1000) {k:Nat} {i:Int} (hi:i=k) (hk:k < f.length):Fn Tryz.prog T zfL [.d (dF f),.d (.int .i64 i)] [] (.d (dF (zbl f k))) []:=by
 have c:=zCr (T:=T) hf hL (k+1) k i (by omega) hi hk
 refine zd zp zpI (by show 2≤16;decide) ?_
 (repeat' ((conv=>whnf);refine vT ?_));all_goals try conv=>whnf
 refine zL.objs [5,0,6,3,1,4,2] (c) (by (repeat' first|exact rfl|refine And.intro ?_ ?_|refine ⟨_,rfl,?_⟩)) (by (repeat' first|exact rfl|refine And.intro ?_ ?_|refine ⟨_,rfl,?_⟩)) (by rfl) (by rfl) (by simp) ?_
 (repeat' ((conv=>whnf);refine vT ?_));all_goals try conv=>whnf
 rfl
def zht (f:List Nd) (i:Int):List Nd:=if zaX f≠0∨i < 0∨(f.length:Int)≤i then [] else zbl f i.toNat
def cL (f:List Nd):List Nd:=if zaX f≠0 then [] else zbl f (f.length - 1)
theorem zz8 (f:List Nd):zht f ((f.length:Int) - 1)=cL f:=by
 unfold zht cL
 by_cases h:zaX f=0
 ·have:=(zdN.1 h).1
  rw [if_neg (by omega),if_neg (by omega)]
  congr 1
  omega
 ·rw [if_pos (.inl h),if_pos h]
theorem zDB (f:List Nd) (i:Int):Fn Tryz.prog T zjd [.d (dF f),.d (.int .i64 i)] [] (.d (dF (zht f i))) []:=by
 refine zd zp zt1 (by show 2≤21;decide) ?_
 (repeat' ((conv=>whnf);first|refine vA ?_|((first|refine vD ?_ ?_|refine vF ?_ ?_)<;>intro hc<;>try simp only [vL] at hc)|refine vJ fun hg=>?_|refine vT ?_|refine yD (zs2 _) ⟨⟨rfl,rfl⟩,rfl⟩ rfl ?_));all_goals try conv=>whnf
 ·have hp:zht f i=[]:=if_pos (.inl ‹_›)
  rw [hp];rfl
 ·have hp:zht f i=[]:=if_pos (.inr (.inl ‹_›))
  rw [hp];rfl
 ·have hp:zht f i=[]:=if_pos (.inr (.inr (by omega)))
  rw [hp];rfl
 ·have h0:zaX f=0:=by omega
  have h1:=zdN.1 h0
  have hp:zht f i=zbl f i.toNat:=if_neg (by omega)
  rw [hp]
  have cS:=zrw (T:=T) (f:=f) h1.2.2 (by omega) (k:=i.toNat) (i:=i) (by omega) (by omega)
  (repeat' ((conv=>whnf);first|refine vT ?_|refine yN cS ⟨⟨rfl,rfl⟩,⟨rfl,rfl⟩,rfl⟩ ?_));all_goals try conv=>whnf
  rfl
theorem zpX (f:List Nd):Fn Tryz.prog T zfK [.d (dF f)] [] (.d (dF (cL f))) []:=by
 refine zd zp zpH (by show 1≤8;decide) ?_
 (repeat' ((conv=>whnf);first|refine vJ fun hg=>?_|refine vT ?_|(refine vO ?_ ?_;·(simp only [vM] at *;omega))|fail));all_goals try conv=>whnf
 have cC:=zDB (T:=T) f (((f.map dNd).length:Int) - 1)
 rw [show zht f (((f.map dNd).length:Int) - 1)=cL f by rw [List.length_map,zz8]] at cC
 (repeat' ((conv=>whnf);first|refine vT ?_|refine yN cC ⟨⟨rfl,rfl⟩,⟨rfl,rfl⟩,rfl⟩ ?_));all_goals try conv=>whnf
 rfl
theorem zmk {f:List Nd} (h:zaX f=0):zpk (zaa f (f.length - 1)) (cL f)∧(cL f).length≤f.length:=by
 obtain ⟨h1,h2,h3⟩:=zdN.1 h
 unfold cL
 rw [if_neg (by omega)]
 exact ⟨zhQ h3 (by omega),(zfU h3 (by omega)).2.1⟩
theorem zyH {f:List Nd} (h:zaX f≠0):cL f=[]:=if_pos h
theorem zj2 (f:List Nd):(cL f).length≤200:=by
 by_cases h:zaX f=0
 ·have:=(zmk h).2
  have:=(zdN.1 h).2.1
  omega
 ·rw [zyH h];simp
theorem zpp (f:List Nd):zao (cL f):=by
 by_cases h:zaX f=0
 ·exact (zmk h).1.ok
 ·rw [zyH h];exact zaZ
theorem ziq {f:List Nd} {n:Nd} (h:n∈cL f):zdn n.hd:=by
 obtain ⟨i,hi⟩:=List.getElem?_of_mem h
 exact (zaF.1 (zpp f i n hi)).1
theorem zv2 (m:Hd→Nat) {b:Nat} (f:List Nd) (h : ∀ n∈cL f,m n.hd < 2 ^ b) (k:Nat):uni m ((cL f).take k) < 2 ^ b :=
 (zfq m).2 fun n hn=>h n (List.mem_of_mem_take hn)
theorem zkK {i:Int} (h0:0≤i) (h7:i≤7):(-9223372036854775808≤(1:Int) * 2 ^ (min i.toNat IntKind.i64.bits)∧(1:Int) * 2 ^ (min i.toNat IntKind.i64.bits)≤9223372036854775807)∧((2 ^ i.toNat:Nat):Int)=(1:Int) * 2 ^ (min i.toNat IntKind.i64.bits):=by
 have:i=0∨i=1∨i=2∨i=3∨i=4∨i=5∨i=6∨i=7:=by omega
 rcases this with rfl|rfl|rfl|rfl|rfl|rfl|rfl|rfl<;>decide
def ziF (m:Nat) (n:Int):Bool:=decide (31≤n∨m < 2 ^ n.toNat)
def zfu (f:List Nd) (agents facts:Int):Bool:=decide (zaX f=0)&&ziF (uni zaz (cL f)) agents&&ziF (uni zbp (cL f)) facts
end Go.Ab
namespace Go.Ab
open Go Go.Proofs
set_option maxRecDepth 10000
set_option maxHeartbeats 4000000
variable {T:Nat→Obj→Prop}
theorem zpc {β:Type} (v:Hd→β→β→β) (d:β) (n:Nd) : ∀ (l:List Nd) (acc:List β),za0 v d (l++[n]) acc=za0 v d l acc++[v n.hd ((za0 v d l acc).getD n.x.toNat d) ((za0 v d l acc).getD n.y.toNat d)]
 | [],acc=>rfl
 | m::r,acc=>by rw [List.cons_append,za0,za0,zpc v d n r]
theorem ztN (p:PM):zxo (zaq p) where
 x h a b c hx:=by
  have : ¬(4≤h.op∧h.op≤21):=by simpa [zK] using hx
  unfold zaq
  repeat (rw [if_neg (show ¬h.op=4 by omega)])
  by_cases h1:h.op=1
  ·simp [h1]
  ·by_cases h3:h.op=3
   ·simp [h3]
   ·simp only [h1,h3,if_false,show ¬h.op=5 by omega,show ¬h.op=6 by omega,show ¬h.op=7 by omega,show ¬h.op=8 by omega,show ¬h.op=9 by omega,show ¬h.op=10 by omega,show ¬h.op=11 by omega,show ¬h.op=13 by omega,show ¬h.op=14 by omega,show ¬h.op=15 by omega]
 y h a b c hy:=by
  have : ¬(5≤h.op∧h.op≤8∨h.op=13∨h.op=14∨h.op=16∨h.op=19∨h.op=21):=by simpa [zB] using hy
  unfold zaq
  simp only [show ¬h.op=5 by omega,show ¬h.op=6 by omega,show ¬h.op=7 by omega,show ¬h.op=8 by omega,show ¬h.op=13 by omega,show ¬h.op=14 by omega,if_false]
noncomputable def zcP (p:PM) (f:List Nd):BitVec 64×Int :=
 if zm p≠0 then (0#64,zm p) else if zaX f≠0 then (0#64,zaX f) else if zbI .i64 (fun p q=>p &&& ~~~q) (uni zai (cL f):Int) 59≠0 then (0#64,10) else
 if zfu f p.cell.length p.val.length=false then (0#64,2) else ((za0 (zaq p) 0#64 (cL f) []).getD ((cL f).length - 1) 0#64,0)
abbrev dUE (x:BitVec 64×Int):D := .tup [.u64 x.1,.int .i64 x.2]
theorem zDy {f:List Nd} {a b:Nat} (ha:a≤4) (hb:b≤8) (h:zfu f a b=true) {n:Nd} (hn:n∈cL f):(n.op=3→0≤n.i∧n.i < b)∧(zH n.op=true→0≤n.i∧n.i < a)∧(zO n.op=true→n.g.toNat < 2 ^ a):=by
 have hh:=ziq hn
 simp only [zfu,ziF,Bool.and_eq_true,decide_eq_true_eq,Int.toNat_natCast] at h
 obtain ⟨⟨-,h1⟩,h2⟩:=h
 have h1:=(zfq zaz).1 (h1.resolve_left (by omega)) n hn
 have h2:=(zfq zbp).1 (h2.resolve_left (by omega)) n hn
 refine ⟨fun e=>?_,fun e=>?_,fun e=>?_⟩
 ·have e':z2 n.hd.op=true:=decide_eq_true e
  have h3:0≤n.i∧n.i≤7:=hh.fact e'
  rw [zbp,if_pos e'] at h2
  have h2:2 ^ n.i.toNat < 2 ^ b:=h2
  have:=(Nat.pow_lt_pow_iff_right (by decide:1 < 2)).1 h2
  omega
 ·have h3:0≤n.i∧n.i≤3:=hh.agent e
  rw [zaz,if_pos (show zH n.hd.op=true from e)] at h1
  have h1:2 ^ n.i.toNat < 2 ^ a:=h1
  have:=(Nat.pow_lt_pow_iff_right (by decide:1 < 2)).1 h1
  omega
 ·have h3 : ¬ zH n.hd.op=true:=by
   have:11≤n.op∧n.op≤13:=by simpa [zO] using e
   simp only [zH,decide_eq_true_eq];show ¬(n.op=9∨n.op=10∨n.op=14∨n.op=15);omega
  rw [zaz,if_neg h3] at h1
  exact h1
end Go.Ab
namespace Go.Ab
def zaO (k:Nat) (n:Nd):Nd := { n with x:=if zK n.op=true then n.x+k else n.x,y:=if zB n.op=true then n.y+k else n.y }
def zG (f c:List Nd):List Nd:=f++c.map (zaO f.length)
theorem zx6 {n:Nd} {j:Int} {k:Nat} (hj:0≤j) (h:zbe n j=0):zbe (zaO k n) (k+j)=0:=by
 obtain ⟨h1,h2,h3,h4,h5⟩:=zaF.1 h
 refine zaF.2 ⟨h1,fun e=>?_,fun e=>?_,fun e=>?_,fun e=>?_⟩
 ·have e:zK n.op=true:=e
  have:=h2 e
  simp only [zaO,e,if_true];omega
 ·have e:zK n.op=false:=e
  have:=h3 e
  simp only [zaO,e];simpa using this
 ·have e:zB n.op=true:=e
  have:=h4 e
  simp only [zaO,e,if_true];omega
 ·have e:zB n.op=false:=e
  have:=h5 e
  simp only [zaO,e];simpa using this
theorem zc7 {f c:List Nd} (hf:zao f) (hc:zao c):zao (zG f c):=by
 intro k n hk
 unfold zG at hk
 rw [List.getElem?_append] at hk
 split at hk
 ·exact hf k n hk
 ·rename_i h
  rw [List.getElem?_map,Option.map_eq_some_iff] at hk
  obtain ⟨m,hm,rfl⟩:=hk
  have:=zx6 (k:=f.length) (by omega) (hc _ m hm)
  rwa [show ((f.length:Nat):Int)+((k - f.length:Nat):Int)=k by omega] at this
theorem zcD {f c:List Nd} (hf:zao f) (hc:zao c) : ∀ (m j:Nat),j < m→j < c.length→zaa (zG f c) (f.length+j)=zaa c j
 | 0,j,h,_=>by omega
 | m+1,j,h,hj=>by
  have ho:=zc7 hf hc
  have hl:f.length+j < (zG f c).length:=by simp [zG];omega
  have hg:(zG f c).getD (f.length+j) default=zaO f.length (c.getD j default):=by
   simp [zG,List.getD,hj]
  rw [zfC ho hl,zfC hc hj,hg]
  have eo:(zaO f.length (c.getD j default)).op=(c.getD j default).op:=rfl
  have eh:(zaO f.length (c.getD j default)).hd=(c.getD j default).hd:=rfl
  rw [eo,eh]
  cases hy:zB (c.getD j default).op with
  | true =>
   have hx:=zX hy
   have e1:=zbj hc hj hx
   have e2:=zd1 hc hj hy
   have x1:(zaO f.length (c.getD j default)).x.toNat=f.length+(c.getD j default).x.toNat:=by simp only [zaO,hx,if_true];omega
   have y1:(zaO f.length (c.getD j default)).y.toNat=f.length+(c.getD j default).y.toNat:=by simp only [zaO,hy,if_true];omega
   simp only [cond_true]
   rw [x1,y1,zcD hf hc m _ (by omega) (by omega),zcD hf hc m _ (by omega) (by omega)]
  | false =>
   cases hx:zK (c.getD j default).op with
   | true =>
    have e1:=zbj hc hj hx
    have x1:(zaO f.length (c.getD j default)).x.toNat=f.length+(c.getD j default).x.toNat:=by simp only [zaO,hx,if_true];omega
    simp only [cond_true,cond_false]
    rw [x1,zcD hf hc m _ (by omega) (by omega)]
   | false=>rfl
theorem zut {f c:List Nd} (hf:zao f) {j:Nat} (hj:j < f.length):zaa (zG f c) j=zaa f j:=zay hf hj
def zb8:Nat→List Nd→Nd→List (List Nd)→Option (Nd×List Nd)
 | _,f,x,[]=>some (x,f)
 | k,f,x,o::r=>if zaX o≠0 then none else
  zb8 (k+1) (zG f (cL o)) (if k=0 then { x with x:=((zG f (cL o)).length:Int) - 1 } else { x with y:=((zG f (cL o)).length:Int) - 1 }) r
def zaP (x:Nd) (f:List Nd):List Nd:=if zbe x f.length≠0 then [] else if 200 < (zbl (f++[x]) f.length).length then [] else zbl (f++[x]) f.length
def zF (x:Nd) (os:List (List Nd)):List Nd:=match zb8 0 [] x os with
 | none=>[]
 | some (x,f)=>zaP x f
structure IsF (f:List Nd) (t:Tm):Prop where
 ok:zaX f=0
 tree:zaa f (f.length - 1)=t
theorem IsF.canon {f:List Nd} {t:Tm} (h:IsF f t):zpk t (cL f)∧(cL f).length≤f.length:=by
 have:=zmk h.ok
 rwa [h.tree] at this
theorem IsF.tok {f:List Nd} {t:Tm} (h:IsF f t):t.ok:=by
 obtain ⟨h1,h2,h3⟩:=zdN.1 h.ok
 rw [← h.tree]
 exact zjS h3 f.length _ (by omega) (by omega)
theorem zru {x:Nd} {f:List Nd} (hf:zao f) (hx:zbe x f.length=0) (hl:f.length≤199):IsF (zaP x f) (zaa (f++[x]) f.length)∧(zaP x f).length≤f.length+1:=by
 have hok:zao (f++[x]):=by
  intro k n hk
  rw [List.getElem?_append] at hk
  split at hk
  ·exact hf k n hk
  ·rename_i h1
   have:k=f.length:=by have:=(List.getElem?_eq_some_iff.1 hk).1;simp at this;omega
   subst this
   simp at hk;subst hk;exact hx
 have hlt:f.length < (f++[x]).length:=by simp
 have h1:=zhQ hok hlt
 have h2:=(zfU hok hlt).2.1
 simp only [List.length_append,List.length_cons,List.length_nil] at h2
 have e:zaP x f=zbl (f++[x]) f.length:=by
  unfold zaP
  rw [if_neg (by omega),if_neg (by omega)]
 rw [e]
 exact ⟨⟨zdN.2 ⟨h1.pos,by omega,h1.ok⟩,h1.tree⟩,h2⟩
theorem zjO {x:Nd} {f:List Nd} (hf:zao f) (hx:zbe x f.length=0):zaa (f++[x]) f.length=cond (zB x.op) (.b x.hd (zaa f x.x.toNat) (zaa f x.y.toNat)) (cond (zK x.op) (.u x.hd (zaa f x.x.toNat)) (.z x.hd)):=by
 have hok:zao (f++[x]):=by
  intro k n hk
  rw [List.getElem?_append] at hk
  split at hk
  ·exact hf k n hk
  ·rename_i h1
   have:k=f.length:=by have:=(List.getElem?_eq_some_iff.1 hk).1;simp at this;omega
   subst this
   simp at hk;subst hk;exact hx
 have hg:(f++[x]).getD f.length default=x:=by simp [List.getD]
 obtain ⟨-,h2,-,h4,-⟩:=zaF.1 hx
 rw [zfC hok (by simp),hg]
 cases hy:zB x.op with
 | true =>
  have hxx:=zX hy
  have e1:=h2 hxx
  have e2:=h4 hy
  simp only [cond_true]
  rw [zay hf (by omega),zay hf (by omega)]
 | false =>
  cases hxx:zK x.op with
  | true =>
   have e1:=h2 hxx
   simp only [cond_true,cond_false]
   rw [zay hf (by omega)]
  | false=>rfl
theorem zxx {h:Hd} (hh:zdn h) (hx:zK h.op=false) (hy:zB h.op=false):IsF (zF ⟨h.op,h.i,h.e,h.g,0,0⟩ []) (.z h)∧(zF ⟨h.op,h.i,h.e,h.g,0,0⟩ []).length≤1:=by
 have hn:zbe ⟨h.op,h.i,h.e,h.g,0,0⟩ ([]:List Nd).length=0:=zaF.2 ⟨hh,fun e=>by simp [hx] at e,fun _=>rfl,fun e=>by simp [hy] at e,fun _=>rfl⟩
 have h1:=zru zaZ hn (by simp)
 rw [zjO zaZ hn] at h1
 simp only [hx,hy,cond_false] at h1
 exact h1
theorem zyG {h:Hd} (hh:zdn h) (hx:zK h.op=true) (hy:zB h.op=false) {o:List Nd} {t:Tm} (ho:IsF o t) (hl:o.length≤199):IsF (zF ⟨h.op,h.i,h.e,h.g,0,0⟩ [o]) (.u h t)∧(zF ⟨h.op,h.i,h.e,h.g,0,0⟩ [o]).length≤o.length+1:=by
 obtain ⟨c1,c2⟩:=ho.canon
 have hp:=c1.pos
 have e0:(zG [] (cL o)).length=(cL o).length:=by simp [zG]
 have hok:=zc7 zaZ c1.ok
 have ht:zaa (zG [] (cL o)) ((cL o).length - 1)=t:=by
  have:=zcD (f:=[]) zaZ c1.ok (cL o).length ((cL o).length - 1) (by omega) (by omega)
  rw [List.length_nil,Nat.zero_add] at this
  rw [this];exact c1.tree
 have hn:zbe ⟨h.op,h.i,h.e,h.g,((zG [] (cL o)).length:Int) - 1,0⟩ (zG [] (cL o)).length=0:=zaF.2 ⟨hh,fun _=>by simp only;omega,fun e=>by simp [hx] at e,fun e=>by simp [hy] at e,fun _=>rfl⟩
 have e:zF ⟨h.op,h.i,h.e,h.g,0,0⟩ [o]=zaP ⟨h.op,h.i,h.e,h.g,((zG [] (cL o)).length:Int) - 1,0⟩ (zG [] (cL o)):=by
  simp [zF,zb8,ho.ok]
 have h1:=zru hok hn (by omega)
 rw [zjO hok hn] at h1
 simp only [hx,hy,cond_false,cond_true] at h1
 rw [show (((zG [] (cL o)).length:Int) - 1).toNat=(cL o).length - 1 by omega,ht] at h1
 rw [e]
 exact ⟨h1.1,by have:=h1.2;omega⟩
theorem zxw {x:Nd} {o:List Nd} (h:zaX o≠0):zF x [o]=[]:=by simp [zF,zb8,h]
theorem zrd {x:Nd} {o q:List Nd} (h:zaX o≠0∨zaX q≠0):zF x [o,q]=[]:=by
 by_cases h1:zaX o=0
 ·have h2:=h.resolve_left (by omega)
  simp [zF,zb8,h1,h2]
 ·simp [zF,zb8,h1]
end Go.Ab
namespace Go.Ab
open Go
def zik (h:Hd):Prop := ∀ i,(zai h).testBit i=true→(59:Nat).testBit i=true
def zhJ (p:PM) (h:Hd):Prop:=zaz h < 2 ^ p.cell.length∧zbp h < 2 ^ p.val.length
theorem zvr {c:List Nd} {t:Tm} (hc:zpk t c):zbI .i64 (fun p q=>p &&& ~~~q) (uni zai c:Int) 59=0↔t.all zik:=by
 have hu:uni zai c < 2 ^ 63:=Nat.lt_trans ((zfq zai).2 fun n _=>zh4 n.hd) (by decide)
 have:=zio (b:=59) hu (by decide)
 rw [show ((59:Nat):Int)=59 from rfl] at this
 rw [this,← hc.all]
 constructor
 ·intro h n hn i hi
  exact h i (by rw [zih];exact List.any_eq_true.2 ⟨n,hn,hi⟩)
 ·intro h i hi
  rw [zih,List.any_eq_true] at hi
  obtain ⟨n,hn,hi⟩:=hi
  exact h n hn i hi
theorem zgk {p q:Hd→Prop} : ∀ {t:Tm},t.all (fun h=>p h∧q h)↔t.all p∧t.all q
 | .z h=>Iff.rfl
 | .u h x=>by
  simp only [Tm.all,zgk (t:=x)]
  exact ⟨fun ⟨⟨a,b⟩,c,d⟩=>⟨⟨a,c⟩,b,d⟩,fun ⟨⟨a,c⟩,b,d⟩=>⟨⟨a,b⟩,c,d⟩⟩
 | .b h x y=>by
  simp only [Tm.all,zgk (t:=x),zgk (t:=y)]
  exact ⟨fun ⟨⟨a,b⟩,⟨c,d⟩,e,f⟩=>⟨⟨a,c,e⟩,b,d,f⟩,fun ⟨⟨a,c,e⟩,b,d,f⟩=>⟨⟨a,b⟩,⟨c,d⟩,e,f⟩⟩
theorem zu3 {p:PM} (hg:zxj p) {f:List Nd} {t:Tm} (hf:IsF f t):zfu f p.cell.length p.val.length=true↔t.all (zhJ p):=by
 have h4:=hg.n4
 have h8:=hg.v8
 have hc:=hf.canon.1
 unfold zhJ
 rw [zgk,← hc.all,← hc.all,← zfq zaz,← zfq zbp]
 simp only [zfu,ziF,Bool.and_eq_true,decide_eq_true_eq,Int.toNat_natCast]
 constructor
 ·rintro ⟨⟨-,h1⟩,h2⟩
  exact ⟨h1.resolve_left (by omega),h2.resolve_left (by omega)⟩
 ·rintro ⟨h1,h2⟩
  exact ⟨⟨hf.ok,.inr h1⟩,.inr h2⟩
theorem zvm {p:PM} {f:List Nd} {t:Tm} (hf:IsF f t) (hc0:zm p=0) (h1:t.all zik) (h2:t.all (zhJ p)):zcP p f=(ev (zaq p) 0#64 t,0):=by
 have hc:=hf.canon.1
 have hg:=zM hc0
 rw [zcP,if_neg (not_not_intro hc0),if_neg (not_not_intro hf.ok),if_neg (not_not_intro ((zvr hc).2 h1)),if_neg (by rw [(zu3 hg hf).2 h2];decide),ztD (ztN p) hc]
structure OkT (p:PM) (f:List Nd) (t:Tm):Prop where
 isF:IsF f t
 lang:t.all zik
 fit:t.all (zhJ p)
theorem OkT.holds {p:PM} {f:List Nd} {t:Tm} (h:OkT p f t) (hc0:zm p=0):zcP p f=(ev (zaq p) 0#64 t,0):=zvm h.isF hc0 h.lang h.fit
theorem OkT.unary {p:PM} {f:List Nd} {t:Tm} (hf:OkT p f t) {h:Hd} (hh:zdn h) (hx:zK h.op=true) (hy:zB h.op=false) (ha:zik h) (hp:zhJ p h) (hl:f.length≤199) :
  OkT p (zF ⟨h.op,h.i,h.e,h.g,0,0⟩ [f]) (.u h t):=⟨(zyG hh hx hy hf.isF hl).1,⟨ha,hf.lang⟩,⟨hp,hf.fit⟩⟩
theorem zuu {h:Hd} (hf:zai h=0∨zai h=1∨zai h=2∨zai h=8∨zai h=16∨zai h=32):zik h:=by
 intro i hi
 have key : ∀ k,(2 ^ k).testBit i=true→i=k:=fun k hk=>by
  rw [Nat.testBit_two_pow] at hk;exact (of_decide_eq_true hk).symm
 rcases hf with e|e|e|e|e|e<;>rw [e] at hi
 ·simp at hi
 ·have:=key 0 hi;subst this;decide
 ·have:=key 1 hi;subst this;decide
 ·have:=key 3 hi;subst this;decide
 ·have:=key 4 hi;subst this;decide
 ·have:=key 5 hi;subst this;decide
theorem zAo {op:Int} (ho:op=9∨op=10∨op=14∨op=15) {p:PM} (hg:zxj p) {a:Nat} (ha:a < p.cell.length):zdn ⟨op,a,0,0⟩∧zik ⟨op,a,0,0⟩∧zhJ p ⟨op,a,0,0⟩:=by
 have h4:=hg.n4
 have hag:zH op=true:=decide_eq_true (by omega)
 have hfa:z2 op=false:=decide_eq_false (by omega)
 have hev:zU op=false:=decide_eq_false (by omega)
 have hgr:zO op=false:=decide_eq_false (by omega)
 refine ⟨⟨decide_eq_true (by simp only;omega),fun e=>?_,fun _=>⟨by simp only;omega,by simp only;omega⟩,fun e=>?_,fun e=>?_,fun _ e=>?_,fun _=>rfl,fun _=>rfl⟩,zuu ?_,?_,?_⟩
 ·simp [hfa] at e
 ·simp [hev] at e
 ·simp [hgr] at e
 ·simp [hag] at e
 ·show zai ⟨op,0,0,0⟩=0∨zai ⟨op,0,0,0⟩=1∨zai ⟨op,0,0,0⟩=2∨zai ⟨op,0,0,0⟩=8∨zai ⟨op,0,0,0⟩=16∨zai ⟨op,0,0,0⟩=32
  rcases ho with rfl|rfl|rfl|rfl<;>decide
 ·rw [zaz,if_pos (show zH (Hd.mk op a 0 0).op=true from hag)]
  exact Nat.pow_lt_pow_right (by omega) (by simp only;omega)
 ·rw [zbp,if_neg (show ¬z2 (Hd.mk op a 0 0).op=true by simp [hfa])]
  exact Nat.two_pow_pos _
theorem zCh {op:Int} (ho:op=1∨op=2∨op=4∨op=5∨op=6∨op=7∨op=8) {p:PM} : zdn ⟨op,0,0,0⟩∧zik ⟨op,0,0,0⟩∧zhJ p ⟨op,0,0,0⟩:=by
 have hag:zH op=false:=decide_eq_false (by omega)
 have hfa:z2 op=false:=decide_eq_false (by omega)
 have hev:zU op=false:=decide_eq_false (by omega)
 have hgr:zO op=false:=decide_eq_false (by omega)
 refine ⟨⟨decide_eq_true (by simp only;omega),fun e=>?_,fun e=>?_,fun e=>?_,fun e=>?_,fun _ _ _=>rfl,fun _=>rfl,fun _=>rfl⟩,zuu ?_,?_,?_⟩
 ·simp [hfa] at e
 ·simp [hag] at e
 ·simp [hev] at e
 ·simp [hgr] at e
 ·rcases ho with rfl|rfl|rfl|rfl|rfl|rfl|rfl<;>decide
 ·rw [zaz,if_neg (show ¬zH (Hd.mk op 0 0 0).op=true by simp [hag])]
  exact Nat.two_pow_pos _
 ·rw [zbp,if_neg (show ¬z2 (Hd.mk op 0 0 0).op=true by simp [hfa])]
  exact Nat.two_pow_pos _
end Go.Ab
namespace Go.Ab
open Go
section
variable {p:PM} (hc0:zm p=0) {a:Nat} (ha:a < p.cell.length)
include hc0 ha
omit hc0 ha in
theorem zpn {x y:BitVec 64} {i:Nat} : (x&&&y).getLsbD i=true↔x.getLsbD i=true∧y.getLsbD i=true:=by
 rw [BitVec.getLsbD_and,Bool.and_eq_true]
omit hc0 ha in
theorem zzv {x y:BitVec 64} {i:Nat} : (x|||y).getLsbD i=true↔x.getLsbD i=true∨y.getLsbD i=true:=by
 rw [BitVec.getLsbD_or,Bool.or_eq_true]
omit hc0 ha in
theorem zjK {x y:BitVec 64} {i:Nat} : (x &&& ~~~y).getLsbD i=true↔x.getLsbD i=true ∧ ¬y.getLsbD i=true:=by
 rw [BitVec.getLsbD_and,BitVec.getLsbD_not,Bool.and_eq_true]
 constructor
 ·rintro ⟨h1,h2⟩
  refine ⟨h1,fun h=>?_⟩
  rw [h] at h2;simp at h2
 ·rintro ⟨h1,h2⟩
  have:i < 64:=BitVec.lt_of_getLsbD h1
  refine ⟨h1,?_⟩
  rw [decide_eq_true this,Bool.true_and]
  cases hy:y.getLsbD i with
  | true=>exact absurd hy h2
  | false=>rfl
end
end Go.Ab
namespace Go.Proofs
def Tryz.lays129_ren:Go.Shelf.Ren:=⟨fun|129=>159|n=>n,fun|53=>44|3=>3|4=>4|46=>101|5=>5|9=>9|n=>n,fun|n=>n⟩
theorem Tryz.lays129:Go.Proofs.Lays.n129 Tryz.prog Tryz.lays129_ren := {
 mixed:=by kernel_rfl
 f129:=Tryz.func159.trans (congrArg some (by kernel_rfl))
 t3:=Tryz.underlying3
 a3:=Tryz.isAgg3
 z3:=Tryz.sizeOf3
 v3:=Tryz.zeroValue3
 t4:=Tryz.underlying4
 a4:=Tryz.isAgg4
 z4:=Tryz.sizeOf4
 v4:=Tryz.zeroValue4
 t5:=Tryz.underlying5
 a5:=Tryz.isAgg5
 z5:=Tryz.sizeOf5
 v5:=Tryz.zeroValue5
 t9:=Tryz.underlying9
 a9:=Tryz.isAgg9
 z9:=Tryz.sizeOf9
 v9:=Tryz.zeroValue9
 t46:=Tryz.underlying101
 a46:=Tryz.isAgg101
 z46:=Tryz.sizeOf101
 v46:=Tryz.zeroValue101
 t53:=Tryz.underlying44
 a53:=Tryz.isAgg44
 z53:=Tryz.sizeOf44
 v53:=Tryz.zeroValue44 }
end Go.Proofs
namespace Go.Ab
open Go Go.Proofs
set_option maxRecDepth 10000
set_option maxHeartbeats 4000000
variable {T:Nat→Obj→Prop}
theorem zxy:zdo Tryz.prog zdC:=⟨_,Tryz.func159,by kernel_rfl,by kernel_rfl⟩
theorem zva (x:BitVec 64):Fn Tryz.prog T zdC [.d (.u64 x)] [] (.d (.int .i64 (Sort.bitsLen x.toNat:Int))) []:=by
 refine zwU (ds:=[.u64 x]) zxy fun w args hw hsz hargs=>?_
 obtain ⟨X,hX⟩:=hargs 0 (by simp)
 have ha:args = #[.int .u64 (x.toNat:Int)]:=by
  have h0:args.getD 0 undef = .int .u64 (x.toNat:Int):=by
   generalize args.getD 0 undef=y at hX
   cases hX;rfl
  obtain ⟨l⟩:=args
  match l,hsz with
  | [y],_=>rw [← h0];rfl
 rw [ha]
 have:=Any.bits_Len64 Tryz.lays129 (x.toNat:Int) w (by omega) (by have:=x.isLt;omega)
 refine this.mono fun e w' he=>⟨_,he.1,he.2,fun X=>?_⟩
 rw [Int.toNat_natCast,Go.Proofs.bitLen_eq _ x.isLt]
 exact .int _ _ (by decide)
theorem zDA (x:BitVec 64):Fn Tryz.prog T zc9 [.d (.u64 x)] [] (.d (.int .i64 (Sort.bitsLen x.toNat:Int))) []:=by
 refine zd zp zrI (by show 1≤8;decide) ?_
 (repeat' ((conv=>whnf);first|refine vT ?_|refine vX ?_|refine yD (zva _) ⟨⟨rfl,rfl⟩,rfl⟩ rfl ?_));all_goals try conv=>whnf
end Go.Ab
namespace Go.Ab
open Go Go.Proofs
set_option maxRecDepth 10000
set_option maxHeartbeats 4000000
variable {T:Nat→Obj→Prop}
section
open Go.Sort
variable {α:Type} [Inhabited α] (lt:α→α→Bool)
def zid (d:Array α) (a b p lim:Nat) (wb wp:Bool):Array α :=
 if a > 0∧lt d[a - 1]! d[p]! = false then pdq lt (partitionEqual lt d a b p).2 (partitionEqual lt d a b p).1 b lim wb wp
 else if (partition lt d a b p).1 - a < b - (partition lt d a b p).1 then
  pdq lt (pdq lt (partition lt d a b p).2.2 a (partition lt d a b p).1 lim true true) ((partition lt d a b p).1+1) b lim (decide ((partition lt d a b p).1 - a ≥ (b - a) / 8)) (partition lt d a b p).2.1
 else pdq lt (pdq lt (partition lt d a b p).2.2 ((partition lt d a b p).1+1) b lim true true) a (partition lt d a b p).1 lim (decide (b - (partition lt d a b p).1 ≥ (b - a) / 8)) (partition lt d a b p).2.1
def zvN (d:Array α) (a b p lim:Nat) (wb wp:Bool) (hint:Hint):Array α :=
 if wb=true∧wp=true∧hint = .increasing then (if (partialInsertionSort lt d a b).2=true then (partialInsertionSort lt d a b).1 else zid lt (partialInsertionSort lt d a b).1 a b p lim wb wp)
 else zid lt d a b p lim wb wp
def zqO (d:Array α) (a b lim:Nat) (wb wp:Bool):Array α :=
 if (choosePivot lt d a b).2 = .decreasing then zvN lt (reverseRange d a b) a b ((b - 1) - ((choosePivot lt d a b).1 - a)) lim wb wp .increasing
 else zvN lt d a b (choosePivot lt d a b).1 lim wb wp (choosePivot lt d a b).2
variable {lt}
theorem zqc {d:Array α} {a b p:Nat} (hab:a < b) (hb:b≤d.size):a < (partitionEqual lt d a b p).1∧(partitionEqual lt d a b p).1≤b∧(partitionEqual lt d a b p).2.size=d.size:=by
 obtain ⟨h1,h2,h3,_⟩:=partEqLoop_spec lt a b (b - 1+1 - (a+1)) (a+1) (b - 1) (Sort.swp d a p) (Nat.le_refl _) (by omega) (by omega) (by omega) (by rw [Ab.swp_size];exact hb) (fun t _ _=>by omega) (fun t _ _=>by omega)
 exact ⟨h1,h2,by rw [show (partitionEqual lt d a b p).2=(partEqLoop lt a (a+1) (b - 1) (Sort.swp d a p)).2 from rfl,h3.1,Ab.swp_size]⟩
theorem zBl (hS:SWO lt) {d:Array α} {a b p lim:Nat} {wb wp:Bool} (ha:a≤p) (hp:p < b) (hb:b≤d.size) :
  (if a > 0 && !lt d[a - 1]! d[p]! then
   match partitionEqual lt d a b p with
   | (mid,d4)=>if _h:a < mid∧mid≤b then pdq lt d4 mid b lim wb wp else d4
  else
   match partition lt d a b p with
   | (mid,ap,d4) =>
    if _h:a≤mid∧mid < b then
     if mid - a < b - mid then pdq lt (pdq lt d4 a mid lim true true) (mid+1) b lim (decide (mid - a ≥ (b - a) / 8)) ap
     else pdq lt (pdq lt d4 (mid+1) b lim true true) a mid lim (decide (b - mid ≥ (b - a) / 8)) ap
    else d4)=zid lt d a b p lim wb wp:=by
 obtain ⟨e1,e2,_⟩:=zqc (lt:=lt) (p:=p) (show a < b by omega) hb
 obtain ⟨q1,q2,_⟩:=partition_holds lt hS d a b p ha hp hb
 unfold zid
 by_cases h:a > 0∧lt d[a - 1]! d[p]! = false
 ·rw [if_pos h,if_pos (by simpa using h)]
  exact dif_pos ⟨e1,e2⟩
 ·rw [if_neg h,if_neg (by simpa using h)]
  exact dif_pos ⟨q1,q2⟩
theorem zl3 : ∀ {j:Nat} {d:Array α},(Sort.shiftDown lt j d).size=d.size
 | 0,d=>rfl
 | j+1,d=>by
  unfold Sort.shiftDown
  split
  ·rfl
  ·rw [zl3,Ab.swp_size]
theorem zpd {b:Nat} : ∀ (n j:Nat) (d:Array α),b - j≤n→(Sort.shiftUp lt b j d).size=d.size
 | 0,j,d,h=>by rw [Sort.shiftUp,if_neg (by omega)]
 | n+1,j,d,h=>by
  rw [Sort.shiftUp]
  split
  ·split
   ·rfl
   ·rw [zpd n _ _ (by omega),Ab.swp_size]
  ·rfl
theorem zrS {a b:Nat} : ∀ (s i:Nat) (d:Array α),(Sort.partialIns lt a b s i d).1.size=d.size
 | 0,i,d=>rfl
 | s+1,i,d=>by
  rw [Sort.partialIns_succ]
  split
  ·rfl
  ·split
   ·rfl
   ·rw [zrS s]
    unfold Sort.fixUp Sort.fixDown
    split<;>split<;>simp [zpd _ _ _ (Nat.le_refl _),zl3,Ab.swp_size]
theorem zo2 {a b:Nat} {d:Array α} : (Sort.partialInsertionSort lt d a b).1.size=d.size:=zrS _ _ _
theorem zDM (hS:SWO lt) {d:Array α} {a b limit:Nat} {wb wp:Bool} (h12 : ¬b - a≤12) (h0:limit≠0) (hb:b≤d.size) :
  pdq lt d a b limit wb wp=if wb=true then zqO lt d a b limit wb wp else zqO lt (breakPatterns d a b) a b (limit - 1) wb wp:=by
 have key : ∀ (d1:Array α) (lim:Nat),d1.size=d.size →
   (if (if (wb&&wp&&decide ((if (choosePivot lt d1 a b).2 = .decreasing then Hint.increasing else (choosePivot lt d1 a b).2) = .increasing))=true then partialInsertionSort lt (if (choosePivot lt d1 a b).2 = .decreasing then reverseRange d1 a b else d1) a b else ((if (choosePivot lt d1 a b).2 = .decreasing then reverseRange d1 a b else d1),false)).2=true then
    (if (wb&&wp&&decide ((if (choosePivot lt d1 a b).2 = .decreasing then Hint.increasing else (choosePivot lt d1 a b).2) = .increasing))=true then partialInsertionSort lt (if (choosePivot lt d1 a b).2 = .decreasing then reverseRange d1 a b else d1) a b else ((if (choosePivot lt d1 a b).2 = .decreasing then reverseRange d1 a b else d1),false)).1
   else zid lt (if (wb&&wp&&decide ((if (choosePivot lt d1 a b).2 = .decreasing then Hint.increasing else (choosePivot lt d1 a b).2) = .increasing))=true then partialInsertionSort lt (if (choosePivot lt d1 a b).2 = .decreasing then reverseRange d1 a b else d1) a b else ((if (choosePivot lt d1 a b).2 = .decreasing then reverseRange d1 a b else d1),false)).1 a b
    (if (choosePivot lt d1 a b).2 = .decreasing then (b - 1) - ((choosePivot lt d1 a b).1 - a) else (choosePivot lt d1 a b).1) lim wb wp)=zqO lt d1 a b lim wb wp:=by
  intro d1 lim _
  unfold zqO zvN
  by_cases hc:(choosePivot lt d1 a b).2 = .decreasing
  ·simp only [hc,if_true]
   by_cases hw:wb=true∧wp=true
   ·simp [hw.1,hw.2]
   ·have:(wb&&wp)=false:=by
     cases wb<;>cases wp<;>simp_all
    simp [this,hw]
  ·simp only [hc,if_false]
   by_cases hw:wb=true∧wp=true∧(choosePivot lt d1 a b).2 = .increasing
   ·simp [hw.1,hw.2.1,hw.2.2]
   ·have:(wb&&wp&&decide ((choosePivot lt d1 a b).2 = .increasing))=false:=by
     cases wb<;>cases wp<;>simp_all
    simp only [this,Bool.false_eq_true,if_false,if_neg hw]
 have fin : ∀ (d1:Array α) (lim:Nat),PermIn a b d d1→(let c:=choosePivot lt d1 a b
  let d2:=if c.2 = .decreasing then reverseRange d1 a b else d1
  let pivot:=if c.2 = .decreasing then (b - 1) - (c.1 - a) else c.1
  let hint:=if c.2 = .decreasing then Hint.increasing else c.2
  let pi:=if wb&&wp&&hint = .increasing then partialInsertionSort lt d2 a b else (d2,false)
  if pi.2 then pi.1 else
  let d3:=pi.1
  if a > 0 && !lt d3[a - 1]! d3[pivot]! then
   match partitionEqual lt d3 a b pivot with
   | (mid,d4)=>if _h:a < mid∧mid≤b then pdq lt d4 mid b lim wb wp else d4
  else
   match partition lt d3 a b pivot with
   | (mid,ap,d4) =>
    if _h:a≤mid∧mid < b then
     if mid - a < b - mid then pdq lt (pdq lt d4 a mid lim true true) (mid+1) b lim (decide (mid - a ≥ (b - a) / 8)) ap
     else pdq lt (pdq lt d4 (mid+1) b lim true true) a mid lim (decide (b - mid ≥ (b - a) / 8)) ap
    else d4)=zqO lt d1 a b lim wb wp:=by
  intro d1 lim hp1
  rw [← key d1 lim hp1.1]
  have hc:=choosePivot_holds lt d1 a b (by omega)
  have hpv:=pivot_range hc.1 hc.2 ((choosePivot lt d1 a b).2 = .decreasing)
  have hr:(if (choosePivot lt d1 a b).2 = .decreasing then reverseRange d1 a b else d1).size=d.size:=by
   split
   ·rw [(reverseRange_holds d1 a b (by omega) (by rw [hp1.1];exact hb)).1,hp1.1]
   ·exact hp1.1
  refine ite_congr rfl (fun _=>rfl) fun _=>zBl hS ?_ ?_ ?_
  ·exact hpv.1
  ·exact hpv.2
  ·by_cases hw:(wb&&wp&&decide ((if (choosePivot lt d1 a b).2 = .decreasing then Hint.increasing else (choosePivot lt d1 a b).2) = .increasing))=true
   ·rw [if_pos hw,zo2,hr];exact hb
   ·rw [if_neg hw]
    show b≤(if (choosePivot lt d1 a b).2 = .decreasing then reverseRange d1 a b else d1).size
    rw [hr];exact hb
 rw [Sort.pdq,if_neg h12,if_neg h0]
 cases wb with
 | true=>exact fin d limit (permIn_refl d a b)
 | false=>exact fin (breakPatterns d a b) (limit - 1) (breakPatterns_holds d a b (by omega) hb)
theorem ztc {a b:Nat} : ∀ (n i:Nat) (d:Array α),b - i≤n→(Sort.insOuter lt a b i d).size=d.size
 | 0,i,d,h=>by rw [Ab.insOuter_stop (by omega)]
 | n+1,i,d,h=>by
  by_cases h1:i < b
  ·rw [Ab.insOuter_step h1,ztc n _ _ (by omega),Ab.insInner_size]
  ·rw [Ab.insOuter_stop h1]
theorem zvO {first:Nat} : ∀ (k:Nat) (d:Array α),(Sort.heapPop lt first k d).size=d.size
 | 0,d=>rfl
 | k+1,d=>by rw [Sort.heapPop,zvO k,Ab.siftDown_size,Ab.swp_size]
theorem zBk (hS:SWO lt) : ∀ (N:Nat) (d:Array α) (a b limit:Nat) (wb wp:Bool),b - a≤N→a≤b→b≤d.size→(pdq lt d a b limit wb wp).size=d.size:=by
 intro N
 induction N using Nat.strongRecOn with
 | _ N ih =>
 intro d a b limit wb wp hN hab hb
 by_cases h12:b - a≤12
 ·rw [Sort.pdq,if_pos h12];exact ztc _ _ _ (Nat.le_refl _)
 by_cases h0:limit=0
 ·rw [Sort.pdq,if_neg h12,if_pos h0,Sort.heapSort,zvO,Ab.build_size]
 have tail : ∀ (u:Array α) (p lim:Nat),u.size=d.size→a≤p→p < b→(zid lt u a b p lim wb wp).size=d.size:=by
  intro u p lim hu h1 h2
  obtain ⟨e1,e2,e3⟩:=zqc (lt:=lt) (p:=p) (show a < b by omega) (show b≤u.size by omega)
  obtain ⟨q1,q2,q3,_⟩:=partition_holds lt hS u a b p h1 h2 (by omega)
  unfold zid
  split
  ·rw [ih (b - (partitionEqual lt u a b p).1) (by omega) _ _ _ _ _ _ (Nat.le_refl _) e2 (by omega),e3,hu]
  ·split
   ·rw [ih (b - ((partition lt u a b p).1+1)) (by omega) _ _ _ _ _ _ (Nat.le_refl _) (by omega) (by rw [ih ((partition lt u a b p).1 - a) (by omega) _ _ _ _ _ _ (Nat.le_refl _) q1 (by rw [q3.1];omega),q3.1];omega),
     ih ((partition lt u a b p).1 - a) (by omega) _ _ _ _ _ _ (Nat.le_refl _) q1 (by rw [q3.1];omega),q3.1,hu]
   ·rw [ih ((partition lt u a b p).1 - a) (by omega) _ _ _ _ _ _ (Nat.le_refl _) (by omega) (by rw [ih (b - ((partition lt u a b p).1+1)) (by omega) _ _ _ _ _ _ (Nat.le_refl _) (by omega) (by rw [q3.1];omega),q3.1];omega),
     ih (b - ((partition lt u a b p).1+1)) (by omega) _ _ _ _ _ _ (Nat.le_refl _) (by omega) (by rw [q3.1];omega),q3.1,hu]
 have goD : ∀ (u:Array α) (p lim:Nat) (hint:Hint),u.size=d.size→a≤p→p < b→(zvN lt u a b p lim wb wp hint).size=d.size:=by
  intro u p lim hint hu h1 h2
  unfold zvN
  split
  ·split
   ·rw [zo2,hu]
   ·exact tail _ _ _ (by rw [zo2,hu]) h1 h2
  ·exact tail _ _ _ hu h1 h2
 have goC : ∀ (u:Array α) (lim:Nat),u.size=d.size→(zqO lt u a b lim wb wp).size=d.size:=by
  intro u lim hu
  have hc:=choosePivot_holds lt u a b (by omega)
  unfold zqO
  split
  ·refine goD _ _ _ _ (by rw [(reverseRange_holds u a b hab (by omega)).1,hu]) (by omega) (by omega)
  ·exact goD _ _ _ _ hu hc.1 hc.2
 rw [zDM hS h12 h0 hb]
 split
 ·exact goC _ _ rfl
 ·exact goC _ _ (breakPatterns_holds d a b hab hb).1
end
end Go.Ab
namespace Go.Ab
open Go Go.Proofs
set_option maxRecDepth 10000
set_option maxHeartbeats 4000000
section
variable {α:Type} [Inhabited α] [DecidableEq α]
def ddA (d:Array α):Nat→List α
 | 0=>[]
 | n+1=>if 0 < n∧d[n]! = d[n - 1]! then ddA d n else ddA d n++[d[n]!]
def Steps (d:Array α):Prop := ∀ j,0 < j→j < d.size→d[j]! ≠ d[j - 1]!
theorem zz9 {d:Array α} {n:Nat} (h:n < d.size):d.toList.take (n+1)=d.toList.take n++[d[n]!]:=by
 rw [List.take_add_one,zCa h];rfl
theorem zse {d:Array α} : ∀ {n:Nat},n≤d.size→(∀ j,0 < j→j < n→d[j]! ≠ d[j - 1]!)→ddA d n=d.toList.take n
 | 0,_,_=>rfl
 | n+1,h,hs=>by
  rw [ddA,if_neg (fun hh=>hs n hh.1 (by omega) hh.2),zse (by omega) (fun j h0 h1=>hs j h0 (by omega)),zz9 (by omega)]
theorem zAE {d:Array α} {k:Nat} (h0:0 < k) (h1:k < d.size) (hk : ∀ j,0 < j→j < k→d[j]! ≠ d[j - 1]!) (he:d[k]! = d[k - 1]!):d.toList.take k=ddA d (k+1):=by
 rw [ddA,if_pos ⟨h0,he⟩,zse (by omega) hk]
theorem zBA {e:Array α} {a:Nat} {x:α} (h:a < e.size):(e.setIfInBounds a x).toList.take (a+1)=e.toList.take a++[x]:=by
 have hl:a < e.toList.length:=by simpa using h
 rw [Array.toList_setIfInBounds,List.take_add_one,List.getElem?_set_self hl,List.take_set_of_le (Nat.le_refl a)];rfl
theorem zCW {e:Array α} {a j:Nat} {x:α} (h:a≠j):(e.setIfInBounds a x)[j]! = e[j]! := by
 simp [getElem!_def,Array.getElem?_setIfInBounds_ne h]
theorem zCk {d:Array α} {n:Nat} (h:0 < n) (he:d[n]! = d[n - 1]!):ddA d (n+1)=ddA d n:=by rw [ddA,if_pos ⟨h,he⟩]
theorem zDm {d:Array α} {n:Nat} (he:d[n]! ≠ d[n - 1]!):ddA d (n+1)=ddA d n++[d[n]!]:=by rw [ddA,if_neg (fun h=>he h.2)]
theorem zCi {enc:α→D} {e:Array α} {z:D} {a n:Nat} (h:a≤e.size):((List.take a (e.toList.map enc))++(List.replicate n z++List.drop (a+n) (e.toList.map enc))).take a=(e.toList.take a).map enc:=by
 rw [List.take_append_of_le_length (by simp;omega),List.take_take,Nat.min_self,List.map_take]
end
end Go.Ab
namespace Go.Ab
open Go Go.Proofs
set_option maxRecDepth 10000
set_option maxHeartbeats 4000000
variable {T:Nat→Obj→Prop}
def uAt (r:List (BitVec 64)) (w:Nat):BitVec 64:=r.getD w 0
end Go.Ab
