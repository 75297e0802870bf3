/- A part of the proofs of this seat: functions and their contracts. -/
import Derived.Test.YtjehkdhnhfghiaaGreatDoorMC
import Derived.Test.YtjehkdhnhfghiaaGreatDoorProg
import Derived.Lib.TrailingZeros
import Derived.Sort.AssemblyPlain
set_option linter.unusedVariables false
set_option linter.unusedSimpArgs false
set_option linter.unusedSectionVars false
namespace Go.Ab.K
open Go
abbrev t:=Arg.t
abbrev c:=Arg.c
abbrev n (x:Int):V := .d (.int .i64 x)
abbrev u (x:BitVec 64):V := .d (.u64 x)
abbrev m (x:Nat):CO := .mv (.t x)
abbrev pf (x y:Nat):CO := .pick (.t x) (.t y) (.c .bf)
abbrev pt (x y:Nat):CO := .pick (.t x) (.c .bt) (.t y)
abbrev b (o:BinOp) (x y:Nat):CO := .bin o (.t x) (.t y)
abbrev bc (o:BinOp) (x:Nat) (y:V):CO := .bin o (.t x) (.c y)
abbrev l (x:Nat):CO := .load none (.t x)
abbrev la (k x:Nat):CO := .load (some k) (.t x)
abbrev f (o x:Nat):CO := .faddr o (.t x)
abbrev ia (s x i:Nat):CO := .iaddr s (.t x) (.t i)
abbrev e (x k:Nat):CO := .ext (.t x) k
abbrev ln (x:Nat):CO := .len (.t x)
abbrev o (d:Nat) (x:CO):COp:=⟨some d,none,x⟩
abbrev w (x:CO):COp:=⟨none,none,x⟩
abbrev g (d k:Nat) (v:Bool) (x:CO):COp:=⟨some d,some (k,v),x⟩
abbrev gw (k:Nat) (v:Bool) (x:CO):COp:=⟨none,some (k,v),x⟩
abbrev i (x:Nat) (p r:CC):CC := .cond (.t x) p r
def q:List CC→CC
 | [] => .skip
 | [x]=>x
 | x::y::r => .seq x (q (y::r))
end Go.Ab.K
namespace Go.Ab
open Go K
def zgN:Nat:=13
def ze0:Nat:=14
def zi6:Nat:=15
def zi3:Nat:=16
def zfZ:Nat:=18
def zdw:Nat:=21
def zdE:Nat:=22
def zf1:Nat:=24
def zgL:Nat:=27
def zkB:Nat:=28
def znb:Nat:=29
def zfG:Nat:=30
def zgM:Nat:=31
def zil:Nat:=41
def zao:Nat:=42
def zdV:Nat:=43
def zfF:Nat:=44
def zdt:Nat:=46
def ziC:Nat:=51
def zeM:Nat:=53
def ze1:Nat:=54
def zg9:Nat:=55
def zd9:Nat:=56
def zha:Nat:=57
def zeG:Nat:=62
def zlo:Nat:=64
def zg7:Nat:=65
def zih:Nat:=66
def zig:Nat:=67
def zfY:Nat:=68
def zeZ:Nat:=69
def zlp:Nat:=70
def zfE:Nat:=71
def zg8:Nat:=72
def zhM:Nat:=73
def zbA:Nat:=82
def zc0:Nat:=83
def znc:Nat:=84
def zbH:Nat:=85
def zlq:Nat:=86
def zi2:Nat:=87
def zb5:Nat:=90
def zeF:Nat:=92
def zaY:Nat:=93
def zcZ:Nat:=99
def zaS:Nat:=100
def ze6:Nat:=101
def zcg:Nat:=102
def zet:Nat:=103
def zi4:Nat:=104
def zg5:Nat:=105
def zik:Nat:=106
def zcB:Nat:=113
def zbT:Nat:=120
def zi1:Nat:=121
def zd8:Nat:=122
def zg6:Nat:=124
def zeL:Nat:=126
def zc9:Nat:=127
def zdU:Nat:=128
def zi5:Nat:=132
def zc8:Nat:=133
def zbX:Nat:=134
def zf0:Nat:=135
def zhb:Nat:=136
def zhc:Nat:=137
def zcd:Nat:=138
def zdu:Nat:=152
def zc1:Nat:=153
def zdv:Nat:=154
def zii:Nat:=155
def zgJ:Nat:=156
def ze5:Nat:=157
def zaP:Nat:=158
def zij:Nat:=164
def zcC:Nat:=170
def zce:Nat:=171
def zgK:Nat:=183
def zcY:Nat:=184
def z8:Nat:=185
def zaF:Nat:=186
def zN:Nat:=187
def zA:Nat:=188
def zcA:Nat:=189
def zV:Nat:=190
def ze4:Nat:=196
def zbl:Nat:=208
def zd7:Nat:=209
def zbG:Nat:=210
def zeE:Nat:=211
def zbF:Nat:=212
def zaT:Nat:=218
def zlc:CFn:=⟨41,[.tmp 4],(q [(.reg [o 2 (.box 3 (t 0)),o 4 (.mv (c .bf))]),
 (q [(.reg [o 6 (f 0 2),o 7 (l 6),o 8 (m 1),o 9 (b .gtr 7 8),o 10 (m 9),g 11 10 true (f 0 2),g 12 10 true (l 11),g 13 10 true (bc .leq 12 (n 64)),o 14 (pf 10 13),o 15 (m 14),g 16 15 false (f 1 2),g 17 15 false (l 16),g 18 15 false (ln 17),g 19 15 false (bc .gtr 18 (n 20)),o 20 (pt 15 19),o 21 (m 20),g 22 21 false (f 2 2),g 23 21 false (l 22),g 24 21 false (ln 23),g 25 21 false (bc .gtr 24 (n 10)),o 26 (pt 21 25)]),
 (i 26 (q [(.reg [o 4 (.mv (c .bf))]),
 .ret]) .skip)]),
 (q [(.reg [o 5 (.mv (c (n 0)))]),
 (.block 0 (.loop (q [(q [(.reg [o 27 (m 5),o 28 (f 2 2),o 29 (l 28),o 30 (ln 29),o 31 (b .lss 27 30)]),
 (i 31 .skip (.exit 0))]),
 (.block 1 (q [(.reg [o 34 (f 2 2),o 35 (l 34),o 36 (m 5),o 37 (ia 1 35 36),o 38 (l 37),o 39 (ln 38),o 40 (bc .gtr 39 (n 70))]),
 (i 40 (q [(.reg [o 4 (.mv (c .bf))]),
 .ret]) .skip)])),
 (.reg [o 32 (m 5),o 33 (bc .add 32 (n 1)),o 5 (m 33)])])))]),
 (.reg [o 4 (.mv (c .bt))]),
 .ret])⟩
def zrd:CFn:=⟨47,[.tmp 2],(q [(.reg [o 1 (.box 3 (t 0)),o 2 (.mv (c (n 0)))]),
 (q [(.reg [o 5 (f 0 1),o 6 (l 5),o 7 (bc .lss 6 (n 1)),o 8 (m 7),g 9 8 false (f 0 1),g 10 8 false (l 9),g 11 8 false (bc .gtr 10 (n 64)),o 12 (pt 8 11)]),
 (i 12 (q [(.reg [o 2 (.mv (c (n 2)))]),
 .ret]) .skip)]),
 (q [(.reg [o 13 (f 2 1),o 14 (l 13),o 15 (ln 14),o 16 (bc .gtr 15 (n 4)),o 17 (m 16),g 18 17 false (f 1 1),g 19 17 false (l 18),g 20 17 false (ln 19),g 21 17 false (bc .gtr 20 (n 8)),o 22 (pt 17 21)]),
 (i 22 (q [(.reg [o 2 (.mv (c (n 8)))]),
 .ret]) .skip)]),
 (q [(.reg [o 23 (f 2 1),o 24 (l 23),o 25 (ln 24),o 26 (.mv (c (n 0)))]),
 (.block 0 (.loop (q [(.reg [o 27 (b .lss 26 25)]),
 (i 27 .skip (.exit 0)),
 (.block 1 (q [(.reg [o 28 (ia 1 24 26),o 29 (l 28),o 4 (m 29)]),
 (.reg [o 30 (m 4),o 31 (ln 30),o 32 (f 0 1),o 33 (l 32),o 34 (b .neq 31 33)]),
 (i 34 (q [(.reg [o 2 (.mv (c (n 3)))]),
 .ret]) .skip)])),
 (.reg [o 35 (bc .add 26 (n 1)),o 26 (m 35)])])))]),
 (q [(.reg [o 36 (f 1 1),o 37 (l 36),o 38 (f 0 1),o 39 (l 38),o 40 (.call 41 [(t 37),(t 39)]),o 41 (m 40),g 42 41 false (f 2 1),g 43 41 false (l 42),g 44 41 false (.fnew zdV [(t 1)]),g 45 41 false (.call 42 [(t 43),(t 44)]),o 46 (pt 41 45)]),
 (i 46 (q [(.reg [o 2 (.mv (c (n 2)))]),
 .ret]) .skip)]),
 (.reg [o 2 (.mv (c (n 0)))]),
 .ret])⟩
def zpM:CFn:=⟨61,[.cell 4 (some 3),.tmp 5],(q [(.reg [o 2 (.box 3 (t 0)),o 4 (.alloc [(n 0),(.nils 1),(.nils 1)]),o 5 (.mv (c (n 0)))]),
 (q [(.reg [o 11 (la 3 2),o 12 (.call 14 [(t 11)]),o 6 (m 12)]),
 (.reg [o 13 (m 6),o 14 (bc .neq 13 (n 0))]),
 (i 14 (q [(.reg [o 15 (.build [(n 0),(.nils 1),(.nils 1)] []),o 16 (m 6),w (.store 3 (t 4) (t 15)),o 5 (m 16)]),
 .ret]) .skip)]),
 (q [(.reg [o 17 (m 1),o 18 (ln 17),o 19 (f 0 2),o 20 (l 19),o 21 (b .neq 18 20)]),
 (i 21 (q [(.reg [o 22 (.build [(n 0),(.nils 1),(.nils 1)] []),w (.store 3 (t 4) (t 22)),o 5 (.mv (c (n 1)))]),
 .ret]) .skip)]),
 (.reg [o 23 (m 1),o 24 (ln 23),o 25 (.mkslice 1 8 [(n 0)] (t 24) (t 24)),o 7 (m 25)]),
 (.reg [o 8 (.mv (c (u 0)))]),
 (q [(.reg [o 26 (m 1),o 27 (ln 26),o 28 (.mv (c (n 0)))]),
 (.block 0 (.loop (q [(.reg [o 29 (b .lss 28 27)]),
 (i 29 .skip (.exit 0)),
 (.block 1 (q [(.reg [o 30 (m 28),o 31 (ia 1 26 28),o 32 (l 31),o 9 (m 30),o 10 (m 32)]),
 (q [(.reg [o 33 (m 10),o 34 (bc .lss 33 (n 0)),o 35 (m 34),g 36 35 false (m 10),g 37 35 false (m 1),g 38 35 false (ln 37),g 39 35 false (b .geq 36 38),o 40 (pt 35 39),o 41 (m 40),g 42 41 false (m 8),g 43 41 false (m 10),g 44 41 false (b .shr 42 43),g 45 41 false (bc .and 44 (u 1)),g 46 41 false (bc .eql 45 (u 1)),o 47 (pt 41 46)]),
 (i 47 (q [(.reg [o 48 (.build [(n 0),(.nils 1),(.nils 1)] []),w (.store 3 (t 4) (t 48)),o 5 (.mv (c (n 1)))]),
 .ret]) .skip)]),
 (.reg [o 49 (m 8),o 50 (m 10),o 51 (.bin .shl (c (u 1)) (t 50)),o 52 (b .or 49 51),o 8 (m 52)]),
 (.reg [o 53 (m 7),o 54 (m 10),o 55 (m 9),o 56 (ia 1 53 54),w (.store 1 (t 56) (t 55))])])),
 (.reg [o 57 (bc .add 28 (n 1)),o 28 (m 57)])])))]),
 (.reg [o 58 (la 3 2),o 59 (m 7),o 60 (.call 44 [(t 58),(t 59)]),w (.store 3 (t 4) (t 60)),o 5 (.mv (c (n 0)))]),
 .ret])⟩
def zkN:CFn:=⟨22,[.cell 2 (some 3),.tmp 3,.tmp 4],(q [(.reg [o 1 (.box 3 (t 0)),o 2 (.alloc [(n 0),(.nils 1),(.nils 1)]),o 3 (.mv (c (.nils 1))),o 4 (.mv (c (n 0)))]),
 (.reg [o 8 (la 3 1),o 9 (.call 46 [(t 8)]),o 7 (m 9),o 10 (e 7 0),o 11 (e 7 1),o 5 (m 10),o 6 (m 11)]),
 (q [(.reg [o 12 (m 6),o 13 (bc .neq 12 (n 0))]),
 (i 13 (q [(.reg [o 14 (.build [(n 0),(.nils 1),(.nils 1)] []),o 15 (m 6),w (.store 3 (t 2) (t 14)),o 3 (.mv (c (.nils 1))),o 4 (m 15)]),
 .ret]) .skip)]),
 (.reg [o 16 (la 3 1),o 17 (m 5),o 18 (.call 22 [(t 16),(t 17)]),o 19 (e 18 0),o 20 (e 18 1),o 21 (e 18 2),w (.store 3 (t 2) (t 19)),o 3 (m 20),o 4 (m 21)]),
 .ret])⟩
def zrf:CFn:=⟨134,[.cell 4 (some 3),.tmp 5,.tmp 6],(q [(.reg [o 2 (.box 3 (t 0)),o 4 (.alloc [(n 0),(.nils 1),(.nils 1)]),o 5 (.mv (c (.nils 1))),o 6 (.mv (c (n 0)))]),
 (q [(.reg [o 23 (la 3 2),o 24 (.call 14 [(t 23)]),o 7 (m 24)]),
 (.reg [o 25 (m 7),o 26 (bc .neq 25 (n 0))]),
 (i 26 (q [(.reg [o 27 (.build [(n 0),(.nils 1),(.nils 1)] []),o 28 (m 7),w (.store 3 (t 4) (t 27)),o 5 (.mv (c (.nils 1))),o 6 (m 28)]),
 .ret]) .skip)]),
 (q [(.reg [o 29 (m 1),o 30 (.call 53 [(t 29)]),o 8 (m 30)]),
 (.reg [o 31 (m 8),o 32 (bc .neq 31 (n 0))]),
 (i 32 (q [(.reg [o 33 (.build [(n 0),(.nils 1),(.nils 1)] []),o 34 (m 8),w (.store 3 (t 4) (t 33)),o 5 (.mv (c (.nils 1))),o 6 (m 34)]),
 .ret]) .skip)]),
 (q [(.reg [o 35 (m 1),o 36 (ln 35),o 37 (f 0 2),o 38 (l 37),o 39 (b .neq 36 38)]),
 (i 39 (q [(.reg [o 40 (.build [(n 0),(.nils 1),(.nils 1)] []),w (.store 3 (t 4) (t 40)),o 5 (.mv (c (.nils 1))),o 6 (.mv (c (n 3)))]),
 .ret]) .skip)]),
 (q [(.reg [o 41 (m 1),o 42 (ln 41),o 43 (.mv (c (n 0)))]),
 (.block 0 (.loop (q [(.reg [o 44 (b .lss 43 42)]),
 (i 44 .skip (.exit 0)),
 (.block 1 (q [(.reg [o 45 (m 43),o 46 (ia 1 41 43),o 47 (l 46),o 9 (m 45),o 10 (m 47)]),
 (.regd [o 48 (la 3 2),o 49 (m 9),o 50 (.call 54 [(t 48),(t 49)]),o 51 (la 3 2),o 52 (m 10),o 53 (.call 54 [(t 51),(t 52)]),o 54 (b .neq 50 53)] [0,0,3,0,0,31,63]),
 (i 54 (q [(.reg [o 55 (.build [(n 0),(.nils 1),(.nils 1)] []),w (.store 3 (t 4) (t 55)),o 5 (.mv (c (.nils 1))),o 6 (.mv (c (n 1)))]),
 .ret]) .skip)])),
 (.reg [o 56 (bc .add 43 (n 1)),o 43 (m 56)])])))]),
 (.reg [o 57 (m 1),o 58 (.call 55 [(t 57)]),o 11 (m 58)]),
 (.reg [o 59 (m 1),o 60 (ln 59),o 61 (.mkslice 1 8 [(n 0)] (t 60) (t 60)),o 12 (m 61)]),
 (q [(.reg [o 62 (m 1),o 63 (ln 62),o 64 (.mv (c (n 0)))]),
 (.block 2 (.loop (q [(.reg [o 65 (b .lss 64 63)]),
 (i 65 .skip (.exit 2)),
 (.block 3 (q [(.reg [o 66 (m 64),o 67 (ia 1 62 64),o 68 (l 67),o 13 (m 66),o 14 (m 68)]),
 (.reg [o 69 (m 12),o 70 (m 13),o 71 (m 11),o 72 (m 14),o 73 (.call 56 [(t 71),(t 72)]),o 74 (ia 1 69 70),w (.store 1 (t 74) (t 73))])])),
 (.reg [o 75 (bc .add 64 (n 1)),o 64 (m 75)])])))]),
 (.reg [o 76 (m 11),o 77 (ln 76),o 78 (.build [(n 0),(.nils 1),(.nils 1)] [(0,1,(t 77))]),o 15 (.alloc [(n 0),(.nils 1),(.nils 1)]),w (.store 3 (t 15) (t 78))]),
 (q [(.reg [o 79 (f 1 2),o 80 (l 79),o 81 (ln 80),o 82 (.mv (c (n 0)))]),
 (.block 4 (.loop (q [(.reg [o 83 (b .lss 82 81)]),
 (i 83 .skip (.exit 4)),
 (.block 5 (q [(.reg [o 84 (ia 1 80 82),o 85 (l 84),o 17 (m 85)]),
 (.regd [o 86 (f 1 15),o 87 (l 86),o 88 (m 17),o 89 (m 12),o 90 (.call 57 [(t 88),(t 89)]),o 91 (.bslice 1 1 [(u 0)] [(0,(t 90))]),o 92 (.app 1 8 (t 87) (t 91)),o 93 (f 1 15),w (.store 1 (t 93) (t 92))] [0,1,0,0,12,28,63,127,255])])),
 (.reg [o 94 (bc .add 82 (n 1)),o 82 (m 94)])])))]),
 (q [(.reg [o 95 (f 2 2),o 96 (l 95),o 97 (ln 96),o 98 (.mv (c (n 0)))]),
 (.block 6 (.loop (q [(.reg [o 99 (b .lss 98 97)]),
 (i 99 .skip (.exit 6)),
 (.block 7 (q [(.reg [o 100 (ia 1 96 98),o 101 (l 100),o 19 (m 101)]),
 (.reg [o 102 (m 11),o 103 (ln 102),o 104 (.mkslice 1 8 [(u 0)] (t 103) (t 103)),o 20 (m 104)]),
 (q [(.reg [o 105 (m 19),o 106 (ln 105),o 107 (.mv (c (n 0)))]),
 (.block 8 (.loop (q [(.reg [o 108 (b .lss 107 106)]),
 (i 108 .skip (.exit 8)),
 (.block 9 (q [(.reg [o 109 (m 107),o 110 (ia 1 105 107),o 111 (l 110),o 21 (m 109),o 22 (m 111)]),
 (.regd [o 112 (m 20),o 113 (m 12),o 114 (m 21),o 115 (ia 1 113 114),o 116 (l 115),o 117 (ia 1 112 116),o 118 (l 117),o 119 (m 22),o 120 (m 12),o 121 (.call 57 [(t 119),(t 120)]),o 122 (b .or 118 121),o 123 (ia 1 112 116),w (.store 1 (t 123) (t 122))] [0,0,0,6,14,31,63,0,0,384,1023,2047,4095])])),
 (.reg [o 124 (bc .add 107 (n 1)),o 107 (m 124)])])))]),
 (.reg [o 125 (f 2 15),o 126 (l 125),o 127 (m 20),o 128 (.bslice 1 1 [(.nils 1)] [(0,(t 127))]),o 129 (.app 1 24 (t 126) (t 128)),o 130 (f 2 15),w (.store 1 (t 130) (t 129))])])),
 (.reg [o 131 (bc .add 98 (n 1)),o 98 (m 131)])])))]),
 (.reg [o 132 (la 3 15),o 133 (m 12),w (.store 3 (t 4) (t 132)),o 5 (m 133),o 6 (.mv (c (n 0)))]),
 .ret])⟩
def zkQ:CFn:=⟨47,[.tmp 4],(q [(.reg [o 2 (.box 3 (t 0)),o 3 (.box 3 (t 1)),o 4 (.mv (c .bf))]),
 (q [(.reg [o 6 (f 0 2),o 7 (l 6),o 8 (f 0 3),o 9 (l 8),o 10 (b .neq 7 9),o 11 (m 10),g 12 11 false (f 1 2),g 13 11 false (l 12),g 14 11 false (f 1 3),g 15 11 false (l 14),g 16 11 false (.call 62 [(t 13),(t 15)]),g 17 11 false (.un .not (t 16)),o 18 (pt 11 17),o 19 (m 18),g 20 19 false (f 2 2),g 21 19 false (l 20),g 22 19 false (ln 21),g 23 19 false (f 2 3),g 24 19 false (l 23),g 25 19 false (ln 24),g 26 19 false (b .neq 22 25),o 27 (pt 19 26)]),
 (i 27 (q [(.reg [o 4 (.mv (c .bf))]),
 .ret]) .skip)]),
 (q [(.reg [o 5 (.mv (c (n 0)))]),
 (.block 0 (.loop (q [(q [(.reg [o 28 (m 5),o 29 (f 2 2),o 30 (l 29),o 31 (ln 30),o 32 (b .lss 28 31)]),
 (i 32 .skip (.exit 0))]),
 (.block 1 (q [(.regd [o 35 (f 2 2),o 36 (l 35),o 37 (m 5),o 38 (ia 1 36 37),o 39 (l 38),o 40 (f 2 3),o 41 (l 40),o 42 (m 5),o 43 (ia 1 41 42),o 44 (l 43),o 45 (.call 62 [(t 39),(t 44)]),o 46 (.un .not (t 45))] [0,1,0,7,15,0,32,0,224,480,1023,2047]),
 (i 46 (q [(.reg [o 4 (.mv (c .bf))]),
 .ret]) .skip)])),
 (.reg [o 33 (m 5),o 34 (bc .add 33 (n 1)),o 5 (m 34)])])))]),
 (.reg [o 4 (.mv (c .bt))]),
 .ret])⟩
def zla:CFn:=⟨20,[.tmp 2],(q [(.reg [o 1 (.box 3 (t 0)),o 2 (.mv (c .bf))]),
 (.reg [o 6 (la 3 1),o 7 (.call 46 [(t 6)]),o 5 (m 7),o 8 (e 5 0),o 9 (e 5 1),o 3 (m 8),o 4 (m 9)]),
 (.regd [o 10 (m 4),o 11 (bc .eql 10 (n 0)),o 12 (m 11),g 13 12 true (m 3),g 14 12 true (.call 55 [(t 13)]),g 15 12 true (ln 14),g 16 12 true (f 0 1),g 17 12 true (l 16),g 18 12 true (b .eql 15 17),o 19 (pf 12 18),o 2 (m 19)] [0,1,3,7,15,31,7,71,255,511,1023]),
 .ret])⟩
def zrb:CFn:=⟨54,[.cell 6 none],(q [(.reg [o 3 (.box 3 (t 0)),o 4 (.box 3 (t 1)),o 5 (.box 1 (t 2)),o 6 (.alloc [(n 0)])]),
 (q [(.reg [o 13 (la 3 3),o 14 (la 3 4),o 15 (.call 64 [(t 13),(t 14)]),o 7 (m 15)]),
 (.reg [o 16 (m 7),o 17 (bc .neq 16 (n 0))]),
 (i 17 (q [(.reg [o 18 (m 7),w (.store 1 (t 6) (t 18))]),
 .ret]) .skip)]),
 (q [(.reg [o 19 (l 5),o 20 (ln 19),o 21 (f 0 3),o 22 (l 21),o 23 (b .neq 20 22)]),
 (i 23 (q [(.reg [w (.store 1 (t 6) (c (n 3)))]),
 .ret]) .skip)]),
 (q [(.reg [o 24 (l 5),o 25 (ln 24),o 26 (.mv (c (n 0)))]),
 (.block 0 (.loop (q [(.reg [o 27 (b .lss 26 25)]),
 (i 27 .skip (.exit 0)),
 (.block 1 (q [(.reg [o 28 (ia 1 24 26),o 29 (l 28),o 9 (m 29)]),
 (.regd [o 30 (m 9),o 31 (.call 65 [(t 30)]),o 32 (f 0 4),o 33 (l 32),o 34 (b .gtr 31 33)] [0,1,0,4,15]),
 (i 34 (q [(.reg [w (.store 1 (t 6) (c (n 2)))]),
 .ret]) .skip)])),
 (.reg [o 35 (bc .add 26 (n 1)),o 26 (m 35)])])))]),
 (q [(.reg [o 36 (l 5),o 37 (ln 36),o 38 (.mv (c (n 0)))]),
 (.block 2 (.loop (q [(.reg [o 39 (b .lss 38 37)]),
 (i 39 .skip (.exit 2)),
 (.block 3 (q [(.reg [o 40 (m 38),o 41 (ia 1 36 38),o 42 (l 41),o 10 (.alloc [(n 0)]),w (.store 1 (t 10) (t 40)),o 11 (m 42)]),
 (.reg [o 43 (m 11),o 44 (.call 66 [(t 43)])]),
 (.block 4 (.rng (t 44) [45] (.reg [o 12 (m 45)]) (.block 5 (q [(.reg [o 46 (la 3 3),o 47 (la 3 4),o 48 (l 5),o 49 (l 10),o 50 (m 12),o 51 (.call 67 [(t 46),(t 47),(t 48),(t 49),(t 50)]),o 52 (.un .not (t 51))]),
 (i 52 (q [(.reg [w (.store 1 (t 6) (c (n 13)))]),
 .ret]) .skip)]))))])),
 (.reg [o 53 (bc .add 38 (n 1)),o 38 (m 53)])])))]),
 (.reg [w (.store 1 (t 6) (c (n 0)))]),
 .ret])⟩
def ztv:CFn:=⟨26,[.tmp 4],(q [(.reg [o 2 (.box 3 (t 0)),o 3 (.box 1 (t 1)),o 4 (.mv (c .bf))]),
 (.reg [o 8 (l 3),o 9 (.call 68 [(t 8)]),o 7 (m 9),o 10 (e 7 0),o 11 (e 7 1),o 5 (m 10),o 6 (m 11)]),
 (.reg [o 12 (m 6),o 13 (bc .eql 12 (n 0)),o 14 (m 13),g 15 14 true (la 3 2),g 16 14 true (.call 14 [(t 15)]),g 17 14 true (bc .eql 16 (n 0)),o 18 (pf 14 17),o 19 (m 18),g 20 19 true (f 2 2),g 21 19 true (l 20),g 22 19 true (.fnew zeZ [(t 3)]),g 23 19 true (.call 42 [(t 21),(t 22)]),g 24 19 true (.un .not (t 23)),o 25 (pf 19 24),o 4 (m 25)]),
 .ret])⟩
def zjS:CFn:=⟨31,[.cell 4 (some 3),.tmp 5],(q [(.reg [o 2 (.box 3 (t 0)),o 4 (.alloc [(n 0),(.nils 1),(.nils 1)]),o 5 (.mv (c (n 0)))]),
 (.reg [o 12 (la 3 2),o 13 (m 1),o 14 (.call 31 [(t 12),(t 13)]),o 11 (m 14),o 15 (e 11 0),o 16 (e 11 1),o 17 (e 11 2),o 6 (.alloc [(n 0),(.nils 1),(.nils 1)]),w (.store 3 (t 6) (t 15)),o 7 (m 16),o 8 (m 17)]),
 (q [(.reg [o 18 (m 8),o 19 (bc .neq 18 (n 0))]),
 (i 19 (q [(.reg [o 20 (.build [(n 0),(.nils 1),(.nils 1)] []),o 21 (m 8),w (.store 3 (t 4) (t 20)),o 5 (m 21)]),
 .ret]) .skip)]),
 (.reg [o 23 (la 3 6),o 24 (m 7),o 25 (.call 71 [(t 23),(t 24)]),o 22 (m 25),o 26 (e 22 0),o 27 (e 22 1),o 28 (e 22 2),o 9 (.alloc [(n 0),(.nils 1),(.nils 1)]),w (.store 3 (t 9) (t 26)),o 10 (m 27),o 8 (m 28)]),
 (.reg [o 29 (la 3 9),o 30 (m 8),w (.store 3 (t 4) (t 29)),o 5 (m 30)]),
 .ret])⟩
def zlb:CFn:=⟨62,[.cell 4 (some 3),.tmp 5,.tmp 6],(q [(.reg [o 2 (.box 3 (t 0)),o 4 (.alloc [(n 0),(.nils 1),(.nils 1)]),o 5 (.mv (c (n 0))),o 6 (.mv (c (n 0)))]),
 (q [(.reg [o 16 (la 3 2),o 17 (.call 14 [(t 16)]),o 7 (m 17)]),
 (.reg [o 18 (m 7),o 19 (bc .neq 18 (n 0))]),
 (i 19 (q [(.reg [o 20 (.build [(n 0),(.nils 1),(.nils 1)] []),o 21 (m 7),w (.store 3 (t 4) (t 20)),o 5 (.mv (c (n 0))),o 6 (m 21)]),
 .ret]) .skip)]),
 (q [(.reg [o 22 (m 1),o 23 (bc .lss 22 (n 0)),o 24 (m 23),g 25 24 false (m 1),g 26 24 false (f 0 2),g 27 24 false (l 26),g 28 24 false (b .geq 25 27),o 29 (pt 24 28)]),
 (i 29 (q [(.reg [o 30 (.build [(n 0),(.nils 1),(.nils 1)] []),w (.store 3 (t 4) (t 30)),o 5 (.mv (c (n 0))),o 6 (.mv (c (n 2)))]),
 .ret]) .skip)]),
 (.regd [o 32 (la 3 2),o 33 (m 1),o 34 (.bin .shl (c (u 1)) (t 33)),o 35 (.call 72 [(t 32),(t 34)]),o 31 (m 35),o 36 (e 31 0),o 37 (e 31 1),o 8 (m 36),o 9 (m 37)] [0,0,2,7,15,31,31,63,255]),
 (.reg [o 39 (la 3 2),o 40 (m 8),o 41 (.call 73 [(t 39),(t 40)]),o 38 (m 41),o 42 (e 38 0),o 43 (e 38 1),o 44 (e 38 2),o 10 (.alloc [(n 0),(.nils 1),(.nils 1)]),w (.store 3 (t 10) (t 42)),o 11 (m 43),o 12 (m 44)]),
 (.reg [o 46 (la 3 10),o 47 (.call 18 [(t 46)]),o 45 (m 47),o 48 (e 45 0),o 49 (e 45 1),o 50 (e 45 2),o 13 (.alloc [(n 0),(.nils 1),(.nils 1)]),w (.store 3 (t 13) (t 48)),o 14 (m 49),o 15 (m 50)]),
 (q [(.reg [o 51 (m 15),o 52 (bc .neq 51 (n 0))]),
 (i 52 (q [(.reg [o 53 (.build [(n 0),(.nils 1),(.nils 1)] []),o 54 (m 15),w (.store 3 (t 4) (t 53)),o 5 (.mv (c (n 0))),o 6 (m 54)]),
 .ret]) .skip)]),
 (.regd [o 55 (la 3 13),o 56 (m 14),o 57 (m 11),o 58 (m 1),o 59 (.call 56 [(t 57),(t 58)]),o 60 (ia 1 56 59),o 61 (l 60),w (.store 3 (t 4) (t 55)),o 5 (m 61),o 6 (.mv (c (n 0)))] [0,0,0,0,12,30,62,29,255,511]),
 .ret])⟩
def zoH:CFn:=⟨8,[.tmp 4],(q [(.reg [o 3 (.box 1 (t 1)),o 4 (.mv (c .bf))]),
 (.reg [o 5 (m 0),o 6 (.fnew zc0 [(t 3)]),o 7 (.call 82 [(t 5),(t 6)]),o 4 (m 7)]),
 .ret])⟩
def zdC:CFn:=⟨9,[.tmp 4],(q [(.reg [o 4 (.mv (c .bf))]),
 (.reg [o 5 (m 0),o 6 (m 1),o 7 (.call 85 [(t 5),(t 6)]),o 8 (bc .geq 7 (n 0)),o 4 (m 8)]),
 .ret])⟩
def zoE:CFn:=⟨8,[.tmp 3],(q [(.reg [o 3 (.mv (c .bf))]),
 (.reg [o 4 (m 0),o 5 (f 0 1),o 6 (l 5),o 7 (.call 41 [(t 4),(t 6)]),o 3 (m 7)]),
 .ret])⟩
def zoF:CFn:=⟨63,[.cell 4 (some 3)],(q [(.reg [o 2 (.box 3 (t 0)),o 4 (.alloc [(n 0),(.nils 1),(.nils 1)])]),
 (.reg [o 13 (m 1),o 14 (ln 13),o 15 (.build [(n 0),(.nils 1),(.nils 1)] [(0,1,(t 14))]),o 5 (.alloc [(n 0),(.nils 1),(.nils 1)]),w (.store 3 (t 5) (t 15))]),
 (q [(.reg [o 16 (f 1 2),o 17 (l 16),o 18 (ln 17),o 19 (.mv (c (n 0)))]),
 (.block 0 (.loop (q [(.reg [o 20 (b .lss 19 18)]),
 (i 20 .skip (.exit 0)),
 (.block 1 (q [(.reg [o 21 (ia 1 17 19),o 22 (l 21),o 7 (m 22)]),
 (.regd [o 23 (f 1 5),o 24 (l 23),o 25 (m 7),o 26 (m 1),o 27 (.call 86 [(t 25),(t 26)]),o 28 (.bslice 1 1 [(u 0)] [(0,(t 27))]),o 29 (.app 1 8 (t 24) (t 28)),o 30 (f 1 5),w (.store 1 (t 30) (t 29))] [0,1,0,0,12,28,63,127,255])])),
 (.reg [o 31 (bc .add 19 (n 1)),o 19 (m 31)])])))]),
 (q [(.reg [o 32 (f 2 2),o 33 (l 32),o 34 (ln 33),o 35 (.mv (c (n 0)))]),
 (.block 2 (.loop (q [(.reg [o 36 (b .lss 35 34)]),
 (i 36 .skip (.exit 2)),
 (.block 3 (q [(.reg [o 37 (ia 1 33 35),o 38 (l 37),o 9 (m 38)]),
 (.reg [o 10 (.mv (c (.nils 1)))]),
 (q [(.reg [o 39 (m 1),o 40 (ln 39),o 41 (.mv (c (n 0)))]),
 (.block 4 (.loop (q [(.reg [o 42 (b .lss 41 40)]),
 (i 42 .skip (.exit 4)),
 (.block 5 (q [(.reg [o 43 (ia 1 39 41),o 44 (l 43),o 12 (m 44)]),
 (.reg [o 45 (m 10),o 46 (m 9),o 47 (m 12),o 48 (ia 1 46 47),o 49 (l 48),o 50 (m 1),o 51 (.call 86 [(t 49),(t 50)]),o 52 (.bslice 1 1 [(u 0)] [(0,(t 51))]),o 53 (.app 1 8 (t 45) (t 52)),o 10 (m 53)])])),
 (.reg [o 54 (bc .add 41 (n 1)),o 41 (m 54)])])))]),
 (.reg [o 55 (f 2 5),o 56 (l 55),o 57 (m 10),o 58 (.bslice 1 1 [(.nils 1)] [(0,(t 57))]),o 59 (.app 1 24 (t 56) (t 58)),o 60 (f 2 5),w (.store 1 (t 60) (t 59))])])),
 (.reg [o 61 (bc .add 35 (n 1)),o 35 (m 61)])])))]),
 (.reg [o 62 (la 3 5),w (.store 3 (t 4) (t 62))]),
 .ret])⟩
def znE:CFn:=⟨20,[.tmp 2,.tmp 3],(q [(.reg [o 1 (.box 3 (t 0)),o 2 (.mv (c (.nils 1))),o 3 (.mv (c (n 0)))]),
 (q [(.reg [o 7 (la 3 1),o 8 (.call 14 [(t 7)]),o 4 (m 8)]),
 (.reg [o 9 (m 4),o 10 (bc .neq 9 (n 0))]),
 (i 10 (q [(.reg [o 11 (m 4),o 2 (.mv (c (.nils 1))),o 3 (m 11)]),
 .ret]) .skip)]),
 (.reg [o 13 (la 3 1),o 14 (f 2 1),o 15 (l 14),o 16 (.call 87 [(t 13),(t 15)]),o 12 (m 16),o 17 (e 12 0),o 18 (e 12 1),o 5 (m 17),o 6 (m 18)]),
 (.reg [o 19 (m 5),o 2 (m 19),o 3 (.mv (c (n 0)))]),
 .ret])⟩
def zmM:CFn:=⟨31,[.tmp 2],(q [(.reg [o 2 (.mv (c (n 0)))]),
 (q [(.reg [o 5 (m 0),o 6 (ln 5),o 7 (bc .gtr 6 (n 64))]),
 (i 7 (q [(.reg [o 2 (.mv (c (n 8)))]),
 .ret]) .skip)]),
 (q [(.reg [o 8 (m 0),o 9 (ln 8),o 10 (.mv (c (n 0)))]),
 (.block 0 (.loop (q [(.reg [o 11 (b .lss 10 9)]),
 (i 11 .skip (.exit 0)),
 (.block 1 (q [(.reg [o 12 (m 10),o 13 (ia 1 8 10),o 14 (l 13),o 3 (m 12),o 4 (m 14)]),
 (.reg [o 15 (m 4),o 16 (bc .lss 15 (n 0)),o 17 (m 16),g 18 17 false (m 4),g 19 17 false (m 3),g 20 17 false (b .gtr 18 19),o 21 (pt 17 20),o 22 (m 21),g 23 22 false (m 0),g 24 22 false (m 4),g 25 22 false (ia 1 23 24),g 26 22 false (l 25),g 27 22 false (m 4),g 28 22 false (b .neq 26 27),o 29 (pt 22 28)]),
 (i 29 (q [(.reg [o 2 (.mv (c (n 3)))]),
 .ret]) .skip)])),
 (.reg [o 30 (bc .add 10 (n 1)),o 10 (m 30)])])))]),
 (.reg [o 2 (.mv (c (n 0)))]),
 .ret])⟩
def zre:CFn:=⟨40,[.tmp 4],(q [(.reg [o 2 (.box 3 (t 0)),o 4 (.mv (c (n 0)))]),
 (q [(.reg [o 8 (la 3 2),o 9 (.call 14 [(t 8)]),o 10 (bc .neq 9 (n 0)),o 11 (m 10),g 12 11 false (m 1),g 13 11 false (bc .lss 12 (n 0)),o 14 (pt 11 13),o 15 (m 14),g 16 15 false (m 1),g 17 15 false (f 0 2),g 18 15 false (l 17),g 19 15 false (b .geq 16 18),o 20 (pt 15 19)]),
 (i 20 (q [(.reg [o 4 (.mv (c (n (-1))))]),
 .ret]) .skip)]),
 (.reg [o 5 (.mv (c (n 0)))]),
 (q [(.reg [o 21 (f 1 2),o 22 (l 21),o 23 (ln 22),o 24 (.mv (c (n 0)))]),
 (.block 0 (.loop (q [(.reg [o 25 (b .lss 24 23)]),
 (i 25 .skip (.exit 0)),
 (.block 1 (q [(.reg [o 26 (m 24),o 27 (ia 1 22 24),o 28 (l 27),o 6 (m 26),o 7 (m 28)]),
 (.reg [o 29 (m 5),o 30 (m 7),o 31 (m 1),o 32 (b .shr 30 31),o 33 (bc .and 32 (u 1)),o 34 (.conv .i64 (t 33)),o 35 (m 6),o 36 (b .shl 34 35),o 37 (b .or 29 36),o 5 (m 37)])])),
 (.reg [o 38 (bc .add 24 (n 1)),o 24 (m 38)])])))]),
 (.reg [o 39 (m 5),o 4 (m 39)]),
 .ret])⟩
def zmO:CFn:=⟨10,[.tmp 2],(q [(.reg [o 2 (.mv (c (.nils 1)))]),
 (.reg [o 4 (m 0),o 5 (.call 90 [(t 4)]),o 3 (m 5)]),
 (.reg [o 6 (m 3),o 7 (.call 92 [(t 6)])]),
 (.reg [o 8 (m 3),o 9 (.call 93 [(t 8)]),o 2 (m 9)]),
 .ret])⟩
def zhH:CFn:=⟨19,[.tmp 4],(q [(.reg [o 4 (.mv (c (n 0)))]),
 (q [(.reg [o 6 (m 0),o 7 (ln 6),o 8 (.mv (c (n 0)))]),
 (.block 0 (.loop (q [(.reg [o 9 (b .lss 8 7)]),
 (i 9 .skip (.exit 0)),
 (.block 1 (q [(.reg [o 10 (m 8),o 5 (m 10)]),
 (.reg [o 11 (m 1),o 12 (m 0),o 13 (m 5),o 14 (ia 1 12 13),o 15 (l 14),o 16 (b .eql 11 15)]),
 (i 16 (q [(.reg [o 17 (m 5),o 4 (m 17)]),
 .ret]) .skip)])),
 (.reg [o 18 (bc .add 8 (n 1)),o 8 (m 18)])])))]),
 (.reg [o 4 (.mv (c (n (-1))))]),
 .ret])⟩
def zmP:CFn:=⟨26,[.tmp 4],(q [(.reg [o 4 (.mv (c (u 0)))]),
 (.reg [o 5 (.mv (c (u 0)))]),
 (q [(.reg [o 8 (m 1),o 9 (ln 8),o 10 (.mv (c (n 0)))]),
 (.block 0 (.loop (q [(.reg [o 11 (b .lss 10 9)]),
 (i 11 .skip (.exit 0)),
 (.block 1 (q [(.reg [o 12 (m 10),o 13 (ia 1 8 10),o 14 (l 13),o 6 (m 12),o 7 (m 14)]),
 (.reg [o 15 (m 0),o 16 (m 6),o 17 (b .shr 15 16),o 18 (bc .and 17 (u 1)),o 19 (bc .eql 18 (u 1))]),
 (i 19 (.reg [o 20 (m 5),o 21 (m 7),o 22 (.bin .shl (c (u 1)) (t 21)),o 23 (b .or 20 22),o 5 (m 23)]) .skip)])),
 (.reg [o 24 (bc .add 10 (n 1)),o 10 (m 24)])])))]),
 (.reg [o 25 (m 5),o 4 (m 25)]),
 .ret])⟩
def zh9:CFn:=⟨26,[.tmp 4],(q [(.reg [o 4 (.mv (c .bf))]),
 (q [(.reg [o 6 (m 0),o 7 (ln 6),o 8 (m 1),o 9 (ln 8),o 10 (b .neq 7 9)]),
 (i 10 (q [(.reg [o 4 (.mv (c .bf))]),
 .ret]) .skip)]),
 (q [(.reg [o 5 (.mv (c (n 0)))]),
 (.block 0 (.loop (q [(q [(.reg [o 11 (m 5),o 12 (m 0),o 13 (ln 12),o 14 (b .lss 11 13)]),
 (i 14 .skip (.exit 0))]),
 (.block 1 (q [(.regd [o 17 (m 0),o 18 (m 5),o 19 (ia 1 17 18),o 20 (l 19),o 21 (m 1),o 22 (m 5),o 23 (ia 1 21 22),o 24 (l 23),o 25 (b .neq 20 24)] [0,0,3,7,0,0,48,112,255]),
 (i 25 (q [(.reg [o 4 (.mv (c .bf))]),
 .ret]) .skip)])),
 (.reg [o 15 (m 5),o 16 (bc .add 15 (n 1)),o 5 (m 16)])])))]),
 (.reg [o 4 (.mv (c .bt))]),
 .ret])⟩
def zrV:CFn:=⟨33,[.tmp 4],(q [(.reg [o 2 (.box 3 (t 0)),o 3 (.box 3 (t 1)),o 4 (.mv (c (n 0)))]),
 (q [(.reg [o 7 (la 3 2),o 8 (.call 14 [(t 7)]),o 5 (m 8)]),
 (.reg [o 9 (m 5),o 10 (bc .neq 9 (n 0))]),
 (i 10 (q [(.reg [o 11 (m 5),o 4 (m 11)]),
 .ret]) .skip)]),
 (q [(.reg [o 12 (la 3 3),o 13 (.call 14 [(t 12)]),o 6 (m 13)]),
 (.reg [o 14 (m 6),o 15 (bc .neq 14 (n 0))]),
 (i 15 (q [(.reg [o 16 (m 6),o 4 (m 16)]),
 .ret]) .skip)]),
 (q [(.reg [o 17 (f 2 2),o 18 (l 17),o 19 (ln 18),o 20 (f 2 3),o 21 (l 20),o 22 (ln 21),o 23 (b .neq 19 22),o 24 (m 23),g 25 24 false (f 1 2),g 26 24 false (l 25),g 27 24 false (ln 26),g 28 24 false (f 1 3),g 29 24 false (l 28),g 30 24 false (ln 29),g 31 24 false (b .neq 27 30),o 32 (pt 24 31)]),
 (i 32 (q [(.reg [o 4 (.mv (c (n 1)))]),
 .ret]) .skip)]),
 (.reg [o 4 (.mv (c (n 0)))]),
 .ret])⟩
def zoA:CFn:=⟨4,[.tmp 2],(q [(.reg [o 1 (.box 1 (t 0)),o 2 (.mv (c (.d .nil)))]),
 (.reg [o 3 (.fnew zcZ [(t 1)]),o 2 (m 3)]),
 .ret])⟩
def zoz:CFn:=⟨69,[.cell 10 none],(q [(.reg [o 5 (.box 3 (t 0)),o 6 (.box 3 (t 1)),o 7 (.box 1 (t 2)),o 9 (.box 1 (t 4)),o 10 (.alloc [.bf])]),
 (q [(.regd [o 14 (la 3 5),o 15 (m 3),o 16 (.call 54 [(t 14),(t 15)]),o 17 (la 3 6),o 18 (l 9),o 19 (.call 54 [(t 17),(t 18)]),o 20 (b .neq 16 19)] [0,0,3,0,0,31,63]),
 (i 20 (q [(.reg [w (.store 1 (t 10) (c .bf))]),
 .ret]) .skip)]),
 (q [(.reg [o 21 (f 2 5),o 22 (l 21),o 23 (ln 22),o 24 (.mv (c (n 0)))]),
 (.block 0 (.loop (q [(.reg [o 25 (b .lss 24 23)]),
 (i 25 .skip (.exit 0)),
 (.block 1 (q [(.reg [o 26 (m 24),o 11 (.alloc [(n 0)]),w (.store 1 (t 11) (t 26))]),
 (.reg [o 12 (.alloc [(u 0)])]),
 (q [(.reg [o 27 (f 2 5),o 28 (l 27),o 29 (l 11),o 30 (ia 1 28 29),o 31 (l 30),o 32 (m 3),o 33 (ia 1 31 32),o 34 (l 33),o 35 (.call 66 [(t 34)])]),
 (.block 2 (.rng (t 35) [36] (.reg [o 13 (m 36)]) (.block 3 (q [(q [(.regd [o 37 (l 7),o 38 (m 13),o 39 (ia 1 37 38),o 40 (l 39),o 41 (f 2 6),o 42 (l 41),o 43 (l 11),o 44 (ia 1 42 43),o 45 (l 44),o 46 (l 9),o 47 (ia 1 45 46),o 48 (l 47),o 49 (b .and 40 48),o 50 (bc .eql 49 (u 0))] [0,0,3,7,0,16,0,112,240,0,1008,2032,4095,8191]),
 (i 50 (q [(.reg [w (.store 1 (t 10) (c .bf))]),
 .ret]) .skip)]),
 (.regd [o 51 (l 12),o 52 (l 7),o 53 (m 13),o 54 (ia 1 52 53),o 55 (l 54),o 56 (b .or 51 55),w (.store 1 (t 12) (t 56))] [0,0,0,6,14,31,63])]))))]),
 (.regd [o 57 (f 2 6),o 58 (l 57),o 59 (l 11),o 60 (ia 1 58 59),o 61 (l 60),o 62 (l 9),o 63 (ia 1 61 62),o 64 (l 63),o 65 (l 12),o 66 (b .andNot 64 65),o 67 (bc .neq 66 (u 0))] [0,1,0,7,15,0,63,127,0,511,1023]),
 (i 67 (q [(.reg [w (.store 1 (t 10) (c .bf))]),
 .ret]) .skip)])),
 (.reg [o 68 (bc .add 24 (n 1)),o 24 (m 68)])])))]),
 (.reg [w (.store 1 (t 10) (c .bt))]),
 .ret])⟩
def zkL:CFn:=⟨25,[.tmp 2,.tmp 3],(q [(.reg [o 2 (.mv (c (.nils 1))),o 3 (.mv (c (n 0)))]),
 (q [(.reg [o 4 (m 0)]),
 (.block 0 (q [(.reg [o 6 (bc .eql 4 (n 0)),o 5 (m 6)]),
 (i 5 (q [(.reg [o 2 (.mv (c (.nils 1))),o 3 (.mv (c (n 0)))]),
 .ret]) (q [(.reg [o 8 (bc .eql 4 (n 1)),o 7 (m 8)]),
 (i 7 (q [(.reg [o 9 (.bslice 1 1 [(n 0)] [(0,(c (n 1)))]),o 2 (m 9),o 3 (.mv (c (n 0)))]),
 .ret]) (q [(.reg [o 11 (bc .eql 4 (n 2)),o 10 (m 11)]),
 (i 10 (q [(.reg [o 12 (.bslice 1 1 [(n 0)] [(0,(c (n 2)))]),o 2 (m 12),o 3 (.mv (c (n 0)))]),
 .ret]) (q [(.reg [o 14 (bc .eql 4 (n 3)),o 13 (m 14)]),
 (i 13 (q [(.reg [o 15 (.bslice 1 1 [(n 0)] [(0,(c (n 4)))]),o 2 (m 15),o 3 (.mv (c (n 0)))]),
 .ret]) (q [(.reg [o 17 (bc .eql 4 (n 4)),o 16 (m 17)]),
 (i 16 (q [(.reg [o 18 (.bslice 1 2 [(n 0)] [(0,(c (n 2))),(1,(c (n 4)))]),o 2 (m 18),o 3 (.mv (c (n 0)))]),
 .ret]) (q [(.reg [o 20 (bc .eql 4 (n 5)),o 19 (m 20)]),
 (i 19 (q [(.reg [o 21 (.bslice 1 3 [(n 0)] [(0,(c (n 1))),(1,(c (n 4))),(2,(c (n 5)))]),o 2 (m 21),o 3 (.mv (c (n 0)))]),
 .ret]) (q [(.reg [o 23 (bc .eql 4 (n 6)),o 22 (m 23)]),
 (i 22 (q [(.reg [o 24 (.bslice 1 3 [(n 0)] [(0,(c (n 2))),(1,(c (n 4))),(2,(c (n 5)))]),o 2 (m 24),o 3 (.mv (c (n 0)))]),
 .ret]) .skip)]))]))]))]))]))]))]))]),
 (.reg [o 2 (.mv (c (.nils 1))),o 3 (.mv (c (n 1)))]),
 .ret])⟩
def zrc:CFn:=⟨8,[.tmp 3],(q [(.reg [o 3 (.mv (c .bf))]),
 (.reg [o 4 (m 0),o 5 (l 1),o 6 (.call 70 [(t 4),(t 5)]),o 7 (.un .not (t 6)),o 3 (m 7)]),
 .ret])⟩
def zrW:CFn:=⟨25,[.tmp 4],(q [(.reg [o 2 (.box 1 (t 0)),o 4 (.mv (c .bf))]),
 (.reg [o 8 (m 1),o 9 (.call 68 [(t 8)]),o 7 (m 9),o 10 (e 7 0),o 11 (e 7 1),o 5 (m 10),o 6 (m 11)]),
 (q [(.reg [o 12 (m 6),o 13 (bc .neq 12 (n 0)),o 14 (m 13),g 15 14 false (l 2),g 16 14 false (ln 15),g 17 14 false (l 2),g 18 14 false (.call 101 [(t 16),(t 17)]),g 19 14 false (bc .neq 18 (n 0)),o 20 (pt 14 19)]),
 (i 20 (q [(.reg [o 4 (.mv (c .bf))]),
 .ret]) .skip)]),
 (.reg [o 21 (m 5),o 22 (.fnew zet [(t 2)]),o 23 (.call 102 [(t 21),(t 22)]),o 24 (.un .not (t 23)),o 4 (m 24)]),
 .ret])⟩
def zjR:CFn:=⟨95,[.cell 4 (some 3),.tmp 5,.tmp 6],(q [(.reg [o 2 (.box 3 (t 0)),o 4 (.alloc [(n 0),(.nils 1),(.nils 1)]),o 5 (.mv (c (.nils 1))),o 6 (.mv (c (n 0)))]),
 (q [(.reg [o 22 (la 3 2),o 23 (.call 14 [(t 22)]),o 7 (m 23)]),
 (.reg [o 24 (m 7),o 25 (bc .neq 24 (n 0))]),
 (i 25 (q [(.reg [o 26 (.build [(n 0),(.nils 1),(.nils 1)] []),o 27 (m 7),w (.store 3 (t 4) (t 26)),o 5 (.mv (c (.nils 1))),o 6 (m 27)]),
 .ret]) .skip)]),
 (q [(.reg [o 28 (m 1),o 29 (bc .lss 28 (n 0)),o 30 (m 29),g 31 30 false (m 1),g 32 30 false (f 0 2),g 33 30 false (l 32),g 34 30 false (b .geq 31 33),o 35 (pt 30 34)]),
 (i 35 (q [(.reg [o 36 (.build [(n 0),(.nils 1),(.nils 1)] []),w (.store 3 (t 4) (t 36)),o 5 (.mv (c (.nils 1))),o 6 (.mv (c (n 2)))]),
 .ret]) .skip)]),
 (.regd [o 38 (la 3 2),o 39 (m 1),o 40 (.bin .shl (c (u 1)) (t 39)),o 41 (.call 72 [(t 38),(t 40)]),o 37 (m 41),o 42 (e 37 0),o 43 (e 37 1),o 8 (m 42),o 9 (m 43)] [0,0,2,7,15,31,31,63,255]),
 (.reg [o 45 (la 3 2),o 46 (m 8),o 47 (.call 73 [(t 45),(t 46)]),o 44 (m 47),o 48 (e 44 0),o 49 (e 44 1),o 50 (e 44 2),o 10 (.alloc [(n 0),(.nils 1),(.nils 1)]),w (.store 3 (t 10) (t 48)),o 11 (m 49),o 12 (m 50)]),
 (q [(.reg [o 52 (la 3 10),o 53 (.call 105 [(t 52),(c (n (-1)))]),o 51 (m 53),o 54 (e 51 0),o 55 (e 51 1),o 13 (m 54),o 14 (m 55)]),
 (.reg [o 56 (m 14),o 57 (f 0 10),o 58 (l 57),o 59 (b .lss 56 58)]),
 (i 59 (q [(.reg [o 60 (.build [(n 0),(.nils 1),(.nils 1)] []),w (.store 3 (t 4) (t 60)),o 5 (.mv (c (.nils 1))),o 6 (.mv (c (n 16)))]),
 .ret]) .skip)]),
 (.regd [o 62 (la 3 10),o 63 (m 11),o 64 (m 1),o 65 (.call 56 [(t 63),(t 64)]),o 66 (.call 105 [(t 62),(t 65)]),o 61 (m 66),o 67 (e 61 0),o 68 (e 61 1),o 15 (m 67),o 16 (m 68)] [0,0,0,6,15,31,63,63,127,511]),
 (.reg [o 70 (la 3 10),o 71 (m 15),o 72 (.call 16 [(t 70),(t 71)]),o 69 (m 72),o 73 (e 69 0),o 74 (e 69 1),o 17 (.alloc [(n 0),(.nils 1),(.nils 1)]),w (.store 3 (t 17) (t 73)),o 18 (m 74)]),
 (.reg [o 75 (m 15),o 76 (ln 75),o 77 (.mkslice 1 8 [(n 0)] (t 76) (t 76)),o 19 (m 77)]),
 (q [(.reg [o 78 (m 15),o 79 (ln 78),o 80 (.mv (c (n 0)))]),
 (.block 0 (.loop (q [(.reg [o 81 (b .lss 80 79)]),
 (i 81 .skip (.exit 0)),
 (.block 1 (q [(.reg [o 82 (m 80),o 83 (ia 1 78 80),o 84 (l 83),o 20 (m 82),o 21 (m 84)]),
 (.reg [o 85 (m 19),o 86 (m 21),o 87 (m 11),o 88 (m 20),o 89 (ia 1 87 88),o 90 (l 89),o 91 (ia 1 85 86),w (.store 1 (t 91) (t 90))])])),
 (.reg [o 92 (bc .add 80 (n 1)),o 80 (m 92)])])))]),
 (.reg [o 93 (la 3 17),o 94 (m 19),w (.store 3 (t 4) (t 93)),o 5 (m 94),o 6 (.mv (c (n 0)))]),
 .ret])⟩
def zmK:CFn:=⟨56,[.tmp 4,.tmp 5],(q [(.reg [o 2 (.box 3 (t 0)),o 4 (.mv (c (u 0))),o 5 (.mv (c (n 0)))]),
 (q [(.reg [o 12 (la 3 2),o 13 (.call 14 [(t 12)]),o 6 (m 13)]),
 (.reg [o 14 (m 6),o 15 (bc .neq 14 (n 0))]),
 (i 15 (q [(.reg [o 16 (m 6),o 4 (.mv (c (u 0))),o 5 (m 16)]),
 .ret]) .skip)]),
 (q [(.reg [o 17 (m 1),o 18 (f 0 2),o 19 (l 18),o 20 (.call 84 [(t 19)]),o 21 (b .andNot 17 20),o 22 (bc .neq 21 (u 0))]),
 (i 22 (q [(.reg [o 4 (.mv (c (u 0))),o 5 (.mv (c (n 2)))]),
 .ret]) .skip)]),
 (.reg [o 23 (m 1),o 7 (m 23)]),
 (q [(.reg [o 24 (m 1),o 8 (m 24)]),
 (.block 0 (.loop (q [(q [(.reg [o 25 (m 8),o 26 (bc .neq 25 (u 0))]),
 (i 26 .skip (.exit 0))]),
 (.block 1 (q [(.reg [o 27 (m 8),o 28 (.call 100 [(t 27)]),o 9 (m 28)]),
 (.reg [o 29 (m 8),o 30 (m 8),o 31 (bc .sub 30 (u 1)),o 32 (b .and 29 31),o 8 (m 32)]),
 (.reg [o 33 (f 2 2),o 34 (l 33),o 35 (ln 34),o 36 (.mv (c (n 0)))]),
 (.block 2 (.loop (q [(.reg [o 37 (b .lss 36 35)]),
 (i 37 .skip (.exit 2)),
 (.block 3 (q [(.reg [o 38 (ia 1 34 36),o 39 (l 38),o 11 (m 39)]),
 (.reg [o 40 (m 8),o 41 (m 11),o 42 (m 9),o 43 (ia 1 41 42),o 44 (l 43),o 45 (m 7),o 46 (b .andNot 44 45),o 47 (b .or 40 46),o 8 (m 47)]),
 (.reg [o 48 (m 7),o 49 (m 11),o 50 (m 9),o 51 (ia 1 49 50),o 52 (l 51),o 53 (b .or 48 52),o 7 (m 53)])])),
 (.reg [o 54 (bc .add 36 (n 1)),o 36 (m 54)])])))]))])))]),
 (.reg [o 55 (m 7),o 4 (m 55),o 5 (.mv (c (n 0)))]),
 .ret])⟩
def znJ:CFn:=⟨31,[.cell 4 (some 3),.tmp 5,.tmp 6],(q [(.reg [o 2 (.box 3 (t 0)),o 4 (.alloc [(n 0),(.nils 1),(.nils 1)]),o 5 (.mv (c (.nils 1))),o 6 (.mv (c (n 0)))]),
 (q [(.reg [o 9 (la 3 2),o 10 (.call 14 [(t 9)]),o 7 (m 10)]),
 (.reg [o 11 (m 7),o 12 (bc .neq 11 (n 0))]),
 (i 12 (q [(.reg [o 13 (.build [(n 0),(.nils 1),(.nils 1)] []),o 14 (m 7),w (.store 3 (t 4) (t 13)),o 5 (.mv (c (.nils 1))),o 6 (m 14)]),
 .ret]) .skip)]),
 (q [(.reg [o 15 (m 1),o 16 (f 0 2),o 17 (l 16),o 18 (.call 84 [(t 17)]),o 19 (b .andNot 15 18),o 20 (bc .neq 19 (u 0))]),
 (i 20 (q [(.reg [o 21 (.build [(n 0),(.nils 1),(.nils 1)] []),w (.store 3 (t 4) (t 21)),o 5 (.mv (c (.nils 1))),o 6 (.mv (c (n 2)))]),
 .ret]) .skip)]),
 (q [(.reg [o 22 (m 1),o 23 (bc .eql 22 (u 0))]),
 (i 23 (q [(.reg [o 24 (.build [(n 0),(.nils 1),(.nils 1)] []),w (.store 3 (t 4) (t 24)),o 5 (.mv (c (.nils 1))),o 6 (.mv (c (n 6)))]),
 .ret]) .skip)]),
 (.reg [o 25 (m 1),o 26 (.call 106 [(t 25)]),o 8 (m 26)]),
 (.reg [o 27 (la 3 2),o 28 (m 8),o 29 (.call 44 [(t 27),(t 28)]),o 30 (m 8),w (.store 3 (t 4) (t 29)),o 5 (m 30),o 6 (.mv (c (n 0)))]),
 .ret])⟩
def zdZ:CFn:=⟨9,[.tmp 4],(q [(.reg [o 4 (.mv (c .bf))]),
 (.reg [o 5 (m 0),o 6 (m 1),o 7 (.call 120 [(t 5),(t 6)]),o 8 (bc .geq 7 (n 0)),o 4 (m 8)]),
 .ret])⟩
def zmL:CFn:=⟨9,[.tmp 3],(q [(.reg [o 3 (.mv (c .bf))]),
 (.reg [o 4 (m 0),o 5 (l 1),o 6 (.call 84 [(t 5)]),o 7 (b .andNot 4 6),o 8 (bc .neq 7 (u 0)),o 3 (m 8)]),
 .ret])⟩
def ztw:CFn:=⟨8,[.tmp 2],(q [(.reg [o 2 (.mv (c (u 0)))]),
 (q [(.reg [o 3 (m 0),o 4 (bc .geq 3 (n 64))]),
 (i 4 (q [(.reg [o 2 (.mv (c (u 18446744073709551615)))]),
 .ret]) .skip)]),
 (.reg [o 5 (m 0),o 6 (.bin .shl (c (u 1)) (t 5)),o 7 (bc .sub 6 (u 1)),o 2 (m 7)]),
 .ret])⟩
def zd4:CFn:=⟨19,[.tmp 4],(q [(.reg [o 4 (.mv (c (n 0)))]),
 (q [(.reg [o 6 (m 0),o 7 (ln 6),o 8 (.mv (c (n 0)))]),
 (.block 0 (.loop (q [(.reg [o 9 (b .lss 8 7)]),
 (i 9 .skip (.exit 0)),
 (.block 1 (q [(.reg [o 10 (m 8),o 5 (m 10)]),
 (.reg [o 11 (m 1),o 12 (m 0),o 13 (m 5),o 14 (ia 1 12 13),o 15 (l 14),o 16 (.callv (t 11) [(t 15)])]),
 (i 16 (q [(.reg [o 17 (m 5),o 4 (m 17)]),
 .ret]) .skip)])),
 (.reg [o 18 (bc .add 8 (n 1)),o 8 (m 18)])])))]),
 (.reg [o 4 (.mv (c (n (-1))))]),
 .ret])⟩
def zrX:CFn:=⟨25,[.tmp 4],(q [(.reg [o 4 (.mv (c (u 0)))]),
 (.reg [o 5 (.mv (c (u 0)))]),
 (q [(.reg [o 8 (m 1),o 9 (ln 8),o 10 (.mv (c (n 0)))]),
 (.block 0 (.loop (q [(.reg [o 11 (b .lss 10 9)]),
 (i 11 .skip (.exit 0)),
 (.block 1 (q [(.reg [o 12 (m 10),o 13 (ia 1 8 10),o 14 (l 13),o 6 (m 12),o 7 (m 14)]),
 (.reg [o 15 (m 5),o 16 (m 0),o 17 (m 7),o 18 (b .shr 16 17),o 19 (bc .and 18 (u 1)),o 20 (m 6),o 21 (b .shl 19 20),o 22 (b .or 15 21),o 5 (m 22)])])),
 (.reg [o 23 (bc .add 10 (n 1)),o 10 (m 23)])])))]),
 (.reg [o 24 (m 5),o 4 (m 24)]),
 .ret])⟩
def zpK:CFn:=⟨21,[.tmp 4,.tmp 5],(q [(.reg [o 2 (.box 3 (t 0)),o 4 (.mv (c (.nils 1))),o 5 (.mv (c (n 0)))]),
 (.reg [o 6 (.alloc [(.nils 1)])]),
 (.reg [o 7 (.alloc [(n 0)]),w (.store 1 (t 7) (c (n (-1))))]),
 (q [(.reg [o 9 (la 3 2),o 10 (m 1),o 11 (.call 121 [(t 9),(t 10)])]),
 (.block 0 (.rng (t 11) [12] (.reg [o 8 (m 12)]) (.block 1 (q [(q [(.reg [o 13 (m 8),o 14 (l 6),o 15 (.call 122 [(t 13),(t 14)])]),
 (i 15 (.exit 0) .skip)]),
 (.reg [o 16 (m 8),w (.store 1 (t 6) (t 16))]),
 (.reg [o 17 (l 7),o 18 (bc .add 17 (n 1)),w (.store 1 (t 7) (t 18))])]))))]),
 (.regd [o 19 (l 6),o 20 (l 7),o 4 (m 19),o 5 (m 20)] [0,0,1,7]),
 .ret])⟩
def zhF:CFn:=⟨8,[.tmp 2],(q [(.reg [o 2 (.mv (c (.nils 1)))]),
 (q [(.reg [o 3 (m 0),o 4 (.eqN false (t 3) (c (.nils 1)))]),
 (i 4 (q [(.reg [o 2 (.mv (c (.nils 1)))]),
 .ret]) .skip)]),
 (.reg [o 5 (.bslice 1 0 [(n 0)] []),o 6 (m 0),o 7 (.app 1 8 (t 5) (t 6)),o 2 (m 7)]),
 .ret])⟩
def zh8:CFn:=⟨11,[],(q [(.reg [o 3 (m 0),o 4 (ln 3),o 2 (m 4)]),
 (.reg [o 5 (m 0),o 6 (m 2),o 7 (m 2),o 8 (.conv .u64 (t 7)),o 9 (.call 128 [(t 8)]),o 10 (.call 127 [(t 5),(c (n 0)),(t 6),(t 9)])])])⟩
def zgX:CFn:=⟨61,[.tmp 2],(q [(.reg [o 2 (.mv (c (.nils 1)))]),
 (q [(.reg [o 6 (m 0),o 7 (ln 6),o 8 (bc .lss 7 (n 2))]),
 (i 8 (q [(.reg [o 9 (m 0),o 2 (m 9)]),
 .ret]) .skip)]),
 (q [(.reg [o 3 (.mv (c (n 1)))]),
 (.block 0 (.loop (q [(q [(.reg [o 10 (m 3),o 11 (m 0),o 12 (ln 11),o 13 (b .lss 10 12)]),
 (i 13 .skip (.exit 0))]),
 (.block 1 (q [(.regd [o 16 (m 0),o 17 (m 3),o 18 (ia 1 16 17),o 19 (l 18),o 20 (m 0),o 21 (m 3),o 22 (bc .sub 21 (n 1)),o 23 (ia 1 20 22),o 24 (l 23),o 25 (b .eql 19 24)] [0,0,3,7,0,0,32,112,240,511]),
 (i 25 (q [(.reg [o 26 (m 0),o 27 (m 3),o 28 (.slice 1 (t 26) (some (t 27)) none),o 4 (m 28)]),
 (q [(.reg [o 5 (.mv (c (n 1)))]),
 (.block 2 (.loop (q [(q [(.reg [o 29 (m 5),o 30 (m 4),o 31 (ln 30),o 32 (b .lss 29 31)]),
 (i 32 .skip (.exit 2))]),
 (.block 3 (q [(.regd [o 35 (m 4),o 36 (m 5),o 37 (ia 1 35 36),o 38 (l 37),o 39 (m 4),o 40 (m 5),o 41 (bc .sub 40 (n 1)),o 42 (ia 1 39 41),o 43 (l 42),o 44 (b .neq 38 43)] [0,0,3,7,0,0,32,112,240,511]),
 (i 44 (q [(.reg [o 45 (m 0),o 46 (m 3),o 47 (m 4),o 48 (m 5),o 49 (ia 1 47 48),o 50 (l 49),o 51 (ia 1 45 46),w (.store 1 (t 51) (t 50))]),
 (.reg [o 52 (m 3),o 53 (bc .add 52 (n 1)),o 3 (m 53)])]) .skip)])),
 (.reg [o 33 (m 5),o 34 (bc .add 33 (n 1)),o 5 (m 34)])])))]),
 (.reg [o 54 (m 0),o 55 (m 3),o 56 (.slice 1 (t 54) (some (t 55)) none),w (.clear 1 [(n 0)] (t 56))]),
 (.reg [o 57 (m 0),o 58 (m 3),o 59 (.slice 1 (t 57) none (some (t 58))),o 2 (m 59)]),
 .ret]) .skip)])),
 (.reg [o 14 (m 3),o 15 (bc .add 14 (n 1)),o 3 (m 15)])])))]),
 (.reg [o 60 (m 0),o 2 (m 60)]),
 .ret])⟩
def zmG:CFn:=⟨14,[],(.block 0 (.loop (q [(q [(.reg [o 3 (l 1),o 4 (bc .neq 3 (u 0))]),
 (i 4 .skip (.exit 0))]),
 (.block 1 (q [(.reg [o 9 (m 0),o 10 (l 1),o 11 (.call 100 [(t 10)]),o 12 (.callv (t 9) [(t 11)]),o 13 (.un .not (t 12))]),
 (i 13 .ret .skip)])),
 (.reg [o 5 (l 1),o 6 (l 1),o 7 (bc .sub 6 (u 1)),o 8 (b .and 5 7),w (.store 1 (t 1) (t 8))])])))⟩
def znK:CFn:=⟨29,[.tmp 4],(q [(.reg [o 4 (.mv (c (n 0)))]),
 (q [(.reg [o 7 (m 0),o 8 (bc .lss 7 (n 0)),o 9 (m 8),g 10 9 false (m 0),g 11 9 false (bc .gtr 10 (n 64)),o 12 (pt 9 11)]),
 (i 12 (q [(.reg [o 4 (.mv (c (n 2)))]),
 .ret]) .skip)]),
 (q [(.reg [o 13 (m 1),o 14 (ln 13),o 15 (m 0),o 16 (b .neq 14 15)]),
 (i 16 (q [(.reg [o 4 (.mv (c (n 3)))]),
 .ret]) .skip)]),
 (q [(.reg [o 17 (m 1),o 18 (ln 17),o 19 (.mv (c (n 0)))]),
 (.block 0 (.loop (q [(.reg [o 20 (b .lss 19 18)]),
 (i 20 .skip (.exit 0)),
 (.block 1 (q [(.reg [o 21 (ia 1 17 19),o 22 (l 21),o 6 (m 22)]),
 (.reg [o 23 (m 6),o 24 (m 0),o 25 (.call 132 [(t 24)]),o 26 (b .andNot 23 25),o 27 (bc .neq 26 (u 0))]),
 (i 27 (q [(.reg [o 4 (.mv (c (n 1)))]),
 .ret]) .skip)])),
 (.reg [o 28 (bc .add 19 (n 1)),o 19 (m 28)])])))]),
 (.reg [o 4 (.mv (c (n 0)))]),
 .ret])⟩
def zfr:CFn:=⟨9,[.tmp 4],(q [(.reg [o 4 (.mv (c .bf))]),
 (.reg [o 5 (m 0),o 6 (m 1),o 7 (.call 133 [(t 5),(t 6)]),o 8 (bc .geq 7 (n 0)),o 4 (m 8)]),
 .ret])⟩
def zpL:CFn:=⟨8,[.tmp 3],(q [(.reg [o 3 (.mv (c .bf))]),
 (.reg [o 4 (l 1),o 5 (m 0),o 6 (.call 104 [(t 4),(t 5)]),o 7 (.un .not (t 6)),o 3 (m 7)]),
 .ret])⟩
def zpN:CFn:=⟨86,[.cell 4 none],(q [(.reg [o 2 (.box 1 (t 0)),o 4 (.alloc [.bf])]),
 (q [(.reg [o 9 (l 2),o 10 (ln 9),o 11 (l 2),o 12 (.call 101 [(t 10),(t 11)]),o 13 (bc .neq 12 (n 0))]),
 (i 13 (q [(.reg [w (.store 1 (t 4) (c .bf))]),
 .ret]) .skip)]),
 (q [(.reg [o 14 (m 1)]),
 (.block 0 (q [(.reg [o 16 (bc .eql 14 (n 1)),o 15 (m 16)]),
 (i 15 (q [(.reg [o 17 (l 2),o 18 (.call 134 [(t 17),(c (u 0))]),o 19 (.un .not (t 18)),w (.store 1 (t 4) (t 19))]),
 .ret]) (q [(.reg [o 21 (bc .eql 14 (n 2)),o 20 (m 21)]),
 (i 20 (q [(q [(.reg [o 22 (l 2),o 23 (ln 22),o 24 (.mv (c (n 0)))]),
 (.block 1 (.loop (q [(.reg [o 25 (b .lss 24 23)]),
 (i 25 .skip (.exit 1)),
 (.block 2 (q [(.reg [o 26 (m 24),o 5 (m 26)]),
 (.reg [o 27 (l 2),o 28 (m 5),o 29 (ia 1 27 28),o 30 (l 29),o 31 (m 5),o 32 (b .shr 30 31),o 33 (bc .and 32 (u 1)),o 34 (bc .eql 33 (u 0))]),
 (i 34 (q [(.reg [w (.store 1 (t 4) (c .bf))]),
 .ret]) .skip)])),
 (.reg [o 35 (bc .add 24 (n 1)),o 24 (m 35)])])))]),
 (.reg [w (.store 1 (t 4) (c .bt))]),
 .ret]) (q [(.reg [o 37 (bc .eql 14 (n 3)),o 36 (m 37)]),
 (i 36 (q [(.regd [o 38 (l 2),o 39 (l 2),o 40 (.call 135 [(t 39)]),o 41 (.call 113 [(t 38),(t 40)]),w (.store 1 (t 4) (t 41))] [0,0,2,7,15]),
 .ret]) (q [(.reg [o 43 (bc .eql 14 (n 4)),o 42 (m 43)]),
 (i 42 (q [(q [(.reg [o 44 (l 2),o 45 (ln 44),o 46 (.mv (c (n 0)))]),
 (.block 3 (.loop (q [(.reg [o 47 (b .lss 46 45)]),
 (i 47 .skip (.exit 3)),
 (.block 4 (q [(.reg [o 48 (m 46),o 6 (m 48)]),
 (.regd [o 49 (l 2),o 50 (l 2),o 51 (m 6),o 52 (ia 1 50 51),o 53 (l 52),o 54 (.call 136 [(t 49),(t 53)]),o 55 (l 2),o 56 (m 6),o 57 (ia 1 55 56),o 58 (l 57),o 59 (b .andNot 54 58),o 60 (bc .neq 59 (u 0))] [0,0,0,6,14,31,0,0,192,448,1023,2047]),
 (i 60 (q [(.reg [w (.store 1 (t 4) (c .bf))]),
 .ret]) .skip)])),
 (.reg [o 61 (bc .add 46 (n 1)),o 46 (m 61)])])))]),
 (.reg [w (.store 1 (t 4) (c .bt))]),
 .ret]) (q [(.reg [o 63 (bc .eql 14 (n 5)),o 62 (m 63)]),
 (i 62 (q [(q [(.reg [o 64 (l 2),o 65 (ln 64),o 66 (.mv (c (n 0)))]),
 (.block 5 (.loop (q [(.reg [o 67 (b .lss 66 65)]),
 (i 67 .skip (.exit 5)),
 (.block 6 (q [(.reg [o 68 (m 66),o 7 (.alloc [(n 0)]),w (.store 1 (t 7) (t 68))]),
 (.reg [o 69 (l 2),o 70 (l 7),o 71 (ia 1 69 70),o 72 (l 71),o 73 (.call 137 [(t 72)])]),
 (.block 7 (.rng (t 73) [74] (.reg [o 8 (m 74)]) (.block 8 (q [(.regd [o 75 (l 2),o 76 (l 7),o 77 (ia 1 75 76),o 78 (l 77),o 79 (l 2),o 80 (m 8),o 81 (ia 1 79 80),o 82 (l 81),o 83 (b .andNot 78 82),o 84 (bc .neq 83 (u 0))] [0,0,3,7,0,0,48,112,255,511]),
 (i 84 (q [(.reg [w (.store 1 (t 4) (c .bf))]),
 .ret]) .skip)]))))])),
 (.reg [o 85 (bc .add 66 (n 1)),o 66 (m 85)])])))]),
 (.reg [w (.store 1 (t 4) (c .bt))]),
 .ret]) .skip)]))]))]))]))]))]),
 (.reg [w (.store 1 (t 4) (c .bf))]),
 .ret])⟩
def zmH:CFn:=⟨33,[.tmp 4,.tmp 5],(q [(.reg [o 2 (.box 3 (t 0)),o 4 (.mv (c (.nils 1))),o 5 (.mv (c (n 0)))]),
 (.reg [o 6 (.mv (c (.nils 1)))]),
 (q [(.reg [o 9 (f 0 2),o 10 (l 9),o 11 (.mv (c (n 0)))]),
 (.block 0 (.loop (q [(.reg [o 12 (b .lss 11 10)]),
 (i 12 .skip (.exit 0)),
 (.block 1 (q [(.reg [o 13 (m 11),o 7 (m 13)]),
 (.reg [o 8 (.mv (c (n 1)))]),
 (q [(.reg [o 14 (m 7),o 15 (m 1),o 16 (b .eql 14 15)]),
 (i 16 (.reg [o 8 (.mv (c (n 0)))]) .skip)]),
 (.reg [o 17 (m 6),o 18 (m 8),o 19 (.bslice 1 1 [(n 0)] [(0,(t 18))]),o 20 (la 3 2),o 21 (m 7),o 22 (.call 54 [(t 20),(t 21)]),o 23 (.bslice 1 1 [(n 0)] [(0,(t 22))]),o 24 (.bslice 1 2 [(.nils 1)] [(0,(t 19)),(1,(t 23))]),o 25 (.bslice 1 1 [(.nils 1)] [(0,(t 24))]),o 26 (.app 1 24 (t 17) (t 25)),o 6 (m 26)])])),
 (.reg [o 27 (bc .add 11 (n 1)),o 11 (m 27)])])))]),
 (.reg [o 28 (m 6),o 29 (.fnew zcd [(t 2)]),o 30 (.call 124 [(t 28),(t 29)]),o 31 (e 30 0),o 32 (e 30 1),o 4 (m 31),o 5 (m 32)]),
 .ret])⟩
def zoG:CFn:=⟨16,[.tmp 2],(q [(.reg [o 2 (.mv (c (.nils 1)))]),
 (.reg [o 3 (.mv (c (.nils 1)))]),
 (.block 0 (.loop (q [(q [(.reg [o 4 (m 0),o 5 (bc .neq 4 (u 0))]),
 (i 5 .skip (.exit 0))]),
 (.block 1 (.reg [o 10 (m 3),o 11 (m 0),o 12 (.call 100 [(t 11)]),o 13 (.bslice 1 1 [(n 0)] [(0,(t 12))]),o 14 (.app 1 8 (t 10) (t 13)),o 3 (m 14)])),
 (.reg [o 6 (m 0),o 7 (m 0),o 8 (bc .sub 7 (u 1)),o 9 (b .and 6 8),o 0 (m 9)])]))),
 (.reg [o 15 (m 3),o 2 (m 15)]),
 .ret])⟩
def zfz:CFn:=⟨26,[.tmp 4],(q [(.reg [o 4 (.mv (c .bf))]),
 (q [(.reg [o 6 (m 0),o 7 (ln 6),o 8 (m 1),o 9 (ln 8),o 10 (b .neq 7 9)]),
 (i 10 (q [(.reg [o 4 (.mv (c .bf))]),
 .ret]) .skip)]),
 (q [(.reg [o 11 (m 0),o 12 (ln 11),o 13 (.mv (c (n 0)))]),
 (.block 0 (.loop (q [(.reg [o 14 (b .lss 13 12)]),
 (i 14 .skip (.exit 0)),
 (.block 1 (q [(.reg [o 15 (m 13),o 5 (m 15)]),
 (.regd [o 16 (m 0),o 17 (m 5),o 18 (ia 1 16 17),o 19 (l 18),o 20 (m 1),o 21 (m 5),o 22 (ia 1 20 21),o 23 (l 22),o 24 (b .neq 19 23)] [0,0,3,7,0,0,48,112,255]),
 (i 24 (q [(.reg [o 4 (.mv (c .bf))]),
 .ret]) .skip)])),
 (.reg [o 25 (bc .add 13 (n 1)),o 13 (m 25)])])))]),
 (.reg [o 4 (.mv (c .bt))]),
 .ret])⟩
def zeJ:CFn:=⟨19,[.tmp 4],(q [(.reg [o 4 (.mv (c (n 0)))]),
 (q [(.reg [o 6 (m 0),o 7 (ln 6),o 8 (.mv (c (n 0)))]),
 (.block 0 (.loop (q [(.reg [o 9 (b .lss 8 7)]),
 (i 9 .skip (.exit 0)),
 (.block 1 (q [(.reg [o 10 (m 8),o 5 (m 10)]),
 (.reg [o 11 (m 1),o 12 (m 0),o 13 (m 5),o 14 (ia 1 12 13),o 15 (l 14),o 16 (.callv (t 11) [(t 15)])]),
 (i 16 (q [(.reg [o 17 (m 5),o 4 (m 17)]),
 .ret]) .skip)])),
 (.reg [o 18 (bc .add 8 (n 1)),o 8 (m 18)])])))]),
 (.reg [o 4 (.mv (c (n (-1))))]),
 .ret])⟩
def zpJ:CFn:=⟨6,[.tmp 4],(q [(.reg [o 2 (.box 3 (t 0)),o 3 (.box 1 (t 1)),o 4 (.mv (c (.d .nil)))]),
 (.reg [o 5 (.fnew zdu [(t 2),(t 3)]),o 4 (m 5)]),
 .ret])⟩
def zhG:CFn:=⟨26,[.tmp 4],(q [(.reg [o 4 (.mv (c .bf))]),
 (q [(.reg [o 6 (m 0),o 7 (ln 6),o 8 (m 1),o 9 (ln 8),o 10 (b .neq 7 9)]),
 (i 10 (q [(.reg [o 4 (.mv (c .bf))]),
 .ret]) .skip)]),
 (q [(.reg [o 11 (m 0),o 12 (ln 11),o 13 (.mv (c (n 0)))]),
 (.block 0 (.loop (q [(.reg [o 14 (b .lss 13 12)]),
 (i 14 .skip (.exit 0)),
 (.block 1 (q [(.reg [o 15 (m 13),o 5 (m 15)]),
 (.regd [o 16 (m 0),o 17 (m 5),o 18 (ia 1 16 17),o 19 (l 18),o 20 (m 1),o 21 (m 5),o 22 (ia 1 20 21),o 23 (l 22),o 24 (b .neq 19 23)] [0,0,3,7,0,0,48,112,255]),
 (i 24 (q [(.reg [o 4 (.mv (c .bf))]),
 .ret]) .skip)])),
 (.reg [o 25 (bc .add 13 (n 1)),o 13 (m 25)])])))]),
 (.reg [o 4 (.mv (c .bt))]),
 .ret])⟩
def zmI:CFn:=⟨45,[.tmp 4,.tmp 5],(q [(.reg [o 4 (.mv (c (.nils 1))),o 5 (.mv (c (n 0)))]),
 (.reg [o 13 (m 0),o 14 (.call 157 [(t 13)]),o 12 (m 14),o 15 (e 12 0),o 16 (e 12 1),o 6 (m 15),o 7 (m 16)]),
 (.block 0 (.loop (.block 1 (q [(.reg [o 17 (m 6),o 18 (ln 17),o 19 (.mkslice 1 24 [(.nils 1)] (t 18) (t 18)),o 8 (m 19)]),
 (q [(.reg [o 20 (m 8),o 21 (ln 20),o 22 (.mv (c (n 0)))]),
 (.block 2 (.loop (q [(.reg [o 23 (b .lss 22 21)]),
 (i 23 .skip (.exit 2)),
 (.block 3 (q [(.reg [o 24 (m 22),o 9 (m 24)]),
 (.reg [o 25 (m 8),o 26 (m 9),o 27 (m 1),o 28 (m 6),o 29 (m 9),o 30 (.callv (t 27) [(t 28),(t 29)]),o 31 (ia 1 25 26),w (.store 1 (t 31) (t 30))])])),
 (.reg [o 32 (bc .add 22 (n 1)),o 22 (m 32)])])))]),
 (.reg [o 34 (m 8),o 35 (.call 157 [(t 34)]),o 33 (m 35),o 36 (e 33 0),o 37 (e 33 1),o 10 (m 36),o 11 (m 37)]),
 (q [(.reg [o 38 (m 11),o 39 (m 7),o 40 (b .eql 38 39)]),
 (i 40 (q [(.reg [o 41 (m 6),o 42 (m 7),o 4 (m 41),o 5 (m 42)]),
 .ret]) .skip)]),
 (.reg [o 43 (m 10),o 44 (m 11),o 6 (m 43),o 7 (m 44)])]))))])⟩
def zmJ:CFn:=⟨26,[.tmp 4],(q [(.reg [o 4 (.mv (c (.nils 1)))]),
 (.reg [o 5 (.mv (c (.nils 1)))]),
 (q [(.reg [o 8 (m 1),o 9 (.call 156 [(t 8)]),o 10 (ln 9),o 11 (.mv (c (n 0)))]),
 (.block 0 (.loop (q [(.reg [o 12 (b .lss 11 10)]),
 (i 12 .skip (.exit 0)),
 (.block 1 (q [(.reg [o 13 (ia 1 9 11),o 14 (l 13),o 7 (m 14)]),
 (.reg [o 15 (m 5),o 16 (m 0),o 17 (m 7),o 18 (ia 1 16 17),o 19 (l 18),o 20 (.bslice 1 1 [(n 0)] [(0,(t 19))]),o 21 (.app 1 8 (t 15) (t 20)),o 5 (m 21)])])),
 (.reg [o 22 (bc .add 11 (n 1)),o 11 (m 22)])])))]),
 (.reg [o 23 (m 5),o 24 (.call 92 [(t 23)])]),
 (.reg [o 25 (m 5),o 4 (m 25)]),
 .ret])⟩
def zf7:CFn:=⟨134,[],(q [(.reg [o 8 (.mv (c .bt))]),
 (.reg [o 9 (.mv (c .bt))]),
 (.block 0 (.loop (.block 1 (q [(.reg [o 19 (m 2),o 20 (m 1),o 21 (b .sub 19 20),o 10 (m 21)]),
 (q [(.reg [o 22 (m 10),o 23 (bc .leq 22 (n 12))]),
 (i 23 (q [(.reg [o 24 (m 0),o 25 (m 1),o 26 (m 2),o 27 (.call 158 [(t 24),(t 25),(t 26)])]),
 .ret]) .skip)]),
 (q [(.reg [o 28 (m 3),o 29 (bc .eql 28 (n 0))]),
 (i 29 (q [(.reg [o 30 (m 0),o 31 (m 1),o 32 (m 2),o 33 (.call 159 [(t 30),(t 31),(t 32)])]),
 .ret]) .skip)]),
 (q [(.reg [o 34 (m 8),o 35 (.un .not (t 34))]),
 (i 35 (q [(.reg [o 36 (m 0),o 37 (m 1),o 38 (m 2),o 39 (.call 160 [(t 36),(t 37),(t 38)])]),
 (.reg [o 40 (m 3),o 41 (bc .sub 40 (n 1)),o 3 (m 41)])]) .skip)]),
 (.reg [o 43 (m 0),o 44 (m 1),o 45 (m 2),o 46 (.call 161 [(t 43),(t 44),(t 45)]),o 42 (m 46),o 47 (e 42 0),o 48 (e 42 1),o 11 (m 47),o 12 (m 48)]),
 (q [(.reg [o 49 (m 12),o 50 (bc .eql 49 (n 2))]),
 (i 50 (q [(.reg [o 51 (m 0),o 52 (m 1),o 53 (m 2),o 54 (.call 162 [(t 51),(t 52),(t 53)])]),
 (.reg [o 55 (m 2),o 56 (bc .sub 55 (n 1)),o 57 (m 11),o 58 (m 1),o 59 (b .sub 57 58),o 60 (b .sub 56 59),o 11 (m 60)]),
 (.reg [o 12 (.mv (c (n 1)))])]) .skip)]),
 (q [(.reg [o 61 (m 8),o 62 (m 61),g 63 62 true (m 9),o 64 (pf 62 63),o 65 (m 64),g 66 65 true (m 12),g 67 65 true (bc .eql 66 (n 1)),o 68 (pf 65 67)]),
 (i 68 (q [(.reg [o 69 (m 0),o 70 (m 1),o 71 (m 2),o 72 (.call 163 [(t 69),(t 70),(t 71)])]),
 (i 72 .ret .skip)]) .skip)]),
 (q [(.regd [o 73 (m 1),o 74 (bc .gtr 73 (n 0)),o 75 (m 74),g 76 75 true (m 0),g 77 75 true (m 1),g 78 75 true (bc .sub 77 (n 1)),g 79 75 true (ia 1 76 78),g 80 75 true (l 79),g 81 75 true (m 0),g 82 75 true (m 11),g 83 75 true (ia 1 81 82),g 84 75 true (l 83),g 85 75 true (.call 164 [(t 80),(t 84)]),g 86 75 true (.un .not (t 85)),o 87 (pf 75 86)] [0,1,3,7,7,23,63,127,7,7,775,1799,4095,8191,16383]),
 (i 87 (q [(.reg [o 88 (m 0),o 89 (m 1),o 90 (m 2),o 91 (m 11),o 92 (.call 165 [(t 88),(t 89),(t 90),(t 91)]),o 13 (m 92)]),
 (.reg [o 93 (m 13),o 1 (m 93)]),
 (.exit 1)]) .skip)]),
 (.reg [o 95 (m 0),o 96 (m 1),o 97 (m 2),o 98 (m 11),o 99 (.call 166 [(t 95),(t 96),(t 97),(t 98)]),o 94 (m 99),o 100 (e 94 0),o 101 (e 94 1),o 14 (m 100),o 15 (m 101)]),
 (.reg [o 102 (m 15),o 9 (m 102)]),
 (.reg [o 103 (m 14),o 104 (m 1),o 105 (b .sub 103 104),o 106 (m 2),o 107 (m 14),o 108 (b .sub 106 107),o 16 (m 105),o 17 (m 108)]),
 (.reg [o 109 (m 10),o 110 (bc .quo 109 (n 8)),o 18 (m 110)]),
 (.reg [o 111 (m 16),o 112 (m 17),o 113 (b .lss 111 112)]),
 (i 113 (q [(.reg [o 114 (m 16),o 115 (m 18),o 116 (b .geq 114 115),o 8 (m 116)]),
 (.reg [o 117 (m 0),o 118 (m 1),o 119 (m 14),o 120 (m 3),o 121 (.call 127 [(t 117),(t 118),(t 119),(t 120)])]),
 (.reg [o 122 (m 14),o 123 (bc .add 122 (n 1)),o 1 (m 123)])]) (q [(.reg [o 124 (m 17),o 125 (m 18),o 126 (b .geq 124 125),o 8 (m 126)]),
 (.reg [o 127 (m 0),o 128 (m 14),o 129 (bc .add 128 (n 1)),o 130 (m 2),o 131 (m 3),o 132 (.call 127 [(t 127),(t 129),(t 130),(t 131)])]),
 (.reg [o 133 (m 14),o 2 (m 133)])]))]))))])⟩
def zoD:CFn:=⟨8,[.tmp 2],(q [(.reg [o 2 (.mv (c (n 0)))]),
 (.cond (c .bf) (q [(.reg [o 3 (m 0),o 4 (.conv .u32 (t 3)),o 5 (.call 167 [(t 4)]),o 2 (m 5)]),
 .ret]) .skip),
 (.reg [o 6 (m 0),o 7 (.call 65 [(t 6)]),o 2 (m 7)]),
 .ret])⟩
def zpO:CFn:=⟨8,[.tmp 2],(q [(.reg [o 2 (.mv (c (u 0)))]),
 (q [(.reg [o 3 (m 0),o 4 (bc .geq 3 (n 64))]),
 (i 4 (q [(.reg [o 2 (.mv (c (u 18446744073709551615)))]),
 .ret]) .skip)]),
 (.reg [o 5 (m 0),o 6 (.bin .shl (c (u 1)) (t 5)),o 7 (bc .sub 6 (u 1)),o 2 (m 7)]),
 .ret])⟩
def zf6:CFn:=⟨19,[.tmp 4],(q [(.reg [o 4 (.mv (c (n 0)))]),
 (q [(.reg [o 6 (m 0),o 7 (ln 6),o 8 (.mv (c (n 0)))]),
 (.block 0 (.loop (q [(.reg [o 9 (b .lss 8 7)]),
 (i 9 .skip (.exit 0)),
 (.block 1 (q [(.reg [o 10 (m 8),o 5 (m 10)]),
 (.reg [o 11 (m 1),o 12 (m 0),o 13 (m 5),o 14 (ia 1 12 13),o 15 (l 14),o 16 (.callv (t 11) [(t 15)])]),
 (i 16 (q [(.reg [o 17 (m 5),o 4 (m 17)]),
 .ret]) .skip)])),
 (.reg [o 18 (bc .add 8 (n 1)),o 8 (m 18)])])))]),
 (.reg [o 4 (.mv (c (n (-1))))]),
 .ret])⟩
def zeR:CFn:=⟨9,[.tmp 4],(q [(.reg [o 4 (.mv (c .bf))]),
 (.reg [o 5 (m 0),o 6 (m 1),o 7 (.call 170 [(t 5),(t 6)]),o 8 (bc .geq 7 (n 0)),o 4 (m 8)]),
 .ret])⟩
def zkP:CFn:=⟨30,[.tmp 2],(q [(.reg [o 2 (.mv (c (.nils 1)))]),
 (.reg [o 7 (m 0),o 8 (ln 7),o 9 (.mkslice 1 8 [(u 0)] (t 8) (t 8)),o 3 (.alloc [(.nils 1)]),w (.store 1 (t 3) (t 9))]),
 (q [(.reg [o 10 (m 0),o 11 (ln 10),o 12 (.mv (c (n 0)))]),
 (.block 0 (.loop (q [(.reg [o 13 (b .lss 12 11)]),
 (i 13 .skip (.exit 0)),
 (.block 1 (q [(.reg [o 14 (m 12),o 15 (ia 1 10 12),o 16 (l 15),o 4 (.alloc [(n 0)]),w (.store 1 (t 4) (t 14)),o 5 (m 16)]),
 (.reg [o 17 (m 5),o 18 (.call 137 [(t 17)])]),
 (.block 2 (.rng (t 18) [19] (.reg [o 6 (m 19)]) (.block 3 (.regd [o 20 (l 3),o 21 (m 6),o 22 (ia 1 20 21),o 23 (l 22),o 24 (l 4),o 25 (.bin .shl (c (u 1)) (t 24)),o 26 (b .or 23 25),o 27 (ia 1 20 21),w (.store 1 (t 27) (t 26))] [0,0,3,7,0,16,63,127,255]))))])),
 (.reg [o 28 (bc .add 12 (n 1)),o 12 (m 28)])])))]),
 (.reg [o 29 (l 3),o 2 (m 29)]),
 .ret])⟩
def zmQ:CFn:=⟨17,[.tmp 4],(q [(.reg [o 2 (.box 1 (t 0)),o 4 (.mv (c (u 0)))]),
 (.reg [o 5 (.alloc [(u 0)]),w (.store 1 (t 5) (c (u 0)))]),
 (q [(.reg [o 7 (m 1),o 8 (.call 137 [(t 7)])]),
 (.block 0 (.rng (t 8) [9] (.reg [o 6 (m 9)]) (.block 1 (.regd [o 10 (l 5),o 11 (l 2),o 12 (m 6),o 13 (ia 1 11 12),o 14 (l 13),o 15 (b .or 10 14),w (.store 1 (t 5) (t 15))] [0,0,0,6,14,31,63]))))]),
 (.reg [o 16 (l 5),o 4 (m 16)]),
 .ret])⟩
def zmR:CFn:=⟨4,[.tmp 2],(q [(.reg [o 1 (.box 1 (t 0)),o 2 (.mv (c (.d .nil)))]),
 (.reg [o 3 (.fnew zce [(t 1)]),o 2 (m 3)]),
 .ret])⟩
def zkM:CFn:=⟨34,[.tmp 5],(q [(.reg [o 5 (.mv (c (.nils 1)))]),
 (.reg [o 9 (m 0),o 10 (m 1),o 11 (ia 1 9 10),o 12 (l 11),o 13 (.bslice 1 1 [(n 0)] [(0,(t 12))]),o 14 (.bslice 1 1 [(.nils 1)] [(0,(t 13))]),o 6 (m 14)]),
 (q [(.reg [o 15 (f 2 2),o 16 (l 15),o 17 (ln 16),o 18 (.mv (c (n 0)))]),
 (.block 0 (.loop (q [(.reg [o 19 (b .lss 18 17)]),
 (i 19 .skip (.exit 0)),
 (.block 1 (q [(.reg [o 20 (ia 1 16 18),o 21 (l 20),o 8 (m 21)]),
 (.reg [o 22 (m 6),o 23 (m 0),o 24 (m 8),o 25 (m 1),o 26 (ia 1 24 25),o 27 (l 26),o 28 (.call 126 [(t 23),(t 27)]),o 29 (.call 93 [(t 28)]),o 30 (.bslice 1 1 [(.nils 1)] [(0,(t 29))]),o 31 (.app 1 24 (t 22) (t 30)),o 6 (m 31)])])),
 (.reg [o 32 (bc .add 18 (n 1)),o 18 (m 32)])])))]),
 (.reg [o 33 (m 6),o 5 (m 33)]),
 .ret])⟩
def znF:CFn:=⟨93,[],(q [(.reg [o 15 (f 0 1),o 16 (l 15),o 17 (.mkslice 1 8 [(n 0)] (t 16) (t 16)),o 4 (m 17)]),
 (.reg [o 18 (f 0 1),o 19 (l 18),o 20 (.mkslice 1 8 [(n 0)] (t 19) (t 19)),o 5 (m 20)]),
 (q [(.reg [o 21 (m 5),o 22 (ln 21),o 23 (.mv (c (n 0)))]),
 (.block 0 (.loop (q [(.reg [o 24 (b .lss 23 22)]),
 (i 24 .skip (.exit 0)),
 (.block 1 (q [(.reg [o 25 (m 23),o 6 (m 25)]),
 (.reg [o 26 (m 5),o 27 (m 6),o 28 (la 3 1),o 29 (m 6),o 30 (.call 54 [(t 28),(t 29)]),o 31 (ia 1 26 27),w (.store 1 (t 31) (t 30))])])),
 (.reg [o 32 (bc .add 23 (n 1)),o 23 (m 32)])])))]),
 (.reg [o 34 (m 4),o 35 (m 5),o 36 (.call 153 [(t 34),(t 35)]),o 33 (m 36),o 37 (e 33 0),o 38 (e 33 1),o 4 (m 37)]),
 (.block 2 (.loop (q [(q [(.reg [o 39 (m 0),o 40 (m 4),o 41 (.callv (t 39) [(t 40)])]),
 (i 41 .skip (.exit 2))]),
 (.block 3 (q [(.reg [o 42 .mkmap,o 7 (m 42)]),
 (.reg [o 43 (f 0 1),o 44 (l 43),o 45 (.mkslice 1 8 [(n 0)] (t 44) (t 44)),o 8 (m 45)]),
 (q [(.reg [o 46 (m 8),o 47 (ln 46),o 48 (.mv (c (n 0)))]),
 (.block 4 (.loop (q [(.reg [o 49 (b .lss 48 47)]),
 (i 49 .skip (.exit 4)),
 (.block 5 (q [(.reg [o 50 (m 48),o 9 (m 50)]),
 (.reg [o 10 (.mv (c (.d (.str []))))]),
 (q [(.reg [o 51 (l 2),o 52 (ln 51),o 53 (.mv (c (n 0)))]),
 (.block 6 (.loop (q [(.reg [o 54 (b .lss 53 52)]),
 (i 54 .skip (.exit 6)),
 (.block 7 (q [(.reg [o 55 (ia 1 51 53),o 56 (l 55),o 12 (m 56)]),
 (.reg [o 57 (m 10),o 58 (m 4),o 59 (m 12),o 60 (m 9),o 61 (ia 1 59 60),o 62 (l 61),o 63 (.call 155 [(t 58),(t 62)]),o 64 (.call 154 [(t 63),(c (n 16))]),o 65 (bc .add 64 (.d (.str [32]))),o 66 (b .add 57 65),o 10 (m 66)])])),
 (.reg [o 67 (bc .add 53 (n 1)),o 53 (m 67)])])))]),
 (q [(.reg [o 69 (m 7),o 70 (m 10),o 71 (.look .str [(n 0)] (t 69) (t 70) true),o 68 (m 71),o 72 (e 68 0),o 73 (e 68 1),o 13 (m 72),o 14 (m 73)]),
 (.reg [o 74 (m 14),o 75 (.un .not (t 74))]),
 (i 75 (.reg [o 76 (m 7),o 77 (m 10),o 78 (m 7),o 79 (.lenm (t 78)),w (.mupd .str (t 76) (t 77) (t 79))]) .skip)]),
 (.reg [o 80 (m 8),o 81 (m 9),o 82 (m 7),o 83 (m 10),o 84 (.look .str [(n 0)] (t 82) (t 83) false),o 85 (ia 1 80 81),w (.store 1 (t 85) (t 84))])])),
 (.reg [o 86 (bc .add 48 (n 1)),o 48 (m 86)])])))]),
 (.reg [o 88 (m 4),o 89 (m 8),o 90 (.call 153 [(t 88),(t 89)]),o 87 (m 90),o 91 (e 87 0),o 92 (e 87 1),o 4 (m 91)])]))])))])⟩
def zmN:CFn:=⟨20,[.tmp 4,.tmp 5],(q [(.reg [o 4 (.mv (c (.nils 1))),o 5 (.mv (c (n 0)))]),
 (q [(.reg [o 7 (m 0),o 8 (.call 53 [(t 7)]),o 6 (m 8)]),
 (.reg [o 9 (m 6),o 10 (bc .neq 9 (n 0))]),
 (i 10 (q [(.reg [o 11 (m 6),o 4 (.mv (c (.nils 1))),o 5 (m 11)]),
 .ret]) .skip)]),
 (q [(.reg [o 12 (m 0),o 13 (ln 12),o 14 (m 1),o 15 (ln 14),o 16 (b .neq 13 15)]),
 (i 16 (q [(.reg [o 4 (.mv (c (.nils 1))),o 5 (.mv (c (n 3)))]),
 .ret]) .skip)]),
 (.reg [o 17 (m 0),o 18 (m 1),o 19 (.call 183 [(t 17),(t 18)]),o 4 (m 19),o 5 (.mv (c (n 0)))]),
 .ret])⟩
def zjT:CFn:=⟨8,[.tmp 4],(q [(.reg [o 4 (.mv (c (.d (.str []))))]),
 (.reg [o 5 (m 0),o 6 (m 1),o 7 (.call 184 [(t 5),(t 6)]),o 4 (m 7)]),
 .ret])⟩
def zoB:CFn:=⟨18,[.tmp 4],(q [(.reg [o 2 (.box 1 (t 0)),o 4 (.mv (c (u 0)))]),
 (.reg [o 5 (.alloc [(u 0)])]),
 (q [(.reg [o 7 (m 1),o 8 (.call 66 [(t 7)])]),
 (.block 0 (.rng (t 8) [9] (.reg [o 6 (m 9)]) (.block 1 (.regd [o 10 (l 5),o 11 (l 2),o 12 (m 6),o 13 (ia 1 11 12),o 14 (l 13),o 15 (.bin .shl (c (u 1)) (t 14)),o 16 (b .or 10 15),w (.store 1 (t 5) (t 16))] [0,0,0,6,14,30,63,127]))))]),
 (.reg [o 17 (l 5),o 4 (m 17)]),
 .ret])⟩
def zk6:CFn:=⟨16,[.tmp 2],(q [(.reg [o 2 (.mv (c (.nils 1)))]),
 (.reg [o 3 (.mv (c (.nils 1)))]),
 (.block 0 (.loop (q [(q [(.reg [o 4 (m 0),o 5 (bc .neq 4 (u 0))]),
 (i 5 .skip (.exit 0))]),
 (.block 1 (.reg [o 10 (m 3),o 11 (m 0),o 12 (.call 100 [(t 11)]),o 13 (.bslice 1 1 [(n 0)] [(0,(t 12))]),o 14 (.app 1 8 (t 10) (t 13)),o 3 (m 14)])),
 (.reg [o 6 (m 0),o 7 (m 0),o 8 (bc .sub 7 (u 1)),o 9 (b .and 6 8),o 0 (m 9)])]))),
 (.reg [o 15 (m 3),o 2 (m 15)]),
 .ret])⟩
def znI:CFn:=⟨37,[.tmp 2,.tmp 3],(q [(.reg [o 2 (.mv (c (.nils 1))),o 3 (.mv (c (n 0)))]),
 (.reg [o 8 (m 0),o 9 (.call 185 [(t 8)]),o 4 (m 9)]),
 (.reg [o 10 (m 4),o 11 (.call 186 [(t 10),(c (.fn zN []))])]),
 (.reg [o 12 (m 4),o 13 (.call 188 [(t 12),(c (.fn zcA []))]),o 4 (m 13)]),
 (.reg [o 14 (m 0),o 15 (ln 14),o 16 (.mkslice 1 8 [(n 0)] (t 15) (t 15)),o 5 (m 16)]),
 (q [(.reg [o 17 (m 0),o 18 (ln 17),o 19 (.mv (c (n 0)))]),
 (.block 0 (.loop (q [(.reg [o 20 (b .lss 19 18)]),
 (i 20 .skip (.exit 0)),
 (.block 1 (q [(.reg [o 21 (m 19),o 22 (ia 1 17 19),o 23 (l 22),o 6 (m 21),o 7 (m 23)]),
 (.reg [o 25 (m 5),o 26 (m 6),o 27 (m 4),o 28 (m 7),o 29 (.call 190 [(t 27),(t 28),(c (.fn zN []))]),o 24 (m 29),o 30 (e 24 0),o 31 (e 24 1),o 32 (ia 1 25 26),w (.store 1 (t 32) (t 30))])])),
 (.reg [o 33 (bc .add 19 (n 1)),o 19 (m 33)])])))]),
 (.reg [o 34 (m 5),o 35 (m 4),o 36 (ln 35),o 2 (m 34),o 3 (m 36)]),
 .ret])⟩
def zeK:CFn:=⟨49,[],(q [(.reg [o 8 (m 1),o 9 (bc .add 8 (n 1)),o 6 (m 9)]),
 (.block 0 (.loop (q [(q [(.reg [o 10 (m 6),o 11 (m 2),o 12 (b .lss 10 11)]),
 (i 12 .skip (.exit 0))]),
 (.block 1 (q [(.reg [o 15 (m 6),o 7 (m 15)]),
 (.block 2 (.loop (q [(q [(.regd [o 16 (m 7),o 17 (m 1),o 18 (b .gtr 16 17),o 19 (m 18),g 20 19 true (m 0),g 21 19 true (m 7),g 22 19 true (ia 1 20 21),g 23 19 true (l 22),g 24 19 true (m 0),g 25 19 true (m 7),g 26 19 true (bc .sub 25 (n 1)),g 27 19 true (ia 1 24 26),g 28 19 true (l 27),g 29 19 true (.call 164 [(t 23),(t 28)]),o 30 (pf 19 29)] [0,0,3,7,15,15,63,127,15,15,527,1807,3855,8191,16383]),
 (i 30 .skip (.exit 2))]),
 (.block 3 (.regd [o 33 (m 0),o 34 (m 7),o 35 (m 0),o 36 (m 7),o 37 (bc .sub 36 (n 1)),o 38 (m 0),o 39 (m 7),o 40 (bc .sub 39 (n 1)),o 41 (ia 1 38 40),o 42 (l 41),o 43 (m 0),o 44 (m 7),o 45 (ia 1 43 44),o 46 (l 45),o 47 (ia 1 33 34),w (.store 1 (t 47) (t 42)),o 48 (ia 1 35 37),w (.store 1 (t 48) (t 46))] [0,0,0,0,8,0,0,64,224,480,0,0,3072,7168,16355,32739,65535,131071])),
 (.reg [o 31 (m 7),o 32 (bc .sub 31 (n 1)),o 7 (m 32)])])))])),
 (.reg [o 13 (m 6),o 14 (bc .add 13 (n 1)),o 6 (m 14)])])))])⟩
def zoC:CFn:=⟨17,[.tmp 4],(q [(.reg [o 4 (.mv (c .bf))]),
 (.reg [o 5 (m 0),o 6 (.call 196 [(t 5)]),o 7 (m 6),g 8 7 true (m 1),g 9 7 true (.call 196 [(t 8)]),g 10 7 true (.un .not (t 9)),o 11 (pf 7 10),o 12 (m 11),g 13 12 false (m 0),g 14 12 false (m 1),g 15 12 false (b .lss 13 14),o 16 (pt 12 15),o 4 (m 16)]),
 .ret])⟩
def zfA:CFn:=⟨19,[.tmp 4],(q [(.reg [o 4 (.mv (c (n 0)))]),
 (q [(.reg [o 6 (m 0),o 7 (ln 6),o 8 (.mv (c (n 0)))]),
 (.block 0 (.loop (q [(.reg [o 9 (b .lss 8 7)]),
 (i 9 .skip (.exit 0)),
 (.block 1 (q [(.reg [o 10 (m 8),o 5 (m 10)]),
 (.reg [o 11 (m 1),o 12 (m 0),o 13 (m 5),o 14 (ia 1 12 13),o 15 (l 14),o 16 (b .eql 11 15)]),
 (i 16 (q [(.reg [o 17 (m 5),o 4 (m 17)]),
 .ret]) .skip)])),
 (.reg [o 18 (bc .add 8 (n 1)),o 8 (m 18)])])))]),
 (.reg [o 4 (.mv (c (n (-1))))]),
 .ret])⟩
def zkO:CFn:=⟨14,[],(.block 0 (.loop (q [(q [(.reg [o 3 (l 1),o 4 (bc .neq 3 (u 0))]),
 (i 4 .skip (.exit 0))]),
 (.block 1 (q [(.reg [o 9 (m 0),o 10 (l 1),o 11 (.call 100 [(t 10)]),o 12 (.callv (t 9) [(t 11)]),o 13 (.un .not (t 12))]),
 (i 13 .ret .skip)])),
 (.reg [o 5 (l 1),o 6 (l 1),o 7 (bc .sub 6 (u 1)),o 8 (b .and 5 7),w (.store 1 (t 1) (t 8))])])))⟩
def zk9:CFn:=⟨48,[.tmp 4],(q [(.reg [o 4 (.mv (c (.nils 1)))]),
 (.reg [o 11 .mkmap,o 5 (m 11)]),
 (.reg [o 12 (m 0),o 13 (ln 12),o 14 (.mkslice 1 8 [(n 0)] (t 13) (t 13)),o 6 (m 14)]),
 (q [(.reg [o 15 (m 0),o 16 (ln 15),o 17 (.mv (c (n 0)))]),
 (.block 0 (.loop (q [(.reg [o 18 (b .lss 17 16)]),
 (i 18 .skip (.exit 0)),
 (.block 1 (q [(.reg [o 19 (m 17),o 7 (m 19)]),
 (.regd [o 20 (m 0),o 21 (m 7),o 22 (ia 1 20 21),o 23 (l 22),o 24 (m 1),o 25 (m 7),o 26 (ia 1 24 25),o 27 (l 26),o 28 (.build [(n 0),(n 0)] [(0,1,(t 23)),(1,1,(t 27))]),o 8 (.alloc [(n 0),(n 0)]),w (.store 2 (t 8) (t 28))] [0,0,3,7,0,0,48,112,255,0,1023]),
 (q [(.reg [o 30 (m 5),o 31 (la 2 8),o 32 (.look (.agg [(.int .i64),(.int .i64)]) [(n 0)] (t 30) (t 31) true),o 29 (m 32),o 33 (e 29 0),o 34 (e 29 1),o 9 (m 33),o 10 (m 34)]),
 (.reg [o 35 (m 10),o 36 (.un .not (t 35))]),
 (i 36 (.reg [o 37 (m 5),o 38 (la 2 8),o 39 (m 7),w (.mupd (.agg [(.int .i64),(.int .i64)]) (t 37) (t 38) (t 39))]) .skip)]),
 (.reg [o 40 (m 6),o 41 (m 7),o 42 (m 5),o 43 (la 2 8),o 44 (.look (.agg [(.int .i64),(.int .i64)]) [(n 0)] (t 42) (t 43) false),o 45 (ia 1 40 41),w (.store 1 (t 45) (t 44))])])),
 (.reg [o 46 (bc .add 17 (n 1)),o 17 (m 46)])])))]),
 (.reg [o 47 (m 6),o 4 (m 47)]),
 .ret])⟩
def zck:CFn:=⟨8,[.tmp 2],(q [(.reg [o 2 (.mv (c (.nils 1)))]),
 (q [(.reg [o 3 (m 0),o 4 (.eqN false (t 3) (c (.nils 1)))]),
 (i 4 (q [(.reg [o 2 (.mv (c (.nils 1)))]),
 .ret]) .skip)]),
 (.reg [o 5 (.bslice 1 0 [(.nils 1)] []),o 6 (m 0),o 7 (.app 1 24 (t 5) (t 6)),o 2 (m 7)]),
 .ret])⟩
def zb0:CFn:=⟨14,[],(q [(.reg [o 5 (m 0),o 6 (ln 5),o 4 (m 6)]),
 (.reg [o 7 (m 0),o 8 (m 4),o 9 (m 4),o 10 (.conv .u64 (t 9)),o 11 (.call 128 [(t 10)]),o 12 (m 1),o 13 (.call 208 [(t 7),(c (n 0)),(t 8),(t 11),(t 12)])])])⟩
def znH:CFn:=⟨8,[.tmp 4],(q [(.reg [o 4 (.mv (c (n 0)))]),
 (.reg [o 5 (m 0),o 6 (m 1),o 7 (.call 209 [(t 5),(t 6),(c (.fn zbG []))]),o 4 (m 7)]),
 .ret])⟩
def zbR:CFn:=⟨66,[.tmp 4],(q [(.reg [o 4 (.mv (c (.nils 1)))]),
 (q [(.reg [o 8 (m 0),o 9 (ln 8),o 10 (bc .lss 9 (n 2))]),
 (i 10 (q [(.reg [o 11 (m 0),o 4 (m 11)]),
 .ret]) .skip)]),
 (q [(.reg [o 5 (.mv (c (n 1)))]),
 (.block 0 (.loop (q [(q [(.reg [o 12 (m 5),o 13 (m 0),o 14 (ln 13),o 15 (b .lss 12 14)]),
 (i 15 .skip (.exit 0))]),
 (.block 1 (q [(.regd [o 18 (m 1),o 19 (m 0),o 20 (m 5),o 21 (ia 1 19 20),o 22 (l 21),o 23 (m 0),o 24 (m 5),o 25 (bc .sub 24 (n 1)),o 26 (ia 1 23 25),o 27 (l 26),o 28 (.callv (t 18) [(t 22),(t 27)])] [0,0,0,6,14,0,0,64,224,480,1023]),
 (i 28 (q [(.reg [o 29 (m 0),o 30 (m 5),o 31 (.slice 1 (t 29) (some (t 30)) none),o 6 (m 31)]),
 (q [(.reg [o 7 (.mv (c (n 1)))]),
 (.block 2 (.loop (q [(q [(.reg [o 32 (m 7),o 33 (m 6),o 34 (ln 33),o 35 (b .lss 32 34)]),
 (i 35 .skip (.exit 2))]),
 (.block 3 (q [(.regd [o 38 (m 1),o 39 (m 6),o 40 (m 7),o 41 (ia 1 39 40),o 42 (l 41),o 43 (m 6),o 44 (m 7),o 45 (bc .sub 44 (n 1)),o 46 (ia 1 43 45),o 47 (l 46),o 48 (.callv (t 38) [(t 42),(t 47)]),o 49 (.un .not (t 48))] [0,0,0,6,14,0,0,64,224,480,1023,2047]),
 (i 49 (q [(.reg [o 50 (m 0),o 51 (m 5),o 52 (m 6),o 53 (m 7),o 54 (ia 1 52 53),o 55 (l 54),o 56 (ia 1 50 51),w (.store 1 (t 56) (t 55))]),
 (.reg [o 57 (m 5),o 58 (bc .add 57 (n 1)),o 5 (m 58)])]) .skip)])),
 (.reg [o 36 (m 7),o 37 (bc .add 36 (n 1)),o 7 (m 37)])])))]),
 (.reg [o 59 (m 0),o 60 (m 5),o 61 (.slice 1 (t 59) (some (t 60)) none),w (.clear 1 [(.nils 1)] (t 61))]),
 (.reg [o 62 (m 0),o 63 (m 5),o 64 (.slice 1 (t 62) none (some (t 63))),o 4 (m 64)]),
 .ret]) .skip)])),
 (.reg [o 16 (m 5),o 17 (bc .add 16 (n 1)),o 5 (m 17)])])))]),
 (.reg [o 65 (m 0),o 4 (m 65)]),
 .ret])⟩
def zk8:CFn:=⟨9,[.tmp 4],(q [(.reg [o 4 (.mv (c .bf))]),
 (.reg [o 5 (m 0),o 6 (m 1),o 7 (.call 187 [(t 5),(t 6)]),o 8 (bc .eql 7 (n 0)),o 4 (m 8)]),
 .ret])⟩
def zaI:CFn:=⟨49,[.tmp 6,.tmp 7],(q [(.reg [o 6 (.mv (c (n 0))),o 7 (.mv (c .bf))]),
 (.reg [o 12 (m 0),o 13 (ln 12),o 8 (m 13)]),
 (.reg [o 14 (m 8),o 9 (.mv (c (n 0))),o 10 (m 14)]),
 (.block 0 (.loop (q [(q [(.reg [o 15 (m 9),o 16 (m 10),o 17 (b .lss 15 16)]),
 (i 17 .skip (.exit 0))]),
 (.block 1 (q [(.reg [o 18 (m 9),o 19 (m 10),o 20 (b .add 18 19),o 21 (.conv .u64 (t 20)),o 22 (bc .shr 21 (u 1)),o 23 (.conv .i64 (t 22)),o 11 (m 23)]),
 (.reg [o 24 (m 2),o 25 (m 0),o 26 (m 11),o 27 (ia 1 25 26),o 28 (l 27),o 29 (m 1),o 30 (.callv (t 24) [(t 28),(t 29)]),o 31 (bc .lss 30 (n 0))]),
 (i 31 (.reg [o 32 (m 11),o 33 (bc .add 32 (n 1)),o 9 (m 33)]) (.reg [o 34 (m 11),o 10 (m 34)]))]))]))),
 (.reg [o 35 (m 9),o 36 (m 9),o 37 (m 8),o 38 (b .lss 36 37),o 39 (m 38),g 40 39 true (m 2),g 41 39 true (m 0),g 42 39 true (m 9),g 43 39 true (ia 1 41 42),g 44 39 true (l 43),g 45 39 true (m 1),g 46 39 true (.callv (t 40) [(t 44),(t 45)]),g 47 39 true (bc .eql 46 (n 0)),o 48 (pf 39 47),o 6 (m 35),o 7 (m 48)]),
 .ret])⟩
def znG:CFn:=⟨6,[.tmp 2],(q [(.reg [o 2 (.mv (c .bf))]),
 (.reg [o 3 (m 0),o 4 (m 0),o 5 (b .neq 3 4),o 2 (m 5)]),
 .ret])⟩
def zdD:CFn:=⟨148,[],(q [(.reg [o 10 (.mv (c .bt))]),
 (.reg [o 11 (.mv (c .bt))]),
 (.block 0 (.loop (.block 1 (q [(.reg [o 21 (m 2),o 22 (m 1),o 23 (b .sub 21 22),o 12 (m 23)]),
 (q [(.reg [o 24 (m 12),o 25 (bc .leq 24 (n 12))]),
 (i 25 (q [(.reg [o 26 (m 0),o 27 (m 1),o 28 (m 2),o 29 (m 4),o 30 (.call 218 [(t 26),(t 27),(t 28),(t 29)])]),
 .ret]) .skip)]),
 (q [(.reg [o 31 (m 3),o 32 (bc .eql 31 (n 0))]),
 (i 32 (q [(.reg [o 33 (m 0),o 34 (m 1),o 35 (m 2),o 36 (m 4),o 37 (.call 219 [(t 33),(t 34),(t 35),(t 36)])]),
 .ret]) .skip)]),
 (q [(.reg [o 38 (m 10),o 39 (.un .not (t 38))]),
 (i 39 (q [(.reg [o 40 (m 0),o 41 (m 1),o 42 (m 2),o 43 (m 4),o 44 (.call 220 [(t 40),(t 41),(t 42),(t 43)])]),
 (.reg [o 45 (m 3),o 46 (bc .sub 45 (n 1)),o 3 (m 46)])]) .skip)]),
 (.reg [o 48 (m 0),o 49 (m 1),o 50 (m 2),o 51 (m 4),o 52 (.call 221 [(t 48),(t 49),(t 50),(t 51)]),o 47 (m 52),o 53 (e 47 0),o 54 (e 47 1),o 13 (m 53),o 14 (m 54)]),
 (q [(.reg [o 55 (m 14),o 56 (bc .eql 55 (n 2))]),
 (i 56 (q [(.reg [o 57 (m 0),o 58 (m 1),o 59 (m 2),o 60 (m 4),o 61 (.call 222 [(t 57),(t 58),(t 59),(t 60)])]),
 (.reg [o 62 (m 2),o 63 (bc .sub 62 (n 1)),o 64 (m 13),o 65 (m 1),o 66 (b .sub 64 65),o 67 (b .sub 63 66),o 13 (m 67)]),
 (.reg [o 14 (.mv (c (n 1)))])]) .skip)]),
 (q [(.reg [o 68 (m 10),o 69 (m 68),g 70 69 true (m 11),o 71 (pf 69 70),o 72 (m 71),g 73 72 true (m 14),g 74 72 true (bc .eql 73 (n 1)),o 75 (pf 72 74)]),
 (i 75 (q [(.reg [o 76 (m 0),o 77 (m 1),o 78 (m 2),o 79 (m 4),o 80 (.call 223 [(t 76),(t 77),(t 78),(t 79)])]),
 (i 80 .ret .skip)]) .skip)]),
 (q [(.regd [o 81 (m 1),o 82 (bc .gtr 81 (n 0)),o 83 (m 82),g 84 83 true (m 4),g 85 83 true (m 0),g 86 83 true (m 1),g 87 83 true (bc .sub 86 (n 1)),g 88 83 true (ia 1 85 87),g 89 83 true (l 88),g 90 83 true (m 0),g 91 83 true (m 13),g 92 83 true (ia 1 90 91),g 93 83 true (l 92),g 94 83 true (.callv (t 84) [(t 89),(t 93)]),g 95 83 true (bc .lss 94 (n 0)),g 96 83 true (.un .not (t 95)),o 97 (pf 83 96)] [0,1,3,7,7,7,39,119,247,7,7,1543,3591,8191,16383,32767,65535]),
 (i 97 (q [(.reg [o 98 (m 0),o 99 (m 1),o 100 (m 2),o 101 (m 13),o 102 (m 4),o 103 (.call 224 [(t 98),(t 99),(t 100),(t 101),(t 102)]),o 15 (m 103)]),
 (.reg [o 104 (m 15),o 1 (m 104)]),
 (.exit 1)]) .skip)]),
 (.reg [o 106 (m 0),o 107 (m 1),o 108 (m 2),o 109 (m 13),o 110 (m 4),o 111 (.call 225 [(t 106),(t 107),(t 108),(t 109),(t 110)]),o 105 (m 111),o 112 (e 105 0),o 113 (e 105 1),o 16 (m 112),o 17 (m 113)]),
 (.reg [o 114 (m 17),o 11 (m 114)]),
 (.reg [o 115 (m 16),o 116 (m 1),o 117 (b .sub 115 116),o 118 (m 2),o 119 (m 16),o 120 (b .sub 118 119),o 18 (m 117),o 19 (m 120)]),
 (.reg [o 121 (m 12),o 122 (bc .quo 121 (n 8)),o 20 (m 122)]),
 (.reg [o 123 (m 18),o 124 (m 19),o 125 (b .lss 123 124)]),
 (i 125 (q [(.reg [o 126 (m 18),o 127 (m 20),o 128 (b .geq 126 127),o 10 (m 128)]),
 (.reg [o 129 (m 0),o 130 (m 1),o 131 (m 16),o 132 (m 3),o 133 (m 4),o 134 (.call 208 [(t 129),(t 130),(t 131),(t 132),(t 133)])]),
 (.reg [o 135 (m 16),o 136 (bc .add 135 (n 1)),o 1 (m 136)])]) (q [(.reg [o 137 (m 19),o 138 (m 20),o 139 (b .geq 137 138),o 10 (m 139)]),
 (.reg [o 140 (m 0),o 141 (m 16),o 142 (bc .add 141 (n 1)),o 143 (m 2),o 144 (m 3),o 145 (m 4),o 146 (.call 208 [(t 140),(t 142),(t 143),(t 144),(t 145)])]),
 (.reg [o 147 (m 16),o 2 (m 147)])]))]))))])⟩
def zhE:CFn:=⟨36,[.tmp 6],(q [(.reg [o 6 (.mv (c (n 0)))]),
 (q [(.reg [o 9 (m 0),o 10 (ln 9),o 11 (m 1),o 12 (ln 11),o 13 (.mm false (t 10) (t 12)),o 14 (.mv (c (n 0)))]),
 (.block 0 (.loop (q [(.reg [o 15 (b .lss 14 13)]),
 (i 15 .skip (.exit 0)),
 (.block 1 (q [(.reg [o 16 (m 14),o 7 (m 16)]),
 (.regd [o 17 (m 2),o 18 (m 0),o 19 (m 7),o 20 (ia 1 18 19),o 21 (l 20),o 22 (m 1),o 23 (m 7),o 24 (ia 1 22 23),o 25 (l 24),o 26 (.callv (t 17) [(t 21),(t 25)]),o 8 (m 26)] [0,0,0,6,14,0,0,96,224,511,1023]),
 (.reg [o 27 (m 8),o 28 (bc .neq 27 (n 0))]),
 (i 28 (q [(.reg [o 29 (m 8),o 6 (m 29)]),
 .ret]) .skip)])),
 (.reg [o 30 (bc .add 14 (n 1)),o 14 (m 30)])])))]),
 (.reg [o 31 (m 0),o 32 (ln 31),o 33 (m 1),o 34 (ln 33),o 35 (.call 212 [(t 32),(t 34)]),o 6 (m 35)]),
 .ret])⟩
def zk7:CFn:=⟨8,[.tmp 4],(q [(.reg [o 4 (.mv (c (n 0)))]),
 (.reg [o 5 (m 0),o 6 (m 1),o 7 (.call 211 [(t 5),(t 6),(c (.fn zbF []))]),o 4 (m 7)]),
 .ret])⟩
def zh7:CFn:=⟨36,[.tmp 6],(q [(.reg [o 6 (.mv (c (n 0)))]),
 (q [(.reg [o 9 (m 0),o 10 (ln 9),o 11 (m 1),o 12 (ln 11),o 13 (.mm false (t 10) (t 12)),o 14 (.mv (c (n 0)))]),
 (.block 0 (.loop (q [(.reg [o 15 (b .lss 14 13)]),
 (i 15 .skip (.exit 0)),
 (.block 1 (q [(.reg [o 16 (m 14),o 7 (m 16)]),
 (.regd [o 17 (m 2),o 18 (m 0),o 19 (m 7),o 20 (ia 1 18 19),o 21 (l 20),o 22 (m 1),o 23 (m 7),o 24 (ia 1 22 23),o 25 (l 24),o 26 (.callv (t 17) [(t 21),(t 25)]),o 8 (m 26)] [0,0,0,6,14,0,0,96,224,511,1023]),
 (.reg [o 27 (m 8),o 28 (bc .neq 27 (n 0))]),
 (i 28 (q [(.reg [o 29 (m 8),o 6 (m 29)]),
 .ret]) .skip)])),
 (.reg [o 30 (bc .add 14 (n 1)),o 14 (m 30)])])))]),
 (.reg [o 31 (m 0),o 32 (ln 31),o 33 (m 1),o 34 (ln 33),o 35 (.call 212 [(t 32),(t 34)]),o 6 (m 35)]),
 .ret])⟩
def zk5:CFn:=⟨20,[.tmp 4],(q [(.reg [o 4 (.mv (c (n 0)))]),
 (.reg [o 7 (m 0),o 8 (.call 196 [(t 7)]),o 5 (m 8)]),
 (.reg [o 9 (m 1),o 10 (.call 196 [(t 9)]),o 6 (m 10)]),
 (q [(.reg [o 11 (m 5)]),
 (i 11 (q [(q [(.reg [o 12 (m 6)]),
 (i 12 (q [(.reg [o 4 (.mv (c (n 0)))]),
 .ret]) .skip)]),
 (.reg [o 4 (.mv (c (n (-1))))]),
 .ret]) .skip)]),
 (q [(.reg [o 13 (m 6)]),
 (i 13 (q [(.reg [o 4 (.mv (c (n 1)))]),
 .ret]) .skip)]),
 (q [(.reg [o 14 (m 0),o 15 (m 1),o 16 (b .lss 14 15)]),
 (i 16 (q [(.reg [o 4 (.mv (c (n (-1))))]),
 .ret]) .skip)]),
 (q [(.reg [o 17 (m 0),o 18 (m 1),o 19 (b .gtr 17 18)]),
 (i 19 (q [(.reg [o 4 (.mv (c (n 1)))]),
 .ret]) .skip)]),
 (.reg [o 4 (.mv (c (n 0)))]),
 .ret])⟩
def zcy:CFn:=⟨53,[],(q [(.reg [o 10 (m 1),o 11 (bc .add 10 (n 1)),o 8 (m 11)]),
 (.block 0 (.loop (q [(q [(.reg [o 12 (m 8),o 13 (m 2),o 14 (b .lss 12 13)]),
 (i 14 .skip (.exit 0))]),
 (.block 1 (q [(.reg [o 17 (m 8),o 9 (m 17)]),
 (.block 2 (.loop (q [(q [(.regd [o 18 (m 9),o 19 (m 1),o 20 (b .gtr 18 19),o 21 (m 20),g 22 21 true (m 3),g 23 21 true (m 0),g 24 21 true (m 9),g 25 21 true (ia 1 23 24),g 26 21 true (l 25),g 27 21 true (m 0),g 28 21 true (m 9),g 29 21 true (bc .sub 28 (n 1)),g 30 21 true (ia 1 27 29),g 31 21 true (l 30),g 32 21 true (.callv (t 22) [(t 26),(t 31)]),g 33 21 true (bc .lss 32 (n 0)),o 34 (pf 21 33)] [0,0,3,7,15,15,15,111,239,15,15,1039,3599,7695,16383,32767,65535]),
 (i 34 .skip (.exit 2))]),
 (.block 3 (.regd [o 37 (m 0),o 38 (m 9),o 39 (m 0),o 40 (m 9),o 41 (bc .sub 40 (n 1)),o 42 (m 0),o 43 (m 9),o 44 (bc .sub 43 (n 1)),o 45 (ia 1 42 44),o 46 (l 45),o 47 (m 0),o 48 (m 9),o 49 (ia 1 47 48),o 50 (l 49),o 51 (ia 1 37 38),w (.store 1 (t 51) (t 46)),o 52 (ia 1 39 41),w (.store 1 (t 52) (t 50))] [0,0,0,0,8,0,0,64,224,480,0,0,3072,7168,16355,32739,65535,131071])),
 (.reg [o 35 (m 9),o 36 (bc .sub 35 (n 1)),o 9 (m 36)])])))])),
 (.reg [o 15 (m 8),o 16 (bc .add 15 (n 1)),o 8 (m 16)])])))])⟩
end Go.Ab
namespace Go.Ab
open Go Go.Proofs
theorem zx:Tryz.prog.follows .mixedOrders=true:=by kernel_rfl
theorem zlP:zi Tryz.prog zgN=some zlc:=by kernel_rfl
theorem zrj:zi Tryz.prog ze0=some zrd:=by kernel_rfl
theorem zp1:zi Tryz.prog zi3=some zpM:=by kernel_rfl
theorem zkT:zi Tryz.prog zfZ=some zkN:=by kernel_rfl
theorem zkH:zi Tryz.prog zdE=some zrf:=by kernel_rfl
theorem zkW:zi Tryz.prog zf1=some zkQ:=by kernel_rfl
theorem zlN:zi Tryz.prog zgL=some zla:=by kernel_rfl
theorem zrh:zi Tryz.prog zkB=some zrb:=by kernel_rfl
theorem ztS:zi Tryz.prog znb=some ztv:=by kernel_rfl
theorem zkc:zi Tryz.prog zfG=some zjS:=by kernel_rfl
theorem zlO:zi Tryz.prog zgM=some zlb:=by kernel_rfl
theorem zpe:zi Tryz.prog zil=some zoH:=by kernel_rfl
theorem zbm:zi Tryz.prog zao=some zdC:=by kernel_rfl
theorem zpb:zi Tryz.prog zdV=some zoE:=by kernel_rfl
theorem zpc:zi Tryz.prog zfF=some zoF:=by kernel_rfl
theorem znX:zi Tryz.prog zdt=some znE:=by kernel_rfl
theorem zmZ:zi Tryz.prog zeM=some zmM:=by kernel_rfl
theorem zrk:zi Tryz.prog ze1=some zre:=by kernel_rfl
theorem zm1:zi Tryz.prog zg9=some zmO:=by kernel_rfl
theorem zhW:zi Tryz.prog zd9=some zhH:=by kernel_rfl
theorem zm2:zi Tryz.prog zha=some zmP:=by kernel_rfl
theorem zic:zi Tryz.prog zeG=some zh9:=by kernel_rfl
theorem zsC:zi Tryz.prog zlo=some zrV:=by kernel_rfl
theorem zo7:zi Tryz.prog zih=some zoA:=by kernel_rfl
theorem zo6:zi Tryz.prog zig=some zoz:=by kernel_rfl
theorem zkR:zi Tryz.prog zfY=some zkL:=by kernel_rfl
theorem zri:zi Tryz.prog zeZ=some zrc:=by kernel_rfl
theorem zsD:zi Tryz.prog zlp=some zrW:=by kernel_rfl
theorem zdx:zi Tryz.prog zfE=some zjR:=by kernel_rfl
theorem zmX:zi Tryz.prog zg8=some zmK:=by kernel_rfl
theorem zn1:zi Tryz.prog zhM=some znJ:=by kernel_rfl
theorem zd0:zi Tryz.prog zbA=some zdZ:=by kernel_rfl
theorem zmY:zi Tryz.prog zc0=some zmL:=by kernel_rfl
theorem ztT:zi Tryz.prog znc=some ztw:=by kernel_rfl
theorem zed:zi Tryz.prog zbH=some zd4:=by kernel_rfl
theorem zsE:zi Tryz.prog zlq=some zrX:=by kernel_rfl
theorem zpZ:zi Tryz.prog zi2=some zpK:=by kernel_rfl
theorem zhU:zi Tryz.prog zb5=some zhF:=by kernel_rfl
theorem zib:zi Tryz.prog zeF=some zh8:=by kernel_rfl
theorem zdF:zi Tryz.prog zaY=some zgX:=by kernel_rfl
theorem zmT:zi Tryz.prog zcZ=some zmG:=by kernel_rfl
theorem zn2:zi Tryz.prog ze6=some znK:=by kernel_rfl
theorem zfs:zi Tryz.prog zcg=some zfr:=by kernel_rfl
theorem zp0:zi Tryz.prog zet=some zpL:=by kernel_rfl
theorem zp2:zi Tryz.prog zi4=some zpN:=by kernel_rfl
theorem zmU:zi Tryz.prog zg5=some zmH:=by kernel_rfl
theorem zpd:zi Tryz.prog zik=some zoG:=by kernel_rfl
theorem zfM:zi Tryz.prog zcB=some zfz:=by kernel_rfl
theorem zeN:zi Tryz.prog zbT=some zeJ:=by kernel_rfl
theorem zpY:zi Tryz.prog zi1=some zpJ:=by kernel_rfl
theorem zhV:zi Tryz.prog zd8=some zhG:=by kernel_rfl
theorem zmV:zi Tryz.prog zg6=some zmI:=by kernel_rfl
theorem zmW:zi Tryz.prog zeL=some zmJ:=by kernel_rfl
theorem zgd:zi Tryz.prog zc9=some zf7:=by kernel_rfl
theorem zpa:zi Tryz.prog zdU=some zoD:=by kernel_rfl
theorem zp3:zi Tryz.prog zi5=some zpO:=by kernel_rfl
theorem zgc:zi Tryz.prog zc8=some zf6:=by kernel_rfl
theorem zeU:zi Tryz.prog zbX=some zeR:=by kernel_rfl
theorem zkV:zi Tryz.prog zf0=some zkP:=by kernel_rfl
theorem zm3:zi Tryz.prog zhb=some zmQ:=by kernel_rfl
theorem zm4:zi Tryz.prog zhc=some zmR:=by kernel_rfl
theorem zkS:zi Tryz.prog zcd=some zkM:=by kernel_rfl
theorem znY:zi Tryz.prog zdu=some znF:=by kernel_rfl
theorem zm0:zi Tryz.prog zc1=some zmN:=by kernel_rfl
theorem zkd:zi Tryz.prog zdv=some zjT:=by kernel_rfl
theorem zo8:zi Tryz.prog zii=some zoB:=by kernel_rfl
theorem zlJ:zi Tryz.prog zgJ=some zk6:=by kernel_rfl
theorem zn0:zi Tryz.prog ze5=some znI:=by kernel_rfl
theorem zeO:zi Tryz.prog zaP=some zeK:=by kernel_rfl
theorem zo9:zi Tryz.prog zij=some zoC:=by kernel_rfl
theorem zfN:zi Tryz.prog zcC=some zfA:=by kernel_rfl
theorem zkU:zi Tryz.prog zce=some zkO:=by kernel_rfl
theorem zlM:zi Tryz.prog zgK=some zk9:=by kernel_rfl
theorem zcl:zi Tryz.prog z8=some zck:=by kernel_rfl
theorem zb1:zi Tryz.prog zaF=some zb0:=by kernel_rfl
theorem znZ:zi Tryz.prog zN=some znH:=by kernel_rfl
theorem zap:zi Tryz.prog zA=some zbR:=by kernel_rfl
theorem zlL:zi Tryz.prog zcA=some zk8:=by kernel_rfl
theorem zaJ:zi Tryz.prog zV=some zaI:=by kernel_rfl
theorem zhS:zi Tryz.prog ze4=some znG:=by kernel_rfl
theorem zdG:zi Tryz.prog zbl=some zdD:=by kernel_rfl
theorem zhT:zi Tryz.prog zd7=some zhE:=by kernel_rfl
theorem zlK:zi Tryz.prog zbG=some zk7:=by kernel_rfl
theorem zia:zi Tryz.prog zeE=some zh7:=by kernel_rfl
theorem zlI:zi Tryz.prog zbF=some zk5:=by kernel_rfl
theorem zcG:zi Tryz.prog zaT=some zcy:=by kernel_rfl
end Go.Ab
namespace Go.Ab
open Go Go.Proofs
set_option maxRecDepth 10000
set_option maxHeartbeats 4000000
variable {T:Nat→Obj→Prop}
def ziB (n:Int):BitVec 64:=if n ≥ 64 then -1 else (1#64 <<< n.toNat) - 1#64
theorem zoV (n:Int) (h:0≤n):Fn Tryz.prog T zi5 [.d (.int .i64 n)] [] (.d (.u64 (ziB n))) []:=by
 refine zg zx zp3 (by show 1≤8;decide) ?_
 (repeat' ((conv=>whnf);first|refine vA ?_|(refine vF ?_ ?_<;>intro hc<;>try simp only [vL] at hc)|refine vT ?_|(refine vP ?_ ?_;·omega)|refine vY ?_));all_goals try conv=>whnf
 ·simp [ziB, *]
 ·rw [ziB,if_neg (by omega)];rfl
def bad (n:Int) (s:BitVec 64):Bool:=s &&& ~~~ (ziB n)≠0
def zxb (worlds agents:Int) (val:List (BitVec 64)):Int :=
 if worlds < 1∨64 < worlds then 2 else if 8 < val.length∨4 < agents then 8 else if val.any (bad worlds) then 3 else 0
theorem zly (a b:List Int):Fn Tryz.prog T zd8 [.d (dI a),.d (dI b)] [] (.d (.bool (a==b))) []:=by
 refine zg zx zhV (by show 2≤26;decide) ?_
 (repeat' ((conv=>whnf);first|refine vA ?_|(refine vD ?_ ?_<;>intro hc<;>try simp only [vL] at hc)|refine vJ fun hg=>?_|refine vT ?_|refine vZ ?_));all_goals try conv=>whnf
 ·have:a≠b:=fun e=>hc (by rw [e])
  simp [this]
 ·refine zah (fun (k:Nat)=>[(0,.d (dI a)),(1,.d (dI b)),(12,.d (.int .i64 ((a.map (D.int .i64)).length:Int))),(13,.d (.int .i64 ((k:Int))))]) (fun (k:Nat)=>k≤a.length∧(a==b)=(a.drop k==b.drop k)) (fun (k:Nat)=>a.length - k) (0) (⟨by simp,by simp⟩) (by (repeat' first|exact trivial|exact rfl|refine And.intro ?_ ?_)) ?_
  rintro k ⟨hk,hI⟩
  (repeat' ((conv=>whnf);first|refine vA ?_|((first|refine vD ?_ ?_|refine vF ?_ ?_)<;>intro hc<;>try simp only [vL] at hc)|refine vT ?_|(refine vQ ?_ fun x hx=>?_;·omega)|(refine vO ?_ ?_;·omega)|(refine vU ?_ ?_;·kernel_rfl)|refine vZ ?_));all_goals try conv=>whnf
  ·rw [hI,zQ ‹a[k]? = some _›,zQ ‹b[k]? = some _›];simp [hc]
  ·exact ⟨k+1,[],[],⟨by (omega),by rw [hI,zQ ‹a[k]? = some _›,zQ ‹b[k]? = some _›];simp [hc]⟩,by (omega),by (refine ⟨rfl,rfl,rfl,?_,?_⟩;repeat' first|exact trivial|exact rfl|refine And.intro ?_ ?_)⟩
  ·rw [hI,List.drop_eq_nil_of_le (by omega),List.drop_eq_nil_of_le (by omega)];rfl
theorem zsl (a b:List (BitVec 64)):Fn Tryz.prog T zcB [.d (dU a),.d (dU b)] [] (.d (.bool (a==b))) []:=by
 refine zg zx zfM (by show 2≤26;decide) ?_
 (repeat' ((conv=>whnf);first|refine vA ?_|(refine vD ?_ ?_<;>intro hc<;>try simp only [vL] at hc)|refine vJ fun hg=>?_|refine vT ?_|refine vZ ?_));all_goals try conv=>whnf
 ·have:a≠b:=fun e=>hc (by rw [e])
  simp [this]
 ·refine zah (fun (k:Nat)=>[(0,.d (dU a)),(1,.d (dU b)),(12,.d (.int .i64 ((a.map D.u64).length:Int))),(13,.d (.int .i64 ((k:Int))))]) (fun (k:Nat)=>k≤a.length∧(a==b)=(a.drop k==b.drop k)) (fun (k:Nat)=>a.length - k) (0) (⟨by simp,by simp⟩) (by (repeat' first|exact trivial|exact rfl|refine And.intro ?_ ?_)) ?_
  rintro k ⟨hk,hI⟩
  (repeat' ((conv=>whnf);first|refine vA ?_|((first|refine vD ?_ ?_|refine vF ?_ ?_)<;>intro hc<;>try simp only [vL] at hc)|refine vT ?_|(refine vQ ?_ fun x hx=>?_;·omega)|(refine vO ?_ ?_;·omega)|(refine vU ?_ ?_;·kernel_rfl)|refine vZ ?_));all_goals try conv=>whnf
  ·rw [hI,zQ ‹a[k]? = some _›,zQ ‹b[k]? = some _›];simp [hc]
  ·exact ⟨k+1,[],[],⟨by (omega),by rw [hI,zQ ‹a[k]? = some _›,zQ ‹b[k]? = some _›];simp [hc]⟩,by (omega),by (refine ⟨rfl,rfl,rfl,?_,?_⟩;repeat' first|exact trivial|exact rfl|refine And.intro ?_ ?_)⟩
  ·rw [hI,List.drop_eq_nil_of_le (by omega),List.drop_eq_nil_of_le (by omega)];rfl
structure PM where
 W:Int
 val:List (BitVec 64)
 cell:List (List Int)
 rank:List (List Int)
 deriving DecidableEq
theorem zf4 (s:BitVec 64) (n:Nat):(s >>> n)&&&1#64=1#64↔s.getLsbD n=true:=by
 constructor
 ·intro h
  have:=congrArg (fun x=>x.getLsbD 0) h
  simpa using this
 ·intro h
  apply BitVec.eq_of_getLsbD_eq
  intro i hi
  by_cases h0:i=0
  ·subst h0;simpa using h
  ·simp [h0]
theorem zhD (s:BitVec 64) (n:Nat):(s >>> n)&&&1#64=0#64↔s.getLsbD n=false:=by
 constructor
 ·intro h
  have:=congrArg (fun x=>x.getLsbD 0) h
  simpa using this
 ·intro h
  apply BitVec.eq_of_getLsbD_eq
  intro i hi
  by_cases h0:i=0
  ·subst h0;simpa using h
  ·simp [h0]
@[irreducible] def bit (s:BitVec 64) (i:Nat):Bool:=s.getLsbD i
def at0 (l:List Int) (i:Nat):Int:=l.getD i 0
theorem zc5 {l:List Int} {i:Nat} {x:Int} (h:l[i]? = some x):at0 l i=x:=by simp [at0,List.getD,h]
theorem zdb {l:List Int} {i:Nat} (h:i < l.length):l[i]? = some (at0 l i):=by simp [at0,List.getD,h]
abbrev zBd (cell:List Int):Prop := ∀ w,w < cell.length→0≤at0 cell w∧at0 cell w≤w∧at0 cell (at0 cell w).toNat=at0 cell w
abbrev zAK (cell rank:List Int):Prop := ∀ w,w < cell.length→0≤at0 rank w∧(at0 rank w=0 ∨ ∃ v,v < cell.length∧at0 cell v=at0 cell w∧at0 rank v=at0 rank w - 1)
end Go.Ab
namespace Go.Ab
open Go Go.Proofs
set_option maxRecDepth 10000
set_option maxHeartbeats 4000000
variable {T:Nat→Obj→Prop}
def zaA (f:Nat→Bool):Nat→BitVec 64
 | 0=>0#64
 | k+1=>if f k then zaA f k|||1#64 <<< k else zaA f k
theorem zpH (k i:Nat):(1#64 <<< k).getLsbD i=(decide (i < 64)&&decide (i=k)):=by
 rw [BitVec.getLsbD_shiftLeft]
 by_cases h:i < 64
 ·by_cases h1:i < k
  ·simp [h,h1];omega
  ·by_cases h2:i=k
   ·subst h2;simp [h]
   ·have:i - k≠0:=by omega
    simp [h,h1,h2,this]
 ·simp [h]
theorem zmb (f:Nat→Bool) : ∀ (n i:Nat),(zaA f n).getLsbD i=(decide (i < 64)&&decide (i < n)&&f i)
 | 0,i=>by simp [zaA]
 | n+1,i=>by
  have ih:=zmb f n i
  unfold zaA
  split
  ·rename_i h
   rw [BitVec.getLsbD_or,ih,zpH]
   by_cases h1:i=n
   ·subst h1;simp [h]
   ·by_cases h2:i < n
    ·simp [h1,h2,show i < n+1 by omega]
    ·simp [h1,h2,show ¬ i < n+1 by omega]
  ·rename_i h
   rw [ih]
   by_cases h1:i=n
   ·subst h1;simp [h]
   ·by_cases h2:i < n
    ·simp [h2,show i < n+1 by omega]
    ·simp [h2,show ¬ i < n+1 by omega]
theorem zxS {s:BitVec 64} {n:Nat} (h : ¬(s >>> n)&&&1#64=0#64):s.getLsbD n=true:=by
 rw [zhD] at h;simpa using h
end Go.Ab
namespace Go.Ab
open Go Go.Proofs
set_option maxRecDepth 10000
set_option maxHeartbeats 4000000
variable {T:Nat→Obj→Prop}
def zps (l:List (List Int)) (a:Nat):List Int:=l.getD a []
abbrev zBG (p:PM):Prop := ∀ a,a < p.cell.length→((zps p.cell a).length:Int)=p.W∧((zps p.rank a).length:Int)=p.W
abbrev zxD (p:PM):Prop := ∀ a,a < p.cell.length→zBd (zps p.cell a)
abbrev zvS (p:PM):Prop := ∀ a,a < p.cell.length→zAK (zps p.cell a) (zps p.rank a)
def zv6 (p:PM):Int :=
 if zxb p.W p.cell.length p.val≠0 then zxb p.W p.cell.length p.val
 else if p.rank.length≠p.cell.length then 3
 else if ¬zBG p then 3
 else if ¬zxD p then 1
 else if ¬zvS p then 9
 else 0
theorem zmS (n:Int) (r:List (BitVec 64)):Fn Tryz.prog T ze6 [.d (.int .i64 n),.d (dU r)] [] (.d (.int .i64 (if n < 0∨64 < n then 2 else if (r.length:Int)≠n then 3 else if r.any (bad n) then 1 else 0))) []:=by
 refine zg zx zn2 (by show 2≤29;decide) ?_
 (repeat' ((conv=>whnf);first|refine vA ?_|((first|refine vD ?_ ?_|refine vF ?_ ?_)<;>intro hc<;>try simp only [vL] at hc)|refine vJ fun hg=>?_|refine vT ?_|refine vX ?_));all_goals try conv=>whnf
 ·rw [if_pos (.inl hc)]
 ·rw [if_pos (.inr hc)]
 ·rw [if_neg (by omega),if_pos hc]
 refine zah (fun (k:Nat)=>[(0,.d (.int .i64 (n))),(17,.d (dU r)),(18,.d (.int .i64 ((r.map D.u64).length:Int))),(19,.d (.int .i64 ((k:Int))))]) (fun (k:Nat)=>k≤r.length∧r.any (bad n)=(r.drop k).any (bad n)) (fun (k:Nat)=>r.length - k) (0) (⟨by simp,by simp⟩) (by (repeat' first|exact trivial|exact rfl|refine And.intro ?_ ?_)) ?_
 rintro k ⟨hk,hI⟩
 (repeat' ((conv=>whnf);first|refine vA ?_|((first|refine vD ?_ ?_|refine vF ?_ ?_)<;>intro hc<;>try simp only [vL] at hc)|refine vT ?_|(refine vQ ?_ fun x hx=>?_;·omega)|(refine vO ?_ ?_;·omega)|refine vX ?_|(refine yD (zoV _ ?_) ⟨⟨rfl,rfl⟩,rfl⟩ rfl ?_;(·omega))|fail));all_goals try conv=>whnf
 ·have hb:bad n x=true:=by simpa [bad] using hc
  rw [if_neg (by omega),if_neg (by omega),hI,zQ hx];simp [hb]
 ·have hb:bad n x=false:=by simpa [bad] using hc
  exact ⟨k+1,[],[],⟨by (omega),by rw [hI,zQ hx];simp [hb]⟩,by (omega),by (refine ⟨rfl,rfl,rfl,?_,?_⟩;repeat' first|exact trivial|exact rfl|refine And.intro ?_ ?_)⟩
 ·rw [if_neg (by omega),if_neg (by omega),hI,List.drop_eq_nil_of_le (by omega)];simp
end Go.Ab
namespace Go.Ab
open Go Go.Proofs
set_option maxRecDepth 10000
set_option maxHeartbeats 4000000
variable {T:Nat→Obj→Prop}
structure At (p:PM) (a w:Int):Prop where
 ok:zv6 p=0
 a0:0≤a
 a1:a < p.cell.length
 w0:0≤w
 w1:w < p.W
instance (p:PM) (a w:Int):Decidable (At p a w):=decidable_of_iff (zv6 p=0∧0≤a∧a < p.cell.length∧0≤w∧w < p.W) ⟨fun ⟨a,b,c,d,e⟩=>⟨a,b,c,d,e⟩,fun ⟨a,b,c,d,e⟩=>⟨a,b,c,d,e⟩⟩
theorem zwR {k:Nat} (h:k < 18446744073709551616):(BitVec.ofInt 64 (k:Int)).toNat=k:=by
 rw [BitVec.toNat_ofInt,Int.emod_eq_of_lt (by omega) (by omega)];rfl
theorem zdj {β:Type} {g:Nat→β} {n k:Nat} (x:β):((List.range n).map g).set k x=(List.range n).map fun u=>if u=k then x else g u:=by
 refine List.ext_getElem (by simp) fun i h1 h2=>?_
 rw [List.getElem_set]
 by_cases e:k=i
 ·subst e;simp
 ·simp [e,Ne.symm e]
theorem zD {β:Type} {g h:Nat→β} {n:Nat} (e : ∀ u,u < n→g u=h u):(List.range n).map g=(List.range n).map h :=
 List.map_congr_left fun u hu=>e u (List.mem_range.1 hu)
theorem zwt {n k x:Nat} (h:(List.range n)[k]? = some x):x=k:=by
 obtain ⟨h1,rfl⟩:=List.getElem?_eq_some_iff.1 h
 simp
theorem zad {β:Type} (x:β) (n:Nat):List.replicate n x=(List.range n).map fun _=>x:=by
 refine List.ext_getElem (by simp) fun i h1 h2=>by simp
end Go.Ab
namespace Go.Ab
open Go Go.Proofs
set_option maxRecDepth 10000
set_option maxHeartbeats 4000000
variable {T:Nat→Obj→Prop}
structure KM where
 W:Int
 val:List (BitVec 64)
 rel:List (List (BitVec 64))
 deriving DecidableEq
abbrev dKM (m:KM):D := .agg [.int .i64 m.W,dU m.val,dUU m.rel]
abbrev zar (m:KM):Ob := .box [.d (.int .i64 m.W),.d (dU m.val),.d (dUU m.rel)]
abbrev dKI (x:KM×Int):D := .tup [dKM x.1,.int .i64 x.2]
end Go.Ab
namespace Go.Ab
open Go Go.Proofs
set_option maxRecDepth 10000
set_option maxHeartbeats 4000000
variable {T:Nat→Obj→Prop}
theorem zrJ {n:Int} {i:Nat} (h1:0≤n) (hi:i < 64):(ziB n).getLsbD i=decide ((i:Int) < n):=by
 unfold ziB
 split
 ·rename_i h
  rw [show ((-1:BitVec 64))=BitVec.allOnes 64 from rfl,BitVec.getLsbD_allOnes]
  simp [hi];omega
 ·rename_i h
  obtain ⟨m,rfl⟩:=Int.eq_ofNat_of_zero_le h1
  have hm:m < 64:=by omega
  rw [show (1#64 <<< (m:Int).toNat - 1#64)=BitVec.setWidth 64 (BitVec.allOnes m) from ?_]
  ·rw [BitVec.getLsbD_setWidth,BitVec.getLsbD_allOnes];simp [hi]
  ·apply BitVec.eq_of_toNat_eq
   have h2:2 ^ m < 2 ^ 64:=Nat.pow_lt_pow_right (by omega) hm
   have h3:0 < 2 ^ m:=Nat.two_pow_pos m
   rw [BitVec.toNat_sub,BitVec.toNat_shiftLeft,BitVec.toNat_setWidth,BitVec.toNat_allOnes]
   simp only [Int.toNat_natCast,Nat.shiftLeft_eq]
   rw [show (1#64).toNat=1 from rfl,Nat.one_mul,Nat.mod_eq_of_lt h2,Nat.mod_eq_of_lt (show 2 ^ m - 1 < 2 ^ 64 by omega)]
   omega
end Go.Ab
namespace Go.Ab
open Go Go.Proofs
set_option maxRecDepth 10000
set_option maxHeartbeats 4000000
variable {T:Nat→Obj→Prop}
def zt (s:BitVec 64):List Nat:=(List.range 64).filter fun i=>s.getLsbD i
theorem zlt {p:Nat→Bool} {k:Nat} (hk:p k=true) (hlow : ∀ i,i < k→p i=false) : ∀ n,k < n→(List.range n).filter p=k::(List.range n).filter fun i=>p i&&i != k
 | 0,h=>by omega
 | n+1,h=>by
  rw [List.range_succ,List.filter_append,List.filter_append]
  by_cases e:k=n
  ·subst e
   have h1:(List.range k).filter p=[]:=by
    rw [List.filter_eq_nil_iff];intro i hi;rw [hlow i (List.mem_range.1 hi)];simp
   have h2:((List.range k).filter fun i=>p i&&i != k)=[]:=by
    rw [List.filter_eq_nil_iff];intro i hi;rw [hlow i (List.mem_range.1 hi)];simp
   rw [h1,h2]
   simp [hk]
  ·rw [zlt hk hlow n (by omega)]
   have:(n != k)=true:=by simp;omega
   have:List.filter (fun i=>p i&&i != k) [n]=List.filter p [n]:=by
    simp only [List.filter,this,Bool.and_true]
   rw [this];rfl
theorem zus (s:BitVec 64) (h:s≠0#64):Lib.ctz 64 s.toNat < 64∧s.getLsbD (Lib.ctz 64 s.toNat)=true∧(∀ i,i < Lib.ctz 64 s.toNat→s.getLsbD i=false) ∧
  ∀ i,(s&&&(s - 1#64)).getLsbD i=(s.getLsbD i&&i != Lib.ctz 64 s.toNat):=by
 have h0:s.toNat≠0:=fun e=>h (BitVec.eq_of_toNat_eq (by simpa using e))
 have hc:Lib.ctz 64 s.toNat=Lib.ctzFrom 64 s.toNat:=by rw [Lib.ctz,if_neg h0]
 rw [hc]
 obtain ⟨m,hm,hlt⟩:=Lib.ctzFrom_spec 64 s.toNat (by omega) s.isLt
 generalize Lib.ctzFrom 64 s.toNat=k at hm hlt
 have hp:0 < 2 ^ k:=Nat.two_pow_pos k
 have hs:s.toNat=2 ^ k * (2 * m+1)+0:=hm
 have hbit : ∀ i,s.getLsbD i=if i < k then false else (2 * m+1).testBit (i - k):=fun i=>by
  rw [BitVec.getLsbD,hs,Nat.testBit_two_pow_mul_add _ hp]
  simp
 have hsub:(s - 1#64).toNat=2 ^ k * (2 * m)+(2 ^ k - 1):=by
  rw [BitVec.toNat_sub]
  have hlt':=s.isLt
  rw [hm] at hlt' ⊢
  rw [show (1#64).toNat=1 from rfl,Nat.mul_add,Nat.mul_one]
  rw [Nat.mul_add,Nat.mul_one] at hlt'
  omega
 have hbit' : ∀ i,(s - 1#64).getLsbD i=if i < k then (2 ^ k - 1).testBit i else (2 * m).testBit (i - k):=fun i=>by
  rw [BitVec.getLsbD,hsub,Nat.testBit_two_pow_mul_add _ (by omega)]
 refine ⟨hlt,?_,fun i hi=>?_,fun i=>?_⟩
 ·rw [hbit,if_neg (by omega),Nat.sub_self,Nat.testBit_zero];simp
 ·rw [hbit,if_pos hi]
 ·rw [BitVec.getLsbD_and,hbit,hbit']
  by_cases h1:i < k
  ·simp [h1]
  ·simp only [h1,if_false]
   by_cases h2:i=k
   ·subst h2;simp [Nat.testBit_zero]
   ·obtain ⟨j,hj⟩ : ∃ j,i - k=j+1:=⟨i - k - 1,by omega⟩
    rw [hj,Nat.testBit_succ,Nat.testBit_succ]
    have e1:(2 * m+1) / 2=m:=by omega
    have e2:2 * m / 2=m:=by omega
    rw [e1,e2]
    simp [h2]
theorem zdJ (s:BitVec 64) (h:s≠0#64):zt s=Lib.ctz 64 s.toNat::zt (s&&&(s - 1#64)):=by
 obtain ⟨h1,h2,h3,h4⟩:=zus s h
 rw [zt,zlt h2 h3 64 h1,zt]
 congr 1
 exact List.filter_congr fun i _=>(h4 i).symm
theorem zdK:zt 0#64=[]:=by decide
abbrev zer (s:BitVec 64):List (List D):=(zt s).map fun (i:Nat)=>[D.int .i64 (i:Int)]
def za0 (T:Nat→Obj→Prop):Prop := ∀ x:BitVec 64,Fn Tryz.prog T zaS [.d (.u64 x)] [] (.d (.int .i64 (Lib.ctz 64 x.toNat))) []
theorem ziG (hT:za0 T) (s:BitVec 64):It Tryz.prog T zce [.ptr 0 0] [.box [.d (.u64 s)]] (zer s):=by
 refine zqG zx zkU rfl (by show 2≤14;decide) fun l=>?_
 (repeat' ((conv=>whnf);refine vT ?_));all_goals try conv=>whnf
 refine zq (fun (s':BitVec 64)=>[(0,.yld l),(1,.ptr 0 0)]) (fun (s':BitVec 64)=>[(0,some (.box [.d (.u64 s')])),(1,some (.todo (some (zer s'))))]) 2 (fun (s':BitVec 64)=>True) (fun (s':BitVec 64)=>(zt s').length) (s) [(0,0),(1,1)] [] (trivial) (by (refine ⟨rfl,rfl,rfl,?_,?_⟩;repeat' first|exact trivial|exact rfl|refine And.intro ?_ ?_|refine ⟨_,rfl,?_⟩|decide)) ?_
 rintro s' -
 (repeat' ((conv=>whnf);first|refine vA ?_|(refine vD ?_ ?_<;>intro hc)|refine vT ?_|refine yD (hT _) (by (repeat refine ⟨⟨rfl,rfl⟩,?_⟩);rfl) rfl ?_));all_goals try conv=>whnf
 ·have hd:zer s'=[D.int .i64 (Lib.ctz 64 s'.toNat:Int)]::zer (s'&&&(s' - 1#64)):=by
   rw [zer,zdJ s' hc];rfl
  refine ⟨rfl,[.int .i64 (Lib.ctz 64 s'.toNat)],zer (s'&&&(s' - 1#64)),congrArg (fun l=>some (Ob.todo (some l))) hd,rfl,rfl,rfl,?_,?_⟩
  ·(repeat' ((conv=>whnf);first|refine vE ?_|refine vG ?_|refine vT ?_));all_goals try conv=>whnf
   refine ⟨s'&&&(s' - 1#64),[(0,0),(1,1)],[],trivial,?_,⟨rfl,rfl,rfl,by (repeat' first|exact trivial|exact rfl|refine And.intro ?_ ?_|refine ⟨_,rfl,?_⟩),by (repeat' first|exact trivial|exact rfl|refine And.intro ?_ ?_|refine ⟨_,rfl,?_⟩|decide)⟩⟩
   show (zt (s'&&&(s' - 1#64))).length < (zt s').length
   rw [zdJ s' hc];simp
  ·(repeat' ((conv=>whnf);first|refine vE ?_|refine vH ?_|refine vT ?_));all_goals try conv=>whnf
   right;rfl
 ·left
  have:s'=0#64:=hc
  subst this
  exact congrArg (fun l:List Nat=>some (Ob.todo (some (l.map fun (i:Nat)=>[D.int .i64 (i:Int)])))) zdK
theorem zlA (s:BitVec 64):Fn Tryz.prog T zhc [.d (.u64 s)] [] (.fn zce [.ptr 0 0]) [some (.box [.d (.u64 s)])]:=by
 refine zat zx zm4 (by show 1≤4;decide) _ (fun e env mem n h=>h) ?_
 (repeat' ((conv=>whnf);refine vT ?_));all_goals try conv=>whnf
 exact ⟨trivial,_,[(0,0)],[],rfl,.inl (by (repeat' first|exact rfl|refine And.intro ?_ ?_|refine ⟨_,rfl,?_⟩)),⟨rfl,rfl,rfl,trivial,by (repeat' first|exact trivial|exact rfl|refine And.intro ?_ ?_|refine ⟨_,rfl,?_⟩|exact of_decide_eq_true rfl)⟩,trivial⟩
def zcr (r:List (BitVec 64)) (l:List Nat):BitVec 64:=l.foldl (fun o w=>o|||r.getD w 0#64) 0#64
theorem zfh {s:BitVec 64} {i:Nat} {x:List D} (h:(zer s)[i]? = some x) : ∃ w:Nat,(zt s)[i]? = some w∧x=[.int .i64 (w:Int)]∧s.getLsbD w=true∧w < 64:=by
 rw [List.getElem?_map,Option.map_eq_some_iff] at h
 obtain ⟨w,hw,rfl⟩:=h
 have:=List.mem_filter.1 (List.mem_of_getElem? hw)
 exact ⟨w,hw,rfl,this.2,List.mem_range.1 this.1⟩
theorem zme {r:List (BitVec 64)} {l:List Nat} {i w:Nat} (h:l[i]? = some w):zcr r (l.take (i+1))=zcr r (l.take i)|||r.getD w 0#64:=by
 rw [List.take_add_one,h];simp [zcr]
theorem zwl (hT:za0 T) (r:List (BitVec 64)) (s:BitVec 64) (hs : ∀ i,s.getLsbD i=true→i < r.length):Fn Tryz.prog T zhb [.d (dU r),.d (.u64 s)] [] (.d (.u64 (zcr r (zt s)))) []:=by
 refine zg zx zm3 (by show 2≤17;decide) ?_
 (repeat' ((conv=>whnf);first|refine vA ?_|refine vT ?_));all_goals try conv=>whnf
 refine zaa.res (zlA s) (by (repeat refine ⟨⟨rfl,rfl⟩,?_⟩);rfl) ?_
 (repeat' ((conv=>whnf);refine vT ?_));all_goals try conv=>whnf
 refine zfn (ziG hT s) [2] [] (by first|((repeat refine ⟨⟨rfl,rfl⟩,?_⟩);rfl)|(repeat' first|exact rfl|refine And.intro ?_ ?_|refine ⟨_,rfl,?_⟩)) (by (repeat' first|exact rfl|refine And.intro ?_ ?_|refine ⟨_,rfl,?_⟩)) (by rfl) (by rfl) [(2,.ptr 0 0),(5,.ptr 1 0)] (fun (o:BitVec 64)=>[(0,some (.box [.d (dU r)])),(1,some (.box [.d (.u64 o)]))]) 2 (fun i (o:BitVec 64)=>o=zcr r ((zt s).take i)) (0#64) [(0,0),(1,1)] [] (rfl) (by (refine ⟨rfl,rfl,rfl,?_,?_⟩;repeat' first|exact trivial|exact rfl|refine And.intro ?_ ?_|refine ⟨_,rfl,?_⟩|decide)) ?_ ?_
 ·intro i x o hx ho
  obtain ⟨w,hw,rfl,hsw,hw64⟩:=zfh hx
  have hwr:=hs w hsw
  refine ⟨rfl,?_⟩
  (repeat' ((conv=>whnf);first|refine vT ?_|(refine vQ ?_ fun x hx=>?_;·omega)|(refine vU ?_ ?_;·kernel_rfl)|fail));all_goals try conv=>whnf
  exact ⟨o|||x,[(0,0),(1,1)],[],by rw [ho,zme hw];simp [List.getD,hx],by (refine ⟨rfl,rfl,rfl,?_,?_⟩;repeat' first|exact trivial|exact rfl|refine And.intro ?_ ?_|refine ⟨_,rfl,?_⟩|decide)⟩
 ·intro o ho
  (repeat' ((conv=>whnf);first|refine vT ?_|refine vY ?_));all_goals try conv=>whnf
  rw [ho,List.length_map,List.take_length]
def rb (r:List (BitVec 64)) (w v:Nat):Bool:=(r.getD w 0#64).getLsbD v
theorem zbp {r:List (BitVec 64)} {w:Nat} {s:BitVec 64} (h:r[w]? = some s) (v:Nat):rb r w v=s.getLsbD v:=by simp [rb,List.getD,h]
theorem zjA {r:List (BitVec 64)} {w v:Nat} (h:r.length≤w):rb r w v=false:=by simp [rb,List.getD,h]
def ziN (r:List (BitVec 64)):Prop := ∀ w v,rb r w v=true→v < r.length
def zl5 (r:List (BitVec 64)):List (BitVec 64):=(List.range r.length).map fun v=>zaA (fun w=>rb r w v) r.length
theorem zbe {s:BitVec 64} {v:Nat} : v∈zt s↔s.getLsbD v=true:=by
 rw [zt,List.mem_filter,List.mem_range]
 constructor
 ·exact fun h=>h.2
 ·exact fun h=>⟨BitVec.lt_of_getLsbD h,h⟩
theorem zyP {l:List Nat} {i v k:Nat} {f:Nat→BitVec 64} (h:l[i]? = some v) (hl:l.Nodup) (u:Nat) :
  (if u=v then (f v|||if v∈l.take i then 1#64 <<< k else 0#64)|||1#64 <<< k else f u|||if u∈l.take i then 1#64 <<< k else 0#64)=f u|||if u∈l.take (i+1) then 1#64 <<< k else 0#64:=by
 rw [List.take_add_one,h]
 by_cases e:u=v
 ·subst e
  simp
  split<;>simp [BitVec.or_assoc]
 ·simp [e]
theorem zlU (s:BitVec 64):(zt s).Nodup:=List.nodup_range.filter _
theorem ztQ (hT:za0 T) (r:List (BitVec 64)) (hi:ziN r) (hl:r.length≤64):Fn Tryz.prog T zf0 [.d (dU r)] [] (.d (dU (zl5 r))) []:=by
 refine zg zx zkV (by show 1≤30;decide) ?_
 (repeat' ((conv=>whnf);first|refine vA ?_|refine vJ fun hg=>?_|refine vT ?_|(refine vP ?_ ?_;·(simp only [vM] at *;omega))|fail));all_goals try conv=>whnf
 refine zq (fun ((k,xs):Nat×List D)=>[(3,.ptr 0 0),(10,.d (dU r)),(11,.d (.int .i64 ((r.map D.u64).length:Int))),(12,.d (.int .i64 ((k:Int))))]) (fun ((k,xs):Nat×List D)=>[(0,some (.box [.own 1])),(1,some (.row 1 xs))]) 2 (fun ((k,xs):Nat×List D)=>k≤r.length∧xs=(List.range r.length).map fun v=>D.u64 (zaA (fun w=>rb r w v) k)) (fun ((k,xs):Nat×List D)=>r.length - k) ((0,List.replicate ((r.map D.u64).length:Int).toNat (D.u64 0#64))) [(0,1),(1,0)] [] (⟨by simp,by simp only [List.length_map,Int.toNat_natCast];exact zad _ _⟩) (by (refine ⟨rfl,rfl,rfl,?_,?_⟩;repeat' first|exact trivial|exact rfl|refine And.intro ?_ ?_|refine ⟨_,rfl,?_⟩|decide)) ?_
 rintro ⟨k,_⟩ ⟨hk,rfl⟩
 (repeat' ((conv=>whnf);first|refine vA ?_|(refine vF ?_ ?_<;>intro hc<;>try simp only [vL] at hc)|refine vT ?_|(refine vQ ?_ fun x hx=>?_;·omega)|fail));all_goals try conv=>whnf
 ·refine zaa.res (zlA x) (by (repeat refine ⟨⟨rfl,rfl⟩,?_⟩);rfl) ?_
  (repeat' ((conv=>whnf);refine vT ?_));all_goals try conv=>whnf
  refine zfn (ziG hT x) [3] [] (by first|((repeat refine ⟨⟨rfl,rfl⟩,?_⟩);rfl)|(repeat' first|exact rfl|refine And.intro ?_ ?_|refine ⟨_,rfl,?_⟩)) (by (repeat' first|exact rfl|refine And.intro ?_ ?_|refine ⟨_,rfl,?_⟩)) (by rfl) (by rfl) [(3,.ptr 0 0),(4,.ptr 2 0),(10,.d (dU r)),(11,.d (.int .i64 ((r.map D.u64).length:Int))),(12,.d (.int .i64 ((k:Int))))] (fun (ys:List D)=>[(0,some (.box [.own 1])),(1,some (.row 1 ys)),(2,some (.box [.d (.int .i64 (k:Int))]))]) 3 (fun i (ys:List D)=>ys=(List.range r.length).map fun v=>D.u64 (zaA (fun w=>rb r w v) k|||if v∈(zt x).take i then 1#64 <<< k else 0#64)) ((List.range r.length).map fun v=>D.u64 (zaA (fun w=>rb r w v) k)) [(0,0),(1,1),(2,2)] [] (zD fun v hv=>by simp) (by (refine ⟨rfl,rfl,rfl,?_,?_⟩;repeat' first|exact trivial|exact rfl|refine And.intro ?_ ?_|refine ⟨_,rfl,?_⟩|decide)) ?_ ?_
  ·intro i y _ hy rfl
   obtain ⟨v,hv,rfl,hxv,hv64⟩:=zfh hy
   have hvr:v < r.length:=hi k v (by rw [zbp hx];exact hxv)
   refine ⟨rfl,?_⟩
   (repeat' ((conv=>whnf);first|refine vT ?_|(refine vQ ?_ fun x hx=>?_;·(simp only [vM] at *;omega))|(refine vP ?_ ?_;·first|omega|(simp only [vM] at *;omega))|(refine vU ?_ ?_;·kernel_rfl)|fail));all_goals try conv=>whnf
   have hxe:=zwt hx
   subst hxe
   refine ⟨_,[(0,0),(1,1),(2,2)],[],?_,by (refine ⟨rfl,rfl,rfl,?_,?_⟩;repeat' first|exact trivial|exact rfl|refine And.intro ?_ ?_|refine ⟨_,rfl,?_⟩|decide)⟩
   refine (zdj _).trans (zD fun u hu=>?_)
   have:=zyP (k:=k) (f:=fun v=>zaA (fun w=>rb r w v) k) hv (zlU _) u
   show (if u=x then D.u64 _ else D.u64 _)=_
   by_cases e:u=x
   ·subst e;simpa using this
   ·simpa [e] using this
  ·rintro _ rfl
   (repeat' ((conv=>whnf);first|refine vT ?_|(refine vO ?_ ?_;·omega)|fail));all_goals try conv=>whnf
   refine ⟨(k+1,_),[(0,0),(1,1)],[],?_,?_,by (refine ⟨rfl,rfl,rfl,?_,?_⟩;repeat' first|exact trivial|exact rfl|refine And.intro ?_ ?_|refine ⟨_,rfl,?_⟩|decide)⟩
   ·refine ⟨by (omega),zD fun v hv=>?_⟩
    rw [List.length_map,List.take_length,zaA]
    simp only [zbe,zbp hx]
    split<;>simp
   ·((simp only [vM] at *;omega))
 ·have e0:k=r.length:=by (omega)
  subst e0
  refine congrArg some (congrArg (D.arr 1) ?_)
  rw [zl5,List.map_map];rfl
def zdW {α:Type} (p:α→Bool) (l:List α):Int:=if l.findIdx p < l.length then (l.findIdx p:Int) else -1
theorem zea {α:Type} {p:α→Bool} {l:List α} {k:Nat} {x:α} (h:l[k]? = some x) (hp:p x=true) (hI : ∀ i y,i < k→l[i]? = some y→p y=false):zdW p l=k:=by
 obtain ⟨hk,rfl⟩:=List.getElem?_eq_some_iff.1 h
 have:l.findIdx p=k:=by
  rw [List.findIdx_eq hk]
  exact ⟨hp,fun j hj=>by simpa using hI j l[j] hj (List.getElem?_eq_getElem (by omega))⟩
 rw [zdW,this,if_pos hk]
theorem zfJ {α:Type} {p:α→Bool} {l:List α} (hI : ∀ i y,i < l.length→l[i]? = some y→p y=false):zdW p l = -1:=by
 rw [zdW,if_neg]
 intro h
 have h1:=List.findIdx_getElem (p:=p) (xs:=l) (w:=h)
 rw [hI _ _ h (List.getElem?_eq_getElem h)] at h1;cases h1
theorem zlv {α:Type} {p:α→Bool} {l:List α} : 0≤zdW p l ↔ ∃ x∈l,p x=true:=by
 rw [zdW,← List.findIdx_lt_length]
 split<;>omega
theorem zsn (l:List (BitVec 64)) (x:BitVec 64):Fn Tryz.prog T zcC [.d (dU l),.d (.u64 x)] [] (.d (.int .i64 (zdW (fun y=>x==y) l))) []:=by
 refine zg zx zfN (by show 2≤19;decide) ?_
 (repeat' ((conv=>whnf);first|refine vA ?_|refine vJ fun hg=>?_|refine vT ?_));all_goals try conv=>whnf
 refine zah (fun (k:Nat)=>[(0,.d (dU l)),(1,.d (.u64 (x))),(7,.d (.int .i64 ((l.map D.u64).length:Int))),(8,.d (.int .i64 ((k:Int))))]) (fun (k:Nat)=>k≤l.length ∧ ∀ i y,i < k→l[i]? = some y→(x==y)=false) (fun (k:Nat)=>l.length - k) (0) (⟨by simp,by simp⟩) (by (repeat' first|exact trivial|exact rfl|refine And.intro ?_ ?_)) ?_
 rintro k ⟨hk,hI⟩
 (repeat' ((conv=>whnf);first|refine vA ?_|(refine vF ?_ ?_<;>intro hc<;>try simp only [vL] at hc)|refine vT ?_|(refine vQ ?_ fun x hx=>?_;·omega)|(refine vO ?_ ?_;·omega)|refine vX ?_));all_goals try conv=>whnf
 ·exact (zea hx (by simpa using hc) hI).symm
 ·have hne:=hc
  exact ⟨k+1,[],[],⟨by (omega),fun i y hi hy=>by
   by_cases e:i=k
   ·subst e;rw [hx] at hy;cases hy;simpa using hne
   ·exact hI i y (by omega) hy⟩,by (omega),by (refine ⟨rfl,rfl,rfl,?_,?_⟩;repeat' first|exact trivial|exact rfl|refine And.intro ?_ ?_)⟩
 ·exact (zfJ fun i y hi hy=>hI i y (by omega) hy).symm
theorem zhN (l:List Int) (x:Int):Fn Tryz.prog T zd9 [.d (dI l),.d (.int .i64 x)] [] (.d (.int .i64 (zdW (fun y=>x==y) l))) []:=by
 refine zg zx zhW (by show 2≤19;decide) ?_
 (repeat' ((conv=>whnf);first|refine vA ?_|refine vJ fun hg=>?_|refine vT ?_));all_goals try conv=>whnf
 refine zah (fun (k:Nat)=>[(0,.d (dI l)),(1,.d (.int .i64 (x))),(7,.d (.int .i64 ((l.map (D.int .i64)).length:Int))),(8,.d (.int .i64 ((k:Int))))]) (fun (k:Nat)=>k≤l.length ∧ ∀ i y,i < k→l[i]? = some y→(x==y)=false) (fun (k:Nat)=>l.length - k) (0) (⟨by simp,by simp⟩) (by (repeat' first|exact trivial|exact rfl|refine And.intro ?_ ?_)) ?_
 rintro k ⟨hk,hI⟩
 (repeat' ((conv=>whnf);first|refine vA ?_|(refine vF ?_ ?_<;>intro hc<;>try simp only [vL] at hc)|refine vT ?_|(refine vQ ?_ fun x hx=>?_;·omega)|(refine vO ?_ ?_;·omega)|refine vX ?_));all_goals try conv=>whnf
 ·exact (zea hx (by simpa using hc) hI).symm
 ·have hne:=hc
  exact ⟨k+1,[],[],⟨by (omega),fun i y hi hy=>by
   by_cases e:i=k
   ·subst e;rw [hx] at hy;cases hy;simpa using hne
   ·exact hI i y (by omega) hy⟩,by (omega),by (refine ⟨rfl,rfl,rfl,?_,?_⟩;repeat' first|exact trivial|exact rfl|refine And.intro ?_ ?_)⟩
 ·exact (zfJ fun i y hi hy=>hI i y (by omega) hy).symm
theorem zoT (l:List (BitVec 64)) (x:BitVec 64):Fn Tryz.prog T zbX [.d (dU l),.d (.u64 x)] [] (.d (.bool (decide (x∈l)))) []:=by
 refine zg zx zeU (by show 2≤9;decide) ?_
 (repeat' ((conv=>whnf);first|refine vT ?_|refine vZ ?_|refine yD (zsn _ _) ⟨⟨rfl,rfl⟩,⟨rfl,rfl⟩,rfl⟩ rfl ?_));all_goals try conv=>whnf
 rw [decide_eq_decide,zlv]
 simp
def zbg (r:List (BitVec 64)):Int:=if 64 < r.length then 2 else if r.any (bad r.length) then 1 else 0
theorem znl (r:List (BitVec 64)):Fn Tryz.prog T ze6 [.d (.int .i64 ((r.map D.u64).length:Int)),.d (dU r)] [] (.d (.int .i64 (zbg r))) []:=by
 have h:=zmS (T:=T) (r.length:Int) r
 have e:zbg r=if (r.length:Int) < 0∨(64:Int) < (r.length:Int) then 2 else if (r.length:Int)≠(r.length:Int) then 3 else if r.any (bad (r.length:Int)) then 1 else 0:=by
  unfold zbg
  by_cases h1:64 < r.length
  ·rw [if_pos h1,if_pos (.inr (Int.ofNat_lt.2 h1))]
  ·rw [if_neg h1,if_neg (show ¬((r.length:Int) < 0∨(64:Int) < (r.length:Int)) by omega),if_neg (show ¬((r.length:Int)≠(r.length:Int)) by simp)]
 rw [List.length_map,e];exact h
theorem zk4 {n:Int} {s:BitVec 64} (h:0≤n):bad n s=false ↔ ∀ i,s.getLsbD i=true→(i:Int) < n:=by
 rw [bad,decide_eq_false_iff_not,Classical.not_not]
 constructor
 ·intro e i hi
  have hlt:=BitVec.lt_of_getLsbD hi
  have:=congrArg (fun x=>x.getLsbD i) e
  simp only [BitVec.getLsbD_and,BitVec.getLsbD_not,hlt,decide_true,Bool.true_and,hi,zrJ h hlt] at this
  simpa using this
 ·intro hs
  apply BitVec.eq_of_getLsbD_eq
  intro i hi
  rw [BitVec.getLsbD_and,BitVec.getLsbD_not,zrJ h hi]
  cases hb:s.getLsbD i with
  | false=>simp
  | true=>have:=hs i hb;simp [hi,this]
theorem zeV {r:List (BitVec 64)} : zbg r=0↔r.length≤64∧ziN r:=by
 unfold zbg
 by_cases h1:64 < r.length
 ·rw [if_pos h1];simp;omega
 ·rw [if_neg h1]
  have:(r.any (bad r.length)=false)↔ziN r:=by
   rw [List.any_eq_false]
   constructor
   ·intro h w v hv
    by_cases hw:w < r.length
    ·have:=(zk4 (n:=(r.length:Int)) (by omega)).1 (by simpa using h r[w] (List.getElem_mem hw)) v (by rw [← zbp (List.getElem?_eq_getElem hw)];exact hv)
     omega
    ·rw [zjA (by omega)] at hv;cases hv
   ·intro h s hs
    obtain ⟨w,hw⟩:=List.getElem?_of_mem hs
    rw [(zk4 (n:=(r.length:Int)) (by omega)).2 (fun i hi=>by have:=h w i (by rw [zbp hw];exact hi);omega)]
    simp
  cases hb:r.any (bad r.length) with
  | true =>
   rw [if_pos rfl]
   have : ¬ ziN r:=fun h=>by have:=this.2 h;rw [hb] at this;cases this
   simp [this]
  | false =>
   simp only [Bool.false_eq_true,if_false,true_iff]
   exact ⟨by omega,this.1 hb⟩
theorem zgC {r:List (BitVec 64)} {v:Nat} : ∀ {l:List Nat},(zcr r l).getLsbD v=true ↔ ∃ u∈l,rb r u v=true:=by
 have key : ∀ (l:List Nat) (o:BitVec 64),(l.foldl (fun o w=>o|||r.getD w 0#64) o).getLsbD v=true↔o.getLsbD v=true ∨ ∃ u∈l,rb r u v=true:=by
  intro l
  induction l with
  | nil=>intro o;simp
  | cons u l ih =>
   intro o
   rw [List.foldl_cons,ih,BitVec.getLsbD_or,Bool.or_eq_true]
   constructor
   ·rintro ((h|h)|⟨w,h1,h2⟩)
    ·exact .inl h
    ·exact .inr ⟨u,by simp,h⟩
    ·exact .inr ⟨w,by simp [h1],h2⟩
   ·rintro (h|⟨w,h1,h2⟩)
    ·exact .inl (.inl h)
    ·rcases List.mem_cons.1 h1 with rfl|h1
     ·exact .inl (.inr h2)
     ·exact .inr ⟨w,h1,h2⟩
 intro l
 rw [zcr,key];simp
theorem zgs {x y:BitVec 64} : x &&& ~~~y=0#64 ↔ ∀ i,x.getLsbD i=true→y.getLsbD i=true:=by
 constructor
 ·intro e i hi
  have hlt:=BitVec.lt_of_getLsbD hi
  have:=congrArg (fun x=>x.getLsbD i) e
  simp only [BitVec.getLsbD_and,BitVec.getLsbD_not,hlt,decide_true,Bool.true_and,hi] at this
  simpa using this
 ·intro h
  apply BitVec.eq_of_getLsbD_eq
  intro i hi
  rw [BitVec.getLsbD_and,BitVec.getLsbD_not]
  cases hb:x.getLsbD i with
  | false=>simp
  | true=>simp [hi,h i hb]
theorem zta {r:List (BitVec 64)} (hl:r.length≤64) {v w:Nat} : rb (zl5 r) v w=(decide (v < r.length)&&decide (w < r.length)&&rb r w v):=by
 by_cases hv:v < r.length
 ·have:(zl5 r)[v]? = some (zaA (fun w=>rb r w v) r.length):=by simp [zl5,hv]
  rw [zbp this,zmb]
  by_cases hw:w < r.length
  ·simp [hv,hw,show w < 64 by omega]
  ·simp [hw]
 ·rw [zjA (by simp [zl5];omega)];simp [hv]
theorem zAm {r s:List (BitVec 64)} (hl:r.length=s.length) (h : ∀ w v,w < r.length→rb r w v=rb s w v):r=s:=by
 refine List.ext_getElem hl fun w h1 h2=>?_
 apply BitVec.eq_of_getLsbD_eq
 intro i _
 have:=h w i h1
 rwa [zbp (List.getElem?_eq_getElem h1),zbp (List.getElem?_eq_getElem h2)] at this
def zuS (r:List (BitVec 64)) (p:Int):Prop:=zbg r=0 ∧
 ((p=1 ∧ ∀ w,w < r.length → ∃ v,rb r w v=true)∨(p=2 ∧ ∀ w,w < r.length→rb r w w=true)∨(p=3 ∧ ∀ w v,rb r w v=true→rb r v w=true) ∨
  (p=4 ∧ ∀ w u v,rb r w u=true→rb r u v=true→rb r w v=true)∨(p=5 ∧ ∀ w u v,rb r w u=true→rb r w v=true→rb r u v=true))
noncomputable def zj5 (r:List (BitVec 64)) (p:Int):Bool := @decide (zuS r p) (Classical.propDecidable _)
theorem zhR {r:List (BitVec 64)} {p:Int} : zj5 r p=true↔zuS r p:=by simp [zj5]
theorem zhr {r:List (BitVec 64)} {p:Int} : zj5 r p=false ↔ ¬zuS r p:=by simp [zj5]
theorem zzf {s:BitVec 64} : s=0#64 ↔ ∀ i,s.getLsbD i=false:=by
 constructor
 ·rintro rfl i;simp
 ·intro h;apply BitVec.eq_of_getLsbD_eq;intro i _;rw [h i];simp
theorem zAD {r:List (BitVec 64)} (hl:r.length≤64) (hi:ziN r):r=zl5 r ↔ ∀ w v,rb r w v=true→rb r v w=true:=by
 constructor
 ·intro e w v h
  rw [e,zta hl] at h
  simp only [Bool.and_eq_true] at h
  exact h.2
 ·intro h
  refine zAm (by simp [zl5]) fun w v hw=>?_
  rw [zta hl,Bool.eq_iff_iff]
  simp only [Bool.and_eq_true,decide_eq_true_eq]
  constructor
  ·intro hb;exact ⟨⟨hw,hi _ _ hb⟩,h _ _ hb⟩
  ·rintro ⟨_,hb⟩;exact h _ _ hb
theorem zzE {s:BitVec 64} {k:Nat} : s >>> (k:Int).toNat&&&1#64=0#64↔s.getLsbD k=false:=zhD s k
theorem zAV (hT:za0 T) (r:List (BitVec 64)) (p:Int):Fn Tryz.prog T zi4 [.d (dU r),.d (.int .i64 p)] [] (.d (.bool (zj5 r p))) []:=by
 refine zg zx zp2 (by show 2≤86;decide) ?_
 (repeat' ((conv=>whnf);first|refine vA ?_|refine vJ fun hg=>?_|refine vT ?_));all_goals try conv=>whnf
 refine zaa.data (znl r) (by (repeat refine ⟨⟨rfl,rfl⟩,?_⟩);rfl) rfl ?_
 (repeat' ((conv=>whnf);first|refine vA ?_|((first|refine vD ?_ ?_|refine vF ?_ ?_)<;>intro hc)|refine vJ fun hg=>?_|refine vT ?_|refine vZ ?_|refine yD (zoT _ _) ⟨⟨rfl,rfl⟩,⟨rfl,rfl⟩,rfl⟩ rfl ?_));all_goals try conv=>whnf
 ·symm;rw [zhr];exact fun h=>hc h.1
 ·have h0:=‹zbg r=0›
  rw [Bool.eq_iff_iff,zhR]
  simp only [Bool.not_eq_true',decide_eq_false_iff_not]
  constructor
  ·intro h
   refine ⟨h0,.inl ⟨hc,fun w hw=>?_⟩⟩
   apply Classical.byContradiction
   intro hn
   refine h ?_
   have:r[w]=0#64:=zzf.2 fun i=>by
    cases hb:r[w].getLsbD i with
    | false=>rfl
    | true=>exact absurd ⟨i,by rw [zbp (List.getElem?_eq_getElem hw)];exact hb⟩ hn
   show (0#64:BitVec 64)∈r
   rw [← this];exact List.getElem_mem hw
  ·rintro ⟨_,⟨_,h⟩|⟨e,_⟩|⟨e,_⟩|⟨e,_⟩|⟨e,_⟩⟩ hm
   ·obtain ⟨w,hw⟩:=List.getElem?_of_mem hm
    obtain ⟨v,hv⟩:=h w (List.getElem?_eq_some_iff.1 hw).1
    rw [zbp hw] at hv;simp at hv
   all_goals omega
 ·have h0:=‹zbg r=0›
  refine zq (fun (k:Nat)=>[(2,.ptr 0 0),(4,.ptr 1 0),(23,.d (.int .i64 ((r.map D.u64).length:Int))),(24,.d (.int .i64 ((k:Int))))]) (fun (k:Nat)=>[(0,some (.box [.d (dU r)])),(1,some (.box [.bf]))]) 2 (fun (k:Nat)=>k≤r.length ∧ ∀ w,w < k→rb r w w=true) (fun (k:Nat)=>r.length - k) (0) [(0,0),(1,1)] [] (⟨by simp,by simp⟩) (by (refine ⟨rfl,rfl,rfl,?_,?_⟩;repeat' first|exact trivial|exact rfl|refine And.intro ?_ ?_|refine ⟨_,rfl,?_⟩|decide)) ?_
  rintro k ⟨hk,hI⟩
  (repeat' ((conv=>whnf);first|refine vA ?_|(refine vF ?_ ?_<;>intro hc<;>try simp only [vL] at hc)|refine vT ?_|(refine vQ ?_ fun x hx=>?_;·omega)|((first|refine vO ?_ ?_|refine vP ?_ ?_);·omega)|refine vZ ?_));all_goals try conv=>whnf
  ·symm;rw [zhr]
   have hb:=zzE.1 hc
   rintro ⟨_,⟨e,_⟩|⟨_,h⟩|⟨e,_⟩|⟨e,_⟩|⟨e,_⟩⟩
   ·omega
   ·have:=h k (by omega)
    rw [zbp hx,hb] at this;cases this
   all_goals omega
  ·have hb:x.getLsbD k=true:=zxS hc
   exact ⟨k+1,[(0,0),(1,1)],[],⟨by (omega),fun w hw=>by
    by_cases e:w=k
    ·subst e;rw [zbp hx];exact hb
    ·exact hI w (by omega)⟩,by (omega),by (refine ⟨rfl,rfl,rfl,?_,?_⟩;repeat' first|exact trivial|exact rfl|refine And.intro ?_ ?_|refine ⟨_,rfl,?_⟩|decide)⟩
  ·symm;rw [zhR]
   exact ⟨h0,.inr (.inl ⟨by omega,fun w hw=>hI w (by omega)⟩)⟩
 ·have h0:=‹zbg r=0›
  have h1:=zeV.1 h0
  refine zaa.dataN (ztQ hT r h1.2 h1.1) (by (repeat refine ⟨⟨rfl,rfl⟩,?_⟩);rfl) ?_
  (repeat' ((conv=>whnf);first|refine vT ?_|(refine vU ?_ ?_;·kernel_rfl)|refine vZ ?_|refine yD (zsl _ _) ⟨⟨rfl,rfl⟩,⟨rfl,rfl⟩,rfl⟩ rfl ?_));all_goals try conv=>whnf
  rw [Bool.eq_iff_iff,zhR,beq_iff_eq,zAD h1.1 h1.2]
  constructor
  ·exact fun h=>⟨h0,.inr (.inr (.inl ⟨by omega,h⟩))⟩
  ·rintro ⟨_,⟨e,_⟩|⟨e,_⟩|⟨_,h⟩|⟨e,_⟩|⟨e,_⟩⟩
   ·omega
   ·omega
   ·exact h
   all_goals omega
 ·have h0:=‹zbg r=0›
  have h1:=zeV.1 h0
  refine zq (fun (k:Nat)=>[(2,.ptr 0 0),(4,.ptr 1 0),(45,.d (.int .i64 ((r.map D.u64).length:Int))),(46,.d (.int .i64 ((k:Int))))]) (fun (k:Nat)=>[(0,some (.box [.d (dU r)])),(1,some (.box [.bf]))]) 2 (fun (k:Nat)=>k≤r.length ∧ ∀ w,w < k → ∀ u v,rb r w u=true→rb r u v=true→rb r w v=true) (fun (k:Nat)=>r.length - k) (0) [(0,0),(1,1)] [] (⟨by simp,by simp⟩) (by (refine ⟨rfl,rfl,rfl,?_,?_⟩;repeat' first|exact trivial|exact rfl|refine And.intro ?_ ?_|refine ⟨_,rfl,?_⟩|decide)) ?_
  rintro k ⟨hk,hI⟩
  (repeat' ((conv=>whnf);first|refine vA ?_|(refine vF ?_ ?_<;>intro hc<;>try simp only [vL] at hc)|refine vT ?_|(refine vQ ?_ fun x hx=>?_;·omega)|refine vZ ?_));all_goals try conv=>whnf
  ·refine zaa.data (zwl hT r x (fun i hi=>h1.2 k i (by rw [zbp hx];exact hi))) (by (repeat refine ⟨⟨rfl,rfl⟩,?_⟩);rfl) rfl ?_
   (repeat' ((conv=>whnf);first|(refine vD ?_ ?_<;>intro hc)|refine vT ?_|refine vN ‹_› ?_|(refine vO ?_ ?_;·omega)|(refine vU ?_ ?_;·kernel_rfl)|refine vZ ?_));all_goals try conv=>whnf
   ·symm;rw [zhr]
    have hn:=mt zgs.2 hc
    rintro ⟨_,⟨e,_⟩|⟨e,_⟩|⟨e,_⟩|⟨_,h⟩|⟨e,_⟩⟩
    all_goals try omega
    refine hn fun v hv=>?_
    obtain ⟨u,h2,h3⟩:=zgC.1 hv
    rw [zbe] at h2
    rw [← zbp hx]
    exact h k u v (by rw [zbp hx];exact h2) h3
   ·have hn:=zgs.1 hc
    exact ⟨k+1,[(0,0),(1,1)],[],⟨by (omega),fun w hw u v h2 h3=>by
     by_cases e:w=k
     ·subst e
      rw [zbp hx] at h2 ⊢
      exact hn v (zgC.2 ⟨u,zbe.2 h2,h3⟩)
     ·exact hI w (by omega) u v h2 h3⟩,by (omega),by (refine ⟨rfl,rfl,rfl,?_,?_⟩;repeat' first|exact trivial|exact rfl|refine And.intro ?_ ?_|refine ⟨_,rfl,?_⟩|decide)⟩
  ·symm;rw [zhR]
   exact ⟨h0,.inr (.inr (.inr (.inl ⟨by omega,fun w u v h2 h3=>by
    by_cases hw:w < k
    ·exact hI w hw u v h2 h3
    ·rw [zjA (by omega)] at h2;cases h2⟩)))⟩
 ·have h0:=‹zbg r=0›
  have h1:=zeV.1 h0
  refine zq (fun (k:Nat)=>[(2,.ptr 0 0),(4,.ptr 1 0),(65,.d (.int .i64 ((r.map D.u64).length:Int))),(66,.d (.int .i64 ((k:Int))))]) (fun (k:Nat)=>[(0,some (.box [.d (dU r)])),(1,some (.box [.bf]))]) 2 (fun (k:Nat)=>k≤r.length ∧ ∀ w,w < k → ∀ u v,rb r w u=true→rb r w v=true→rb r u v=true) (fun (k:Nat)=>r.length - k) (0) [(0,0),(1,1)] [] (⟨by simp,by simp⟩) (by (refine ⟨rfl,rfl,rfl,?_,?_⟩;repeat' first|exact trivial|exact rfl|refine And.intro ?_ ?_|refine ⟨_,rfl,?_⟩|decide)) ?_
  rintro k ⟨hk,hI⟩
  (repeat' ((conv=>whnf);first|refine vA ?_|(refine vF ?_ ?_<;>intro hc<;>try simp only [vL] at hc)|refine vT ?_|(refine vQ ?_ fun x hx=>?_;·omega)|refine vZ ?_));all_goals try conv=>whnf
  ·have e1:=zbp hx
   refine zaa.res (zlA x) (by (repeat refine ⟨⟨rfl,rfl⟩,?_⟩);rfl) ?_
   (repeat' ((conv=>whnf);refine vT ?_));all_goals try conv=>whnf
   refine zfn (ziG hT x) [3] [] (by first|((repeat refine ⟨⟨rfl,rfl⟩,?_⟩);rfl)|(repeat' first|exact rfl|refine And.intro ?_ ?_|refine ⟨_,rfl,?_⟩)) (by (repeat' first|exact rfl|refine And.intro ?_ ?_|refine ⟨_,rfl,?_⟩)) (by rfl) (by rfl) [(2,.ptr 0 0),(4,.ptr 1 0),(7,.ptr 2 0),(65,.d (.int .i64 ((r.map D.u64).length:Int))),(66,.d (.int .i64 ((k:Int))))] (fun (z:Unit)=>[(0,some (.box [.d (dU r)])),(1,some (.box [.bf])),(2,some (.box [.d (.int .i64 (k:Int))]))]) 3 (fun i (z:Unit) => ∀ u∈(zt x).take i,∀ v,x.getLsbD v=true→rb r u v=true) (()) [(0,0),(1,1),(2,2)] [] (by simp) (by (refine ⟨rfl,rfl,rfl,?_,?_⟩;repeat' first|exact trivial|exact rfl|refine And.intro ?_ ?_|refine ⟨_,rfl,?_⟩|decide)) ?_ ?_
   ·intro i y _ hy hJ
    obtain ⟨u,hu,rfl,hxu,hu64⟩:=zfh hy
    have hur:u < r.length:=h1.2 k u (by rw [zbp hx];exact hxu)
    refine ⟨rfl,?_⟩
    (repeat' ((conv=>whnf);first|refine vA ?_|(refine vD ?_ ?_<;>intro hc)|refine vT ?_|refine vN ‹_› ?_|(refine vQ ?_ fun x hx=>?_;·omega)|(refine vU ?_ ?_;·kernel_rfl)|refine vZ ?_));all_goals try conv=>whnf
    ·symm;rw [zhr]
     have hn:=mt zgs.2 hc
     rintro ⟨_,⟨e,_⟩|⟨e,_⟩|⟨e,_⟩|⟨e,_⟩|⟨_,h⟩⟩
     all_goals try omega
     refine hn fun v hv=>?_
     rw [← zbp hx]
     exact h k u v ((e1 u).trans hxu) ((e1 v).trans hv)
    ·have hn:=zgs.1 hc
     refine ⟨(),[(0,0),(1,1),(2,2)],[],?_,by (refine ⟨rfl,rfl,rfl,?_,?_⟩;repeat' first|exact trivial|exact rfl|refine And.intro ?_ ?_|refine ⟨_,rfl,?_⟩|decide)⟩
     rw [List.take_add_one,hu]
     intro w hw v hv
     rcases List.mem_append.1 hw with hw|hw
     ·exact hJ w hw v hv
     ·simp at hw
      subst hw
      exact (zbp hx v).trans (hn v hv)
   ·rintro _ hJ
    rw [List.length_map,List.take_length] at hJ
    (repeat' ((conv=>whnf);first|refine vT ?_|(refine vO ?_ ?_;·omega)|fail));all_goals try conv=>whnf
    exact ⟨k+1,[(0,0),(1,1)],[],⟨by (omega),fun w hw u v h2 h3=>by
     by_cases e:w=k
     ·subst e
      rw [zbp hx] at h2 h3
      exact hJ u (zbe.2 h2) v h3
     ·exact hI w (by omega) u v h2 h3⟩,by (omega),by (refine ⟨rfl,rfl,rfl,?_,?_⟩;repeat' first|exact trivial|exact rfl|refine And.intro ?_ ?_|refine ⟨_,rfl,?_⟩|decide)⟩
  ·symm;rw [zhR]
   exact ⟨h0,.inr (.inr (.inr (.inr ⟨by omega,fun w u v h2 h3=>by
    by_cases hw:w < k
    ·exact hI w hw u v h2 h3
    ·rw [zjA (by omega)] at h2;cases h2⟩)))⟩
 ·symm;rw [zhr]
  rintro ⟨_,⟨e,_⟩|⟨e,_⟩|⟨e,_⟩|⟨e,_⟩|⟨e,_⟩⟩<;>omega
end Go.Ab
namespace Go.Ab
open Go Go.Proofs
set_option maxRecDepth 10000
set_option maxHeartbeats 4000000
variable {T:Nat→Obj→Prop}
theorem zaa.objs {P:Program} {M:Nat→Option Ob} {n f:Nat} {vs lvs:List V} {obs:List Ob} {lv:V} {obs':List (Option Ob)} {K:V→Upd→Nat→Prop} (js:List Nat) (hf:Fn P T f lvs obs lv obs') (ha:VPasses M js [] 20 lvs vs)
  (ho:zaH M js [] obs js) (hnd:nodup js=true) (hsj:zeQ js (zM M vs)=true) (hle:js.length≤obs'.length)
  (hK:K (zko js n 20 lv) (zhe js [] n obs' false) (obs'.length - js.length)):zaa (zct P T) M n f vs K :=
 ⟨⟨_,_,_,⟨js,[],false,lvs,obs,lv,obs',hf,ha,ho,hnd,by simp [zdr],hsj,by simp [zeQ],hle,nofun,rfl,rfl,rfl⟩,hK⟩⟩
section
variable {α:Type} [Inhabited α]
theorem zbN {d:Array α} {i:Nat} (h:i < d.size):d.toList[i]? = some d[i]! := by
 simp [h]
theorem za2 {d:Array α} {i:Nat} {x:α} (h:d.toList[i]? = some x):d[i]! = x∧i < d.size:=by
 obtain ⟨h1,h2⟩:=List.getElem?_eq_some_iff.1 h
 rw [Array.length_toList] at h1
 exact ⟨by simp [h1];simpa using h2,h1⟩
theorem zuN {enc:α→D} {d:Array α} {i j:Nat} {x y:α} (hi:d.toList[i]? = some x) (hj:d.toList[j]? = some y):((d.toList.map enc).set i (enc y)).set j (enc x)=(Sort.swp d i j).toList.map enc:=by
 obtain ⟨e1,_⟩:=za2 hi
 obtain ⟨e2,_⟩:=za2 hj
 simp [Sort.swp,e1,e2,List.map_set]
theorem zgF {d:Array α} {i:Int} {x:α} (k:Nat) (h:d.toList[i.toNat]? = some x) (hk:i=k):d.toList[k]? = some x:=by subst hk;exact h
theorem ztp (d:Array α) (i j:Nat):(Sort.swp d i j).size=d.size:=by simp [Sort.swp]
variable {lt:α→α→Bool}
theorem zkG {a j:Nat} {d:Array α} (h : ¬(a < j∧lt d[j]! d[j - 1]! = true)):Sort.insInner lt a j d=d:=by
 cases j with
 | zero=>rfl
 | succ j =>
  unfold Sort.insInner
  rw [if_neg]
  simpa using h
theorem zkF {a j:Nat} {d:Array α} (h1:a < j) (h2:lt d[j]! d[j - 1]! = true):Sort.insInner lt a j d=Sort.insInner lt a (j - 1) (Sort.swp d j (j - 1)):=by
 cases j with
 | zero=>omega
 | succ j =>
  rw [Sort.insInner,if_pos]
  ·simp
  ·simp at h2 ⊢;exact ⟨by omega,h2⟩
end
end Go.Ab
namespace Go.Ab
open Go
def zW (e:Nat→Nat→Bool) (w:Nat):Nat:=((List.range w).find? fun v=>e v w).getD w
theorem zjo (e:Nat→Nat→Bool) (w:Nat):(zW e w < w∧e (zW e w) w=true∨zW e w=w) ∧ ∀ v,v < zW e w→e v w=false:=by
 unfold zW
 cases h:(List.range w).find? fun v=>e v w with
 | none =>
  refine ⟨.inr rfl,fun v hv=>?_⟩
  have:=List.find?_eq_none.1 h v (List.mem_range.2 hv)
  simpa using this
 | some u =>
  obtain ⟨h1,l1,l2,h2,h3⟩:=List.find?_eq_some_iff_append.1 h
  have hu:u∈List.range w:=by rw [h2];simp
  have hlen:l1.length=u:=by
   have h4:(List.range w)[l1.length]? = some u:=by rw [h2];simp
   rw [List.getElem?_range (by
    have:l1.length < (List.range w).length:=by rw [h2];simp
    simpa using this)] at h4
   exact Option.some.inj h4
  refine ⟨.inl ⟨List.mem_range.1 hu,h1⟩,fun v hv=>?_⟩
  have hv:v < u:=hv
  have hm:v∈l1:=by
   have h4:(List.range w)[v]? = some v:=List.getElem?_range (by have:=List.mem_range.1 hu;omega)
   rw [h2,List.getElem?_append_left (by omega)] at h4
   exact List.mem_of_getElem? h4
  simpa using h3 v hm
theorem zvu (e:Nat→Nat→Bool) (w:Nat):zW e w≤w:=by
 rcases (zjo e w).1 with h|h<;>omega
theorem zsM {e:Nat→Nat→Bool} {w v:Nat} (h:v < zW e w):e v w=false:=(zjo e w).2 v h
structure Eqv (e:Nat→Nat→Bool):Prop where
 refl : ∀ v,e v v=true
 symm : ∀ v w,e v w=true→e w v=true
 trans : ∀ u v w,e u v=true→e v w=true→e u w=true
section
variable {e:Nat→Nat→Bool} (he:Eqv e)
include he
theorem zn3 (w:Nat):e (zW e w) w=true:=by
 rcases (zjo e w).1 with h|h
 ·exact h.2
 ·rw [h];exact he.refl w
theorem zjn {v w:Nat} : zW e v=zW e w↔e v w=true:=by
 constructor
 ·intro h
  have h1:=zn3 he v
  rw [h] at h1
  exact he.trans _ _ _ (he.symm _ _ h1) (zn3 he w)
 ·intro h
  have a : ∀ {v w},e v w=true→zW e w≤zW e v:=by
   intro v w h
   rcases Nat.lt_or_ge (zW e v) (zW e w) with hl|hl
   ·have:=zsM hl
    rw [he.trans _ _ _ (zn3 he v) h] at this;cases this
   ·exact hl
  have:=a h;have:=a (he.symm _ _ h);omega
theorem zBw (w:Nat):zW e (zW e w)=zW e w:=(zjn he).2 (zn3 he w)
end
theorem zhX {e e':Nat→Nat→Bool} {w:Nat} (h : ∀ v,v≤w→e v w=e' v w):zW e w=zW e' w:=by
 have a : ∀ {e e':Nat→Nat→Bool},(∀ v,v≤w→e v w=e' v w)→zW e w≤zW e' w:=by
  intro e e' h
  rcases Nat.lt_or_ge (zW e' w) (zW e w) with hl|hl
  ·have h1:=zsM hl
   have hle:=zvu e w
   rcases (zjo e' w).1 with h2|h2
   ·rw [h _ (by omega),h2.2] at h1;cases h1
   ·omega
  ·exact hl
 have:=a h;have:=a fun v hv=>(h v hv).symm;omega
structure zaC (n:Nat) (q:Nat→Nat):Prop where
 le : ∀ w,w < n→q w≤w
 idem : ∀ w,w < n→q (q w)=q w
theorem zef {e:Nat→Nat→Bool} (he:Eqv e) (n:Nat):zaC n (zW e):=⟨fun w _=>zvu e w,fun w _=>zBw he w⟩
def zbd {α:Type} [DecidableEq α] (k:Nat→α) (v w:Nat):Bool:=decide (k v=k w)
theorem zbS {α:Type} [DecidableEq α] (k:Nat→α):Eqv (zbd k) :=
 ⟨fun v=>by simp [zbd],fun v w h=>by simp only [zbd,decide_eq_true_eq] at h ⊢;exact h.symm,fun u v w h h'=>by simp only [zbd,decide_eq_true_eq] at h h' ⊢;exact h.trans h'⟩
theorem zjU {n:Nat} {q:Nat→Nat} (h:zaC n q) {w:Nat} (hw:w < n):zW (zbd q) w=q w:=by
 have h1:=h.le w hw
 have h2:=h.idem w hw
 have h3:zW (zbd q) w≤q w:=by
  rcases Nat.lt_or_ge (q w) (zW (zbd q) w) with hl|hl
  ·have:=zsM hl
   simp [zbd,h2] at this
  ·exact hl
 have h4:=zn3 (zbS q) w
 simp only [zbd,decide_eq_true_eq] at h4
 have h5:=h.le (zW (zbd q) w) (by omega)
 omega
def zaK (q:Nat→Nat) (s:BitVec 64) (k:Nat):BitVec 64:=(List.range k).foldl (fun o w=>if s.getLsbD w=true then o|||1#64 <<< q w else o) 0#64
theorem zgG (q:Nat→Nat) (s:BitVec 64) (k:Nat):zaK q s (k+1)=if s.getLsbD k=true then zaK q s k|||1#64 <<< q k else zaK q s k:=by
 unfold zaK;rw [List.range_succ,List.foldl_append];rfl
def zfV (n:Nat) (rels:List (Nat→BitVec 64)) (q:Nat→Nat) (v w:Nat):Bool:=decide (q v=q w)&&rels.all fun r=>decide (zaK q (r v) n=zaK q (r w) n)
theorem ziy (n:Nat) (rels:List (Nat→BitVec 64)) (q:Nat→Nat):Eqv (zfV n rels q):=by
 refine ⟨fun v=>by simp [zfV],fun v w h=>?_,fun u v w h h'=>?_⟩
 ·simp only [zfV,Bool.and_eq_true,decide_eq_true_eq,List.all_eq_true] at h ⊢
  exact ⟨h.1.symm,fun r hr=>(h.2 r hr).symm⟩
 ·simp only [zfV,Bool.and_eq_true,decide_eq_true_eq,List.all_eq_true] at h h' ⊢
  exact ⟨h.1.trans h'.1,fun r hr=>(h.2 r hr).trans (h'.2 r hr)⟩
def zbq (n:Nat) (rels:List (Nat→BitVec 64)) (q:Nat→Nat):Nat→Nat:=zW (zfV n rels q)
theorem znw (n:Nat) (rels:List (Nat→BitVec 64)) (q:Nat→Nat) (m:Nat):zaC m (zbq n rels q):=zef (ziy n rels q) m
theorem zjP {q q':Nat→Nat} {s:BitVec 64} {n:Nat} (h : ∀ w,w < n→q w=q' w) : ∀ k,k≤n→zaK q s k=zaK q' s k
 | 0,_=>rfl
 | k+1,hk=>by rw [zgG,zgG,zjP h k (by omega),h k (by omega)]
theorem zt2 {n:Nat} {rels:List (Nat→BitVec 64)} {q q':Nat→Nat} (h : ∀ w,w < n→q w=q' w) {w:Nat} (hw:w < n):zbq n rels q w=zbq n rels q' w:=by
 refine zhX fun v hv=>?_
 unfold zfV
 rw [h v (by omega),h w hw]
 congr 1
 refine congrArg (fun f=>rels.all f) (funext fun r=>?_)
 rw [zjP h n (Nat.le_refl _),zjP h n (Nat.le_refl _)]
section
variable {n:Nat} {rels:List (Nat→BitVec 64)} {q:Nat→Nat} (hq:zaC n q)
include hq
theorem zqi {w:Nat} (hw:w < n):q (zbq n rels q w)=q w:=by
 have:=zn3 (ziy n rels q) w
 simp only [zfV,Bool.and_eq_true,decide_eq_true_eq] at this
 exact this.1
theorem zxw {w:Nat} (hw:w < n) (h:q w=w):zbq n rels q w=w:=by
 have h1:=zvu (zfV n rels q) w
 have h2:=zqi (rels:=rels) hq hw
 have h3:=hq.le (zbq n rels q w) (by unfold zbq;omega)
 unfold zbq at *;omega
theorem zvO (h : ∀ w,w < n→zbq n rels q w=w→q w=w) {w:Nat} (hw:w < n):zbq n rels q w=q w:=by
 have hc:=znw n rels q n
 have h1:=h (zbq n rels q w) (by have:=hc.le w hw;omega) (hc.idem w hw)
 rw [← h1,zqi hq hw]
end
def zu (n:Nat) (q:Nat→Nat):Nat:=((List.range n).filter fun w=>decide (q w=w)).length
theorem zgP {p p':Nat→Bool} (hi : ∀ w,p w=true→p' w=true) : ∀ l:List Nat,(l.filter p).length≤(l.filter p').length∧((∃ w∈l,p w=false∧p' w=true)→(l.filter p).length < (l.filter p').length)
 | []=>⟨Nat.le_refl _,fun ⟨w,h,_⟩=>by cases h⟩
 | x::l=>by
  obtain ⟨h1,h2⟩:=zgP hi l
  cases hp:p x with
  | true =>
   rw [List.filter_cons_of_pos hp,List.filter_cons_of_pos (hi x hp)]
   refine ⟨by simpa using h1,fun ⟨w,hw,h3,h4⟩=>?_⟩
   rcases List.mem_cons.1 hw with rfl|hw
   ·rw [hp] at h3;cases h3
   ·have:=h2 ⟨w,hw,h3,h4⟩;simpa using this
  | false =>
   rw [List.filter_cons_of_neg (by simp [hp])]
   cases hp':p' x with
   | true =>
    rw [List.filter_cons_of_pos hp',List.length_cons]
    exact ⟨by omega,fun _=>by omega⟩
   | false =>
    rw [List.filter_cons_of_neg (by simp [hp'])]
    refine ⟨h1,fun ⟨w,hw,h3,h4⟩=>?_⟩
    rcases List.mem_cons.1 hw with rfl|hw
    ·rw [hp'] at h4;cases h4
    ·exact h2 ⟨w,hw,h3,h4⟩
theorem zcp (n:Nat) (q:Nat→Nat):zu n q≤n:=by
 unfold zu
 have:=List.length_filter_le (fun w=>decide (q w=w)) (List.range n)
 simpa using this
theorem zzJ {n:Nat} {rels:List (Nat→BitVec 64)} {q:Nat→Nat} (hq:zaC n q) (h : ∃ w,w < n∧zbq n rels q w≠q w):zu n q < zu n (zbq n rels q):=by
 unfold zu
 have e1:(List.range n).filter (fun w=>decide (q w=w))=(List.range n).filter fun w=>decide (w < n∧q w=w):=by
  refine List.filter_congr fun w hw=>?_
  have:=List.mem_range.1 hw
  simp [this]
 have e2:(List.range n).filter (fun w=>decide (zbq n rels q w=w))=(List.range n).filter fun w=>decide (w < n∧zbq n rels q w=w):=by
  refine List.filter_congr fun w hw=>?_
  have:=List.mem_range.1 hw
  simp [this]
 rw [e1,e2]
 refine (zgP (fun w hw=>?_) _).2 ?_
 ·simp only [decide_eq_true_eq] at hw ⊢
  exact ⟨hw.1,zxw hq hw.1 hw.2⟩
 ·obtain ⟨w,hw,hne⟩:=h
  by_cases hall : ∀ w,w < n→zbq n rels q w=w→q w=w
  ·exact absurd (zvO hq hall hw) hne
  ·simp only [Classical.not_forall] at hall
   obtain ⟨u,hu,h1,h2⟩:=hall
   exact ⟨u,List.mem_range.2 hu,by simp [h2],by simp [hu,h1]⟩
def zbB (n:Nat) (rels:List (Nat→BitVec 64)) (q0:Nat→Nat):Nat→Nat→Nat
 | 0=>q0
 | k+1=>zbq n rels (zbB n rels q0 k)
section
variable {n:Nat} {rels:List (Nat→BitVec 64)} {q0:Nat→Nat} (hq:zaC n q0)
include hq
theorem znq : ∀ k,zaC n (zbB n rels q0 k)
 | 0=>hq
 | k+1=>znw _ _ _ _
theorem zka {k:Nat} (h : ∀ w,w < n→zbB n rels q0 (k+1) w=zbB n rels q0 k w) : ∀ j,k≤j → ∀ w,w < n→zbB n rels q0 j w=zbB n rels q0 k w:=by
 intro j hj
 induction j with
 | zero=>intro w hw;rw [show k=0 by omega]
 | succ j ih =>
  intro w hw
  by_cases e:k=j+1
  ·rw [e]
  ·have ih:=ih (by omega)
   rw [← h w hw]
   exact zt2 ih hw
theorem zj9 {k:Nat} (h : ∀ j,j < k → ∃ w,w < n∧zbB n rels q0 (j+1) w≠zbB n rels q0 j w) : ∀ j,j≤k→zu n q0+j≤zu n (zbB n rels q0 j)
 | 0,_=>Nat.le_refl _
 | j+1,hj=>by
  have h1:=zj9 h j (by omega)
  have h2:=zzJ (znq hq j) (h j (by omega))
  show zu n q0+(j+1)≤zu n (zbq n rels (zbB n rels q0 j))
  omega
theorem zwC {j:Nat} (hn:0 < n) (hj:n≤j) {w:Nat} (hw:w < n):zbB n rels q0 j w=zbB n rels q0 n w:=by
 by_cases hall : ∀ i,i < n → ∃ w,w < n∧zbB n rels q0 (i+1) w≠zbB n rels q0 i w
 ·have h1:=zj9 hq hall n (Nat.le_refl _)
  have h2:=zcp n (zbB n rels q0 n)
  have h3:0 < zu n q0:=by
   unfold zu
   have h0:q0 0=0:=by have:=hq.le 0 hn;omega
   exact List.length_pos_of_mem (List.mem_filter.2 ⟨List.mem_range.2 hn,by simp [h0]⟩)
  omega
 ·simp only [Classical.not_forall] at hall
  obtain ⟨i,hi,hs⟩:=hall
  have hst : ∀ w,w < n→zbB n rels q0 (i+1) w=zbB n rels q0 i w:=fun w hw=>by
   by_cases e:zbB n rels q0 (i+1) w=zbB n rels q0 i w
   ·exact e
   ·exact absurd ⟨w,hw,e⟩ hs
  rw [zka hq hst j (by omega) w hw,zka hq hst n (by omega) w hw]
end
end Go.Ab
namespace Go.Ab
open Go Go.Proofs
set_option maxRecDepth 10000
set_option maxHeartbeats 4000000
variable {T:Nat→Obj→Prop}
theorem zuo {α:Type} {l:List α} {i:Nat} {x d:α} (h:l[i]? = some x):l.getD i d=x:=by simp [List.getD,h]
def za (m:KM):Int :=
 if m.W < 1∨64 < m.W then 2 else if 4 < m.rel.length∨8 < m.val.length then 8 else if m.rel.any (fun r=>decide ((r.length:Int)≠m.W)) then 3 else if m.val.any (bad m.W) then 2 else if m.rel.any (fun r=>r.any (bad m.W)) then 2 else 0
structure zfu (m:KM):Prop where
 w1:1≤m.W
 w2:m.W≤64
 n4:m.rel.length≤4
 v8:m.val.length≤8
 len : ∀ r∈m.rel,(r.length:Int)=m.W
 val : ∀ s∈m.val,bad m.W s=false
 rel : ∀ r∈m.rel,∀ s∈r,bad m.W s=false
theorem zk {m:KM} (h:za m=0):zfu m:=by
 unfold za at h
 split at h
 ·cases h
 ·split at h
  ·cases h
  ·split at h
   ·cases h
   ·split at h
    ·cases h
    ·split at h
     ·cases h
     ·rename_i h1 h2 h3 h4 h5
      refine ⟨by omega,by omega,by omega,by omega,fun r hr=>?_,fun s hs=>?_,fun r hr s hs=>?_⟩
      ·simp only [List.any_eq_true,not_exists,not_and] at h3;simpa using h3 r hr
      ·simp only [List.any_eq_true,not_exists,not_and] at h4;simpa using h4 s hs
      ·simp only [List.any_eq_true,not_exists,not_and] at h5;simpa using h5 r hr s hs
theorem zwQ {k:IntKind} {a:Nat} (h:a < 2 ^ k.bits):(BitVec.ofInt k.bits (a:Int)).toNat=a:=by
 rw [BitVec.toNat_ofInt,Int.emod_eq_of_lt (Int.natCast_nonneg a) (show (a:Int) < ((2 ^ k.bits:Nat):Int) from Int.ofNat_lt.2 h)]
 rfl
theorem zze {a:Nat} (h:a < 2 ^ 63):IntKind.wrap .i64 (a:Int)=a:=ztt ⟨by omega,by omega⟩
theorem zub {a b:Nat} (ha:a < 2 ^ 63) (hb:b < 2 ^ 63):zdn .i64 (fun p q=>p|||q) (a:Int) (b:Int)=((a|||b:Nat):Int):=by
 unfold zdn
 rw [BitVec.toNat_or,zwQ (k := .i64) (by simp [IntKind.bits];omega),zwQ (k := .i64) (by simp [IntKind.bits];omega)]
 exact zze (Nat.or_lt_two_pow ha hb)
theorem zpj {x:BitVec 64} {k i:Nat} (hk:k < 64):(x|||1#64 <<< k).getLsbD i=true↔x.getLsbD i=true∨i=k:=by
 rw [BitVec.getLsbD_or,Bool.or_eq_true,zpH]
 constructor
 ·rintro (h|h)
  ·exact .inl h
  ·simp at h;exact .inr h.2
 ·rintro (h|rfl)
  ·exact .inl h
  ·exact .inr (by simp [hk])
def zaG (l:List (BitVec 64)) (w:Nat):Nat→Nat
 | 0=>0
 | k+1=>zaG l w k+if (l.getD k 0#64).getLsbD w=true then 2 ^ k else 0
theorem znQ (l:List (BitVec 64)) (w:Nat) : ∀ k,zaG l w k < 2 ^ k
 | 0=>by simp [zaG]
 | k+1=>by
  have:=znQ l w k
  have h2:=Nat.two_pow_pos k
  rw [zaG,Nat.pow_succ]
  split<;>omega
theorem zgO (l:List (BitVec 64)) (w:Nat) {i:Nat} : ∀ k,(zaG l w k).testBit i=true↔i < k∧(l.getD i 0#64).getLsbD w=true
 | 0=>by simp [zaG]
 | k+1=>by
  have hlt:=znQ l w k
  have ih:=zgO l w (i:=i) k
  have e:zaG l w (k+1)=2 ^ k * (if (l.getD k 0#64).getLsbD w=true then 1 else 0)+zaG l w k:=by
   rw [zaG];split<;>omega
  rw [e,Nat.testBit_two_pow_mul_add _ hlt]
  by_cases h:i < k
  ·rw [if_pos h,ih]
   exact ⟨fun ⟨a,b⟩=>⟨by omega,b⟩,fun ⟨a,b⟩=>⟨h,b⟩⟩
  ·rw [if_neg h]
   by_cases h2:i=k
   ·subst h2
    rw [Nat.sub_self]
    split
    ·rename_i hb;exact ⟨fun _=>⟨by omega,hb⟩,fun _=>by decide⟩
    ·rename_i hb;exact ⟨fun h=>by simp at h,fun h=>absurd h.2 hb⟩
   ·constructor
    ·intro h3
     exfalso
     obtain ⟨m,hm⟩ : ∃ m,i - k=m+1:=⟨i - k - 1,by omega⟩
     rw [hm,Nat.testBit_succ] at h3
     split at h3<;>simp at h3
    ·rintro ⟨a,-⟩;omega
theorem zAf {x k:Nat} (h:x < 2 ^ k):x|||2 ^ k=x+2 ^ k:=by
 have:=Nat.two_pow_add_eq_or_of_lt (i:=k) h 1
 rw [Nat.or_comm,show 2 ^ k=2 ^ k * 1 by omega,← this];omega
theorem zya {l:List (BitVec 64)} {w k:Nat} {s:BitVec 64} (hs:l[k]? = some s) (hk:k < 8) :
  zdn .i64 (fun p q=>p|||q) (zaG l w k:Int) ((((s >>> w&&&1#64).toNat:Int)) * 2 ^ (min k IntKind.i64.bits))=(zaG l w (k+1):Int):=by
 have h1:=znQ l w k
 have hp:2 ^ k≤2 ^ 7:=Nat.pow_le_pow_right (by decide) (by omega)
 have hb:min k IntKind.i64.bits=k:=by show min k 64=k;omega
 rw [hb,zaG,show l.getD k 0#64=s by rw [List.getD,hs];rfl]
 by_cases h:s.getLsbD w=true
 ·have e:s >>> w&&&1#64=1#64:=(zf4 s w).2 h
  rw [e,if_pos h]
  have:=zub (a:=zaG l w k) (b:=2 ^ k) (by omega) (by omega)
  rw [show ((1#64).toNat:Int) * 2 ^ k=((2 ^ k:Nat):Int) by simp,this,zAf h1]
 ·have e:s >>> w&&&1#64=0#64:=(zhD s w).2 (by simpa using h)
  rw [e,if_neg h]
  have:=zub (a:=zaG l w k) (b:=0) (by omega) (by omega)
  rw [show ((0#64).toNat:Int) * 2 ^ k=((0:Nat):Int) by simp,this];simp
theorem zv0 (s:BitVec 64) (w:Nat):(s >>> w&&&1#64).toNat≤1:=by
 cases h:s.getLsbD w with
 | true=>rw [(zf4 s w).2 h];decide
 | false=>rw [(zhD s w).2 h];decide
theorem zxd {x k:Nat} (hx:x≤1) (hk:k < 8):0≤(x:Int) * 2 ^ (min (k:Int).toNat IntKind.i64.bits)∧(x:Int) * 2 ^ (min (k:Int).toNat IntKind.i64.bits)≤9223372036854775807:=by
 have hp:2 ^ k≤2 ^ 7:=Nat.pow_le_pow_right (by decide) (by omega)
 have hb:min (k:Int).toNat IntKind.i64.bits=k:=by show min k 64=k;omega
 rw [hb]
 match x,hx with
 | 0,_=>simp
 | 1,_ =>
  rw [show ((1:Nat):Int) * 2 ^ k=((2 ^ k:Nat):Int) by simp]
  have h7:(2:Nat) ^ 7=128:=rfl
  exact ⟨Int.natCast_nonneg _,Int.ofNat_le.2 (show 2 ^ k≤9223372036854775807 by omega)⟩
def ptL (n:Nat) (q:Nat→Nat):List Int:=(List.range n).map fun w=>((q w:Nat):Int)
theorem za3 {n:Nat} {q:Nat→Nat} {w:Nat} (hw:w < n):(ptL n q)[w]? = some ((q w:Nat):Int):=by simp [ptL,hw]
theorem zbx {n:Nat} {q:Nat→Nat} : (ptL n q).length=n:=by simp [ptL]
theorem ziw {n:Nat} {q q':Nat→Nat} (h : ∀ w,w < n→q w=q' w):ptL n q=ptL n q':=List.map_congr_left fun w hw=>by rw [h w (List.mem_range.1 hw)]
theorem zAg {n:Nat} {q q':Nat→Nat} (h:ptL n q=ptL n q') {w:Nat} (hw:w < n):q w=q' w:=by
 have:=za3 (q:=q) hw
 rw [h,za3 hw] at this
 have:=Option.some.inj this
 omega
end Go.Ab
namespace Go.Ab
def zab {α:Type} (c:α→α→Int):List α→List α→Int
 | [],[]=>0
 | [],_::_ => -1
 | _::_,[]=>1
 | x::r,y::s=>if c x y=0 then zab c r s else c x y
structure zmj {α:Type} (c:α→α→Int):Prop where
 zero : ∀ {x y},c x y=0↔x=y
 anti : ∀ x y,c y x = - c x y
 tr : ∀ {x y z},c x y < 0→c y z < 0→c x z < 0
theorem zmj.refl {α:Type} {c:α→α→Int} (h:zmj c) (x:α):c x x=0:=h.zero.2 rfl
theorem zue {α:Type} {c:α→α→Int} (h:zmj c):zmj (zab c) where
 zero:=by
  intro x
  induction x with
  | nil=>intro y;cases y<;>simp [zab]
  | cons a r ih =>
   intro y
   cases y with
   | nil=>simp [zab]
   | cons b s =>
    unfold zab
    by_cases e:c a b=0
    ·rw [if_pos e,ih,h.zero.1 e];simp
    ·rw [if_neg e]
     constructor
     ·intro h';exact absurd h' e
     ·intro h';cases h';exact absurd (h.refl _) e
 anti:=by
  intro x
  induction x with
  | nil=>intro y;cases y<;>simp [zab]
  | cons a r ih =>
   intro y
   cases y with
   | nil=>simp [zab]
   | cons b s =>
    unfold zab
    have:=h.anti a b
    by_cases e:c a b=0
    ·rw [if_pos e,if_pos (by omega),ih]
    ·rw [if_neg e,if_neg (by omega),this]
 tr:=by
  intro x
  induction x with
  | nil =>
   intro y z h1 h2
   cases y with
   | nil=>simp [zab] at h1
   | cons b s=>cases z with
    | nil=>simp [zab] at h2
    | cons d t=>simp [zab]
  | cons a r ih =>
   intro y z h1 h2
   cases y with
   | nil=>simp [zab] at h1
   | cons b s=>cases z with
    | nil=>simp [zab] at h2
    | cons d t =>
     unfold zab at h1 h2 ⊢
     by_cases e1:c a b=0
     ·obtain rfl:=h.zero.1 e1
      rw [if_pos e1] at h1
      by_cases e2:c a d=0
      ·rw [if_pos e2] at h2 ⊢;exact ih h1 h2
      ·rw [if_neg e2] at h2 ⊢;exact h2
     ·rw [if_neg e1] at h1
      by_cases e2:c b d=0
      ·obtain rfl:=h.zero.1 e2
       rw [if_neg e1];exact h1
      ·rw [if_neg e2] at h2
       have h3:=h.tr h1 h2
       rw [if_neg (by omega)];exact h3
def za8 (x y:Int):Int:=if x < y then -1 else if y < x then 1 else 0
theorem zzH:zmj za8 where
 zero:=by
  intro x y;unfold za8
  by_cases h1:x < y
  ·rw [if_pos h1];omega
  ·rw [if_neg h1]
   by_cases h2:y < x
   ·rw [if_pos h2];omega
   ·rw [if_neg h2];omega
 anti:=by
  intro x y;unfold za8
  by_cases h1:x < y
  ·rw [if_pos h1,if_neg (by omega),if_pos h1];rfl
  ·rw [if_neg h1]
   by_cases h2:y < x
   ·rw [if_pos h2,if_neg h1,if_pos h2]
   ·rw [if_neg h2,if_neg h1,if_neg h2];rfl
 tr:=by
  intro x y z;unfold za8
  by_cases h1:x < y
  ·rw [if_pos h1]
   by_cases h2:y < z
   ·rw [if_pos h2,if_pos (by omega)];simp
   ·rw [if_neg h2]
    by_cases h3:z < y
    ·rw [if_pos h3];intro _ h;omega
    ·rw [if_neg h3];intro _ h;omega
  ·rw [if_neg h1]
   by_cases h2:y < x
   ·rw [if_pos h2];intro h;omega
   ·rw [if_neg h2];intro h;omega
abbrev Tup:=List (List Int)
def zaX:Tup→Tup→Int:=zab (zab za8)
theorem zan:zmj zaX:=zue (zue zzH)
def ddT {α:Type} [DecidableEq α]:List α→List α
 | []=>[]
 | x::r=>if x∈r then ddT r else x::ddT r
theorem zas {α:Type} [DecidableEq α] {x:α} : ∀ {l:List α},x∈ddT l↔x∈l
 | []=>Iff.rfl
 | y::r=>by
  unfold ddT
  have ih:=zas (x:=x) (l:=r)
  by_cases h:y∈r
  ·rw [if_pos h,ih,List.mem_cons]
   exact ⟨.inr,fun h'=>h'.elim (fun e=>e▸h) id⟩
  ·rw [if_neg h,List.mem_cons,List.mem_cons,ih]
theorem zcJ {α:Type} [DecidableEq α] : ∀ l:List α,(ddT l).Nodup
 | []=>List.nodup_nil
 | y::r=>by
  unfold ddT
  by_cases h:y∈r
  ·rw [if_pos h];exact zcJ r
  ·rw [if_neg h];exact List.nodup_cons.2 ⟨fun h'=>h (zas.1 h'),zcJ r⟩
def rkN (ts:List Tup) (t:Tup):Nat:=((ddT ts).filter fun s=>decide (zaX s t < 0)).length
def cnN (ts:List Tup):Nat:=(ddT ts).length
theorem zfS {α:Type} [DecidableEq α] {l l':List α} (h:l.Nodup) (h':l'.Nodup) (hm : ∀ x,x∈l↔x∈l'):l.Perm l':=by
 rw [List.perm_iff_count]
 intro a
 have c : ∀ l:List α,l.Nodup→l.count a=if a∈l then 1 else 0:=fun l hl=>by
  by_cases ha:a∈l
  ·rw [if_pos ha]
   have h1:=List.nodup_iff_count.1 hl a
   have h2:=List.count_pos_iff.2 ha
   omega
  ·rw [if_neg ha];exact List.count_eq_zero.2 ha
 rw [c l h,c l' h']
 by_cases ha:a∈l
 ·rw [if_pos ha,if_pos ((hm a).1 ha)]
 ·rw [if_neg ha,if_neg (fun h=>ha ((hm a).2 h))]
theorem zzv {ts S:List Tup} (hn:S.Nodup) (hm : ∀ x,x∈S↔x∈ts) (t:Tup):(S.filter fun s=>decide (zaX s t < 0)).length=rkN ts t :=
 ((zfS hn (zcJ _) fun x=>by rw [hm,zas]).filter _).length_eq
theorem zzm {ts S:List Tup} (hn:S.Nodup) (hm : ∀ x,x∈S↔x∈ts):S.length=cnN ts :=
 (zfS hn (zcJ _) fun x=>by rw [hm,zas]).length_eq
theorem zyQ {ts ts':List Tup} (hm : ∀ x,x∈ts↔x∈ts') (t:Tup):rkN ts t=rkN ts' t :=
 zzv (zcJ _) (fun x=>by rw [zas];exact hm x) t
theorem zxY {ts ts':List Tup} (hm : ∀ x,x∈ts↔x∈ts'):cnN ts=cnN ts' :=
 zzm (zcJ _) (fun x=>by rw [zas];exact hm x)
theorem zl6 {ts:List Tup} {s t:Tup} (hs:s∈ts) (ht:t∈ts):rkN ts s < rkN ts t↔zaX s t < 0:=by
 have key : ∀ {s t:Tup},s∈ts→zaX s t < 0→rkN ts s < rkN ts t:=by
  intro s t hs h
  unfold rkN
  have h1 : ∀ x,decide (zaX x s < 0)=true→decide (zaX x t < 0)=true:=fun x hx=>decide_eq_true (zan.tr (of_decide_eq_true hx) h)
  have h2:s∈(ddT ts):=zas.2 hs
  generalize (ddT ts)=l at h2
  induction l with
  | nil=>cases h2
  | cons a r ih =>
   have hle:(r.filter fun x=>decide (zaX x s < 0)).length≤(r.filter fun x=>decide (zaX x t < 0)).length:=by
    clear ih h2
    induction r with
    | nil=>simp
    | cons b r ih =>
     simp only [List.filter_cons]
     by_cases hb:decide (zaX b s < 0)=true
     ·rw [if_pos hb,if_pos (h1 b hb)];simpa using ih
     ·rw [if_neg hb]
      split
      ·rw [List.length_cons];omega
      ·exact ih
   simp only [List.filter_cons]
   by_cases hb:decide (zaX a s < 0)=true
   ·rw [if_pos hb,if_pos (h1 a hb)]
    rcases List.mem_cons.1 h2 with rfl|h2
    ·have:=zan.refl s;have:=of_decide_eq_true hb;omega
    ·simpa using ih h2
   ·rw [if_neg hb]
    rcases List.mem_cons.1 h2 with rfl|h2
    ·rw [if_pos (decide_eq_true h)];simp;omega
    ·have:=ih h2
     split
     ·rw [List.length_cons];omega
     ·exact this
 refine ⟨fun h=>?_,key hs⟩
 have ha:=zan.anti s t
 rcases Int.lt_trichotomy (zaX s t) 0 with h'|h'|h'
 ·exact h'
 ·rw [zan.zero.1 h'] at h;omega
 ·have:=key (s:=t) (t:=s) ht (by omega);omega
theorem ztc {ts:List Tup} {s t:Tup} (hs:s∈ts) (ht:t∈ts) (h:rkN ts s=rkN ts t):s=t:=by
 have h1:=zl6 hs ht
 have h2:=zl6 ht hs
 have h3:=zan.anti s t
 exact zan.zero.1 (by omega)
theorem ztd {ts:List Tup} {t:Tup} (ht:t∈ts):rkN ts t < cnN ts:=by
 unfold rkN cnN
 have h2:t∈(ddT ts):=zas.2 ht
 refine Nat.lt_of_le_of_ne (List.length_filter_le _ _) fun h=>?_
 have:=List.length_filter_eq_length_iff.1 h t h2
 have h3:=zan.refl t
 have:=of_decide_eq_true this
 omega
end Go.Ab
namespace Go.Ab
theorem zbJ {α:Type} [DecidableEq α] : ∀ {l l':List α},l.Nodup→(∀ x∈l,x∈l')→l.length≤l'.length
 | [],_,_,_=>Nat.zero_le _
 | x::t,l',h,hs=>by
  obtain ⟨h1,h2⟩:=List.nodup_cons.1 h
  have:=zbJ (l:=t) (l':=l'.erase x) h2 fun y hy=>by
   have hne:y≠x:=fun e=>h1 (e▸hy)
   exact (List.mem_erase_of_ne hne).2 (hs y (List.mem_cons_of_mem _ hy))
  have hx:=hs x (by simp)
  rw [List.length_erase_of_mem hx] at this
  have:=List.length_pos_of_mem hx
  rw [List.length_cons];omega
def dcN (n:Nat) (q:Nat→Nat):Nat:=(ddT ((List.range n).map q)).length
theorem zhJ (n:Nat) (q:Nat→Nat):dcN n q≤n:=by
 have:=zbJ (zcJ ((List.range n).map q)) (l':=(List.range n).map q) fun x hx=>zas.1 hx
 rwa [List.length_map,List.length_range] at this
theorem zmq {α β:Type} [DecidableEq α] [DecidableEq β] {n:Nat} {f:Nat→α} {g:Nat→β} (h : ∀ v w,v < n→w < n→f v=f w→g v=g w):(ddT ((List.range n).map g)).length≤(ddT ((List.range n).map f)).length:=by
 classical
 by_cases h0:n=0
 ·subst h0;exact Nat.le_refl _
 let pick:α→β:=fun a=>g (((List.range n).find? fun w=>decide (f w=a)).getD 0)
 have:=zbJ (zcJ ((List.range n).map g)) (l':=(ddT ((List.range n).map f)).map pick) fun x hx=>by
  obtain ⟨w,hw,rfl⟩:=List.mem_map.1 (zas.1 hx)
  have hw':=List.mem_range.1 hw
  refine List.mem_map.2 ⟨f w,zas.2 (List.mem_map.2 ⟨w,hw,rfl⟩),?_⟩
  show g (((List.range n).find? fun u=>decide (f u=f w)).getD 0)=g w
  cases hf:(List.range n).find? fun u=>decide (f u=f w) with
  | none =>
   have:=List.find?_eq_none.1 hf w hw
   simp at this
  | some u =>
   have h1:=List.find?_some hf
   have h2:=List.mem_range.1 (List.mem_of_find?_eq_some hf)
   exact h u w h2 hw' (of_decide_eq_true h1)
 rwa [List.length_map] at this
section
variable (n:Nat) (next:(Nat→Nat)→Nat→Tup)
def rfT (q:Nat→Nat):List Tup:=(List.range n).map (next q)
def zem (q:Nat→Nat):Nat→Nat:=fun w=>rkN (rfT n next q) (next q w)
def zbD (q:Nat→Nat):Nat:=cnN (rfT n next q)
def zbn:Nat→(Nat→Nat)→Nat→(Nat→Nat)×Nat
 | 0,q,k=>(q,k)
 | f+1,q,k=>if zbD n next q=k then (q,k) else zbn f (zem n next q) (zbD n next q)
end
section
variable {n:Nat} {next:(Nat→Nat)→Nat→Tup} (hF : ∀ q v w,v < n→w < n→next q v=next q w→q v=q w)
theorem zqd {q:Nat→Nat} {w:Nat} (hw:w < n):next q w∈rfT n next q:=List.mem_map.2 ⟨w,List.mem_range.2 hw,rfl⟩
theorem zku {q:Nat→Nat} {v w:Nat} (hv:v < n) (hw:w < n):zem n next q v=zem n next q w↔next q v=next q w :=
 ⟨fun h=>ztc (zqd hv) (zqd hw) h,fun h=>by unfold zem;rw [h]⟩
theorem zep (q:Nat→Nat):dcN n (zem n next q)=zbD n next q:=by
 have h1:=zmq (n:=n) (f:=next q) (g:=zem n next q) fun v w hv hw h=>(zku hv hw).2 h
 have h2:=zmq (n:=n) (f:=zem n next q) (g:=next q) fun v w hv hw h=>(zku hv hw).1 h
 exact Nat.le_antisymm h1 h2
theorem zv8 (q:Nat→Nat):zbD n next q≤n:=by rw [← zep];exact zhJ _ _
include hF
theorem zrZ (q:Nat→Nat):dcN n q≤zbD n next q:=zmq fun v w hv hw h=>hF q v w hv hw h
theorem zuF : ∀ (f g:Nat) (q:Nat→Nat),n < f+dcN n q→n < g+dcN n q→zbn n next f q (dcN n q)=zbn n next g q (dcN n q)
 | 0,g,q,h,_=>by have:=zhJ n q;omega
 | f+1,0,q,_,h=>by have:=zhJ n q;omega
 | f+1,g+1,q,h1,h2=>by
  unfold zbn
  by_cases h:zbD n next q=dcN n q
  ·rw [if_pos h,if_pos h]
  ·rw [if_neg h,if_neg h]
   have h3:=zrZ hF q
   have h4:=zuF f g (zem n next q) (by rw [zep];omega) (by rw [zep];omega)
   rwa [zep] at h4
theorem zqW : ∀ (f:Nat) (q:Nat→Nat),n < f+dcN n q → ∃ q',zbn n next f q (dcN n q)=(q',dcN n q')∧zbD n next q'=dcN n q'∧(∀ v w,v < n→w < n→q' v=q' w→q v=q w)
 | 0,q,h=>by have:=zhJ n q;omega
 | f+1,q,h=>by
  unfold zbn
  by_cases he:zbD n next q=dcN n q
  ·rw [if_pos he];exact ⟨q,rfl,he,fun v w _ _ h=>h⟩
  ·rw [if_neg he]
   have h3:=zrZ hF q
   obtain ⟨q',h4,h5,h6⟩:=zqW f (zem n next q) (by rw [zep];omega)
   rw [zep] at h4
   exact ⟨q',h4,h5,fun v w hv hw e=>hF q v w hv hw ((zku hv hw).1 (h6 v w hv hw e))⟩
end
theorem zui {α β:Type} [DecidableEq α] [DecidableEq β] {n:Nat} {f:Nat→α} {g:Nat→β} (h : ∀ v w,v < n→w < n→f v=f w→g v=g w) (he:(ddT ((List.range n).map g)).length=(ddT ((List.range n).map f)).length) :
  ∀ v w,v < n→w < n→g v=g w→f v=f w:=by
 classical
 intro v w hv hw hg
 refine Classical.byContradiction fun hne=>?_
 have h1:=zmq (n:=n) (f:=f) (g:=fun u=>(g u,decide (f u=f v))) fun a b ha hb e=>by rw [h a b ha hb e,e]
 have h2:(ddT ((List.range n).map g)).length+1≤(ddT ((List.range n).map fun u=>(g u,decide (f u=f v)))).length:=by
  have:=zbJ (l:=(g v,false)::(ddT ((List.range n).map g)).map fun y=>(y,decide (∃ u,u < n∧g u=y∧f u=f v) )) (l':=ddT ((List.range n).map fun u=>(g u,decide (f u=f v)))) ?_ ?_
  ·simpa using this
  ·refine List.nodup_cons.2 ⟨fun hm=>?_,?_⟩
   ·obtain ⟨y,hy,e⟩:=List.mem_map.1 hm
    simp only [Prod.mk.injEq] at e
    obtain ⟨rfl,e⟩:=e
    exact absurd (of_decide_eq_false e) (not_not_intro ⟨v,hv,rfl,rfl⟩)
   ·exact List.Pairwise.map _ (fun a b hab e=>hab (by simp only [Prod.mk.injEq] at e;exact e.1)) (zcJ _)
  ·intro x hx
   refine zas.2 (List.mem_map.2 ?_)
   rcases List.mem_cons.1 hx with rfl|hx
   ·exact ⟨w,List.mem_range.2 hw,by simp only [Prod.mk.injEq];exact ⟨hg.symm,decide_eq_false fun e=>hne e.symm⟩⟩
   ·obtain ⟨y,hy,rfl⟩:=List.mem_map.1 hx
    obtain ⟨u,hu,rfl⟩:=List.mem_map.1 (zas.1 hy)
    by_cases hex : ∃ u',u' < n∧g u'=g u∧f u'=f v
    ·obtain ⟨u',h1,h2,h3⟩:=hex
     exact ⟨u',List.mem_range.2 h1,by simp only [Prod.mk.injEq];exact ⟨h2,by rw [decide_eq_true h3,decide_eq_true ⟨u',h1,h2,h3⟩]⟩⟩
    ·exact ⟨u,hu,by simp only [Prod.mk.injEq];exact ⟨trivial,by rw [decide_eq_false hex,decide_eq_false fun e=>hex ⟨u,List.mem_range.1 hu,rfl,e⟩]⟩⟩
 omega
end Go.Ab
namespace Go.Ab
structure Ren (n:Nat) (f:Nat→Nat):Prop where
 lt : ∀ w,w < n→f w < n
 inj : ∀ v w,v < n→w < n→f v=f w→v=w
theorem Ren.surj {n:Nat} {f:Nat→Nat} (h:Ren n f) {x:Nat} (hx:x < n) : ∃ w,w < n∧f w=x:=by
 refine Classical.byContradiction fun hn=>?_
 have:=zbJ (l:=x::(List.range n).map f) (l':=List.range n) (List.nodup_cons.2 ⟨fun hm=>?_,?_⟩) fun y hy=>?_
 ·simp at this
  omega
 ·obtain ⟨w,hw,e⟩:=List.mem_map.1 hm
  exact hn ⟨w,List.mem_range.1 hw,e⟩
 ·rw [List.Nodup,List.pairwise_map]
  exact List.Pairwise.imp_of_mem (fun {a b} ha hb hab e=>hab (h.inj a b (List.mem_range.1 ha) (List.mem_range.1 hb) e)) List.nodup_range
 ·rcases List.mem_cons.1 hy with rfl|hy
  ·exact List.mem_range.2 hx
  ·obtain ⟨w,hw,rfl⟩:=List.mem_map.1 hy
   exact List.mem_range.2 (h.lt w (List.mem_range.1 hw))
section
variable {n:Nat} {f:Nat→Nat} (hf:Ren n f) {t t':Nat→Tup} (ht : ∀ w,w < n→t' (f w)=t w)
include hf ht
theorem zuB (x:Tup):x∈(List.range n).map t'↔x∈(List.range n).map t:=by
 constructor
 ·intro h
  obtain ⟨y,hy,rfl⟩:=List.mem_map.1 h
  obtain ⟨w,hw,rfl⟩:=hf.surj (List.mem_range.1 hy)
  exact List.mem_map.2 ⟨w,List.mem_range.2 hw,(ht w hw).symm⟩
 ·intro h
  obtain ⟨w,hw,rfl⟩:=List.mem_map.1 h
  exact List.mem_map.2 ⟨f w,List.mem_range.2 (hf.lt w (List.mem_range.1 hw)),ht w (List.mem_range.1 hw)⟩
theorem zw1 {w:Nat} (hw:w < n):rkN ((List.range n).map t') (t' (f w))=rkN ((List.range n).map t) (t w):=by
 rw [ht w hw];exact zyQ (zuB hf ht) _
theorem zw0:cnN ((List.range n).map t')=cnN ((List.range n).map t):=zxY (zuB hf ht)
end
theorem ztb {n:Nat} {f:Nat→Nat} (hf:Ren n f) {next next':(Nat→Nat)→Nat→Tup} (hn : ∀ q q',(∀ w,w < n→q' (f w)=q w) → ∀ w,w < n→next' q' (f w)=next q w) :
  ∀ (k:Nat) (q q':Nat→Nat) (c:Nat),(∀ w,w < n→q' (f w)=q w)→(∀ w,w < n→(zbn n next' k q' c).1 (f w)=(zbn n next k q c).1 w)∧(zbn n next' k q' c).2=(zbn n next k q c).2
 | 0,q,q',c,h=>⟨h,rfl⟩
 | k+1,q,q',c,h=>by
  have ht:=hn q q' h
  have hc:zbD n next' q'=zbD n next q:=zw0 hf ht
  unfold zbn
  rw [hc]
  by_cases he:zbD n next q=c
  ·rw [if_pos he,if_pos he];exact ⟨h,rfl⟩
  ·rw [if_neg he,if_neg he]
   exact ztb hf hn k _ _ _ fun w hw=>zw1 hf ht hw
def leI (x y:Int):Bool:=decide (x≤y)
theorem zA0 (a b c:Int) (h1:leI a b=true) (h2:leI b c=true):leI a c=true:=by simp [leI] at *;omega
theorem zz6 (a b:Int):(leI a b||leI b a)=true:=by simp [leI];omega
def zbz (l:List Int):List Int:=l.mergeSort leI
theorem zca (l:List Int):(zbz l).Perm l:=List.mergeSort_perm l leI
theorem zeC (l:List Int):(zbz l).Pairwise (· ≤ ·):=(List.pairwise_mergeSort zA0 zz6 l).imp fun h=>by simpa [leI] using h
theorem zdI : ∀ {l l':List Int},l.Pairwise (· ≤ ·)→l'.Pairwise (· ≤ ·)→l.Perm l'→l=l'
 | [],l',_,_,h=>(List.nil_perm.1 h).symm
 | a::r,[],_,_,h=>by cases List.perm_nil.1 h
 | a::r,b::s,h1,h2,h=>by
  obtain ⟨h3,h4⟩:=List.pairwise_cons.1 h1
  obtain ⟨h5,h6⟩:=List.pairwise_cons.1 h2
  have e:a=b:=by
   have hb:b∈a::r:=h.mem_iff.2 (by simp)
   have ha:a∈b::s:=h.mem_iff.1 (by simp)
   rcases List.mem_cons.1 hb with e|hb
   ·exact e.symm
   ·rcases List.mem_cons.1 ha with e|ha
    ·exact e
    ·have:=h3 b hb;have:=h5 a ha;omega
  subst e
  rw [zdI h4 h6 ((List.perm_cons a).1 h)]
theorem zq4 {l l':List Int} (h:l.Perm l'):zbz l=zbz l':=zdI (zeC l) (zeC l') (((zca l).trans h).trans (zca l').symm)
theorem zA9 {l s:List Int} (hs:s.Pairwise (· ≤ ·)) (hp:s.Perm l):s=zbz l:=zdI hs (zeC l) (hp.trans (zca l).symm)
def zfd (l:List Int):List Int:=zbz (ddT l)
theorem zx6 {α:Type} [DecidableEq α] {l l':List α} (h : ∀ x,x∈l↔x∈l'):(ddT l).Perm (ddT l'):=by
 rw [List.perm_iff_count]
 intro a
 have c : ∀ l:List α,(ddT l).count a=if a∈l then 1 else 0:=fun l=>by
  by_cases ha:a∈l
  ·rw [if_pos ha]
   have h1:=List.nodup_iff_count.1 (zcJ l) a
   have h2:=List.count_pos_iff.2 (zas.2 ha)
   omega
  ·rw [if_neg ha];exact List.count_eq_zero.2 (fun h=>ha (zas.1 h))
 rw [c,c]
 by_cases ha:a∈l
 ·rw [if_pos ha,if_pos ((h a).1 ha)]
 ·rw [if_neg ha,if_neg (fun h'=>ha ((h a).2 h'))]
theorem zpx {l l':List Int} (h : ∀ x,x∈l↔x∈l'):zfd l=zfd l':=zq4 (zx6 h)
abbrev zB:=List (Nat→Nat→Bool)
def zde (n:Nat) (r:Nat→Nat→Bool) (q:Nat→Nat) (w:Nat):List Int:=((List.range n).filter fun v=>r w v).map fun v=>(q v:Int)
def ziv (n:Nat) (R:zB) (q:Nat→Nat) (w:Nat):Tup:=[(q w:Int)]::R.map fun r=>zbz (zde n r q w)
def zY (n:Nat) (R:zB) (q:Nat→Nat) (w:Nat):Tup:=[(q w:Int)]::R.map fun r=>zfd (zde n r q w)
theorem zfR {n:Nat} {R:zB} (q:Nat→Nat) (v w:Nat) (_:v < n) (_:w < n) (h:zY n R q v=zY n R q w):q v=q w:=by
 unfold zY at h
 have:=(List.cons.inj h).1
 simp at this;omega
structure zgW (n:Nat) (f:Nat→Nat) (R R':zB):Prop where
 len:R'.length=R.length
 rel : ∀ (i:Nat) (r r':Nat→Nat→Bool),R[i]? = some r→R'[i]? = some r' → ∀ v w,v < n→w < n→r' (f v) (f w)=r v w
theorem zyX {n:Nat} {f:Nat→Nat} (hf:Ren n f) {r r':Nat→Nat→Bool} (h : ∀ v w,v < n→w < n→r' (f v) (f w)=r v w) {q q':Nat→Nat} (hq : ∀ w,w < n→q' (f w)=q w) {w:Nat} (hw:w < n):(zde n r' q' (f w)).Perm (zde n r q w):=by
 have h1:((List.range n).filter fun v=>r' (f w) v).Perm (((List.range n).filter fun v=>r w v).map f):=by
  refine zfS (List.Nodup.sublist List.filter_sublist List.nodup_range) ?_ fun x=>?_
  ·rw [List.Nodup,List.pairwise_map]
   refine List.Pairwise.imp_of_mem (fun {a b} ha hb hab e=>hab (hf.inj a b ?_ ?_ e)) (List.Nodup.sublist List.filter_sublist List.nodup_range)
   ·exact List.mem_range.1 (List.mem_filter.1 ha).1
   ·exact List.mem_range.1 (List.mem_filter.1 hb).1
  ·constructor
   ·intro hx
    obtain ⟨h1,h2⟩:=List.mem_filter.1 hx
    obtain ⟨v,hv,rfl⟩:=hf.surj (List.mem_range.1 h1)
    exact List.mem_map.2 ⟨v,List.mem_filter.2 ⟨List.mem_range.2 hv,by rw [← h w v hw hv];exact h2⟩,rfl⟩
   ·intro hx
    obtain ⟨v,hv,rfl⟩:=List.mem_map.1 hx
    obtain ⟨h1,h2⟩:=List.mem_filter.1 hv
    have h1:=List.mem_range.1 h1
    exact List.mem_filter.2 ⟨List.mem_range.2 (hf.lt v h1),by rw [h w v hw h1];exact h2⟩
 unfold zde
 refine (h1.map _).trans ?_
 rw [List.map_map]
 refine List.Perm.of_eq (List.map_congr_left fun v hv=>?_)
 have:=List.mem_range.1 (List.mem_filter.1 hv).1
 show ((q' (f v):Nat):Int)=_
 rw [hq v this]
theorem zsU {n:Nat} {f:Nat→Nat} (hf:Ren n f) {R R':zB} (hR:zgW n f R R') {q q':Nat→Nat} (hq : ∀ w,w < n→q' (f w)=q w) {w:Nat} (hw:w < n):ziv n R' q' (f w)=ziv n R q w∧zY n R' q' (f w)=zY n R q w:=by
 have key : ∀ (g:List Int→List Int),(∀ l l':List Int,l.Perm l'→g l=g l')→(R'.map fun r=>g (zde n r q' (f w)))=R.map fun r=>g (zde n r q w):=by
  intro g hg
  refine List.ext_getElem? fun i=>?_
  rw [List.getElem?_map,List.getElem?_map]
  by_cases hi:i < R.length
  ·obtain ⟨r,hr⟩ : ∃ r,R[i]? = some r:=⟨_,List.getElem?_eq_getElem hi⟩
   obtain ⟨r',hr'⟩ : ∃ r',R'[i]? = some r':=⟨_,List.getElem?_eq_getElem (by rw [hR.len];exact hi)⟩
   rw [hr,hr']
   exact congrArg some (hg _ _ (zyX hf (hR.rel i r r' hr hr') hq hw))
  ·rw [List.getElem?_eq_none (by rw [hR.len];omega),List.getElem?_eq_none (by omega)];rfl
 exact ⟨by unfold ziv;rw [hq w hw,key zbz fun l l' h=>zq4 h],by unfold zY;rw [hq w hw,key zfd fun l l' h=>zpx fun x=>h.mem_iff]⟩
def zs5 (n:Nat) (R:zB) (first:Nat→Tup):(Nat→Nat)×Nat:=zbn n (ziv n R) (n+1) (fun w=>rkN ((List.range n).map first) (first w)) (cnN ((List.range n).map first))
def zcm (n:Nat) (R:zB) (first:Nat→Tup):(Nat→Nat)×Nat:=zbn n (zY n R) (n+1) (fun w=>rkN ((List.range n).map first) (first w)) (cnN ((List.range n).map first))
theorem zmD {n:Nat} {f:Nat→Nat} (hf:Ren n f) {R R':zB} (hR:zgW n f R R') {first first':Nat→Tup} (h1 : ∀ w,w < n→first' (f w)=first w) :
  (∀ w,w < n→(zs5 n R' first').1 (f w)=(zs5 n R first).1 w)∧(zs5 n R' first').2=(zs5 n R first).2∧(∀ w,w < n→(zcm n R' first').1 (f w)=(zcm n R first).1 w)∧(zcm n R' first').2=(zcm n R first).2:=by
 have hc:=zw0 hf h1
 have hr : ∀ w,w < n→(fun w=>rkN ((List.range n).map first') (first' w)) (f w)=(fun w=>rkN ((List.range n).map first) (first w)) w:=fun w hw=>zw1 hf h1 hw
 have ha:=ztb hf (next:=ziv n R) (next':=ziv n R') (fun q q' hq w hw=>(zsU hf hR hq hw).1) (n+1) (fun w=>rkN ((List.range n).map first) (first w)) (fun w=>rkN ((List.range n).map first') (first' w)) (cnN ((List.range n).map first)) hr
 have ho:=ztb hf (next:=zY n R) (next':=zY n R') (fun q q' hq w hw=>(zsU hf hR hq hw).2) (n+1) (fun w=>rkN ((List.range n).map first) (first w)) (fun w=>rkN ((List.range n).map first') (first' w)) (cnN ((List.range n).map first)) hr
 unfold zs5 zcm
 rw [hc]
 exact ⟨ha.1,ha.2,ho.1,ho.2⟩
end Go.Ab
namespace Go.Ab
structure zci (n:Nat) (fa fb:Nat→Int) (R R':zB) (f:Nat→Nat):Prop where
 ren:Ren n f
 fac : ∀ w,w < n→fb (f w)=fa w
 rel:zgW n f R R'
def zos (R:zB):zB:=R.map fun r=>fun v w=>r w v
theorem zgW.back {n:Nat} {f:Nat→Nat} {R R':zB} (h:zgW n f R R'):zgW n f (R++zos R) (R'++zos R'):=by
 refine ⟨by simp [zos,h.len],fun i r r' h1 h2 v w hv hw=>?_⟩
 by_cases hi:i < R.length
 ·rw [List.getElem?_append_left hi] at h1
  rw [List.getElem?_append_left (by rw [h.len];exact hi)] at h2
  exact h.rel i r r' h1 h2 v w hv hw
 ·rw [List.getElem?_append_right (by omega),zos,List.getElem?_map,Option.map_eq_some_iff] at h1
  rw [List.getElem?_append_right (by rw [h.len];omega),zos,List.getElem?_map,Option.map_eq_some_iff] at h2
  obtain ⟨s,hs,rfl⟩:=h1
  obtain ⟨s',hs',rfl⟩:=h2
  exact h.rel _ s s' hs (by rw [← h.len];exact hs') w v hw hv
end Go.Ab
namespace Go.Ab
def zb7 (n:Nat) (f:Nat→Nat) (x:Nat):Nat:=((List.range n).find? fun w=>decide (f w=x)).getD 0
theorem zhk {n:Nat} {f:Nat→Nat} (hf:Ren n f) {w:Nat} (hw:w < n):zb7 n f (f w)=w:=by
 unfold zb7
 cases h:(List.range n).find? fun u=>decide (f u=f w) with
 | none=>have:=List.find?_eq_none.1 h w (List.mem_range.2 hw);simp at this
 | some u =>
  have h1:=List.find?_some h
  exact hf.inj u w (List.mem_range.1 (List.mem_of_find?_eq_some h)) hw (of_decide_eq_true h1)
theorem zdT {n:Nat} {f:Nat→Nat} (hf:Ren n f) {x:Nat} (hx:x < n):zb7 n f x < n∧f (zb7 n f x)=x:=by
 obtain ⟨w,hw,rfl⟩:=hf.surj hx
 rw [zhk hf hw];exact ⟨hw,rfl⟩
theorem Ren.inv {n:Nat} {f:Nat→Nat} (hf:Ren n f):Ren n (zb7 n f) :=
 ⟨fun x hx=>(zdT hf hx).1,fun x y hx hy e=>by rw [← (zdT hf hx).2,← (zdT hf hy).2,e]⟩
theorem zgW.inv {n:Nat} {f:Nat→Nat} {R R':zB} (hf:Ren n f) (h:zgW n f R R'):zgW n (zb7 n f) R' R :=
 ⟨h.len.symm,fun i r r' h1 h2 v w hv hw=>by
  have e:=h.rel i r' r h2 h1 (zb7 n f v) (zb7 n f w) (zdT hf hv).1 (zdT hf hw).1
  rw [(zdT hf hv).2,(zdT hf hw).2] at e
  exact e.symm⟩
theorem zci.inv {n:Nat} {fa fb:Nat→Int} {R R':zB} {f:Nat→Nat} (h:zci n fa fb R R' f):zci n fb fa R' R (zb7 n f) :=
 ⟨h.ren.inv,fun x hx=>by rw [← h.fac _ (zdT h.ren hx).1,(zdT h.ren hx).2],h.rel.inv h.ren⟩
end Go.Ab
namespace Go.Ab
def zml (n:Nat) (R:zB) (q:Nat→Nat):Prop := ∀ v w,v < n→w < n→q v=q w→zY n R q v=zY n R q w
theorem zke {l:List Int} {x:Int} : x∈zfd l↔x∈l:=by
 unfold zfd;rw [(zca _).mem_iff];exact zas
theorem zp6 {n:Nat} {r:Nat→Nat→Bool} {q:Nat→Nat} {w:Nat} {x:Int} : x∈zde n r q w ↔ ∃ v,v < n∧r w v=true∧(q v:Int)=x:=by
 unfold zde
 rw [List.mem_map]
 constructor
 ·rintro ⟨v,hv,e⟩
  obtain ⟨h1,h2⟩:=List.mem_filter.1 hv
  exact ⟨v,List.mem_range.1 h1,h2,e⟩
 ·rintro ⟨v,h1,h2,e⟩
  exact ⟨v,List.mem_filter.2 ⟨List.mem_range.2 h1,h2⟩,e⟩
theorem zbY {n:Nat} {R:zB} {q:Nat→Nat} {v w:Nat} : zY n R q v=zY n R q w↔q v=q w ∧ ∀ r∈R,∀ x:Nat,(∃ u,u < n∧r v u=true∧q u=x) ↔ ∃ u,u < n∧r w u=true∧q u=x:=by
 have cast : ∀ (r:Nat→Nat→Bool) (a:Nat) (x:Nat),((x:Int)∈zde n r q a) ↔ ∃ u,u < n∧r a u=true∧q u=x:=fun r a x=>by
  rw [zp6]
  exact ⟨fun ⟨u,h1,h2,h3⟩=>⟨u,h1,h2,by omega⟩,fun ⟨u,h1,h2,h3⟩=>⟨u,h1,h2,by omega⟩⟩
 constructor
 ·intro h
  obtain ⟨h1,h2⟩:=List.cons.inj h
  refine ⟨by simp at h1;omega,fun r hr x=>?_⟩
  rw [← cast,← cast,← zke,← zke (l:=zde n r q w)]
  have:=(List.map_inj_left.1 h2) r hr
  rw [this]
 ·rintro ⟨h1,h2⟩
  unfold zY
  rw [h1]
  congr 1
  refine List.map_congr_left fun r hr=>zpx fun x=>?_
  constructor
  ·intro hx
   obtain ⟨u,a,b,rfl⟩:=zp6.1 hx
   exact (cast r w (q u)).2 ((h2 r hr (q u)).1 ⟨u,a,b,rfl⟩)
  ·intro hx
   obtain ⟨u,a,b,rfl⟩:=zp6.1 hx
   exact (cast r v (q u)).2 ((h2 r hr (q u)).2 ⟨u,a,b,rfl⟩)
theorem zpy {n:Nat} {R:zB} {q:Nat→Nat} (hs:zml n R q) {p:Nat→Nat} (hp : ∀ v w,v < n→w < n→q v=q w→p v=p w) : ∀ v w,v < n→w < n→q v=q w→zY n R p v=zY n R p w:=by
 intro v w hv hw h
 obtain ⟨-,h2⟩:=zbY.1 (hs v w hv hw h)
 refine zbY.2 ⟨hp v w hv hw h,fun r hr x=>?_⟩
 constructor
 ·rintro ⟨u,a,b,rfl⟩
  obtain ⟨u',a',b',e⟩:=(h2 r hr (q u)).1 ⟨u,a,b,rfl⟩
  exact ⟨u',a',b',hp u' u a' a e⟩
 ·rintro ⟨u,a,b,rfl⟩
  obtain ⟨u',a',b',e⟩:=(h2 r hr (q u)).2 ⟨u,a,b,rfl⟩
  exact ⟨u',a',b',hp u' u a' a e⟩
theorem zqh {n:Nat} {R:zB} {q:Nat→Nat} (hs:zml n R q) : ∀ (k:Nat) (p:Nat→Nat) (c:Nat),(∀ v w,v < n→w < n→q v=q w→p v=p w) → ∀ v w,v < n→w < n→q v=q w→(zbn n (zY n R) k p c).1 v=(zbn n (zY n R) k p c).1 w
 | 0,p,c,hp=>hp
 | k+1,p,c,hp=>by
  unfold zbn
  by_cases h:zbD n (zY n R) p=c
  ·rw [if_pos h];exact hp
  ·rw [if_neg h]
   refine zqh hs k _ _ fun v w hv hw e=>?_
   exact (zku hv hw).2 (zpy hs hp v w hv hw e)
theorem zl2 {n:Nat} {R:zB} {first:Nat→Tup} : ∃ q,zcm n R first=(q,dcN n q)∧zml n R q∧(∀ v w,v < n→w < n→q v=q w→first v=first w):=by
 have hd:dcN n (fun w=>rkN ((List.range n).map first) (first w))=cnN ((List.range n).map first):=by
  have hm : ∀ w,w < n→first w∈(List.range n).map first:=fun w hw=>List.mem_map.2 ⟨w,List.mem_range.2 hw,rfl⟩
  exact Nat.le_antisymm (zmq (f:=first) fun v w _ _ h=>by rw [h]) (zmq (g:=first) fun v w hv hw h=>ztc (hm v hv) (hm w hw) h)
 obtain ⟨q,h1,h2,h3⟩:=zqW (next:=zY n R) (fun q v w hv hw h=>zfR q v w hv hw h) (n+1) (fun w=>rkN ((List.range n).map first) (first w)) (by omega)
 rw [hd] at h1
 refine ⟨q,h1,zui (fun v w hv hw h=>zfR q v w hv hw h) h2.symm,fun v w hv hw h=>?_⟩
 exact ztc (List.mem_map.2 ⟨v,List.mem_range.2 hv,rfl⟩) (List.mem_map.2 ⟨w,List.mem_range.2 hw,rfl⟩) (h3 v w hv hw h)
theorem zpR {n:Nat} {q:Nat→Nat} : dcN n q=n ↔ ∀ v w,v < n→w < n→q v=q w→v=w:=by
 constructor
 ·intro h
  refine zui (f:=fun w=>w) (g:=q) (fun v w _ _ e=>by rw [e]) ?_
  have:(ddT ((List.range n).map fun w=>w)).length=n:=by
   have h1:=zbJ (l:=(List.range n).map fun w=>w) (l':=ddT ((List.range n).map fun w=>w)) (by simpa using List.nodup_range) fun x hx=>zas.2 hx
   have h2:=zhJ n fun w=>w
   unfold dcN at h2
   rw [List.length_map,List.length_range] at h1
   omega
  rw [this];exact h
 ·intro h
  have h1:=zbJ (l:=(List.range n).map q) (l':=ddT ((List.range n).map q)) (by
   rw [List.Nodup,List.pairwise_map]
   exact List.Pairwise.imp_of_mem (fun {a b} ha hb hab e=>hab (h a b (List.mem_range.1 ha) (List.mem_range.1 hb) e)) List.nodup_range) fun x hx=>zas.2 hx
  have h2:=zhJ n q
  rw [List.length_map,List.length_range] at h1
  unfold dcN at h2 ⊢
  omega
theorem zvD {n:Nat} {R:zB} {f g:Nat→Tup} (h : ∀ v w,v < n→w < n→f v=f w→g v=g w) : ∀ v w,v < n→w < n→(zcm n R f).1 v=(zcm n R f).1 w→(zcm n R g).1 v=(zcm n R g).1 w:=by
 obtain ⟨q,h1,h2,h3⟩:=zl2 (n:=n) (R:=R) (first:=f)
 rw [h1]
 intro v w hv hw e
 exact zqh h2 (n+1) _ _ (fun v w hv hw e=>by rw [h v w hv hw (h3 v w hv hw e)]) v w hv hw e
theorem zob {n:Nat} {R:zB} {first:Nat→Tup} : (zcm n R first).2=dcN n (zcm n R first).1:=by
 obtain ⟨q,h1,-⟩:=zl2 (n:=n) (R:=R) (first:=first)
 rw [h1]
theorem zqV {n:Nat} {R:zB} {f g:Nat→Tup} (h : ∀ v w,v < n→w < n→f v=f w→g v=g w) (hg:(zcm n R g).2=n):(zcm n R f).2=n∧Ren n (zcm n R f).1:=by
 have h1 : ∀ v w,v < n→w < n→(zcm n R f).1 v=(zcm n R f).1 w→v=w:=fun v w hv hw e=>by
  rw [zob] at hg
  exact zpR.1 hg v w hv hw (zvD h v w hv hw e)
 refine ⟨by rw [zob];exact zpR.2 h1,⟨fun w hw=>?_,h1⟩⟩
 have key : ∀ (k:Nat) (q:Nat→Nat) (c:Nat),(∀ w,w < n→q w < n) → ∀ w,w < n→(zbn n (zY n R) k q c).1 w < n:=by
  intro k
  induction k with
  | zero=>intro q c hq;exact hq
  | succ k ih =>
   intro q c hq
   unfold zbn
   by_cases e:zbD n (zY n R) q=c
   ·rw [if_pos e];exact hq
   ·rw [if_neg e]
    refine ih _ _ fun w hw=>?_
    have:=ztd (zqd (next:=zY n R) (q:=q) hw)
    have h2:=zv8 (n:=n) (next:=zY n R) q
    exact Nat.lt_of_lt_of_le this h2
 refine key (n+1) _ _ (fun w hw=>?_) w hw
 have h2:=ztd (ts:=(List.range n).map f) (t:=f w) (List.mem_map.2 ⟨w,List.mem_range.2 hw,rfl⟩)
 have h3:cnN ((List.range n).map f)≤n:=by
  have:=zbJ (zcJ ((List.range n).map f)) (l':=(List.range n).map f) fun x hx=>zas.1 hx
  rwa [List.length_map,List.length_range] at this
 exact Nat.lt_of_lt_of_le h2 h3
theorem zAp {ts:List Tup} {t:Tup} (h : ∀ s∈ts,0≤zaX s t):rkN ts t=0:=by
 unfold rkN
 rw [List.length_eq_zero_iff,List.filter_eq_nil_iff]
 intro s hs
 have:=h s (zas.1 hs)
 simp;omega
theorem zoK {a b:Int} {x y:Tup} (h:a < b):zaX ([a]::x) ([b]::y) = -1:=by
 have e:zab za8 [a] [b] = -1:=by simp [zab,za8,h]
 show (if zab za8 [a] [b]=0 then _ else zab za8 [a] [b]) = -1
 rw [e];rfl
theorem zw6 {n:Nat} {R:zB} {root:Nat} (hr:root < n) {x:Nat→Tup} : let q:=(zcm n R fun w=>[if w=root then (0:Int) else 1]::x w).1;q root=0 ∧ ∀ w,w < n→w≠root→0 < q w:=by
 have step : ∀ (t:Nat→Tup) (a:Nat→Int) (y:Nat→Tup),(∀ w,t w=[a w]::y w)→(∀ w,w < n→w≠root→a root < a w)→rkN ((List.range n).map t) (t root)=0 ∧ ∀ w,w < n→w≠root→0 < rkN ((List.range n).map t) (t w):=by
  intro t a y ht ha
  have hz:rkN ((List.range n).map t) (t root)=0:=zAp fun s hs=>by
   obtain ⟨w,hw,rfl⟩:=List.mem_map.1 hs
   by_cases e:w=root
   ·rw [e,zan.refl];omega
   ·have:=zan.anti (t root) (t w)
    rw [this,ht,ht,zoK (ha w (List.mem_range.1 hw) e)];decide
  refine ⟨hz,fun w hw hne=>?_⟩
  have:=(zl6 (ts:=(List.range n).map t) (s:=t root) (t:=t w) (List.mem_map.2 ⟨root,List.mem_range.2 hr,rfl⟩) (List.mem_map.2 ⟨w,List.mem_range.2 hw,rfl⟩)).2 (by
   rw [ht root,ht w,zoK (ha w hw hne)];decide)
  omega
 have key : ∀ (k:Nat) (q:Nat→Nat) (c:Nat),q root=0→(∀ w,w < n→w≠root→0 < q w)→(zbn n (zY n R) k q c).1 root=0 ∧ ∀ w,w < n→w≠root→0 < (zbn n (zY n R) k q c).1 w:=by
  intro k
  induction k with
  | zero=>intro q c h1 h2;exact ⟨h1,h2⟩
  | succ k ih =>
   intro q c h1 h2
   unfold zbn
   by_cases e:zbD n (zY n R) q=c
   ·rw [if_pos e];exact ⟨h1,h2⟩
   ·rw [if_neg e]
    have:=step (zY n R q) (fun w=>(q w:Int)) (fun w=>R.map fun r=>zfd (zde n r q w)) (fun w=>rfl) (fun w hw hne=>by have:=h2 w hw hne;omega)
    exact ih _ _ this.1 this.2
 have h0:=step (fun w=>[if w=root then (0:Int) else 1]::x w) (fun w=>if w=root then 0 else 1) x (fun w=>rfl) (fun w hw hne=>by simp [hne])
 exact key (n+1) _ _ h0.1 h0.2
end Go.Ab
namespace Go.Ab
def zdQ (n:Nat) (R:zB) (p:Nat→Nat):Nat→Nat:=zW (zbd (zY n R p))
theorem zgg {n:Nat} {R:zB} {p:Nat→Nat} {v w:Nat} : zdQ n R p v=zdQ n R p w↔zY n R p v=zY n R p w:=by
 unfold zdQ;rw [zjn (zbS _)];simp [zbd]
theorem zfP (n:Nat) (R:zB) (p:Nat→Nat) (m:Nat):zaC m (zdQ n R p):=zef (zbS _) m
def zit (n:Nat) (R:zB):Nat→(Nat→Nat)→Nat→Nat
 | 0,p=>p
 | k+1,p=>if (List.range n).map (zdQ n R p)=(List.range n).map p then p else zit n R k (zdQ n R p)
theorem zkI {n:Nat} {p q:Nat→Nat} : (List.range n).map p=(List.range n).map q ↔ ∀ w,w < n→p w=q w:=by
 rw [List.map_inj_left]
 exact ⟨fun h w hw=>h w (List.mem_range.2 hw),fun h w hw=>h w (List.mem_range.1 hw)⟩
theorem zwI {n:Nat} {R:zB} {p:Nat→Nat} (hp:zaC n p) (h : ∃ w,w < n∧zdQ n R p w≠p w):zu n p < zu n (zdQ n R p):=by
 have fine : ∀ v w,v < n→w < n→zdQ n R p v=zdQ n R p w→p v=p w:=fun v w hv hw e=>zfR p v w hv hw (zgg.1 e)
 have rep : ∀ w,w < n→p w=w→zdQ n R p w=w:=fun w hw e=>by
  have h1:=(zfP n R p n).le w hw
  have h2:=(zfP n R p n).idem w hw
  have h3:=fine (zdQ n R p w) w (by omega) hw h2
  have h4:=hp.le (zdQ n R p w) (by omega)
  omega
 unfold zu
 have e1 : ∀ f:Nat→Nat,(List.range n).filter (fun w=>decide (f w=w))=(List.range n).filter fun w=>decide (w < n∧f w=w):=fun f=>List.filter_congr fun w hw=>by
  have:=List.mem_range.1 hw
  simp [this]
 rw [e1,e1]
 refine (zgP (fun w hw=>?_) _).2 ?_
 ·simp only [decide_eq_true_eq] at hw ⊢
  exact ⟨hw.1,rep w hw.1 hw.2⟩
 ·obtain ⟨w,hw,hne⟩:=h
  refine Classical.byContradiction fun hn=>hne ?_
  have hall : ∀ u,u < n→zdQ n R p u=u→p u=u:=fun u hu e=>Classical.byContradiction fun h=>hn ⟨u,List.mem_range.2 hu,by simp [h],by simp [hu,e]⟩
  have h1:=(zfP n R p n).le w hw
  have h2:=(zfP n R p n).idem w hw
  have h3:=hall _ (by omega) h2
  rw [← h3]
  exact fine _ w (by omega) hw h2
theorem zn6 {n:Nat} {R:zB} : ∀ (k:Nat) (p:Nat→Nat),zaC n p→n < k+zu n p → ∃ q,zit n R k p=q∧zaC n q∧(∀ w,w < n→zdQ n R q w=q w)∧(∀ v w,v < n→w < n→q v=q w→p v=p w) ∧
  ∀ Q:Nat→Nat,zml n R Q→(∀ v w,v < n→w < n→Q v=Q w→p v=p w) → ∀ v w,v < n→w < n→Q v=Q w→q v=q w
 | 0,p,hp,h=>by have:=zcp n p;omega
 | k+1,p,hp,h=>by
  unfold zit
  by_cases he:(List.range n).map (zdQ n R p)=(List.range n).map p
  ·rw [if_pos he]
   exact ⟨p,rfl,hp,zkI.1 he,fun _ _ _ _ h=>h,fun Q _ h=>h⟩
  ·rw [if_neg he]
   have hne : ∃ w,w < n∧zdQ n R p w≠p w:=Classical.byContradiction fun hn=>he (zkI.2 fun w hw=>Classical.byContradiction fun h=>hn ⟨w,hw,h⟩)
   have hg:=zwI hp hne
   obtain ⟨q,h1,h2,h3,h4,h5⟩:=zn6 k (zdQ n R p) (zfP n R p n) (by omega)
   exact ⟨q,h1,h2,h3,fun v w hv hw e=>zfR p v w hv hw (zgg.1 (h4 v w hv hw e)),fun Q hQ hQp=>h5 Q hQ fun v w hv hw e=>zgg.2 (zpy hQ hQp v w hv hw e)⟩
theorem zsQ {n:Nat} {R:zB} {fa:Nat→Int} {first:Nat→Tup} (hfst : ∀ v w,v < n→w < n→(first v=first w↔fa v=fa w)):zu n (zit n R (n+1) (zW (zbd fa)))=n↔(zcm n R first).2=n:=by
 obtain ⟨q,h1,h2,h3,h4,h5⟩:=zn6 (R:=R) (n+1) (zW (zbd fa)) (zef (zbS fa) n) (by omega)
 rw [h1]
 have hfa : ∀ v w,zW (zbd fa) v=zW (zbd fa) w↔fa v=fa w:=fun v w=>by rw [zjn (zbS fa)];simp [zbd]
 have hq:zml n R q:=fun v w hv hw e=>zgg.1 (by rw [h3 v hv,h3 w hw,e])
 obtain ⟨Q,g1,g2,g3⟩:=zl2 (n:=n) (R:=R) (first:=first)
 have hQq:=h5 Q g2 fun v w hv hw e=>(hfa v w).2 ((hfst v w hv hw).1 (g3 v w hv hw e))
 have hqQ : ∀ v w,v < n→w < n→q v=q w→Q v=Q w:=by
  have:=zqh hq (n+1) (fun w=>rkN ((List.range n).map first) (first w)) (cnN ((List.range n).map first)) fun v w hv hw e=>by
   rw [(hfst v w hv hw).2 ((hfa v w).1 (h4 v w hv hw e))]
  intro v w hv hw e
  have h:=this v w hv hw e
  have e1:(zbn n (zY n R) (n+1) (fun w=>rkN ((List.range n).map first) (first w)) (cnN ((List.range n).map first))).1=Q:=by
   have:=congrArg Prod.fst g1
   exact this
  rw [e1] at h
  exact h
 rw [g1]
 show zu n q=n↔dcN n Q=n
 rw [zpR]
 have hc:zu n q=n ↔ ∀ w,w < n→q w=w:=by
  unfold zu
  constructor
  ·intro h w hw
   have:=List.length_filter_eq_length_iff.1 (h.trans List.length_range.symm) w (List.mem_range.2 hw)
   exact of_decide_eq_true this
  ·intro h
   exact (List.length_filter_eq_length_iff.2 fun w hw=>decide_eq_true (h w (List.mem_range.1 hw))).trans List.length_range
 rw [hc]
 constructor
 ·intro h v w hv hw e
  have:=hQq v w hv hw e
  rw [h v hv,h w hw] at this
  exact this
 ·intro h w hw
  have h6:=h2.le w hw
  exact h _ w (by omega) hw (hqQ _ w (by omega) hw (h2.idem w hw))
end Go.Ab
namespace Go.Ab
structure zch (n n':Nat) (R R':zB) (fa fb:Nat→Int) (Z:Nat→Nat→Prop):Prop where
 len:R'.length=R.length
 lt : ∀ {v v'},Z v v'→v < n∧v' < n'
 fac : ∀ {v v'},Z v v'→fa v=fb v'
 forth : ∀ {i:Nat} {r r':Nat→Nat→Bool},R[i]? = some r→R'[i]? = some r' → ∀ {v v' u},Z v v'→u < n→r v u=true → ∃ u',u' < n'∧r' v' u'=true∧Z u u'
 back : ∀ {i:Nat} {r r':Nat→Nat→Bool},R[i]? = some r→R'[i]? = some r' → ∀ {v v' u'},Z v v'→u' < n'→r' v' u'=true → ∃ u,u < n∧r v u=true∧Z u u'
theorem zch.symm {n n':Nat} {R R':zB} {fa fb:Nat→Int} {Z:Nat→Nat→Prop} (B:zch n n' R R' fa fb Z):zch n' n R' R fb fa fun v' v=>Z v v' where
 len:=B.len.symm
 lt h:=⟨(B.lt h).2,(B.lt h).1⟩
 fac h:=(B.fac h).symm
 forth h1 h2:=fun {v v' u} hz hu hr=>by obtain ⟨u,a,b,c⟩:=B.back h2 h1 hz hu hr;exact ⟨u,a,b,c⟩
 back h1 h2:=fun {v v' u} hz hu hr=>by obtain ⟨u,a,b,c⟩:=B.forth h2 h1 hz hu hr;exact ⟨u,a,b,c⟩
theorem zeB {R R':zB} (h:R'.length=R.length) {i:Nat} {r:Nat→Nat→Bool} (hr:R[i]? = some r) : ∃ r',R'[i]? = some r' :=
 ⟨_,List.getElem?_eq_getElem (by have:=(List.getElem?_eq_some_iff.1 hr).1;omega)⟩
theorem zch.trans {n n' n2:Nat} {R R' R2:zB} {fa fb fc:Nat→Int} {Z Z':Nat→Nat→Prop} (B:zch n n' R R' fa fb Z) (B':zch n' n2 R' R2 fb fc Z'):zch n n2 R R2 fa fc fun v w => ∃ u,Z v u∧Z' u w where
 len:=B'.len.trans B.len
 lt:=fun ⟨u,h,h'⟩=>⟨(B.lt h).1,(B'.lt h').2⟩
 fac:=fun ⟨u,h,h'⟩=>(B.fac h).trans (B'.fac h')
 forth h1 h2:=fun ⟨x,h,h'⟩ hu hr=>by
  obtain ⟨r',hr'⟩:=zeB B.len h1
  obtain ⟨a,a1,a2,a3⟩:=B.forth h1 hr' h hu hr
  obtain ⟨b,b1,b2,b3⟩:=B'.forth hr' h2 h' a1 a2
  exact ⟨b,b1,b2,a,a3,b3⟩
 back h1 h2:=fun ⟨x,h,h'⟩ hu hr=>by
  obtain ⟨r',hr'⟩:=zeB B.len h1
  obtain ⟨a,a1,a2,a3⟩:=B'.back hr' h2 h' hu hr
  obtain ⟨b,b1,b2,b3⟩:=B.back h1 hr' h a1 a2
  exact ⟨b,b1,b2,a,b3,a3⟩
theorem zut {n:Nat} {R:zB} {fa:Nat→Int} {Z:Nat→Nat→Prop} (B:zch n n R R fa fa Z) : ∀ (k:Nat) (p:Nat→Nat),(∀ v w,Z v w→p v=p w) → ∀ v w,Z v w→zit n R k p v=zit n R k p w
 | 0,p,hp=>hp
 | k+1,p,hp=>by
  unfold zit
  split
  ·exact hp
  ·refine zut B k _ fun v w hz=>zgg.2 (zbY.2 ⟨hp v w hz,fun r hr x=>?_⟩)
   obtain ⟨i,hi⟩:=List.mem_iff_getElem?.1 hr
   constructor
   ·rintro ⟨u,a,b,rfl⟩
    obtain ⟨u',c,d,e⟩:=B.forth hi hi hz a b
    exact ⟨u',c,d,(hp u u' e).symm⟩
   ·rintro ⟨u,a,b,rfl⟩
    obtain ⟨u',c,d,e⟩:=B.back hi hi hz a b
    exact ⟨u',c,d,hp u' u e⟩
def coa (n:Nat) (R:zB) (fa:Nat→Int):Nat→Nat:=zit n R (n+1) (zW (zbd fa))
theorem zpV {fa:Nat→Int} {v w:Nat} : zW (zbd fa) v=zW (zbd fa) w↔fa v=fa w:=by rw [zjn (zbS fa)];simp [zbd]
structure zie (n:Nat) (R:zB) (fa:Nat→Int) (q:Nat→Nat):Prop where
 canon:zaC n q
 stab:zml n R q
 fac : ∀ v w,v < n→w < n→q v=q w→fa v=fa w
theorem zdp (n:Nat) (R:zB) (fa:Nat→Int):zie n R fa (coa n R fa):=by
 obtain ⟨q,h1,h2,h3,h4,h5⟩:=zn6 (R:=R) (n+1) (zW (zbd fa)) (zef (zbS fa) n) (by omega)
 unfold coa
 rw [h1]
 exact ⟨h2,fun v w hv hw e=>zgg.1 (by rw [h3 v hv,h3 w hw,e]),fun v w hv hw e=>zpV.1 (h4 v w hv hw e)⟩
theorem ziU {n:Nat} {R:zB} {fa:Nat→Int} {Z:Nat→Nat→Prop} (B:zch n n R R fa fa Z) {v w:Nat} (h:Z v w):coa n R fa v=coa n R fa w :=
 zut B (n+1) _ (fun v w hz=>zpV.2 (B.fac hz)) v w h
theorem zie.bis {n:Nat} {R:zB} {fa:Nat→Int} {q:Nat→Nat} (S:zie n R fa q):zch n n R R fa fa fun v w=>v < n∧w < n∧q v=q w where
 len:=rfl
 lt h:=⟨h.1,h.2.1⟩
 fac h:=S.fac _ _ h.1 h.2.1 h.2.2
 forth h1 h2:=fun {v v' u} hz hu hr=>by
  rw [h1] at h2;cases h2
  obtain ⟨u',a,b,c⟩:=((zbY.1 (S.stab _ _ hz.1 hz.2.1 hz.2.2)).2 _ (List.mem_of_getElem? h1) (q u)).1 ⟨u,hu,hr,rfl⟩
  exact ⟨u',a,b,hu,a,c.symm⟩
 back h1 h2:=fun {v v' u} hz hu hr=>by
  rw [h1] at h2;cases h2
  obtain ⟨u',a,b,c⟩:=((zbY.1 (S.stab _ _ hz.1 hz.2.1 hz.2.2)).2 _ (List.mem_of_getElem? h1) (q u)).2 ⟨u,hu,hr,rfl⟩
  exact ⟨u',a,b,a,hu,c⟩
def zaD (n:Nat) (q:Nat→Nat):List Nat:=(List.range n).filter fun w=>decide (q w=w)
def zJ (q:Nat→Nat) (w:Nat):Nat:=zu (q w) q
theorem zw3 {q:Nat→Nat} {u:Nat} (hu:q u=u) : ∀ n,u < n→(zaD n q)[zu u q]? = some u
 | 0,h=>by omega
 | n+1,h=>by
  unfold zaD
  rw [List.range_succ,List.filter_append]
  by_cases e:u=n
  ·subst e
   rw [List.getElem?_append_right (by show _≤zu u q;exact Nat.le_refl _)]
   show (List.filter _ [u])[zu u q - zu u q]? = _
   rw [Nat.sub_self]
   simp [hu]
  ·have ih:=zw3 hu n (by omega)
   have hlt:=(List.getElem?_eq_some_iff.1 ih).1
   rw [List.getElem?_append_left (by exact hlt)]
   exact ih
section
variable {n:Nat} {q:Nat→Nat} (hq:zaC n q)
include hq
theorem zgk {w:Nat} (hw:w < n):(zaD n q)[zJ q w]? = some (q w):=zw3 (hq.idem w hw) n (by have:=hq.le w hw;omega)
theorem zcq {w:Nat} (hw:w < n):zJ q w < zu n q:=(List.getElem?_eq_some_iff.1 (zgk hq hw)).1
theorem zeh {v w:Nat} (hv:v < n) (hw:w < n):zJ q v=zJ q w↔q v=q w:=by
 constructor
 ·intro h
  have h1:=zgk hq hv
  rw [h,zgk hq hw] at h1
  exact (Option.some.inj h1).symm
 ·intro h;unfold zJ;rw [h]
theorem zei {i:Nat} (hi:i < zu n q) : ∃ u,(zaD n q)[i]? = some u∧u < n∧q u=u∧zJ q u=i:=by
 obtain ⟨u,h⟩ : ∃ u,(zaD n q)[i]? = some u:=⟨_,List.getElem?_eq_getElem hi⟩
 have h0:=List.mem_filter.1 (List.mem_of_getElem? h)
 have h1:=List.mem_range.1 h0.1
 have h2:=of_decide_eq_true h0.2
 refine ⟨u,h,h1,h2,?_⟩
 have h3:=zgk hq h1
 rw [h2] at h3
 have hnd:(zaD n q).Pairwise (· ≠ ·):=List.Pairwise.filter _ List.nodup_range
 obtain ⟨hi,ei⟩:=List.getElem?_eq_some_iff.1 h
 obtain ⟨hj,ej⟩:=List.getElem?_eq_some_iff.1 h3
 rw [List.pairwise_iff_getElem] at hnd
 rcases Nat.lt_trichotomy (zJ q u) i with hl|hl|hl
 ·exact absurd (ej.trans ei.symm) (hnd _ _ hj hi hl)
 ·exact hl
 ·exact absurd (ei.trans ej.symm) (hnd _ _ hi hj hl)
end
def zaL (n:Nat) (q:Nat→Nat) (r:Nat→Nat→Bool) (i j:Nat):Bool:=(List.range n).any fun v=>(List.range n).any fun w=>zJ q v==i&&(zJ q w==j&&r v w)
theorem zbf {n:Nat} {q:Nat→Nat} {r:Nat→Nat→Bool} {i j:Nat} : zaL n q r i j=true ↔ ∃ v w,v < n∧w < n∧zJ q v=i∧zJ q w=j∧r v w=true:=by
 unfold zaL
 simp only [List.any_eq_true,List.mem_range,Bool.and_eq_true,beq_iff_eq]
 exact ⟨fun ⟨v,hv,w,hw,a,b,c⟩=>⟨v,w,hv,hw,a,b,c⟩,fun ⟨v,w,hv,hw,a,b,c⟩=>⟨v,hv,w,hw,a,b,c⟩⟩
def zgm (n:Nat) (q:Nat→Nat) (fa:Nat→Int) (i:Nat):Int:=fa ((zaD n q).getD i 0)
theorem zie.quo {n:Nat} {R:zB} {fa:Nat→Int} {q:Nat→Nat} (S:zie n R fa q):zch n (zu n q) R (R.map (zaL n q)) fa (zgm n q fa) fun w i=>w < n∧i=zJ q w where
 len:=by simp
 lt:=fun {w i} h=>⟨h.1,by rw [h.2];exact zcq S.canon h.1⟩
 fac:=fun {w i} h=>by
  rw [h.2];unfold zgm
  rw [List.getD,zgk S.canon h.1]
  have h1:=S.canon.le w h.1
  exact S.fac _ _ h.1 (by simp;omega) (S.canon.idem w h.1).symm
 forth h1 h2:=fun {v v' u} hz hu hr=>by
  rw [List.getElem?_map,h1] at h2;cases h2
  exact ⟨zJ q u,zcq S.canon hu,zbf.2 ⟨v,u,hz.1,hu,hz.2.symm,rfl,hr⟩,hu,rfl⟩
 back h1 h2:=fun {v v' u'} hz hu hr=>by
  rw [List.getElem?_map,h1] at h2;cases h2
  obtain ⟨a,b,ha,hb,e1,e2,e3⟩:=zbf.1 hr
  have e:=(zeh S.canon ha hz.1).1 (e1.trans hz.2)
  obtain ⟨u,h3,h4,h5⟩:=((zbY.1 (S.stab a v ha hz.1 e)).2 _ (List.mem_of_getElem? h1) (q b)).1 ⟨b,hb,e3,rfl⟩
  exact ⟨u,h3,h4,h3,by rw [← e2];exact ((zeh S.canon h3 hb).2 h5).symm⟩
theorem zwY {n:Nat} {R:zB} {fa:Nat→Int} : let q:=coa n R fa; ∀ i,i < zu n q→coa (zu n q) (R.map (zaL n q)) (zgm n q fa) i=i:=by
 intro q
 have S:zie n R fa q:=zdp n R fa
 have S':=zdp (zu n q) (R.map (zaL n q)) (zgm n q fa)
 have B:=(S.quo.trans S'.bis).trans S.quo.symm
 have key : ∀ i j,i < zu n q→j < zu n q→coa (zu n q) (R.map (zaL n q)) (zgm n q fa) i=coa (zu n q) (R.map (zaL n q)) (zgm n q fa) j→i=j:=by
  intro i j hi hj he
  obtain ⟨u,-,u1,u2,u3⟩:=zei S.canon hi
  obtain ⟨w,-,w1,w2,w3⟩:=zei S.canon hj
  have:=ziU B (v:=u) (w:=w) ⟨j,⟨i,⟨u1,u3.symm⟩,hi,hj,he⟩,w1,w3.symm⟩
  rw [← u3,← w3]
  exact (zeh S.canon u1 w1).2 this
 intro i hi
 have h1:=S'.canon.le i hi
 exact key _ _ (by omega) hi (S'.canon.idem i hi)
theorem zyL {n:Nat} {q:Nat→Nat} (hq:zaC n q) {r:Nat→Nat→Bool} (h : ∀ v,v < n→r v v=true) : ∀ i,i < zu n q→zaL n q r i i=true:=fun i hi=>by
 obtain ⟨u,-,u1,-,u3⟩:=zei hq hi
 exact zbf.2 ⟨u,u,u1,u1,u3,u3,h u u1⟩
theorem zvB {n:Nat} {q:Nat→Nat} (hq:zaC n q) {r:Nat→Nat→Bool} (h : ∀ v,v < n → ∃ w,w < n∧r v w=true) : ∀ i,i < zu n q → ∃ j,j < zu n q∧zaL n q r i j=true:=fun i hi=>by
 obtain ⟨u,-,u1,-,u3⟩:=zei hq hi
 obtain ⟨w,w1,w2⟩:=h u u1
 exact ⟨zJ q w,zcq hq w1,zbf.2 ⟨u,w,u1,w1,u3,rfl,w2⟩⟩
theorem zwZ {n:Nat} {R:zB} {fa:Nat→Int} {q:Nat→Nat} (S:zie n R fa q) {r:Nat→Nat→Bool} (hr:r∈R) (h : ∀ u v w,u < n→v < n→w < n→r u v=true→r v w=true→r u w=true) : ∀ i j k,zaL n q r i j=true→zaL n q r j k=true→zaL n q r i k=true:=fun i j k h1 h2=>by
 obtain ⟨v,w,a,b,c,d,e⟩:=zbf.1 h1
 obtain ⟨v',w',a',b',c',d',e'⟩:=zbf.1 h2
 have e1:=(zeh S.canon a' b).1 (c'.trans d.symm)
 obtain ⟨x,x1,x2,x3⟩:=((zbY.1 (S.stab v' w a' b e1)).2 r hr (q w')).1 ⟨w',b',e',rfl⟩
 exact zbf.2 ⟨v,x,a,x1,c,by rw [← d'];exact (zeh S.canon x1 b').2 x3,h v w x a b x1 e x2⟩
end Go.Ab
namespace Go.Ab
def zhy (n:Nat) (R:zB) (fa:Nat→Int):Prop := ∀ i,i < n→coa n R fa i=i
theorem zhy.eq {n:Nat} {R:zB} {fa:Nat→Int} (h:zhy n R fa) {Z:Nat→Nat→Prop} (B:zch n n R R fa fa Z) {v w:Nat} (hz:Z v w):v=w:=by
 have:=ziU B hz
 rwa [h v (B.lt hz).1,h w (B.lt hz).2] at this
theorem zx8 {n n':Nat} {R R':zB} {fa fb:Nat→Int} {Z:Nat→Nat→Prop} (hd:zhy n R fa) (hd':zhy n' R' fb) (B:zch n n' R R' fa fb Z) (ht : ∀ v,v < n → ∃ v',Z v v') (hs : ∀ v',v' < n' → ∃ v,Z v v'):n'=n ∧ ∃ f,zci n fa fb R R' f ∧ ∀ v,v < n→Z v (f v):=by
 classical
 have inj : ∀ {v w v'},Z v v'→Z w v'→v=w:=fun {v w v'} h1 h2=>hd.eq (B.trans B.symm) ⟨v',h1,h2⟩
 have fn : ∀ {v v' w'},Z v v'→Z v w'→v'=w':=fun {v v' w'} h1 h2=>hd'.eq (B.symm.trans B) ⟨v,h1,h2⟩
 let f:Nat→Nat:=fun v=>if h:v < n then Classical.choose (ht v h) else 0
 have hf : ∀ v,v < n→Z v (f v):=fun v hv=>by
  have:f v=Classical.choose (ht v hv):=dif_pos hv
  rw [this];exact Classical.choose_spec (ht v hv)
 have hinj : ∀ v w,v < n→w < n→f v=f w→v=w:=fun v w hv hw e=>inj (hf v hv) (e▸hf w hw)
 have hn:n'=n:=by
  refine Nat.le_antisymm ?_ ?_
  ·have:=zbJ (l:=List.range n') (l':=(List.range n).map f) List.nodup_range fun x hx=>by
    obtain ⟨v,hv⟩:=hs x (List.mem_range.1 hx)
    have hvn:=(B.lt hv).1
    exact List.mem_map.2 ⟨v,List.mem_range.2 hvn,fn (hf v hvn) hv⟩
   simpa using this
  ·have:=zbJ (l:=(List.range n).map f) (l':=List.range n') (by
    rw [List.Nodup,List.pairwise_map]
    exact List.Pairwise.imp_of_mem (fun {a b} ha hb hab e=>hab (hinj a b (List.mem_range.1 ha) (List.mem_range.1 hb) e)) List.nodup_range) fun x hx=>by
    obtain ⟨v,hv,rfl⟩:=List.mem_map.1 hx
    exact List.mem_range.2 (B.lt (hf v (List.mem_range.1 hv))).2
   simpa using this
 subst hn
 refine ⟨rfl,f,⟨⟨fun v hv=>(B.lt (hf v hv)).2,hinj⟩,fun v hv=>(B.fac (hf v hv)).symm,B.len,fun i r r' h1 h2 v w hv hw=>?_⟩,hf⟩
 rw [Bool.eq_iff_iff]
 constructor
 ·intro h
  obtain ⟨u,a,b,c⟩:=B.back h1 h2 (hf v hv) (B.lt (hf w hw)).2 h
  rwa [inj c (hf w hw)] at b
 ·intro h
  obtain ⟨u,a,b,c⟩:=B.forth h1 h2 (hf v hv) hw h
  rwa [fn c (hf w hw)] at b
theorem zci.bis {n:Nat} {fa fb:Nat→Int} {R R':zB} {f:Nat→Nat} (h:zci n fa fb R R' f):zch n n R R' fa fb fun v v'=>v < n∧v'=f v where
 len:=h.rel.len
 lt:=fun {v v'} hz=>⟨hz.1,by rw [hz.2];exact h.ren.lt v hz.1⟩
 fac:=fun {v v'} hz=>by rw [hz.2];exact (h.fac v hz.1).symm
 forth h1 h2:=fun {v v' u} hz hu hr=>⟨f u,h.ren.lt u hu,by rw [hz.2,h.rel.rel _ _ _ h1 h2 v u hz.1 hu];exact hr,hu,rfl⟩
 back h1 h2:=fun {v v' u'} hz hu hr=>by
  obtain ⟨u,h3,rfl⟩:=h.ren.surj hu
  exact ⟨u,h3,by rw [← h.rel.rel _ _ _ h1 h2 v u hz.1 h3,← hz.2];exact hr,h3,rfl⟩
end Go.Ab
namespace Go.Ab
def zF (l:List Nat) (R:zB):zB:=R.map fun r=>fun i j=>r (l.getD i 0) (l.getD j 0)
def zac (l:List Nat) (fa:Nat→Int):Nat→Int:=fun i=>fa (l.getD i 0)
def zex (l:List Nat) (fa:Nat→Int) (root:Nat) (i:Nat):Tup:=[if l.getD i 0=root then (0:Int) else 1]::[[zac l fa i]]
def zbw (l:List Nat) (R:zB) (fa:Nat→Int) (root:Nat):(Nat→Nat)×Nat:=zcm l.length (zF l R) (zex l fa root)
def zT (l:List Nat) (R:zB) (fa:Nat→Int) (root:Nat):List Nat:=(List.range l.length).map fun k=>l.getD (zb7 l.length (zbw l R fa root).1 k) 0
theorem zaf {l:List Nat} {i:Nat} (h:i < l.length):l.getD i 0∈l:=by
 rw [List.getD,List.getElem?_eq_getElem h];exact List.getElem_mem h
theorem ze8 {l:List Nat} (hn:l.Nodup) {i j:Nat} (hi:i < l.length) (hj:j < l.length) (h:l.getD i 0=l.getD j 0):i=j:=by
 rw [List.getD,List.getD,List.getElem?_eq_getElem hi,List.getElem?_eq_getElem hj] at h
 have h:l[i]=l[j]:=by simpa using h
 rcases Nat.lt_trichotomy i j with hlt|e|hlt
 ·exact absurd h (List.pairwise_iff_getElem.1 hn i j hi hj hlt)
 ·exact e
 ·exact absurd h.symm (List.pairwise_iff_getElem.1 hn j i hj hi hlt)
theorem zgi {l:List Nat} {x:Nat} (h:x∈l) : ∃ i,i < l.length∧l.getD i 0=x:=by
 obtain ⟨i,hi,rfl⟩:=List.mem_iff_getElem.1 h
 exact ⟨i,hi,by simp [List.getD,hi]⟩
theorem zuv {l l2:List Nat} {R R2:zB} {fa fb:Nat→Int} {root root2:Nat} {f:Nat→Nat} (hn:l.Nodup) (hn2:l2.Nodup) (hm : ∀ x,x∈l2 ↔ ∃ y,y∈l∧f y=x) (hinj : ∀ x y,x∈l→y∈l→f x=f y→x=y)
  (hfa : ∀ x,x∈l→fb (f x)=fa x) (hl:R2.length=R.length) (hR : ∀ (i:Nat) (r r':Nat→Nat→Bool),R[i]? = some r→R2[i]? = some r' → ∀ x y,x∈l→y∈l→r' (f x) (f y)=r x y) (hroot:root∈l) (hr2:f root=root2) :
  l2.length=l.length ∧ ∃ g,Ren l.length g∧(∀ i,i < l.length→l2.getD (g i) 0=f (l.getD i 0))∧(∀ i,i < l.length→(zbw l2 R2 fb root2).1 (g i)=(zbw l R fa root).1 i)∧(zbw l2 R2 fb root2).2=(zbw l R fa root).2:=by
 have hlen:l2.length=l.length:=by
  have h1:=zbJ (l:=l2) (l':=l.map f) hn2 fun x hx=>by
   obtain ⟨y,hy,rfl⟩:=(hm x).1 hx
   exact List.mem_map.2 ⟨y,hy,rfl⟩
  have h2:=zbJ (l:=l.map f) (l':=l2) (by
   rw [List.Nodup,List.pairwise_map]
   exact List.Pairwise.imp_of_mem (fun {a b} ha hb hab e=>hab (hinj a b ha hb e)) hn) fun x hx=>by
   obtain ⟨y,hy,rfl⟩:=List.mem_map.1 hx
   exact (hm _).2 ⟨y,hy,rfl⟩
  rw [List.length_map] at h1 h2
  omega
 have hex : ∀ i,i < l.length → ∃ j,j < l2.length∧l2.getD j 0=f (l.getD i 0):=fun i hi=>zgi ((hm _).2 ⟨_,zaf hi,rfl⟩)
 let g:Nat→Nat:=fun i=>if h:i < l.length then Classical.choose (hex i h) else 0
 have hg : ∀ i,i < l.length→g i < l2.length∧l2.getD (g i) 0=f (l.getD i 0):=fun i hi=>by
  have:g i=Classical.choose (hex i hi):=dif_pos hi
  rw [this];exact Classical.choose_spec (hex i hi)
 have hren:Ren l.length g:=⟨fun i hi=>by have:=(hg i hi).1;omega,fun i j hi hj e=>by
  have h1:=(hg i hi).2
  rw [e,(hg j hj).2] at h1
  exact ze8 hn hi hj (hinj _ _ (zaf hj) (zaf hi) h1).symm⟩
 refine ⟨hlen,g,hren,fun i hi=>(hg i hi).2,?_⟩
 have hRR:zgW l.length g (zF l R) (zF l2 R2):=by
  refine ⟨by simp [zF,hl],fun i r r' h1 h2 v w hv hw=>?_⟩
  unfold zF at h1 h2
  rw [List.getElem?_map,Option.map_eq_some_iff] at h1 h2
  obtain ⟨s,hs,rfl⟩:=h1
  obtain ⟨s',hs',rfl⟩:=h2
  show s' (l2.getD (g v) 0) (l2.getD (g w) 0)=_
  rw [(hg v hv).2,(hg w hw).2]
  exact hR i s s' hs hs' _ _ (zaf hv) (zaf hw)
 have hfirst : ∀ i,i < l.length→zex l2 fb root2 (g i)=zex l fa root i:=fun i hi=>by
  unfold zex zac
  rw [(hg i hi).2,hfa _ (zaf hi)]
  by_cases e:l.getD i 0=root
  ·rw [if_pos e,if_pos (by rw [e,hr2])]
  ·rw [if_neg e,if_neg (fun e'=>e (hinj _ _ (zaf hi) hroot (by rw [e',hr2])))]
 have:=zmD hren hRR (first:=zex l fa root) (first':=zex l2 fb root2) hfirst
 unfold zbw
 rw [hlen]
 exact ⟨this.2.2.1,this.2.2.2⟩
theorem zuc {l l2:List Nat} {R R2:zB} {fa fb:Nat→Int} {root root2:Nat} {f:Nat→Nat} (hn:l.Nodup) (hn2:l2.Nodup) (hm : ∀ x,x∈l2 ↔ ∃ y,y∈l∧f y=x) (hinj : ∀ x y,x∈l→y∈l→f x=f y→x=y)
  (hfa : ∀ x,x∈l→fb (f x)=fa x) (hl:R2.length=R.length) (hR : ∀ (i:Nat) (r r':Nat→Nat→Bool),R[i]? = some r→R2[i]? = some r' → ∀ x y,x∈l→y∈l→r' (f x) (f y)=r x y) (hroot:root∈l) (hr2:f root=root2)
  (hc:Ren l.length (zbw l R fa root).1):zT l2 R2 fb root2=(zT l R fa root).map f:=by
 obtain ⟨hlen,g,h1,h2,h3,-⟩:=zuv hn hn2 hm hinj hfa hl hR hroot hr2
 have hc2:Ren l.length (zbw l2 R2 fb root2).1:=⟨fun i hi=>by
   obtain ⟨j,hj,rfl⟩:=h1.surj hi
   rw [h3 j hj];exact hc.lt j hj,fun i j hi hj e=>by
   obtain ⟨a,ha,rfl⟩:=h1.surj hi
   obtain ⟨b,hb,rfl⟩:=h1.surj hj
   rw [h3 a ha,h3 b hb] at e
   rw [hc.inj a b ha hb e]⟩
 unfold zT
 rw [hlen,List.map_map]
 refine List.map_congr_left fun k hk=>?_
 have hk:=List.mem_range.1 hk
 obtain ⟨a,ha,rfl⟩:=hc.surj hk
 show l2.getD (zb7 l.length (zbw l2 R2 fb root2).1 _) 0=f (l.getD (zb7 l.length (zbw l R fa root).1 _) 0)
 rw [zhk hc ha,← h3 a ha,zhk hc2 (h1.lt a ha),h2 a ha]
theorem zv4 {l:List Nat} {R:zB} {fa:Nat→Int} {root:Nat} (hn:l.Nodup) (hroot:root∈l) (hc:Ren l.length (zbw l R fa root).1) :
  (zT l R fa root).length=l.length∧(zT l R fa root).Nodup∧(∀ x,x∈zT l R fa root↔x∈l)∧(∀ i,i < l.length→(zbw (zT l R fa root) R fa root).1 i=i)∧zT (zT l R fa root) R fa root=zT l R fa root∧(zT l R fa root).getD 0 0=root:=by
 have hlen:(zT l R fa root).length=l.length:=by simp [zT]
 have hget : ∀ i,i < l.length→(zT l R fa root).getD ((zbw l R fa root).1 i) 0=l.getD i 0:=fun i hi=>by
  unfold zT
  rw [List.getD,List.getElem?_map,List.getElem?_range (hc.lt i hi)]
  show l.getD (zb7 l.length (zbw l R fa root).1 _) 0=_
  rw [zhk hc hi]
 have hmem : ∀ x,x∈zT l R fa root↔x∈l:=fun x=>by
  constructor
  ·intro h
   obtain ⟨k,hk,rfl⟩:=List.mem_map.1 h
   exact zaf (zdT hc (List.mem_range.1 hk)).1
  ·intro h
   obtain ⟨i,hi,rfl⟩:=zgi h
   rw [← hget i hi]
   exact zaf (by rw [hlen];exact hc.lt i hi)
 have hnd:(zT l R fa root).Nodup:=by
  unfold zT
  rw [List.Nodup,List.pairwise_map]
  refine List.Pairwise.imp_of_mem (fun {a b} ha hb hab e=>hab ?_) List.nodup_range
  have ha:=zdT hc (List.mem_range.1 ha)
  have hb:=zdT hc (List.mem_range.1 hb)
  rw [← ha.2,← hb.2,ze8 hn ha.1 hb.1 e]
 obtain ⟨-,g,h1,h2,h3,-⟩:=zuv (f:=fun x=>x) (R:=R) (R2:=R) (fa:=fa) (fb:=fa) (root:=root) (root2:=root) hn hnd (fun x=>by rw [hmem];exact ⟨fun h=>⟨x,h,rfl⟩,fun ⟨y,h,e⟩=>e▸h⟩) (fun x y _ _ e=>e) (fun x _=>rfl) rfl (fun i r r' h1 h2 x y _ _=>by rw [h1] at h2;cases h2;rfl) hroot rfl
 have hgc : ∀ i,i < l.length→g i=(zbw l R fa root).1 i:=fun i hi=>by
  refine ze8 hnd (by rw [hlen];exact h1.lt i hi) (by rw [hlen];exact hc.lt i hi) ?_
  rw [h2 i hi,hget i hi]
 have hid : ∀ i,i < l.length→(zbw (zT l R fa root) R fa root).1 i=i:=fun i hi=>by
  obtain ⟨a,ha,rfl⟩:=h1.surj hi
  rw [h3 a ha,hgc a ha]
 refine ⟨hlen,hnd,hmem,hid,?_,?_⟩
 ·have e : ∀ k,k < l.length→zb7 l.length (zbw (zT l R fa root) R fa root).1 k=k:=fun k hk=>by
   have hr:Ren l.length (zbw (zT l R fa root) R fa root).1:=⟨fun i hi=>by rw [hid i hi];exact hi,fun i j hi hj e=>by rwa [hid i hi,hid j hj] at e⟩
   have:=zhk hr hk
   rwa [hid k hk] at this
  have h4:zT (zT l R fa root) R fa root=(List.range l.length).map fun k=>(zT l R fa root).getD k 0:=by
   show (List.range (zT l R fa root).length).map (fun k=>(zT l R fa root).getD (zb7 (zT l R fa root).length (zbw (zT l R fa root) R fa root).1 k) 0)=_
   rw [hlen]
   exact List.map_congr_left fun k hk=>by rw [e k (List.mem_range.1 hk)]
  rw [h4]
  refine List.ext_getElem? fun i=>?_
  rw [List.getElem?_map]
  by_cases hi:i < l.length
  ·rw [List.getElem?_range hi,List.getElem?_eq_getElem (by rw [hlen];exact hi)]
   simp [List.getD,show i < (zT l R fa root).length by rw [hlen];exact hi]
  ·rw [List.getElem?_eq_none (by simp;omega),List.getElem?_eq_none (by rw [hlen];omega)];rfl
 ·obtain ⟨i,hi,e⟩:=zgi hroot
  have hz:(zbw l R fa root).1 i=0:=by
   have hm : ∀ w,w < l.length→zex l fa root w=[if w=i then (0:Int) else 1]::[[zac l fa w]]:=fun w hw=>by
    unfold zex
    by_cases h:w=i
    ·rw [if_pos h,h,e,if_pos rfl]
    ·rw [if_neg h,if_neg fun h'=>h (ze8 hn hw hi (h'.trans e.symm))]
   have h5:=zw6 (R:=zF l R) hi (x:=fun w=>[[zac l fa w]])
   have h6:=(zmD (n:=l.length) (f:=fun w=>w) ⟨fun _ h=>h,fun _ _ _ _ h=>h⟩ (R:=zF l R) (R':=zF l R) ⟨rfl,fun i r r' h1 h2 v w _ _=>by rw [h1] at h2;cases h2;rfl⟩ (first:=fun w=>[if w=i then (0:Int) else 1]::[[zac l fa w]]) (first':=zex l fa root) hm).2.2.1 i hi
   have h7:(zbw l R fa root).1 i=_:=h6
   rw [h7];exact h5.1
  have:=hget i hi
  rw [hz] at this
  rw [this,e]
end Go.Ab
namespace Go.Ab
inductive Rch (n:Nat) (R:zB) (S:Nat→Prop):Nat→Prop where
 | base {v:Nat} : v < n→S v→Rch n R S v
 | step {v u:Nat} : Rch n R S v→u < n→(∃ r,r∈R∧r v u=true)→Rch n R S u
theorem Rch.lt {n:Nat} {R:zB} {S:Nat→Prop} {v:Nat} (h:Rch n R S v):v < n:=by cases h<;>assumption
theorem Rch.iso {n:Nat} {fa fb:Nat→Int} {R R':zB} {f:Nat→Nat} (hi:zci n fa fb R R' f) {S S':Nat→Prop} (hS : ∀ v,v < n→S v→S' (f v)) {v:Nat} (h:Rch n R S v):Rch n R' S' (f v):=by
 induction h with
 | base hv hs=>exact .base (hi.ren.lt _ hv) (hS _ hv hs)
 | step h1 hu hr ih =>
  obtain ⟨r,hr,he⟩:=hr
  obtain ⟨i,hir⟩:=List.mem_iff_getElem?.1 hr
  obtain ⟨r',hr'⟩:=zeB hi.rel.len hir
  exact .step ih (hi.ren.lt _ hu) ⟨r',List.mem_of_getElem? hr',by rw [hi.rel.rel _ _ _ hir hr' _ _ h1.lt hu];exact he⟩
noncomputable def zG (n:Nat) (R:zB) (root:Nat):List Nat:=(List.range n).filter fun w => @decide (Rch n R (· = root) w) (Classical.propDecidable _)
theorem zfk {n:Nat} {R:zB} {root w:Nat} : w∈zG n R root↔Rch n R (· = root) w:=by
 unfold zG
 rw [List.mem_filter,List.mem_range,@decide_eq_true_eq _ (Classical.propDecidable _)]
 exact ⟨fun h=>h.2,fun h=>⟨h.lt,h⟩⟩
theorem ziq (n:Nat) (R:zB) (root:Nat):(zG n R root).Nodup:=List.Nodup.sublist List.filter_sublist List.nodup_range
theorem ze7 {n:Nat} {R:zB} {root:Nat} (h:root < n):root∈zG n R root:=zfk.2 (.base h rfl)
theorem zkj {n:Nat} {R:zB} {fa:Nat→Int} {l:List Nat} (hl : ∀ x,x∈l→x < n) (hc : ∀ r,r∈R → ∀ v u,v∈l→u < n→r v u=true→u∈l):zch n l.length R (zF l R) fa (zac l fa) fun v i=>i < l.length∧l.getD i 0=v where
 len:=by simp [zF]
 lt:=fun {v i} h=>⟨by rw [← h.2];exact hl _ (zaf h.1),h.1⟩
 fac:=fun {v i} h=>by unfold zac;rw [h.2]
 forth h1 h2:=fun {v v' u} hz hu hr=>by
  rw [zF,List.getElem?_map,h1] at h2;cases h2
  obtain ⟨hz1,rfl⟩:=hz
  obtain ⟨j,hj,rfl⟩:=zgi (hc _ (List.mem_of_getElem? h1) _ u (zaf hz1) hu hr)
  exact ⟨j,hj,hr,hj,rfl⟩
 back h1 h2:=fun {v v' u'} hz hu hr=>by
  rw [zF,List.getElem?_map,h1] at h2;cases h2
  obtain ⟨hz1,rfl⟩:=hz
  exact ⟨l.getD u' 0,hl _ (zaf hu),hr,hu,rfl⟩
theorem zo0 {n:Nat} {R:zB} {root:Nat} : ∀ r,r∈R → ∀ v u,v∈zG n R root→u < n→r v u=true→u∈zG n R root:=fun r hr v u hv hu h=>zfk.2 (.step (zfk.1 hv) hu ⟨r,hr,h⟩)
end Go.Ab
namespace Go.Ab
structure Ptd where
 n:Nat
 R:zB
 fa:Nat→Int
 root:Nat
noncomputable def Ptd.min (m:Ptd):Ptd :=
 let l:=zG m.n m.R m.root
 let q:=coa l.length (zF l m.R) (zac l m.fa)
 ⟨zu l.length q,(zF l m.R).map (zaL l.length q),zgm l.length q (zac l m.fa),zJ q (l.idxOf m.root)⟩
theorem zj6 {l:List Nat} {x:Nat} (h:x∈l):l.idxOf x < l.length∧l.getD (l.idxOf x) 0=x:=by
 have h1:=List.idxOf_lt_length_of_mem h
 exact ⟨h1,by simp [List.getD,h1]⟩
def ze2 (m m':Ptd):Prop := ∃ Z,zch m.n m'.n m.R m'.R m.fa m'.fa Z∧Z m.root m'.root
theorem ze2.symm {m m':Ptd} (h:ze2 m m'):ze2 m' m:=let ⟨Z,B,hz⟩:=h; ⟨_,B.symm,hz⟩
theorem ze2.trans {m m' m2:Ptd} (h:ze2 m m') (h':ze2 m' m2):ze2 m m2:=let ⟨Z,B,hz⟩:=h;let ⟨Z',B',hz'⟩:=h'; ⟨_,B.trans B',_,hz,hz'⟩
theorem zkf {m:Ptd} (h:m.root < m.n):ze2 m m.min:=by
 have S:=zdp (zG m.n m.R m.root).length (zF (zG m.n m.R m.root) m.R) (zac (zG m.n m.R m.root) m.fa)
 have B:=zkj (fa:=m.fa) (fun x hx=>(zfk.1 hx).lt) (zo0 (n:=m.n) (R:=m.R) (root:=m.root))
 obtain ⟨h1,h2⟩:=zj6 (ze7 (R:=m.R) h)
 exact ⟨_,B.trans S.quo,_,⟨h1,h2⟩,h1,rfl⟩
theorem zdy (m:Ptd):zhy m.min.n m.min.R m.min.fa:=fun i hi=>zwY i hi
theorem zqc {n n':Nat} {R R':zB} {fa fb:Nat→Int} {Z:Nat→Nat→Prop} (B:zch n n' R R' fa fb Z) {S S':Nat→Prop} (hS : ∀ v,S v→v < n → ∃ v',Z v v'∧S' v') {v:Nat} (h:Rch n R S v) : ∃ v',Z v v'∧Rch n' R' S' v':=by
 induction h with
 | base hv hs=>obtain ⟨v',h1,h2⟩:=hS _ hs hv;exact ⟨v',h1,.base (B.lt h1).2 h2⟩
 | step h1 hu hr ih =>
  obtain ⟨v',h2,h3⟩:=ih
  obtain ⟨r,hr,he⟩:=hr
  obtain ⟨i,hir⟩:=List.mem_iff_getElem?.1 hr
  obtain ⟨r',hr'⟩:=zeB B.len hir
  obtain ⟨u',h4,h5,h6⟩:=B.forth hir hr' h2 hu he
  exact ⟨u',h6,.step h3 h4 ⟨r',List.mem_of_getElem? hr',h5⟩⟩
theorem zfa {m:Ptd} (h:m.root < m.n):m.min.root < m.min.n:=by
 obtain ⟨Z,B,hz⟩:=zkf h
 exact (B.lt hz).2
theorem zlS {m:Ptd} (h:m.root < m.n) : ∀ i,i < m.min.n→Rch m.min.n m.min.R (· = m.min.root) i:=by
 intro i hi
 have S:=zdp (zG m.n m.R m.root).length (zF (zG m.n m.R m.root) m.R) (zac (zG m.n m.R m.root) m.fa)
 have B:=zkj (fa:=m.fa) (fun x hx=>(zfk.1 hx).lt) (zo0 (n:=m.n) (R:=m.R) (root:=m.root))
 obtain ⟨u,-,u1,-,u3⟩:=zei S.canon hi
 have hr:=zfk.1 (zaf u1)
 obtain ⟨j,⟨k,⟨hk1,hk2⟩,hk3,hk4⟩,h2⟩:=zqc (B.trans S.quo) (S:=(· = m.root)) (S':=(· = m.min.root)) (fun v e hv=>by
  subst e
  obtain ⟨h1,h2⟩:=zj6 (ze7 (R:=m.R) h)
  exact ⟨_,⟨_,⟨h1,h2⟩,h1,rfl⟩,rfl⟩) hr
 have:k=u:=ze8 (ziq m.n m.R m.root) hk1 u1 hk2
 rw [← u3,← this,← hk4]
 exact h2
theorem zz8 {m m':Ptd} (h:m.root < m.n) (h':m'.root < m'.n) (hb:ze2 m m'):m'.min.n=m.min.n ∧ ∃ f,zci m.min.n m.min.fa m'.min.fa m.min.R m'.min.R f∧f m.min.root=m'.min.root:=by
 obtain ⟨Z,B,hz⟩:=((zkf h).symm.trans hb).trans (zkf h')
 have tot : ∀ v,v < m.min.n → ∃ v',Z v v':=fun v hv=>by
  obtain ⟨v',h1,-⟩:=zqc B (S:=(· = m.min.root)) (S':=(· = m'.min.root)) (fun x e _=>by subst e;exact ⟨_,hz,rfl⟩) (zlS h v hv)
  exact ⟨v',h1⟩
 have sur : ∀ v',v' < m'.min.n → ∃ v,Z v v':=fun v hv=>by
  obtain ⟨v',h1,-⟩:=zqc B.symm (S:=(· = m'.min.root)) (S':=(· = m.min.root)) (fun x e _=>by subst e;exact ⟨_,hz,rfl⟩) (zlS h' v hv)
  exact ⟨v',h1⟩
 obtain ⟨h1,f,h2,h3⟩:=zx8 (zdy m) (zdy m') B tot sur
 refine ⟨h1,f,h2,?_⟩
 exact (zdy m').eq (B.symm.trans B) ⟨_,h3 _ (zfa h),hz⟩
noncomputable def Ptd.can (m:Ptd):Ptd:=⟨m.min.n,zF (zT (List.range m.min.n) m.min.R m.min.fa m.min.root) m.min.R,zac (zT (List.range m.min.n) m.min.R m.min.fa m.min.root) m.min.fa,0⟩
theorem zjY {n:Nat} {R:zB} {fa:Nat→Int} (hd:zhy n R fa) (root:Nat):Ren (List.range n).length (zbw (List.range n) R fa root).1:=by
 have hpr:zF (List.range n) R=zF (List.range n) R:=rfl
 refine (zqV (g:=fun i=>[[zac (List.range n) fa i]]) (fun v w hv hw e=>?_) ?_).2
 ·unfold zex at e
  have:=(List.cons.inj e).2
  exact this
 ·rw [← zsQ (fa:=zac (List.range n) fa) (fun v w _ _=>by simp)]
  show zu _ (coa (List.range n).length (zF (List.range n) R) (zac (List.range n) fa))=_
  have hB:zch (List.range n).length n (zF (List.range n) R) R (zac (List.range n) fa) fa fun i v=>i < (List.range n).length∧(List.range n).getD i 0=v :=
   (zkj (R:=R) (fa:=fa) (l:=List.range n) (fun x hx=>List.mem_range.1 hx) (fun r _ v u _ hu _=>List.mem_range.2 hu)).symm
  have S:=zdp (List.range n).length (zF (List.range n) R) (zac (List.range n) fa)
  unfold zu
  refine (List.length_filter_eq_length_iff.2 fun w hw=>decide_eq_true ?_).trans List.length_range
  have hw:=List.mem_range.1 hw
  have hle:=S.canon.le w hw
  have:=hd.eq ((hB.symm.trans S.bis).trans hB) (v:=(List.range n).getD (coa (List.range n).length (zF (List.range n) R) (zac (List.range n) fa) w) 0) (w:=(List.range n).getD w 0) ⟨w,⟨_,⟨by omega,rfl⟩,by omega,hw,S.canon.idem w hw⟩,hw,rfl⟩
  exact ze8 List.nodup_range (by omega) hw this
end Go.Ab
namespace Go.Ab
theorem znL {n:Nat} {R:zB} {fa:Nat→Int} {root:Nat} (hr:root < n) (hd:zhy n R fa):(zT (List.range n) R fa root).length=n∧(zT (List.range n) R fa root).Nodup∧(∀ x,x∈zT (List.range n) R fa root↔x < n)∧(zT (List.range n) R fa root).getD 0 0=root:=by
 obtain ⟨h1,h2,h3,-,-,h6⟩:=zv4 (R:=R) (fa:=fa) List.nodup_range (List.mem_range.2 hr) (zjY hd root)
 exact ⟨by rw [h1,List.length_range],h2,fun x=>by rw [h3,List.mem_range],h6⟩
theorem znM {m:Ptd} (h:m.root < m.n):ze2 m m.can:=by
 obtain ⟨h1,h2,h3,h4⟩:=znL (zfa h) (zdy m)
 have B:=zkj (R:=m.min.R) (fa:=m.min.fa) (l:=zT (List.range m.min.n) m.min.R m.min.fa m.min.root) (n:=m.min.n) (fun x hx=>(h3 x).1 hx) (fun r _ v u _ hu _=>(h3 u).2 hu)
 rw [h1] at B
 have hpos:=zfa h
 exact (zkf h).trans ⟨_,B,by show 0 < m.min.n;omega,h4⟩
structure zuO (m m':Ptd):Prop where
 n:m'.can.n=m.can.n
 fa : ∀ k,k < m.can.n→m'.can.fa k=m.can.fa k
 len:m'.can.R.length=m.can.R.length
 rel : ∀ (i:Nat) (r r':Nat→Nat→Bool),m.can.R[i]? = some r→m'.can.R[i]? = some r' → ∀ a b,a < m.can.n→b < m.can.n→r' a b=r a b
theorem zuO.pbis {m m':Ptd} (h:zuO m m') (hn:0 < m.can.n):ze2 m.can m'.can:=by
 refine ⟨fun v v'=>v < m.can.n∧v'=v,⟨h.len,fun {v v'} hz=>⟨hz.1,by rw [hz.2,h.n];exact hz.1⟩,fun {v v'} hz=>by rw [hz.2];exact (h.fa v hz.1).symm,fun {i r r'} h1 h2 {v v' u} hz hu hr=>?_,fun {i r r'} h1 h2 {v v' u'} hz hu hr=>?_⟩,hn,rfl⟩
 ·obtain ⟨hv,rfl⟩:=hz
  exact ⟨u,by rw [h.n];exact hu,by rw [h.rel i r r' h1 h2 _ _ hv hu];exact hr,hu,rfl⟩
 ·obtain ⟨hv,rfl⟩:=hz
  rw [h.n] at hu
  exact ⟨u',hu,by rw [← h.rel i r r' h1 h2 _ _ hv hu];exact hr,hu,rfl⟩
theorem zty {m m':Ptd} (h:m.root < m.n) (h':m'.root < m'.n):zuO m m'↔ze2 m m':=by
 constructor
 ·intro hc
  have:=zfa h
  exact ((znM h).trans (hc.pbis (by show 0 < m.min.n;omega))).trans (znM h').symm
 ·intro hb
  obtain ⟨hn,f,hi,hr⟩:=zz8 h h' hb
  have hl:=znL (zfa h) (zdy m)
  have hm : ∀ x,x∈List.range m'.min.n ↔ ∃ y,y∈List.range m.min.n∧f y=x:=fun x=>by
   rw [List.mem_range,hn]
   constructor
   ·intro hx
    obtain ⟨y,hy,e⟩:=hi.ren.surj hx
    exact ⟨y,List.mem_range.2 hy,e⟩
   ·rintro ⟨y,hy,rfl⟩
    exact hi.ren.lt y (List.mem_range.1 hy)
  have hw:zT (List.range m'.min.n) m'.min.R m'.min.fa m'.min.root=(zT (List.range m.min.n) m.min.R m.min.fa m.min.root).map f :=
   zuc List.nodup_range List.nodup_range hm (fun x y hx hy e=>hi.ren.inj x y (List.mem_range.1 hx) (List.mem_range.1 hy) e) (fun x hx=>hi.fac x (List.mem_range.1 hx)) hi.rel.len
    (fun i r r' h1 h2 x y hx hy=>hi.rel.rel i r r' h1 h2 x y (List.mem_range.1 hx) (List.mem_range.1 hy)) (List.mem_range.2 (zfa h)) hr (zjY (zdy m) m.min.root)
  generalize hcw:zT (List.range m.min.n) m.min.R m.min.fa m.min.root=cw at hw hl
  have hget : ∀ k,k < m.min.n→(zT (List.range m'.min.n) m'.min.R m'.min.fa m'.min.root).getD k 0=f (cw.getD k 0)∧cw.getD k 0 < m.min.n:=fun k hk=>by
   rw [hw]
   have hk':k < cw.length:=by rw [hl.1];exact hk
   exact ⟨by simp [List.getD,hk'],(hl.2.2.1 _).1 (zaf hk')⟩
  refine ⟨hn,fun k hk=>?_,?_,fun i r r' h1 h2 a b ha hb=>?_⟩
  ·show m'.min.fa ((zT (List.range m'.min.n) m'.min.R m'.min.fa m'.min.root).getD k 0)=m.min.fa ((zT (List.range m.min.n) m.min.R m.min.fa m.min.root).getD k 0)
   rw [hcw,(hget k hk).1,hi.fac _ (hget k hk).2]
  ·show (zF _ m'.min.R).length=(zF _ m.min.R).length
   unfold zF
   rw [List.length_map,List.length_map,hi.rel.len]
  ·have h1:(zF (zT (List.range m.min.n) m.min.R m.min.fa m.min.root) m.min.R)[i]? = some r:=h1
   have h2:(zF (zT (List.range m'.min.n) m'.min.R m'.min.fa m'.min.root) m'.min.R)[i]? = some r':=h2
   unfold zF at h1 h2
   rw [List.getElem?_map,Option.map_eq_some_iff] at h1 h2
   obtain ⟨s,hs,rfl⟩:=h1
   obtain ⟨s',hs',rfl⟩:=h2
   show s' ((zT (List.range m'.min.n) m'.min.R m'.min.fa m'.min.root).getD a 0) ((zT (List.range m'.min.n) m'.min.R m'.min.fa m'.min.root).getD b 0)=s ((zT (List.range m.min.n) m.min.R m.min.fa m.min.root).getD a 0) ((zT (List.range m.min.n) m.min.R m.min.fa m.min.root).getD b 0)
   rw [hcw,(hget a ha).1,(hget b hb).1,hi.rel.rel i s s' hs hs' _ _ (hget a ha).2 (hget b hb).2]
end Go.Ab
namespace Go.Ab
theorem zdi {n:Nat} (hn:n≤64) {f:Nat→Bool} {w:Nat} : (zaA f n).getLsbD w=true↔w < n∧f w=true:=by
 rw [zmb];simp only [Bool.and_eq_true,decide_eq_true_eq]
 exact ⟨fun h=>⟨h.1.2,h.2⟩,fun h=>⟨⟨by omega,h.1⟩,h.2⟩⟩
theorem znv {f g:Nat→Bool} : ∀ {n:Nat},(∀ i,i < n→f i=g i)→zaA f n=zaA g n
 | 0,_=>rfl
 | n+1,h=>by rw [zaA,zaA,h n (by omega),znv fun i hi=>h i (by omega)]
def zf (m:KM):zB:=m.rel.map fun r=>fun v w=>rb r v w
def zz (m:KM) (w:Nat):Int:=(zaG m.val w m.val.length:Int)
def zay (s:BitVec 64) (l:List Nat):BitVec 64:=zaA (fun i=>s.getLsbD (l.getD i 0)) l.length
def zC (m:KM) (l:List Nat):KM:=⟨l.length,m.val.map fun s=>zay s l,m.rel.map fun r=>l.map fun w=>zay (r.getD w 0#64) l⟩
theorem zkm {s:BitVec 64} {l:List Nat} (hl:l.length≤64) {i:Nat} : (zay s l).getLsbD i=true↔i < l.length∧s.getLsbD (l.getD i 0)=true:=zdi hl
theorem zeq {n:Int} {s:BitVec 64} (h:0≤n):bad n s=false ↔ ∀ i,s.getLsbD i=true→i < n.toNat:=by
 rw [zk4 h]
 exact ⟨fun k i hi=>by have:=k i hi;omega,fun k i hi=>by have:=k i hi;omega⟩
theorem zo2 {m:KM} (h:zfu m):za m=0:=by
 obtain ⟨h1,h2,h3,h4,h5,h6,h7⟩:=h
 unfold za
 rw [if_neg (by omega),if_neg (by omega),if_neg,if_neg,if_neg]
 ·simp only [List.any_eq_true,not_exists,not_and]
  intro r hr s hs e
  rw [h7 r hr s hs] at e;cases e
 ·simp only [List.any_eq_true,not_exists,not_and]
  intro s hs e
  rw [h6 s hs] at e;cases e
 ·simp only [List.any_eq_true,not_exists,not_and,decide_eq_true_eq]
  intro r hr e
  exact e (h5 r hr)
theorem zxO {m:KM} (hm:zfu m) {l:List Nat} (h1:1≤l.length) (h2:l.length≤64):zfu (zC m l) where
 w1:=by show (1:Int)≤(l.length:Int);omega
 w2:=by show (l.length:Int)≤64;omega
 n4:=by have:=hm.n4;simpa [zC] using this
 v8:=by have:=hm.v8;simpa [zC] using this
 len:=fun r hr=>by
  obtain ⟨r',-,rfl⟩:=List.mem_map.1 hr
  simp [zC]
 val:=fun s hs=>by
  obtain ⟨s',-,rfl⟩:=List.mem_map.1 hs
  rw [zeq (by show (0:Int)≤(l.length:Int);omega)]
  intro i hi
  exact ((zkm h2).1 hi).1
 rel:=fun r hr s hs=>by
  obtain ⟨r',-,rfl⟩:=List.mem_map.1 hr
  obtain ⟨w,-,rfl⟩:=List.mem_map.1 hs
  rw [zeq (by show (0:Int)≤(l.length:Int);omega)]
  intro i hi
  exact ((zkm h2).1 hi).1
theorem zk3 {m:KM} (hc:za m=0) {l:List Nat} (h1:1≤l.length) (h2:l.length≤64):za (zC m l)=0:=zo2 (zxO (zk hc) h1 h2)
theorem zyN (m:KM):(zf m).length=m.rel.length:=by simp [zf]
theorem zmn {m:KM} {l:List Nat} (h2:l.length≤64) {i:Nat} {r r':Nat→Nat→Bool} (h:(zf (zC m l))[i]? = some r) (h':(zF l (zf m))[i]? = some r') {v w:Nat} (hv:v < l.length) (hw:w < l.length):r v w=r' v w:=by
 unfold zf zC at h
 unfold zF zf at h'
 rw [List.map_map,List.getElem?_map,Option.map_eq_some_iff] at h
 rw [List.map_map,List.getElem?_map,Option.map_eq_some_iff] at h'
 obtain ⟨a,ha,rfl⟩:=h
 obtain ⟨b,hb,rfl⟩:=h'
 rw [ha] at hb;cases hb
 show rb (l.map fun w=>zay (a.getD w 0#64) l) v w=rb a (l.getD v 0) (l.getD w 0)
 unfold rb
 rw [show (l.map fun w=>zay (a.getD w 0#64) l).getD v 0#64=zay (a.getD (l.getD v 0) 0#64) l by
  simp [List.getD,List.getElem?_map,List.getElem?_eq_getElem hv]]
 rw [Bool.eq_iff_iff,zkm h2]
 exact ⟨fun h=>h.2,fun h=>⟨hw,h⟩⟩
theorem zrN {m:KM} {l:List Nat} (h2:l.length≤64):zgW l.length (fun w=>w) (zF l (zf m)) (zf (zC m l)) :=
 ⟨by simp [zF,zf,zC],fun i r r' h1 h2' v w hv hw=>zmn h2 h2' h1 hv hw⟩
theorem zoR (vl:List (BitVec 64)) {l:List Nat} (h2:l.length≤64) {i:Nat} (hi:i < l.length) : ∀ k,zaG (vl.map fun s=>zay s l) i k=zaG vl (l.getD i 0) k
 | 0=>rfl
 | k+1=>by
  rw [zaG,zaG,zoR vl h2 hi k]
  have e:((vl.map fun s=>zay s l).getD k 0#64).getLsbD i=(vl.getD k 0#64).getLsbD (l.getD i 0):=by
   simp only [List.getD,List.getElem?_map]
   cases hk:vl[k]? with
   | none=>simp
   | some s =>
    show (zay s l).getLsbD i=s.getLsbD (l.getD i 0)
    rw [Bool.eq_iff_iff,zkm h2]
    exact ⟨fun h=>h.2,fun h=>⟨hi,h⟩⟩
  rw [e]
theorem ziQ {m:KM} {l:List Nat} (h2:l.length≤64) {i:Nat} (hi:i < l.length):zz (zC m l) i=zac l (zz m) i:=by
 unfold zz zac zC
 rw [List.length_map,zoR _ h2 hi]
theorem zwf {a b:List (BitVec 64)} {w:Nat} (hl:a.length=b.length) (h:zaG a w a.length=zaG b w b.length) (i:Nat):(a.getD i 0#64).getLsbD w=(b.getD i 0#64).getLsbD w:=by
 by_cases hi:i < a.length
 ·have h1:=zgO a w (i:=i) a.length
  have h2:=zgO b w (i:=i) b.length
  rw [h] at h1
  rw [Bool.eq_iff_iff]
  exact ⟨fun e=>(h2.1 (h1.2 ⟨hi,e⟩)).2,fun e=>(h1.1 (h2.2 ⟨by omega,e⟩)).2⟩
 ·rw [List.getD,List.getD,List.getElem?_eq_none (by omega),List.getElem?_eq_none (by omega)]
theorem zhQ {l:List (BitVec 64)} {W:Int} (hW:0≤W) (h : ∀ s∈l,bad W s=false) (i w:Nat) (hw:(l.getD i 0#64).getLsbD w=true):w < W.toNat:=by
 cases hi:l[i]? with
 | none=>rw [List.getD,hi] at hw;simp at hw
 | some s =>
  rw [List.getD,hi] at hw
  exact (zeq hW).1 (h s (List.mem_of_getElem? hi)) w hw
theorem zfl {α:Type} {l:List α} {i:Nat} {d:α} (h:i < l.length):l[i]? = some (l.getD i d):=by simp [List.getD,h]
theorem zdH {α:Type} {a b:List α} {d:α} (hl:a.length=b.length) (h : ∀ i,i < a.length→a.getD i d=b.getD i d):a=b:=by
 refine List.ext_getElem hl fun i h1 h2=>?_
 have:=h i h1
 rw [List.getD,List.getD,List.getElem?_eq_getElem h1,List.getElem?_eq_getElem h2] at this
 exact this
theorem zwF {a b:KM} (ga:zfu a) (gb:zfu b) (hW:a.W=b.W) (hv:a.val.length=b.val.length) (hr:a.rel.length=b.rel.length)
  (hf : ∀ w,w < a.W.toNat→zz a w=zz b w)
  (hR : ∀ (i:Nat) r r',(zf a)[i]? = some r→(zf b)[i]? = some r' → ∀ v w,v < a.W.toNat→w < a.W.toNat→r v w=r' v w):a=b:=by
 have w1:=ga.w1
 have e1:a.val=b.val:=zdH (d:=0#64) hv fun i hi=>by
  refine BitVec.eq_of_getLsbD_eq fun w _=>?_
  by_cases hw:w < a.W.toNat
  ·exact zwf hv (Int.ofNat_inj.1 (hf w hw)) i
  ·have h1:=fun h=>hw (zhQ (by omega) ga.val i w h)
   have h2:=fun h=>hw (by have:=zhQ (by omega) gb.val i w h;omega)
   rw [Bool.eq_iff_iff]
   exact ⟨fun h=>absurd h h1,fun h=>absurd h h2⟩
 have e2:a.rel=b.rel:=zdH (d:=[]) hr fun i hi=>by
  have hi2:i < b.rel.length:=by omega
  have g1:=ga.len _ (List.getElem_mem hi)
  have g2:=gb.len _ (List.getElem_mem hi2)
  have f1:=ga.rel _ (List.getElem_mem hi)
  have f2:=gb.rel _ (List.getElem_mem hi2)
  have hR:=hR i (fun v w=>rb a.rel[i] v w) (fun v w=>rb b.rel[i] v w) (by simp [zf,hi]) (by simp [zf,hi2])
  rw [show a.rel.getD i []=a.rel[i] by simp [List.getD,hi],show b.rel.getD i []=b.rel[i] by simp [List.getD,hi2]]
  generalize a.rel[i]=x at g1 f1 hR
  generalize b.rel[i]=y at g2 f2 hR
  refine zdH (d:=0#64) (by omega) fun v hv=>BitVec.eq_of_getLsbD_eq fun w _=>?_
  by_cases hw:w < a.W.toNat
  ·exact hR v w (by omega) hw
  ·have h1:=fun h=>hw (zhQ (by omega) f1 v w h)
   have h2:=fun h=>hw (by have:=zhQ (by omega) f2 v w h;omega)
   rw [Bool.eq_iff_iff]
   exact ⟨fun h=>absurd h h1,fun h=>absurd h h2⟩
 cases a;cases b;simp only at hW e1 e2;subst hW e1 e2;rfl
def zcF (to:List Int) (n:Nat):Bool:=decide (to.length=n∧(∀ x∈to,0≤x∧x < n)∧to.Nodup)
def za9 (to:List Int) (n:Nat):List Nat:=(List.range n).map fun (i:Nat)=>to.idxOf (i:Int)
def zbi:KM:=⟨0,[],[]⟩
def zoc (m:KM) (to:List Int):KM×Int:=if za m≠0 then (zbi,za m) else if zcF to m.W.toNat=true then (zC m (za9 to m.W.toNat),0) else (zbi,1)
theorem zel {to:List Int} {n:Nat} : zcF to n=true↔to.length=n∧(∀ x∈to,0≤x∧x < n)∧to.Nodup:=by simp only [zcF,decide_eq_true_eq]
theorem zyG {to:List Int} {n:Nat} (h:zcF to n=true) {i:Nat} (hi:i < n):(i:Int)∈to:=by
 obtain ⟨h1,h2,h3⟩:=zel.1 h
 have key : ∀ x∈to,x∈(List.range n).map fun (i:Nat)=>(i:Int):=fun x hx=>List.mem_map.2 ⟨x.toNat,List.mem_range.2 (by have:=h2 x hx;omega),by have:=h2 x hx;omega⟩
 apply Classical.byContradiction
 intro hn
 have:=zbJ (l:=(i:Int)::to) (l':=(List.range n).map fun (i:Nat)=>(i:Int)) (List.nodup_cons.2 ⟨hn,h3⟩) fun x hx=>by
  rcases List.mem_cons.1 hx with rfl|hx
  ·exact List.mem_map.2 ⟨i,List.mem_range.2 hi,rfl⟩
  ·exact key x hx
 simp at this;omega
abbrev toF (to:List Int) (w:Nat):Nat:=(at0 to w).toNat
theorem zkl {to:List Int} {n:Nat} (h:zcF to n=true):Ren n (toF to):=by
 obtain ⟨h1,h2,h3⟩:=zel.1 h
 refine ⟨fun w hw=>?_,fun v w hv hw e=>?_⟩
 ·have:=h2 (at0 to w) (List.mem_of_getElem? (zdb (by omega)))
  unfold toF;omega
 ·have a1:=h2 (at0 to v) (List.mem_of_getElem? (zdb (by omega)))
  have a2:=h2 (at0 to w) (List.mem_of_getElem? (zdb (by omega)))
  have e':at0 to v=at0 to w:=by unfold toF at e;omega
  have g1:=zdb (l:=to) (i:=v) (by omega)
  have g2:=zdb (l:=to) (i:=w) (by omega)
  rw [e'] at g1
  obtain ⟨p1,q1⟩:=List.getElem?_eq_some_iff.1 g1
  obtain ⟨p2,q2⟩:=List.getElem?_eq_some_iff.1 g2
  exact (List.getElem_inj h3).1 (q1.trans q2.symm)
theorem zAX {to:List Int} {n:Nat} (h:zcF to n=true) {w:Nat} (hw:w < n):to.idxOf ((toF to w:Nat):Int)=w:=by
 obtain ⟨h1,h2,h3⟩:=zel.1 h
 have g:=zdb (l:=to) (i:=w) (by omega)
 have a:=h2 (at0 to w) (List.mem_of_getElem? g)
 rw [show ((toF to w:Nat):Int)=at0 to w by unfold toF;omega]
 obtain ⟨p,q⟩:=List.getElem?_eq_some_iff.1 g
 rw [← q]
 exact h3.idxOf_getElem w p
theorem zji (to:List Int) (n:Nat):(za9 to n).length=n:=by simp [za9]
theorem zyl {to:List Int} {n i:Nat} (hi:i < n):(za9 to n).getD i 0=to.idxOf (i:Int):=by simp [za9,List.getD,hi]
theorem zlG {to:List Int} {n:Nat} (h:zcF to n=true) {w:Nat} (hw:w < n):(za9 to n).getD (toF to w) 0=w:=by
 rw [zyl ((zkl h).lt w hw),zAX h hw]
theorem zwy {to:List Int} {n:Nat} (h:zcF to n=true) {i:Nat} (hi:i < n):(za9 to n).getD i 0 < n:=by
 obtain ⟨w,hw,rfl⟩:=(zkl h).surj hi
 rw [zlG h hw];exact hw
theorem zAo {m:KM} (hc:za m=0) {to:List Int} (h:zcF to m.W.toNat=true):zci m.W.toNat (zz m) (zz (zC m (za9 to m.W.toNat))) (zf m) (zf (zC m (za9 to m.W.toNat))) (toF to):=by
 have hg:=zk hc
 have w1:=hg.w1
 have w2:=hg.w2
 have hl:(za9 to m.W.toNat).length=m.W.toNat:=zji _ _
 have hr:=zkl h
 refine ⟨hr,fun w hw=>?_,⟨by simp [zf,zC],fun i r r' h1 h2 v w hv hw=>?_⟩⟩
 ·rw [ziQ (by omega) (by rw [hl];exact hr.lt w hw)]
  unfold zac;rw [zlG h hw]
 ·have h3:(zF (za9 to m.W.toNat) (zf m))[i]? = some fun a b=>r ((za9 to m.W.toNat).getD a 0) ((za9 to m.W.toNat).getD b 0):=by
   unfold zF;rw [List.getElem?_map,h1];rfl
  rw [zmn (by omega) h2 h3 (by rw [hl];exact hr.lt v hv) (by rw [hl];exact hr.lt w hw),zlG h hv,zlG h hw]
end Go.Ab
namespace Go.Ab
noncomputable def zgY (m:KM) (s:BitVec 64):BitVec 64:=zaA (fun w => @decide (Rch m.W.toNat (zf m) (fun v=>s.getLsbD v=true) w) (Classical.propDecidable _)) 64
theorem zhq {m:KM} (hc:za m=0) {s:BitVec 64} {w:Nat} : (zgY m s).getLsbD w=true↔Rch m.W.toNat (zf m) (fun v=>s.getLsbD v=true) w:=by
 have w2:=(zk hc).w2
 unfold zgY
 rw [zdi (Nat.le_refl _),@decide_eq_true_eq _ (Classical.propDecidable _)]
 exact ⟨fun h=>h.2,fun h=>⟨by have:=h.lt;omega,h⟩⟩
def Clo (m:KM) (s:BitVec 64):Prop := ∀ v,s.getLsbD v=true → ∀ r∈m.rel,∀ u,rb r v u=true→s.getLsbD u=true
structure zrF (m:KM) (f s:BitVec 64):Prop where
 sub : ∀ v,f.getLsbD v=true→s.getLsbD v=true
 inn : ∀ v,s.getLsbD v=true→Rch m.W.toNat (zf m) (fun v=>f.getLsbD v=true) v
theorem zzt {m:KM} (hc:za m=0) {r:List (BitVec 64)} (hr:r∈m.rel) {v u:Nat} (h:rb r v u=true):v < m.W.toNat∧u < m.W.toNat:=by
 have hg:=zk hc
 have w1:=hg.w1
 refine ⟨?_,zhQ (by omega) (hg.rel r hr) v u h⟩
 apply Classical.byContradiction
 intro hn
 have:=hg.len r hr
 rw [zjA (by omega)] at h;cases h
theorem zs4 {m:KM} (hc:za m=0) {S:Nat→Prop} {v u:Nat} (h:Rch m.W.toNat (zf m) S v) {r:List (BitVec 64)} (hr:r∈m.rel) (e:rb r v u=true):Rch m.W.toNat (zf m) S u :=
 .step h (zzt hc hr e).2 ⟨fun v w=>rb r v w,List.mem_map.2 ⟨r,hr,rfl⟩,e⟩
theorem zrF.done {m:KM} (hc:za m=0) {f s:BitVec 64} (h:zrF m f s) (hcl:Clo m s):s=zgY m f:=by
 have hin : ∀ v,Rch m.W.toNat (zf m) (fun v=>f.getLsbD v=true) v→s.getLsbD v=true:=fun v hv=>by
  induction hv with
  | base _ h1=>exact h.sub _ h1
  | step _ hu hr ih =>
   obtain ⟨r',hr',e⟩:=hr
   obtain ⟨r,hr,rfl⟩:=List.mem_map.1 hr'
   exact hcl _ ih r hr _ e
 refine BitVec.eq_of_getLsbD_eq fun i _=>?_
 rw [Bool.eq_iff_iff,zhq hc]
 exact ⟨h.inn i,hin i⟩
structure zpE (m:KM) (f out todo:BitVec 64):Prop where
 gs:zrF m f out
 tod : ∀ v,todo.getLsbD v=true→out.getLsbD v=true
 clo : ∀ v,out.getLsbD v=true→todo.getLsbD v=false → ∀ r∈m.rel,∀ u,rb r v u=true→out.getLsbD u=true
theorem zvp {m:KM} {f:BitVec 64} (hf : ∀ v,f.getLsbD v=true→v < m.W.toNat):zpE m f f f :=
 ⟨⟨fun _ h=>h,fun v h => .base (hf v h) h⟩,fun _ h=>h,fun v h h'=>by rw [h] at h';cases h'⟩
theorem zpE.done {m:KM} (hc:za m=0) {f out:BitVec 64} (h:zpE m f out 0#64):out=zgY m f :=
 h.gs.done hc fun v hv=>h.clo v hv (by simp)
def zlf (a b:BitVec 64):Nat:=((List.range 64).filter fun v=>a.getLsbD v && !b.getLsbD v).length
theorem zzK (a b:BitVec 64):zlf a b≤64:=by
 have:=List.length_filter_le (fun v=>a.getLsbD v && !b.getLsbD v) (List.range 64)
 simpa [zlf] using this
theorem zAO {s:BitVec 64} {w:Nat} (h:s.getLsbD w=true):w < 64:=by
 apply Classical.byContradiction
 intro hn
 rw [BitVec.getLsbD_of_ge _ _ (by omega)] at h;cases h
structure znz (m:KM) (out todo:BitVec 64) (w k:Nat) (o t:BitVec 64):Prop where
 o : ∀ v,o.getLsbD v=true↔out.getLsbD v=true ∨ ∃ r∈m.rel.take k,rb r w v=true
 t : ∀ v,t.getLsbD v=true↔(todo.getLsbD v=true∧v≠w)∨(out.getLsbD v=false ∧ ∃ r∈m.rel.take k,rb r w v=true)
theorem zvq {m:KM} {out todo t:BitVec 64} {w:Nat} (ht : ∀ v,t.getLsbD v=(todo.getLsbD v&&v != w)):znz m out todo w 0 out t :=
 ⟨fun v=>by simp,fun v=>by rw [ht];simp⟩
theorem zg1 {α:Type} {l:List α} {k:Nat} {x:α} (h:l[k]? = some x) (p:α→Prop):(∃ r∈l.take (k+1),p r)↔(∃ r∈l.take k,p r)∨p x:=by
 rw [List.take_add_one,h]
 simp only [Option.toList_some,List.mem_append,List.mem_singleton]
 constructor
 ·rintro ⟨r,h1|rfl,h2⟩
  ·exact .inl ⟨r,h1,h2⟩
  ·exact .inr h2
 ·rintro (⟨r,h1,h2⟩|h2)
  ·exact ⟨r,.inl h1,h2⟩
  ·exact ⟨x,.inr rfl,h2⟩
theorem znz.next {m:KM} {out todo:BitVec 64} {w k:Nat} {o t:BitVec 64} (h:znz m out todo w k o t) {r:List (BitVec 64)} {x:BitVec 64} (hr:m.rel[k]? = some r) (hx:r[w]? = some x):znz m out todo w (k+1) (o|||x) (t|||(x &&& ~~~o)):=by
 have e : ∀ v,rb r w v=x.getLsbD v:=fun v=>zbp hx v
 refine ⟨fun v=>?_,fun v=>?_⟩
 ·rw [zg1 hr,BitVec.getLsbD_or,Bool.or_eq_true,h.o v,e]
  simp only [or_assoc]
 ·rw [zg1 hr,BitVec.getLsbD_or,Bool.or_eq_true,h.t v,BitVec.getLsbD_and,Bool.and_eq_true,BitVec.getLsbD_not,e]
  have ho:=h.o v
  by_cases hv:v < 64
  ·simp only [hv,decide_true,Bool.true_and,Bool.not_eq_true']
   by_cases h1:out.getLsbD v=true
   ·have:o.getLsbD v=true:=ho.2 (.inl h1)
    simp [h1,this]
   ·simp only [Bool.not_eq_true] at h1
    by_cases h2 : ∃ r∈m.rel.take k,rb r w v=true
    ·have:o.getLsbD v=true:=ho.2 (.inr h2)
     simp [h1,h2,this]
    ·have:o.getLsbD v=false:=by rw [← Bool.not_eq_true];intro h3;rcases ho.1 h3 with h3|h3; (rw [h1] at h3;cases h3);exact h2 h3
     simp [h1,h2,this]
  ·have:x.getLsbD v=false:=BitVec.getLsbD_of_ge _ _ (by omega)
   simp [hv,this]
theorem znz.end' {m:KM} (hc:za m=0) {f out todo:BitVec 64} {w:Nat} {o t:BitVec 64} (h:zpE m f out todo) (hw:todo.getLsbD w=true) (hK:znz m out todo w m.rel.length o t):zpE m f o t∧zlf out todo < zlf o t:=by
 have ho:=hK.o;have ht:=hK.t
 simp only [List.take_length] at ho ht
 have how:=h.tod w hw
 have hr : ∀ {r v},r∈m.rel→rb r w v=true→o.getLsbD v=true:=fun h1 h2=>(ho _).2 (.inr ⟨_,h1,h2⟩)
 refine ⟨⟨⟨fun v hv=>(ho v).2 (.inl (h.gs.sub v hv)),fun v hv=>?_⟩,fun v hv=>?_,fun v hv hv' r hr' u hu=>?_⟩,?_⟩
 ·rcases (ho v).1 hv with h1|⟨r,h1,h2⟩
  ·exact h.gs.inn v h1
  ·exact zs4 hc (h.gs.inn w how) h1 h2
 ·rcases (ht v).1 hv with ⟨h1,-⟩|⟨-,h2⟩
  ·exact (ho v).2 (.inl (h.tod v h1))
  ·exact (ho v).2 (.inr h2)
 ·by_cases e:v=w
  ·subst e;exact hr hr' hu
  ·have h1:out.getLsbD v=true:=by
    rcases (ho v).1 hv with h1|h1
    ·exact h1
    ·cases h2:out.getLsbD v with
     | true=>rfl
     | false=>rw [(ht v).2 (.inr ⟨h2,h1⟩)] at hv';cases hv'
   have h2:todo.getLsbD v=false:=by
    rw [← Bool.not_eq_true];intro h2
    rw [(ht v).2 (.inl ⟨h2,e⟩)] at hv';cases hv'
   exact (ho u).2 (.inl (h.clo v h1 h2 r hr' u hu))
 ·unfold zlf
  refine (zgP (fun v hv=>?_) _).2 ⟨w,List.mem_range.2 (zAO hw),by rw [hw];simp,?_⟩
  ·simp only [Bool.and_eq_true,Bool.not_eq_true'] at hv ⊢
   refine ⟨(ho v).2 (.inl hv.1),?_⟩
   rw [← Bool.not_eq_true];intro h1
   rcases (ht v).1 h1 with ⟨h2,-⟩|⟨h2,-⟩
   ·rw [h2] at hv;cases hv.2
   ·rw [h2] at hv;cases hv.1
  ·rw [(ho w).2 (.inl how)]
   simp only [Bool.true_and,Bool.not_eq_true']
   rw [← Bool.not_eq_true];intro h1
   rcases (ht w).1 h1 with ⟨-,h2⟩|⟨h2,-⟩
   ·exact h2 rfl
   ·rw [how] at h2;cases h2
def zpQ (s:BitVec 64):Nat:=(zt s).length
theorem zuf {n:Nat} {s:BitVec 64} (h : ∀ v,s.getLsbD v=true→v < n):zpQ s≤n:=by
 have:=zbJ (zlU s) (l':=List.range n) fun v hv=>List.mem_range.2 (h v (zbe.1 hv))
 simpa [zpQ] using this
theorem zzL {s t:BitVec 64} (h : ∀ v,s.getLsbD v=true→t.getLsbD v=true) (hne:t≠s):zpQ s < zpQ t:=by
 unfold zpQ zt
 refine (zgP (fun v hv=>h v hv) _).2 ?_
 apply Classical.byContradiction
 intro hn
 refine hne (BitVec.eq_of_getLsbD_eq fun i hi=>?_)
 rw [Bool.eq_iff_iff]
 refine ⟨fun h1=>?_,h i⟩
 rw [← Bool.not_eq_false];intro h2
 exact hn ⟨i,List.mem_range.2 hi,h2,h1⟩
structure zpF (m:KM) (f s0:BitVec 64) (w:Nat) (s:BitVec 64):Prop where
 gs:zrF m f s
 sub : ∀ v,s0.getLsbD v=true→s.getLsbD v=true
 clo : ∀ v,v < w→s0.getLsbD v=true → ∀ r∈m.rel,∀ u,rb r v u=true→s.getLsbD u=true
theorem zpF.skip {m:KM} {f s0 s:BitVec 64} {w:Nat} (h:zpF m f s0 w s) (hw:s.getLsbD w=false):zpF m f s0 (w+1) s :=
 ⟨h.gs,h.sub,fun v hv h1=>by
  by_cases e:v=w
  ·subst e;rw [h.sub _ h1] at hw;cases hw
  ·exact h.clo v (by omega) h1⟩
structure zrD (m:KM) (f s0:BitVec 64) (w k:Nat) (s:BitVec 64):Prop where
 gw:zpF m f s0 w s
 has:s.getLsbD w=true
 clo : ∀ r∈m.rel.take k,∀ u,rb r w u=true→s.getLsbD u=true
theorem zrD.next {m:KM} (hc:za m=0) {f s0 s:BitVec 64} {w k:Nat} (h:zrD m f s0 w k s) {r:List (BitVec 64)} {x:BitVec 64} (hr:m.rel[k]? = some r) (hx:r[w]? = some x):zrD m f s0 w (k+1) (s|||x):=by
 have e : ∀ v,rb r w v=x.getLsbD v:=fun v=>zbp hx v
 have up : ∀ v,s.getLsbD v=true→(s|||x).getLsbD v=true:=fun v hv=>by rw [BitVec.getLsbD_or,hv];rfl
 refine ⟨⟨⟨fun v hv=>up v (h.gw.gs.sub v hv),fun v hv=>?_⟩,fun v hv=>up v (h.gw.sub v hv),fun v h1 h2 r' h3 u h4=>up u (h.gw.clo v h1 h2 r' h3 u h4)⟩,up w h.has,fun r' hr' u hu=>?_⟩
 ·rw [BitVec.getLsbD_or,Bool.or_eq_true] at hv
  rcases hv with hv|hv
  ·exact h.gw.gs.inn v hv
  ·exact zs4 hc (h.gw.gs.inn w h.has) (List.mem_of_getElem? hr) (by rw [e];exact hv)
 ·rcases (zg1 hr (· = r')).1 ⟨r',hr',rfl⟩ with ⟨q,h1,rfl⟩|rfl
  ·exact up u (h.clo q h1 u hu)
  ·rw [BitVec.getLsbD_or,← e,hu];simp
theorem zrD.end' {m:KM} {f s0 s:BitVec 64} {w:Nat} (h:zrD m f s0 w m.rel.length s):zpF m f s0 (w+1) s :=
 ⟨h.gw.gs,h.gw.sub,fun v hv h1 r hr u hu=>by
  by_cases e:v=w
  ·subst e;exact h.clo r (by rw [List.take_length];exact hr) u hu
  ·exact h.gw.clo v (by omega) h1 r hr u hu⟩
structure zrE (m:KM) (f:BitVec 64) (i:Nat) (s:BitVec 64):Prop where
 gs:zrF m f s
 more:Clo m s∨i < zpQ s
theorem zrE.next {m:KM} (hc:za m=0) {f s0 s:BitVec 64} {i:Nat} (h:zrE m f i s0) (hW:zpF m f s0 m.W.toNat s):zrE m f (i+1) s:=by
 refine ⟨hW.gs,?_⟩
 have hlt : ∀ v,s0.getLsbD v=true→v < m.W.toNat:=fun v hv=>(h.gs.inn v hv).lt
 by_cases e:s=s0
 ·subst e
  exact .inl fun v hv r hr u hu=>hW.clo v (hlt v hv) hv r hr u hu
 ·have hl:=zzL hW.sub e
  rcases h.more with h1|h1
  ·refine absurd ?_ e
   have a:=h.gs.done hc h1
   refine BitVec.eq_of_getLsbD_eq fun v _=>?_
   rw [Bool.eq_iff_iff]
   refine ⟨fun hv=>?_,hW.sub v⟩
   rw [a];exact (zhq hc).2 (hW.gs.inn v hv)
  ·exact .inr (by omega)
theorem zrE.done {m:KM} (hc:za m=0) {f s:BitVec 64} (h:zrE m f m.W.toNat s):s=zgY m f:=by
 refine h.gs.done hc ?_
 rcases h.more with h1|h1
 ·exact h1
 ·have:=zuf (n:=m.W.toNat) fun v hv=>(h.gs.inn v hv).lt
  omega
theorem zmA {w v:Nat} (hw:w < 64):(1#64 <<< w).getLsbD v=true↔v=w:=by
 rw [zpH];simp only [Bool.and_eq_true,decide_eq_true_eq];omega
theorem zqU {n:Nat} {R:zB} {S S':Nat→Prop} (h : ∀ v,S v→S' v) {v:Nat} (hv:Rch n R S v):Rch n R S' v:=by
 induction hv with
 | base h1 h2=>exact .base h1 (h _ h2)
 | step _ h2 h3 ih=>exact .step ih h2 h3
theorem zfH {p:Nat→Bool} {n:Nat} (h : ∀ v,p v=true→v < n) : ∀ k,n≤k→(List.range k).filter p=(List.range n).filter p
 | 0,hk=>by rw [show n=0 by omega]
 | k+1,hk=>by
  by_cases e:n=k+1
  ·rw [e]
  ·rw [List.range_succ,List.filter_append,zfH h k (by omega)]
   have:p k=false:=by rw [← Bool.not_eq_true];intro hp;have:=h k hp;omega
   simp [this]
theorem zsx {m:KM} (hc:za m=0) {w:Nat} (hw:w < m.W.toNat):zt (zgY m (1#64 <<< w))=zG m.W.toNat (zf m) w:=by
 have w2:=(zk hc).w2
 unfold zt zG
 have key : ∀ v,(zgY m (1#64 <<< w)).getLsbD v = @decide (Rch m.W.toNat (zf m) (· = w) v) (Classical.propDecidable _):=fun v=>by
  rw [Bool.eq_iff_iff,zhq hc,@decide_eq_true_eq _ (Classical.propDecidable _)]
  exact ⟨fun h=>zqU (fun v hv=>(zmA (by omega)).1 hv) h,fun h=>zqU (fun v hv=>(zmA (by omega)).2 hv) h⟩
 rw [zfH (n:=m.W.toNat) (fun v hv=>((zhq hc).1 hv).lt) 64 (by omega)]
 exact List.filter_congr fun v _=>key v
end Go.Ab
namespace Go.Ab
open Go Go.Proofs
set_option maxRecDepth 10000
set_option maxHeartbeats 4000000
variable {T:Nat→Obj→Prop}
theorem zpX (n:Int) (h:0≤n):Fn Tryz.prog T znc [.d (.int .i64 n)] [] (.d (.u64 (ziB n))) []:=by
 refine zg zx ztT (by show 1≤8;decide) ?_
 (repeat' ((conv=>whnf);first|refine vA ?_|(refine vF ?_ ?_<;>intro hc<;>try simp only [vL] at hc)|refine vT ?_|(refine vP ?_ ?_;·omega)|refine vY ?_));all_goals try conv=>whnf
 ·simp [ziB, *]
 ·rw [ziB,if_neg (by omega)];rfl
theorem zzW (l:List (BitVec 64)) (g:Nat) (y:D) (p:BitVec 64→Bool) (hF : ∀ x,Fn Tryz.prog T g [.d (.u64 x),.d y] [] (.d (.bool (p x))) []):Fn Tryz.prog T zbT [.d (dU l),.d (.fn g [y])] [] (.d (.int .i64 (zdW p l))) []:=by
 refine zg zx zeN (by show 2≤19;decide) ?_
 (repeat' ((conv=>whnf);first|refine vA ?_|refine vJ fun hg=>?_|refine vT ?_));all_goals try conv=>whnf
 refine zah (fun (k:Nat)=>[(0,.d (dU l)),(1,.d (.fn g [y])),(7,.d (.int .i64 ((l.map D.u64).length:Int))),(8,.d (.int .i64 ((k:Int))))]) (fun (k:Nat)=>k≤l.length ∧ ∀ (i:Nat) x,i < k→l[i]? = some x→p x=false) (fun (k:Nat)=>l.length - k) (0) (⟨by simp,fun i x h=>by omega⟩) (by (repeat' first|exact trivial|exact rfl|refine And.intro ?_ ?_)) ?_
 rintro k ⟨hk,hI⟩
 (repeat' ((conv=>whnf);first|refine vA ?_|((first|refine vF ?_ ?_|refine vI ?_ ?_)<;>intro hc<;>try simp only [vL] at hc)|refine vT ?_|(refine vQ ?_ fun x hx=>?_;·omega)|(refine vO ?_ ?_;·omega)|refine vX ?_|refine yD (hF _) (by (repeat refine ⟨⟨rfl,rfl⟩,?_⟩);rfl) rfl ?_));all_goals try conv=>whnf
 ·rw [zea hx ‹_› hI]
 ·exact ⟨k+1,[],[],⟨by (omega),fun i z hi hz=>by
   by_cases e:i=k
   ·subst e;rw [hx] at hz;cases hz;assumption
   ·exact hI i z (by omega) hz⟩,by (omega),by (refine ⟨rfl,rfl,rfl,?_,?_⟩;repeat' first|exact trivial|exact rfl|refine And.intro ?_ ?_)⟩
 ·rw [zfJ fun i x hi hx=>hI i x (by omega) hx]
theorem zsm (l:List (List (BitVec 64))) (g:Nat) (y:D) (p:List (BitVec 64)→Bool) (hF : ∀ x,Fn Tryz.prog T g [.d (dU x),.d y] [] (.d (.bool (p x))) []):Fn Tryz.prog T zbH [.d (dUU l),.d (.fn g [y])] [] (.d (.int .i64 (zdW p l))) []:=by
 refine zg zx zed (by show 2≤19;decide) ?_
 (repeat' ((conv=>whnf);first|refine vA ?_|refine vJ fun hg=>?_|refine vT ?_));all_goals try conv=>whnf
 refine zah (fun (k:Nat)=>[(0,.d (dUU l)),(1,.d (.fn g [y])),(7,.d (.int .i64 ((l.map dU).length:Int))),(8,.d (.int .i64 ((k:Int))))]) (fun (k:Nat)=>k≤l.length ∧ ∀ (i:Nat) x,i < k→l[i]? = some x→p x=false) (fun (k:Nat)=>l.length - k) (0) (⟨by simp,fun i x h=>by omega⟩) (by (repeat' first|exact trivial|exact rfl|refine And.intro ?_ ?_)) ?_
 rintro k ⟨hk,hI⟩
 (repeat' ((conv=>whnf);first|refine vA ?_|((first|refine vF ?_ ?_|refine vI ?_ ?_)<;>intro hc<;>try simp only [vL] at hc)|refine vT ?_|(refine vQ ?_ fun x hx=>?_;·omega)|(refine vO ?_ ?_;·omega)|refine vX ?_|refine yD (hF _) (by (repeat refine ⟨⟨rfl,rfl⟩,?_⟩);rfl) rfl ?_));all_goals try conv=>whnf
 ·rw [zea hx ‹_› hI]
 ·exact ⟨k+1,[],[],⟨by (omega),fun i z hi hz=>by
   by_cases e:i=k
   ·subst e;rw [hx] at hz;cases hz;assumption
   ·exact hI i z (by omega) hz⟩,by (omega),by (refine ⟨rfl,rfl,rfl,?_,?_⟩;repeat' first|exact trivial|exact rfl|refine And.intro ?_ ?_)⟩
 ·rw [zfJ fun i x hi hx=>hI i x (by omega) hx]
theorem zim {α:Type} {p:α→Bool} {l:List α} : decide (0≤zdW p l)=l.any p:=by
 rw [Bool.eq_iff_iff,decide_eq_true_eq,zlv,List.any_eq_true]
theorem ztP (n:Int) (h:0≤n) (s:BitVec 64):Fn Tryz.prog T zc0 [.d (.u64 s),.d (.box [.int .i64 n])] [] (.d (.bool (bad n s))) []:=by
 refine zg zx zmY (by show 2≤9;decide) ?_
 (repeat' ((conv=>whnf);first|refine vT ?_|refine vZ ?_|refine yD (zpX n h) ⟨⟨rfl,rfl⟩,rfl⟩ rfl ?_));all_goals try conv=>whnf
 rfl
theorem znj (l:List (BitVec 64)) (n:Int) (h:0≤n):Fn Tryz.prog T zil [.d (dU l),.d (.int .i64 n)] [] (.d (.bool (l.any (bad n)))) []:=by
 have c1:Fn Tryz.prog T zbA [.d (dU l),.d (.fn zc0 [.box [.int .i64 n]])] [] (.d (.bool (l.any (bad n)))) []:=by
  refine zg zx zd0 (by show 2≤9;decide) ?_
  (repeat' ((conv=>whnf);first|refine vT ?_|refine vZ ?_|refine yD (zzW l _ _ (bad n) (ztP n h)) ⟨⟨rfl,rfl⟩,⟨rfl,rfl⟩,rfl⟩ rfl ?_));all_goals try conv=>whnf
  exact zim
 refine zg zx zpe (by show 2≤8;decide) ?_
 (repeat' ((conv=>whnf);first|refine vT ?_|refine vZ ?_|refine yD c1 (by (repeat refine ⟨⟨rfl,rfl⟩,?_⟩);rfl) rfl ?_));all_goals try conv=>whnf
abbrev bKM (m:KM):D := .box [.int .i64 m.W,dU m.val,dUU m.rel]
theorem zau (m:KM):Fn Tryz.prog T ze0 [.d (dKM m)] [] (.d (.int .i64 (za m))) []:=by
 have c1:0≤m.W → ∀ x:List (BitVec 64),Fn Tryz.prog T zdV [.d (dU x),.d (bKM m)] [] (.d (.bool (x.any (bad m.W)))) []:=fun h x=>by
  refine zg zx zpb (by show 2≤8;decide) ?_
  (repeat' ((conv=>whnf);first|refine vT ?_|refine vZ ?_|refine yD (znj x m.W h) ⟨⟨rfl,rfl⟩,⟨rfl,rfl⟩,rfl⟩ rfl ?_));all_goals try conv=>whnf
 have c2:0≤m.W→Fn Tryz.prog T zao [.d (dUU m.rel),.d (.fn zdV [bKM m])] [] (.d (.bool (m.rel.any fun x=>x.any (bad m.W)))) []:=fun h=>by
  refine zg zx zbm (by show 2≤9;decide) ?_
  (repeat' ((conv=>whnf);first|refine vT ?_|refine vZ ?_|refine yD (zsm m.rel _ _ (fun x=>x.any (bad m.W)) (c1 h)) ⟨⟨rfl,rfl⟩,⟨rfl,rfl⟩,rfl⟩ rfl ?_));all_goals try conv=>whnf
  exact zim
 refine zg zx zrj (by show 1≤47;decide) ?_
 (repeat' ((conv=>whnf);first|refine vA ?_|(refine vF ?_ ?_<;>intro hc<;>try simp only [vL] at hc)|refine vJ fun hg=>?_|refine vT ?_|refine vX ?_));all_goals try conv=>whnf
 ·rw [za,if_pos (by omega)]
 ·rw [za,if_pos (by omega)]
 ·rw [za,if_neg (by omega),if_pos (by omega)]
 ·rw [za,if_neg (by omega),if_pos (by omega)]
 ·have e0:za m=if m.rel.any (fun r=>decide ((r.length:Int)≠m.W)) then 3 else if m.val.any (bad m.W) then 2 else if m.rel.any (fun r=>r.any (bad m.W)) then 2 else 0:=by rw [za,if_neg (by omega),if_neg (by omega)]
  refine zq (fun (k:Nat)=>[(1,.ptr 0 0),(24,.d (dUU m.rel)),(25,.d (.int .i64 ((m.rel.map dU).length:Int))),(26,.d (.int .i64 ((k:Int))))]) (fun (k:Nat)=>[(0,some (zar m))]) 1 (fun (k:Nat)=>k≤m.rel.length∧m.rel.any (fun r=>decide ((r.length:Int)≠m.W))=(m.rel.drop k).any (fun r=>decide ((r.length:Int)≠m.W))) (fun (k:Nat)=>m.rel.length - k) (0) [(0,0)] [] (⟨by simp,rfl⟩) (by (refine ⟨rfl,rfl,rfl,?_,?_⟩;repeat' first|exact trivial|exact rfl|refine And.intro ?_ ?_|refine ⟨_,rfl,?_⟩|decide)) ?_
  rintro k ⟨hk,hI⟩
  (repeat' ((conv=>whnf);first|refine vA ?_|((first|refine vD ?_ ?_|refine vF ?_ ?_)<;>intro hc<;>try simp only [vL] at hc)|refine vJ fun hg=>?_|refine vT ?_|(refine vQ ?_ fun x hx=>?_;·omega)|(refine vO ?_ ?_;·omega)|refine vX ?_));all_goals try conv=>whnf
  ·rw [e0,if_pos (by rw [hI,zQ hx,List.any_cons,decide_eq_true (by simpa using ‹_›)];rfl)]
  ·exact ⟨k+1,[(0,0)],[],⟨by (omega),by rw [hI,zQ hx,List.any_cons,decide_eq_false (by simpa using ‹_›)];rfl⟩,by (omega),by (refine ⟨rfl,rfl,rfl,?_,?_⟩;repeat' first|exact trivial|exact rfl|refine And.intro ?_ ?_|refine ⟨_,rfl,?_⟩|decide)⟩
  ·have h1:m.rel.any (fun r=>decide ((r.length:Int)≠m.W))=false:=by rw [hI,List.drop_eq_nil_of_le (by omega)];rfl
   rw [h1,if_neg (by decide)] at e0
   have co:=znj (T:=T) m.val m.W (by omega)
   have c2:=c2 (by omega)
   (repeat' ((conv=>whnf);first|(refine vI ?_ ?_<;>intro hc)|refine vT ?_|refine vX ?_|refine yD co ⟨⟨rfl,rfl⟩,⟨rfl,rfl⟩,rfl⟩ rfl ?_|refine yD c2 (by (repeat refine ⟨⟨rfl,rfl⟩,?_⟩);rfl) rfl ?_));all_goals try conv=>whnf
   ·rw [e0,if_pos ‹_›]
   ·rw [e0,if_neg (by simp [‹m.val.any (bad m.W)=false›]),if_pos ‹_›]
   ·rw [e0,if_neg (by simp [‹m.val.any (bad m.W)=false›]),if_neg (by simp [‹(m.rel.any fun x=>x.any (bad m.W))=false›])]
def zlr (m:KM) (w:Int):Int:=if za m≠0∨w < 0∨m.W≤w then -1 else zz m w.toNat
theorem zi7 {m:KM} (hc:za m=0) {w:Nat} (hw:w < m.W.toNat):zlr m (w:Int)=zz m w:=by
 unfold zlr;rw [if_neg (by omega)];rfl
theorem zeb (m:KM) (w:Int):Fn Tryz.prog T ze1 [.d (dKM m),.d (.int .i64 w)] [] (.d (.int .i64 (zlr m w))) []:=by
 refine zg zx zrk (by show 2≤40;decide) ?_
 (repeat' ((conv=>whnf);first|refine vA ?_|((first|refine vD ?_ ?_|refine vF ?_ ?_)<;>intro hc<;>try simp only [vL] at hc)|refine vJ fun hg=>?_|refine vT ?_|refine vX ?_|refine yD (zau m) ⟨⟨rfl,rfl⟩,rfl⟩ rfl ?_));all_goals try conv=>whnf
 ·rw [zlr,if_pos (by omega)]
 ·rw [zlr,if_pos (by omega)]
 ·rw [zlr,if_pos (by omega)]
 ·have hc0:za m=0:=by omega
  have hg0:=zk hc0
  have w2:=hg0.w2
  have v8:=hg0.v8
  refine zq (fun ((k,f):Nat×Int)=>[(1,.d (.int .i64 (w))),(5,.d (.int .i64 (f))),(22,.d (dU m.val)),(23,.d (.int .i64 ((m.val.map D.u64).length:Int))),(24,.d (.int .i64 ((k:Int))))]) (fun ((k,f):Nat×Int)=>[(0,some (zar m))]) 1 (fun ((k,f):Nat×Int)=>k≤m.val.length∧f=(zaG m.val w.toNat k:Int)) (fun ((k,f):Nat×Int)=>m.val.length - k) ((0,0)) [(0,0)] [] (⟨by simp,rfl⟩) (by (refine ⟨rfl,rfl,rfl,?_,?_⟩;repeat' first|exact trivial|exact rfl|refine And.intro ?_ ?_|refine ⟨_,rfl,?_⟩|decide)) ?_
  rintro ⟨k,f⟩ ⟨hk,hI⟩
  subst hI
  by_cases hkl:k < m.val.length
  ·obtain ⟨s,hs⟩ : ∃ s,m.val[k]? = some s:=⟨_,List.getElem?_eq_getElem hkl⟩
   have hw:w=((w.toNat:Nat):Int):=by omega
   have bs:(s >>> w.toNat&&&(1:BitVec 64)).toNat≤1:=zv0 s _
   have hor:=zya (w:=w.toNat) hs (by omega)
   have hsh:0≤(((s >>> w.toNat&&&(1:BitVec 64)).toNat:Int)) * 2 ^ (min (k:Int).toNat IntKind.i64.bits)∧(((s >>> w.toNat&&&(1:BitVec 64)).toNat:Int)) * 2 ^ (min (k:Int).toNat IntKind.i64.bits)≤9223372036854775807:=zxd bs (by omega)
   (repeat' ((conv=>whnf);first|refine vA ?_|(refine vF ?_ ?_<;>intro hc<;>try simp only [vL] at hc)|refine vT ?_|refine vN ‹_› ?_|((first|refine vO ?_ ?_|refine vP ?_ ?_);·omega)|refine vX ?_));all_goals try conv=>whnf
   ·refine ⟨(k+1,_),[(0,0)],[],?_,?_,by (refine ⟨rfl,rfl,rfl,?_,?_⟩;repeat' first|exact trivial|exact rfl|refine And.intro ?_ ?_|refine ⟨_,rfl,?_⟩|decide)⟩
    ·exact ⟨by (omega),hor⟩
    ·((simp only [vM] at *;omega))
   all_goals omega
  ·(repeat' ((conv=>whnf);first|refine vA ?_|(refine vF ?_ ?_<;>intro hc<;>try simp only [vL] at hc)|refine vT ?_|(refine vQ ?_ fun x hx=>?_;·omega)|((first|refine vO ?_ ?_|refine vP ?_ ?_);·omega)|refine vX ?_));all_goals try conv=>whnf
   ·omega
   ·unfold zlr
    rw [if_neg (by omega),show k=m.val.length by omega];rfl
abbrev dN (l:List Nat):D:=dI (l.map fun (x:Nat)=>(x:Int))
theorem ztO (hT:za0 T) (s:BitVec 64):Fn Tryz.prog T zik [.d (.u64 s)] [] (.d (dN (zt s))) []:=by
 refine zg zx zpd (by show 1≤16;decide) ?_
 (repeat' ((conv=>whnf);first|refine vA ?_|refine vT ?_));all_goals try conv=>whnf
 refine zq (fun ((r,zs):BitVec 64×List D)=>[(0,.d (.u64 (r))),(3,.own 0)]) (fun ((r,zs):BitVec 64×List D)=>[(0,some (.row 1 zs))]) 1 (fun ((r,zs):BitVec 64×List D) => ∃ l:List Nat,zs=l.map (fun (x:Nat)=>D.int .i64 (x:Int))∧zt s=l++zt r) (fun ((r,zs):BitVec 64×List D)=>(zt r).length) ((s,[])) []   [0] (⟨[],rfl,rfl⟩) (by (refine ⟨rfl,rfl,rfl,?_,?_⟩;repeat' first|exact trivial|exact rfl|exact ⟨_,rfl⟩|refine And.intro ?_ ?_|decide)) ?_
 rintro ⟨r,zs⟩ ⟨l,rfl,hI⟩
 by_cases hr:r=0#64
 ·subst hr
  (repeat' ((conv=>whnf);first|refine vA ?_|refine vH ?_|refine vT ?_));all_goals try conv=>whnf
  rw [hI,zdK,List.append_nil]
  show some (D.arr 1 _)=some (D.arr 1 _)
  rw [List.map_map];rfl
 ·have hb:=zdJ r hr
  have hl:=congrArg List.length hI
  have hlen:(zt s).length≤64:=by unfold zt;have:=List.length_filter_le (fun i=>s.getLsbD i) (List.range 64);simpa using this
  rw [List.length_append] at hl
  (repeat' ((conv=>whnf);first|refine vA ?_|(refine vD ?_ ?_<;>intro hc)|refine vT ?_|(refine vP ?_ ?_;·(simp only [vM] at *;omega))|refine yD (hT r) (by (repeat refine ⟨⟨rfl,rfl⟩,?_⟩);rfl) rfl ?_));all_goals try conv=>whnf
  ·refine ⟨(r&&&(r - 1#64),_),[(0,2)],[],?_,?_,by (refine ⟨rfl,rfl,rfl,?_,?_⟩;repeat' first|exact trivial|exact rfl|refine And.intro ?_ ?_|refine ⟨_,rfl,?_⟩|decide)⟩
   ·exact ⟨l++[Lib.ctz 64 r.toNat],by simp,by rw [hI,hb];simp⟩
   ·show (zt (r&&&(r - 1#64))).length < (zt r).length
    rw [hb];simp
  ·exact absurd ‹r=0› hr
theorem zsu (s:BitVec 64) (l:List Nat) (hl:l.length≤64):Fn Tryz.prog T zlq [.d (.u64 s),.d (dN l)] [] (.d (.u64 (zay s l))) []:=by
 refine zg zx zsE (by show 2≤25;decide) ?_
 (repeat' ((conv=>whnf);first|refine vA ?_|refine vJ fun hg=>?_|refine vT ?_));all_goals try conv=>whnf
 refine zah (fun ((k,o):Nat×BitVec 64)=>[(0,.d (.u64 (s))),(5,.d (.u64 (o))),(8,.d (dN l)),(9,.d (.int .i64 (((l.map fun (x:Nat)=>(x:Int)).map (D.int .i64)).length:Int))),(10,.d (.int .i64 ((k:Int))))]) (fun ((k,o):Nat×BitVec 64)=>k≤l.length∧o=zaA (fun i=>s.getLsbD (l.getD i 0)) k) (fun ((k,o):Nat×BitVec 64)=>l.length - k) ((0,0#64)) (⟨by simp,rfl⟩) (by (repeat' first|exact trivial|exact rfl|refine And.intro ?_ ?_)) ?_
 rintro ⟨k,o⟩ ⟨hk,hI⟩
 by_cases hkl:k < l.length
 ·have e1:(l.map fun (x:Nat)=>(x:Int))[k]? = some ((l.getD k 0:Nat):Int):=by simp [hkl]
  (repeat' ((conv=>whnf);first|refine vA ?_|(refine vF ?_ ?_<;>intro hc<;>try simp only [vL] at hc)|refine vT ?_|refine vN ‹_› ?_|((first|refine vO ?_ ?_|refine vP ?_ ?_);·omega)|refine vY ?_));all_goals try conv=>whnf
  ·refine ⟨(k+1,_),[],[],?_,?_,by (refine ⟨rfl,rfl,rfl,?_,?_⟩;repeat' first|exact trivial|exact rfl|refine And.intro ?_ ?_)⟩
   ·refine ⟨by omega,?_⟩
    rw [zaA,hI]
    show _|||(s >>> (l.getD k 0)&&&1#64) <<< k=_
    by_cases hb:s.getLsbD (l.getD k 0)=true
    ·rw [(zf4 _ _).2 hb,if_pos hb]
    ·rw [(zhD _ _).2 (by simpa using hb),if_neg hb,BitVec.zero_shiftLeft,BitVec.or_zero]
   ·((simp only [vM] at *;omega))
  ·omega
 ·(repeat' ((conv=>whnf);first|refine vA ?_|(refine vF ?_ ?_<;>intro hc<;>try simp only [vL] at hc)|refine vT ?_|(refine vQ ?_ fun x hx=>?_;·omega)|((first|refine vO ?_ ?_|refine vP ?_ ?_);·omega)|refine vY ?_));all_goals try conv=>whnf
  ·omega
  ·rw [hI,show k=l.length by omega];rfl
theorem zmB {l:List Nat} {k:Nat} (h:k < l.length):(l.map fun (x:Nat)=>(x:Int))[k]? = some ((l.getD k 0:Nat):Int):=by simp [h]
abbrev zgf (l:List Nat):Nat:=((l.map fun (x:Nat)=>(x:Int)).map (D.int .i64)).length
theorem zmv (l:List Nat):zgf l=l.length:=by simp [zgf]
theorem zvg (m:KM) (l:List Nat) (hl:l.length≤64) (hr : ∀ r∈m.rel,∀ w∈l,w < r.length) (hv:m.val.length≤8) (hrl:m.rel.length≤4):Fn Tryz.prog T zfF [.d (dKM m),.d (dN l)] [] (.d (dKM (zC m l))) []:=by
 refine zg zx zpc (by show 2≤63;decide) ?_
 (repeat' ((conv=>whnf);first|refine vA ?_|refine vJ fun hg=>?_|refine vT ?_));all_goals try conv=>whnf
 refine zq (fun ((k,zs):Nat×List D)=>[(1,.d (dN l)),(2,.ptr 0 0),(4,.ptr 1 0),(5,.ptr 2 0),(17,.d (dU m.val)),(18,.d (.int .i64 ((m.val.map D.u64).length:Int))),(19,.d (.int .i64 ((k:Int))))]) (fun ((k,zs):Nat×List D)=>[(0,some (zar m)),(1,some (.box [.d (.int .i64 0),.nils 1,.nils 1])),(2,some (.box [.d (.int .i64 (zgf l:Int)),.own 3,.nils 1])),(3,some (.row 1 zs))]) 4 (fun ((k,zs):Nat×List D)=>k≤m.val.length∧zs=(m.val.take k).map fun s=>D.u64 (zay s l)) (fun ((k,zs):Nat×List D)=>m.val.length - k) ((0,[])) [(0,0),(1,1),(2,2)]   [3] (⟨by simp,by simp⟩) (by (refine ⟨rfl,rfl,rfl,?_,?_⟩;repeat' first|exact trivial|exact rfl|exact ⟨_,rfl⟩|refine And.intro ?_ ?_|refine ⟨_,rfl,?_⟩|decide)) ?_
 rintro ⟨k,zs⟩ ⟨hk,hz⟩
 have hzl:zs.length≤8:=by rw [hz];simp;omega
 by_cases hkl:k < m.val.length
 ·obtain ⟨s,hs⟩ : ∃ s,m.val[k]? = some s:=⟨_,List.getElem?_eq_getElem hkl⟩
  (repeat' ((conv=>whnf);first|refine vA ?_|(refine vF ?_ ?_<;>intro hc<;>try simp only [vL] at hc)|refine vJ fun hg=>?_|refine vT ?_|refine vN ‹_› ?_|((first|refine vO ?_ ?_|refine vP ?_ ?_);·first|omega|(simp only [vM] at *;omega))|(refine vU ?_ ?_;·kernel_rfl)|refine yD (zsu s l hl) ⟨⟨rfl,rfl⟩,⟨rfl,rfl⟩,rfl⟩ rfl ?_));all_goals try conv=>whnf
  ·refine ⟨(k+1,_),[(0,0),(1,1),(2,2),(3,5)],[],?_,?_,by (refine ⟨rfl,rfl,rfl,?_,?_⟩;repeat' first|exact trivial|exact rfl|refine And.intro ?_ ?_|refine ⟨_,rfl,?_⟩|decide)⟩
   ·exact ⟨by omega,by rw [List.take_add_one,hs,hz];simp⟩
   ·((simp only [vM] at *;omega))
  all_goals omega
 ·have hzz:zs=m.val.map fun s=>D.u64 (zay s l):=by rw [hz,List.take_of_length_le (by omega)]
  clear hz
  subst hzz
  (repeat' ((conv=>whnf);first|refine vA ?_|(refine vF ?_ ?_<;>intro hc<;>try simp only [vL] at hc)|refine vJ fun hg=>?_|refine vT ?_|(refine vQ ?_ fun x hx=>?_;·omega)|fail));all_goals try conv=>whnf
  ·omega
  refine zq (fun ((k,zs):Nat×List D)=>[(1,.d (dN l)),(4,.ptr 1 0),(5,.ptr 2 0),(33,.d (dUU m.rel)),(34,.d (.int .i64 ((m.rel.map dU).length:Int))),(35,.d (.int .i64 ((k:Int))))]) (fun ((k,zs):Nat×List D)=>[(1,some (.box [.d (.int .i64 0),.nils 1,.nils 1])),(2,some (.box [.d (.int .i64 (zgf l:Int)),.own 3,.own 4])),(3,some (.row 1 (m.val.map fun s=>D.u64 (zay s l)))),(4,some (.row 1 zs))]) 5 (fun ((k,zs):Nat×List D)=>k≤m.rel.length∧zs=(m.rel.take k).map fun r=>dU (l.map fun w=>zay (r.getD w 0#64) l)) (fun ((k,zs):Nat×List D)=>m.rel.length - k) ((0,[])) [(1,1),(2,2),(3,3)]   [4] (⟨by simp,by simp⟩) (by (refine ⟨rfl,rfl,rfl,?_,?_⟩;repeat' first|exact trivial|exact rfl|exact ⟨_,rfl⟩|refine And.intro ?_ ?_|refine ⟨_,rfl,?_⟩|decide)) ?_
  rintro ⟨k,zs⟩ ⟨hk,hz⟩
  have hzl:zs.length≤4:=by rw [hz];simp;omega
  by_cases hkl:k < m.rel.length
  ·obtain ⟨r,hrr⟩ : ∃ r,m.rel[k]? = some r:=⟨_,List.getElem?_eq_getElem hkl⟩
   have hrw:=hr r (List.mem_of_getElem? hrr)
   (repeat' ((conv=>whnf);first|refine vA ?_|(refine vF ?_ ?_<;>intro hc<;>try simp only [vL] at hc)|refine vJ fun hg=>?_|refine vT ?_|refine vN ‹_› ?_));all_goals try conv=>whnf
   ·refine zq (fun ((j,ys):Nat×List D)=>[(1,.d (dN l)),(4,.ptr 1 0),(5,.ptr 2 0),(9,.d (dU r)),(10,.own 5),(33,.d (dUU m.rel)),(34,.d (.int .i64 ((m.rel.map dU).length:Int))),(35,.d (.int .i64 ((k:Int)))),(39,.d (dN l)),(40,.d (.int .i64 (((l.map fun (x:Nat)=>(x:Int)).map (D.int .i64)).length:Int))),(41,.d (.int .i64 ((j:Int))))]) (fun ((j,ys):Nat×List D)=>[(1,some (.box [.d (.int .i64 0),.nils 1,.nils 1])),(2,some (.box [.d (.int .i64 (zgf l:Int)),.own 3,.own 4])),(3,some (.row 1 (m.val.map fun s=>D.u64 (zay s l)))),(4,some (.row 1 zs)),(5,some (.row 1 ys))]) 6 (fun ((j,ys):Nat×List D)=>j≤l.length∧ys=(l.take j).map fun w=>D.u64 (zay (r.getD w 0#64) l)) (fun ((j,ys):Nat×List D)=>l.length - j) ((0,[])) [(1,1),(2,2),(3,3),(4,4)]   [5] (⟨by simp,by simp⟩) (by (refine ⟨rfl,rfl,rfl,?_,?_⟩;repeat' first|exact trivial|exact rfl|exact ⟨_,rfl⟩|refine And.intro ?_ ?_|refine ⟨_,rfl,?_⟩|decide)) ?_
    rintro ⟨j,ys⟩ ⟨hj,hy⟩
    have hyl:ys.length≤64:=by rw [hy];simp;omega
    by_cases hjl:j < l.length
    ·have e1:=zmB hjl
     have e2:=hrw _ (zaf hjl)
     have e3:r[l.getD j 0]? = some (r.getD (l.getD j 0) 0#64):=zfl e2
     (repeat' ((conv=>whnf);first|refine vA ?_|(refine vF ?_ ?_<;>intro hc<;>try simp only [vL] at hc)|refine vT ?_|refine vN ‹_› ?_|((first|refine vO ?_ ?_|refine vP ?_ ?_);·first|omega|(simp only [vM] at *;omega))|refine yD (zsu (r.getD (l.getD j 0) 0#64) l hl) ⟨⟨rfl,rfl⟩,⟨rfl,rfl⟩,rfl⟩ rfl ?_));all_goals try conv=>whnf
     ·refine ⟨(j+1,_),[(1,1),(2,2),(3,3),(4,4),(5,7)],[],?_,?_,by (refine ⟨rfl,rfl,rfl,?_,?_⟩;repeat' first|exact trivial|exact rfl|refine And.intro ?_ ?_|refine ⟨_,rfl,?_⟩|decide)⟩
      ·exact ⟨by omega,by rw [List.take_add_one,hy,zfl (d:=0) hjl];simp⟩
      ·((simp only [vM] at *;omega))
     ·omega
    ·(repeat' ((conv=>whnf);first|refine vA ?_|(refine vF ?_ ?_<;>intro hc<;>try simp only [vL] at hc)|refine vT ?_|(refine vQ ?_ fun x hx=>?_;·omega)|((first|refine vO ?_ ?_|refine vS ?_ fun x hx=>?_|refine vP ?_ ?_);·first|omega|(simp only [vM] at *;omega))|fail));all_goals try conv=>whnf
     ·omega
     ·have hyy:ys=l.map fun w=>D.u64 (zay (r.getD w 0#64) l):=by rw [hy,List.take_of_length_le (by omega)]
      refine ⟨(k+1,_),[(1,1),(2,2),(3,3),(4,7)],[],?_,?_,by (refine ⟨rfl,rfl,rfl,?_,?_⟩;repeat' first|exact trivial|exact rfl|refine And.intro ?_ ?_|refine ⟨_,rfl,?_⟩|decide)⟩
      ·refine ⟨by omega,?_⟩
       rw [List.take_add_one,hrr,hz,hyy];simp
      ·((simp only [vM] at *;omega))
   all_goals omega
  ·(repeat' ((conv=>whnf);first|refine vA ?_|(refine vF ?_ ?_<;>intro hc<;>try simp only [vL] at hc)|refine vJ fun hg=>?_|refine vT ?_|(refine vQ ?_ fun x hx=>?_;·omega)|fail));all_goals try conv=>whnf
   ·omega
   ·have hzz:zs=m.rel.map fun r=>dU (l.map fun w=>zay (r.getD w 0#64) l):=by rw [hz,List.take_of_length_le (by omega)]
    subst hzz
    refine congrArg some (show D.agg [.int .i64 (zgf l:Int),.arr 1 (m.val.map fun s=>D.u64 (zay s l)),.arr 1 (m.rel.map fun r=>dU (l.map fun w=>zay (r.getD w 0#64) l))]=dKM (zC m l) from ?_)
    rw [zmv]
    simp [zC,Function.comp_def]
theorem zyi {m:KM} (hc:za m=0) {l:List Nat} (h : ∀ w∈l,w < m.W.toNat) : ∀ r∈m.rel,∀ w∈l,w < r.length:=fun r hr w hw=>by
 have hg:=zk hc
 have:=hg.len r hr
 have:=h w hw
 have:=hg.w1
 omega
theorem zni {m:KM} (hc:za m=0) {l:List Nat} (hl:l.length≤64) (h : ∀ w∈l,w < m.W.toNat):Fn Tryz.prog T zfF [.d (dKM m),.d (dN l)] [] (.d (dKM (zC m l))) [] :=
 zvg m l hl (zyi hc h) (zk hc).v8 (zk hc).n4
theorem zov (s:BitVec 64):(zt s).length≤64:=by
 unfold zt;have:=List.length_filter_le (fun i=>s.getLsbD i) (List.range 64);simpa using this
theorem zwx {m:KM} (hc:za m=0) {s:BitVec 64} (hs : ∀ v,s.getLsbD v=true→v < m.W.toNat):s &&& ~~~(ziB m.W)=0#64:=by
 have w1:=(zk hc).w1
 have:=(zeq (n:=m.W) (s:=s) (by omega)).2 hs
 simpa [bad] using this
theorem zlz (hT:za0 T) {m:KM} (hk0:za m=0) {s:BitVec 64} (h0:s≠0#64) (hs : ∀ v,s.getLsbD v=true→v < m.W.toNat):Fn Tryz.prog T zhM [.d (dKM m),.d (.u64 s)] [] (.d (.tup [dKM (zC m (zt s)),dN (zt s),.int .i64 0])) []:=by
 have w1:=(zk hk0).w1
 have h1:=zwx hk0 hs
 have cc:=zau (T:=T) m
 rw [hk0] at cc
 refine zg zx zn1 (by show 2≤31;decide) ?_
 (repeat' ((conv=>whnf);first|refine vA ?_|refine vH ?_|((first|refine vD ?_ ?_|refine vF ?_ ?_)<;>intro hc)|refine vT ?_|refine yD cc ⟨⟨rfl,rfl⟩,rfl⟩ rfl ?_|refine yD (zpX m.W (by omega)) ⟨⟨rfl,rfl⟩,rfl⟩ rfl ?_|refine yN (ztO hT s) ⟨⟨rfl,rfl⟩,rfl⟩ ?_|refine yN (zni hk0 (zov s) (fun w hw=>hs w (zbe.1 hw))) (by (repeat refine ⟨⟨rfl,rfl⟩,?_⟩);rfl) ?_));all_goals try conv=>whnf
 ·exact absurd h1 ‹_›
 ·exact absurd ‹s=0› h0
 ·rfl
theorem zkE (hT:za0 T) {m:KM} (hk0:za m=0) {f:BitVec 64} (hf : ∀ v,f.getLsbD v=true→v < m.W.toNat):Fn Tryz.prog T zg8 [.d (dKM m),.d (.u64 f)] [] (.d (.tup [.u64 (zgY m f),.int .i64 0])) []:=by
 have hg0:=zk hk0
 have w1:=hg0.w1
 have w2:=hg0.w2
 have n4:=hg0.n4
 have h1:=zwx hk0 hf
 have cc:=zau (T:=T) m
 rw [hk0] at cc
 refine zg zx zmX (by show 2≤56;decide) ?_
 (repeat' ((conv=>whnf);first|refine vA ?_|refine vH ?_|(refine vD ?_ ?_<;>intro hc)|refine vT ?_|refine yD cc ⟨⟨rfl,rfl⟩,rfl⟩ rfl ?_|refine yD (zpX m.W (by omega)) ⟨⟨rfl,rfl⟩,rfl⟩ rfl ?_));all_goals try conv=>whnf
 ·exact absurd h1 ‹_›
 refine zq (fun ((o,t):BitVec 64×BitVec 64)=>[(2,.ptr 0 0),(7,.d (.u64 (o))),(8,.d (.u64 (t)))]) (fun ((o,t):BitVec 64×BitVec 64)=>[(0,some (zar m))]) 1 (fun ((o,t):BitVec 64×BitVec 64)=>zpE m f o t) (fun ((o,t):BitVec 64×BitVec 64)=>64 - zlf o t) ((f,f)) [(0,0)] [] (zvp hf) (by (refine ⟨rfl,rfl,rfl,?_,?_⟩;repeat' first|exact trivial|exact rfl|refine And.intro ?_ ?_|refine ⟨_,rfl,?_⟩|decide)) ?_
 rintro ⟨o,t⟩ hI
 by_cases ht:t=0#64
 ·subst ht
  (repeat' ((conv=>whnf);first|refine vA ?_|refine vH ?_|refine vT ?_));all_goals try conv=>whnf
  rw [hI.done hk0];rfl
 ·obtain ⟨l1,l2,l3,l4⟩:=zus t ht
  have hwo:=hI.tod _ l2
  have hwn:=(hI.gs.inn _ hwo).lt
  have cz:=hT t
  generalize Lib.ctz 64 t.toNat=w at l1 l2 l3 l4 hwo hwn cz
  (repeat' ((conv=>whnf);first|refine vA ?_|(refine vD ?_ ?_<;>intro hc)|refine vJ fun hg=>?_|refine vT ?_|refine yD cz (by (repeat refine ⟨⟨rfl,rfl⟩,?_⟩);rfl) rfl ?_));all_goals try conv=>whnf
  ·refine zq (fun ((k,o2,t2):Nat×BitVec 64×BitVec 64)=>[(2,.ptr 0 0),(7,.d (.u64 (o2))),(8,.d (.u64 (t2))),(9,.d (.int .i64 ((w:Int)))),(34,.d (dUU m.rel)),(35,.d (.int .i64 ((m.rel.map dU).length:Int))),(36,.d (.int .i64 ((k:Int))))]) (fun ((k,o2,t2):Nat×BitVec 64×BitVec 64)=>[(0,some (zar m))]) 1 (fun ((k,o2,t2):Nat×BitVec 64×BitVec 64)=>k≤m.rel.length∧znz m o t w k o2 t2) (fun ((k,o2,t2):Nat×BitVec 64×BitVec 64)=>m.rel.length - k) ((0,o,t&&&t - 1#64)) [(0,0)] [] (⟨by simp,zvq l4⟩) (by (refine ⟨rfl,rfl,rfl,?_,?_⟩;repeat' first|exact trivial|exact rfl|refine And.intro ?_ ?_|refine ⟨_,rfl,?_⟩|decide)) ?_
   rintro ⟨k,o2,t2⟩ ⟨hk,hK⟩
   by_cases hkl:k < m.rel.length
   ·obtain ⟨r,hr⟩ : ∃ r,m.rel[k]? = some r:=⟨_,List.getElem?_eq_getElem hkl⟩
    have hrl:=hg0.len r (List.mem_of_getElem? hr)
    obtain ⟨x,hx⟩ : ∃ x,r[w]? = some x:=⟨_,List.getElem?_eq_getElem (by omega)⟩
    (repeat' ((conv=>whnf);first|refine vA ?_|(refine vF ?_ ?_<;>intro hc<;>try simp only [vL] at hc)|refine vT ?_|refine vN ‹_› ?_|(refine vO ?_ ?_;·omega)|fail));all_goals try conv=>whnf
    ·refine ⟨(k+1,_,_),[(0,0)],[],?_,?_,by (refine ⟨rfl,rfl,rfl,?_,?_⟩;repeat' first|exact trivial|exact rfl|refine And.intro ?_ ?_|refine ⟨_,rfl,?_⟩|decide)⟩
     ·exact ⟨by omega,hK.next hr hx⟩
     ·((simp only [vM] at *;omega))
    ·omega
   ·(repeat' ((conv=>whnf);first|refine vA ?_|(refine vF ?_ ?_<;>intro hc<;>try simp only [vL] at hc)|refine vT ?_|refine vN ‹_› ?_|(refine vQ ?_ fun x hx=>?_;·omega)|(refine vO ?_ ?_;·omega)|fail));all_goals try conv=>whnf
    ·omega
    ·have e0:k=m.rel.length:=by omega
     subst e0
     have hE:=hK.end' hk0 hI l2
     have hb:=zzK o2 t2
     refine ⟨(_,_),[(0,0)],[],?_,?_,by (refine ⟨rfl,rfl,rfl,?_,?_⟩;repeat' first|exact trivial|exact rfl|refine And.intro ?_ ?_|refine ⟨_,rfl,?_⟩|decide)⟩
     ·exact hE.1
     ·have:=hE.2
      show 64 - zlf o2 t2 < 64 - zlf o t
      omega
  ·exact absurd ‹t=0› ht
theorem zvr {to:List Int} {k:Nat} (hk:k < to.length) (hn:at0 to k ∉ to.take k):to.idxOf (at0 to k)=k:=by
 have e:to=to.take k++at0 to k::to.drop (k+1):=by
  rw [← zQ (zdb hk),List.take_append_drop]
 have hl:(to.take k).length=k:=by simp;omega
 generalize at0 to k=x at e hn
 generalize to.take k=a at e hn hl
 rw [e,List.idxOf_append,if_neg hn,List.idxOf_cons_self,hl];simp
structure zk0 (to:List Int) (k:Nat) (s:BitVec 64) (zs:List D):Prop where
 le:k≤to.length
 rng : ∀ x∈to.take k,0≤x∧x < to.length
 nd:(to.take k).Nodup
 bit : ∀ x:Nat,x < 64→(s.getLsbD x=true↔(x:Int)∈to.take k)
 row:zs=(List.range to.length).map fun (x:Nat)=>D.int .i64 (if (x:Int)∈to.take k then (to.idxOf (x:Int):Int) else 0)
theorem zk0.next {to:List Int} (h64:to.length≤64) {k:Nat} {s:BitVec 64} {zs:List D} (h:zk0 to k s zs) (hk:k < to.length) {x:Nat} (hx:to[k]? = some (x:Int)) (hx1:x < to.length) (hx2:s.getLsbD x=false) :
  zk0 to (k+1) (s|||1#64 <<< x) (zs.set x (.int .i64 (k:Int))):=by
 have e0:at0 to k=(x:Int):=zc5 hx
 have hn:(x:Int) ∉ to.take k:=fun hm=>by rw [(h.bit x (by omega)).2 hm] at hx2;cases hx2
 have hi:to.idxOf (x:Int)=k:=by rw [← e0];exact zvr hk (by rw [e0];exact hn)
 have ht:to.take (k+1)=to.take k++[(x:Int)]:=by rw [List.take_add_one,hx];rfl
 refine ⟨by omega,fun y hy=>?_,?_,fun y hy=>?_,?_⟩
 ·rw [ht] at hy
  rcases List.mem_append.1 hy with hy|hy
  ·exact h.rng y hy
  ·simp only [List.mem_singleton] at hy;omega
 ·rw [ht]
  refine List.nodup_append.2 ⟨h.nd,by simp,fun a ha b hb e=>?_⟩
  simp only [List.mem_singleton] at hb
  subst hb;subst e;exact hn ha
 ·rw [ht,zpj (by omega),h.bit y hy,List.mem_append,List.mem_singleton]
  exact ⟨fun h=>h.elim .inl fun e => .inr (by omega),fun h=>h.elim .inl fun e => .inr (by omega)⟩
 ·rw [h.row]
  refine (zdj _).trans (zD fun u hu=>?_)
  rw [ht]
  by_cases e:u=x
  ·subst e;rw [if_pos rfl,if_pos (by simp),hi]
  ·rw [if_neg e]
   have:((u:Int)∈to.take k++[(x:Int)])↔(u:Int)∈to.take k:=by
    rw [List.mem_append,List.mem_singleton]
    exact ⟨fun h=>h.elim id fun e'=>absurd (by omega) e,.inl⟩
   by_cases h2:(u:Int)∈to.take k
   ·rw [if_pos h2,if_pos (this.2 h2)]
   ·rw [if_neg h2,if_neg (fun h=>h2 (this.1 h))]
theorem zk0.done {to:List Int} {s:BitVec 64} {zs:List D} (h:zk0 to to.length s zs):zcF to to.length=true∧zs=(za9 to to.length).map fun (x:Nat)=>D.int .i64 (x:Int):=by
 have h1:=h.rng;have h2:=h.nd;have h3:=h.row
 rw [List.take_length] at h1 h2 h3
 have hp:zcF to to.length=true:=zel.2 ⟨rfl,h1,h2⟩
 refine ⟨hp,?_⟩
 rw [h3]
 unfold za9
 rw [List.map_map]
 exact zD fun u hu=>by rw [if_pos (zyG hp hu)];rfl
theorem zk0.bad {to:List Int} {k:Nat} {s:BitVec 64} {zs:List D} (h:zk0 to k s zs) (h64:to.length≤64) {x:Int} (hx:to[k]? = some x) (hb:x < 0∨(to.length:Int)≤x∨s.getLsbD x.toNat=true):zcF to to.length=false:=by
 rw [← Bool.not_eq_true]
 intro hp
 obtain ⟨h1,h2,h3⟩:=zel.1 hp
 have hr:=h2 x (List.mem_of_getElem? hx)
 rcases hb with hb|hb|hb
 ·omega
 ·omega
 ·have hm:=(h.bit x.toNat (by omega)).1 hb
  rw [show ((x.toNat:Nat):Int)=x by omega] at hm
  obtain ⟨j,hj⟩:=List.getElem?_of_mem hm
  rw [List.getElem?_take] at hj
  split at hj
  ·rename_i hlt
   obtain ⟨a,a'⟩:=List.getElem?_eq_some_iff.1 hj
   obtain ⟨c,c'⟩:=List.getElem?_eq_some_iff.1 hx
   have:=(List.getElem_inj h3).1 (a'.trans c'.symm)
   omega
  ·cases hj
theorem zvk (m:KM) (to:List Int):Fn Tryz.prog T zi3 [.d (dKM m),.d (dI to)] [] (.d (dKI (zoc m to))) []:=by
 have cc:=zau (T:=T) m
 refine zg zx zp1 (by show 2≤61;decide) ?_
 (repeat' ((conv=>whnf);first|refine vA ?_|(refine vD ?_ ?_<;>intro hc<;>try simp only [vL] at hc)|refine vJ fun hg=>?_|refine vT ?_|(refine vP ?_ ?_;·omega)|refine yD cc ⟨⟨rfl,rfl⟩,rfl⟩ rfl ?_));all_goals try conv=>whnf
 ·rw [zoc,if_pos (by omega)];rfl
 ·have hk0:za m=0:=by omega
  have w1:=(zk hk0).w1
  rw [zoc,if_neg (by omega),if_neg (fun h=>by have:=(zel.1 h).1;omega)];rfl
 ·have hk0:za m=0:=by omega
  have hg0:=zk hk0
  have w1:=hg0.w1
  have w2:=hg0.w2
  have h64:to.length≤64:=by omega
  have hW:m.W.toNat=to.length:=by omega
  (repeat' ((conv=>whnf);first|refine vA ?_|refine vJ fun hg=>?_|refine vT ?_|(refine vP ?_ ?_;·(simp only [vM] at *;omega))|fail));all_goals try conv=>whnf
  refine zq (fun ((k,s,zs):Nat×BitVec 64×List D)=>[(1,.d (dI to)),(2,.ptr 0 0),(4,.ptr 1 0),(7,.own 2),(8,.d (.u64 (s))),(26,.d (dI to)),(27,.d (.int .i64 ((to.map (D.int .i64)).length:Int))),(28,.d (.int .i64 ((k:Int))))]) (fun ((k,s,zs):Nat×BitVec 64×List D)=>[(0,some (zar m)),(1,some (.box [.d (.int .i64 0),.nils 1,.nils 1])),(2,some (.row 1 zs))]) 3 (fun ((k,s,zs):Nat×BitVec 64×List D)=>zk0 to k s zs) (fun ((k,s,zs):Nat×BitVec 64×List D)=>to.length - k) ((0,0#64,List.replicate (((to.map (D.int .i64)).length:Int)).toNat (D.int .i64 0))) [(0,0),(1,1),(2,2)] [] (⟨by simp,by simp,by simp,by simp,by rw [List.length_map,Int.toNat_natCast,zad];simp⟩) (by (refine ⟨rfl,rfl,rfl,?_,?_⟩;repeat' first|exact trivial|exact rfl|refine And.intro ?_ ?_|refine ⟨_,rfl,?_⟩|decide)) ?_
  rintro ⟨k,s,zs⟩ hI
  have hle:=hI.le
  have hzl:zs.length=to.length:=by rw [hI.row];simp
  by_cases hkl:k < to.length
  ·obtain ⟨x,hx⟩ : ∃ x,to[k]? = some x:=⟨_,List.getElem?_eq_getElem hkl⟩
   have hb:(x < 0∨(to.length:Int)≤x∨s.getLsbD x.toNat=true)→(zbi,(1:Int))=zoc m to:=fun h=>by
    have:=hI.bad h64 hx h
    rw [zoc,if_neg (by omega),if_neg (by rw [hW,this];decide)]
   (repeat' ((conv=>whnf);first|refine vA ?_|(refine vF ?_ ?_<;>intro hc<;>try simp only [vL] at hc)|refine vJ fun hg=>?_|refine vT ?_|refine vN ‹_› ?_|((first|refine vO ?_ ?_|refine vP ?_ ?_);·omega)|fail));all_goals try conv=>whnf
   ·rw [← hb (.inl ‹_›)];rfl
   ·rw [← hb (.inr (.inl ‹_›))];rfl
   ·rw [← hb (.inr (.inr ((zf4 _ _).1 ‹_›)))];rfl
   ·obtain ⟨y,rfl⟩ : ∃ y:Nat,x=(y:Int):=⟨x.toNat,by omega⟩
    refine ⟨(k+1,_,_),[(0,0),(1,1),(2,2)],[],?_,?_,by (refine ⟨rfl,rfl,rfl,?_,?_⟩;repeat' first|exact trivial|exact rfl|refine And.intro ?_ ?_|refine ⟨_,rfl,?_⟩|decide)⟩
    ·exact hI.next h64 hkl hx (by omega) (by rw [← Bool.not_eq_true];exact fun h=>absurd ((zf4 _ _).2 h) ‹¬_=(1:BitVec 64)›)
    ·((simp only [vM] at *;omega))
   ·omega
  ·have e0:k=to.length:=by omega
   subst e0
   obtain ⟨d1,d2⟩:=hI.done
   have ca:=zni (T:=T) hk0 (l:=za9 to to.length) (by rw [zji];omega) (fun w hw=>by
    obtain ⟨i,hi,rfl⟩:=zgi hw
    rw [zji] at hi
    have:=zwy d1 hi;omega)
   have hz:zs=((za9 to to.length).map fun (x:Nat)=>(x:Int)).map (D.int .i64):=by rw [d2,List.map_map];rfl
   clear d2 hI
   subst hz
   (repeat' ((conv=>whnf);first|refine vA ?_|(refine vF ?_ ?_<;>intro hc<;>try simp only [vL] at hc)|refine vJ fun hg=>?_|refine vT ?_|(refine vQ ?_ fun x hx=>?_;·omega)|((first|refine vO ?_ ?_|refine vP ?_ ?_);·omega)|refine yN ca ⟨⟨rfl,rfl⟩,⟨rfl,rfl⟩,rfl⟩ ?_));all_goals try conv=>whnf
   all_goals try (exfalso;omega)
   rw [zoc,if_neg (by omega),if_pos (by rw [hW];exact d1),hW];rfl
end Go.Ab
namespace Go.Ab
open Go Go.Proofs
set_option maxRecDepth 10000
set_option maxHeartbeats 4000000
variable {T:Nat→Obj→Prop}
def zsd (m:KM) (n:Int):Bool:=decide (¬(n < m.W∧m.W≤64)∧m.val.length≤20∧m.rel.length≤10 ∧ ∀ r∈m.rel,r.length≤70)
theorem zBP (m:KM) (n:Int):Fn Tryz.prog T zgN [.d (dKM m),.d (.int .i64 n)] [] (.d (.bool (zsd m n))) []:=by
 have no:(n < m.W∧m.W≤64∨20 < m.val.length∨10 < m.rel.length)→false=zsd m n:=fun h=>by
  rw [zsd,decide_eq_false];rintro ⟨a,b,c,-⟩;omega
 refine zg zx zlP (by show 2≤41;decide) ?_
 (repeat' ((conv=>whnf);first|refine vA ?_|(refine vF ?_ ?_<;>intro hc<;>try simp only [vL] at hc)|refine vJ fun hg=>?_|refine vT ?_|refine vZ ?_));all_goals try conv=>whnf
 iterate 3 exact no (by omega)
 rotate_left
 iterate 2 exact no (by omega)
 all_goals
  have h1 : ¬(n < m.W∧m.W≤64):=by omega
  refine zq (fun (k:Nat)=>[(2,.ptr 0 0),(5,.d (.int .i64 ((k:Int))))]) (fun (k:Nat)=>[(0,some (zar m))]) 1 (fun (k:Nat)=>k≤m.rel.length ∧ ∀ (i:Nat) r,i < k→m.rel[i]? = some r→r.length≤70) (fun (k:Nat)=>m.rel.length - k) (0) [(0,0)] [] (⟨by simp,fun i r hi=>by omega⟩) (by (refine ⟨rfl,rfl,rfl,?_,?_⟩;repeat' first|exact trivial|exact rfl|refine And.intro ?_ ?_|refine ⟨_,rfl,?_⟩|decide)) ?_
  rintro k ⟨hk,hI⟩
  (repeat' ((conv=>whnf);first|refine vA ?_|(refine vF ?_ ?_<;>intro hc<;>try simp only [vL] at hc)|refine vJ fun hg=>?_|refine vT ?_|(refine vQ ?_ fun x hx=>?_;·omega)|(refine vO ?_ ?_;·omega)|refine vZ ?_));all_goals try conv=>whnf
  ·rw [zsd,decide_eq_false]
   rintro ⟨-,-,-,h⟩
   have:=h _ (List.mem_of_getElem? hx);omega
  ·exact ⟨k+1,[(0,0)],[],⟨by (omega),fun i r hi hr=>by
    by_cases e:i=k
    ·subst e;rw [hx] at hr;cases hr;omega
    ·exact hI i r (by omega) hr⟩,by (omega),by (refine ⟨rfl,rfl,rfl,?_,?_⟩;repeat' first|exact trivial|exact rfl|refine And.intro ?_ ?_|refine ⟨_,rfl,?_⟩|decide)⟩
  ·rw [zsd,decide_eq_true]
   refine ⟨h1,by omega,by omega,fun r hr=>?_⟩
   obtain ⟨i,hi⟩:=List.getElem?_of_mem hr
   have:=(List.getElem?_eq_some_iff.1 hi).1
   exact hI i r (by omega) hi
theorem zkD (a b:List (BitVec 64)):Fn Tryz.prog T zeG [.d (dU a),.d (dU b)] [] (.d (.bool (a==b))) []:=by
 refine zg zx zic (by show 2≤26;decide) ?_
 (repeat' ((conv=>whnf);first|refine vA ?_|(refine vD ?_ ?_<;>intro hc<;>try simp only [vL] at hc)|refine vJ fun hg=>?_|refine vT ?_|refine vZ ?_));all_goals try conv=>whnf
 ·have:a≠b:=fun e=>hc (by rw [e])
  simp [this]
 ·refine zah (fun (k:Nat)=>[(0,.d (dU a)),(1,.d (dU b)),(5,.d (.int .i64 ((k:Int))))]) (fun (k:Nat)=>k≤a.length∧(a==b)=(a.drop k==b.drop k)) (fun (k:Nat)=>a.length - k) (0) (⟨by simp,by simp⟩) (by (repeat' first|exact trivial|exact rfl|refine And.intro ?_ ?_)) ?_
  rintro k ⟨hk,hI⟩
  (repeat' ((conv=>whnf);first|refine vA ?_|((first|refine vD ?_ ?_|refine vF ?_ ?_)<;>intro hc<;>try simp only [vL] at hc)|refine vJ fun hg=>?_|refine vT ?_|(refine vQ ?_ fun x hx=>?_;·omega)|(refine vO ?_ ?_;·omega)|(refine vU ?_ ?_;·kernel_rfl)|refine vZ ?_));all_goals try conv=>whnf
  ·rw [hI,zQ ‹a[k]? = some _›,zQ ‹b[k]? = some _›];simp [hc]
  ·exact ⟨k+1,[],[],⟨by (omega),by rw [hI,zQ ‹a[k]? = some _›,zQ ‹b[k]? = some _›];simp [hc]⟩,by (omega),by (refine ⟨rfl,rfl,rfl,?_,?_⟩;repeat' first|exact trivial|exact rfl|refine And.intro ?_ ?_)⟩
  ·rw [hI,List.drop_eq_nil_of_le (by omega),List.drop_eq_nil_of_le (by omega)];rfl
theorem zBs (a b:KM):Fn Tryz.prog T zf1 [.d (dKM a),.d (dKM b)] [] (.d (.bool (decide (a=b)))) []:=by
 have no:(a.W≠b.W∨a.val≠b.val∨a.rel≠b.rel)→false=decide (a=b):=fun h=>by
  rw [decide_eq_false];rintro rfl;simp at h
 refine zg zx zkW (by show 2≤47;decide) ?_
 (repeat' ((conv=>whnf);first|refine vA ?_|refine vE ?_|((first|refine vD ?_ ?_|refine vI ?_ ?_)<;>intro hc<;>try simp only [vL] at hc)|refine vJ fun hg=>?_|refine vT ?_|refine vZ ?_|refine yD (zkD _ _) ⟨⟨rfl,rfl⟩,⟨rfl,rfl⟩,rfl⟩ rfl ?_));all_goals try conv=>whnf
 ·exact no (.inl ‹_›)
 ·exact no (.inr (.inr fun e=>by have:=congrArg List.length e;omega))
 ·have e1:a.val=b.val:=by simpa using ‹(a.val==b.val)=true›
  refine zq (fun (k:Nat)=>[(2,.ptr 0 0),(3,.ptr 1 0),(5,.d (.int .i64 ((k:Int))))]) (fun (k:Nat)=>[(0,some (zar a)),(1,some (zar b))]) 2 (fun (k:Nat)=>k≤a.rel.length∧(a.rel==b.rel)=(a.rel.drop k==b.rel.drop k)) (fun (k:Nat)=>a.rel.length - k) (0) [(0,0),(1,1)] [] (⟨by simp,by simp⟩) (by (refine ⟨rfl,rfl,rfl,?_,?_⟩;repeat' first|exact trivial|exact rfl|refine And.intro ?_ ?_|refine ⟨_,rfl,?_⟩|decide)) ?_
  rintro k ⟨hk,hI⟩
  (repeat' ((conv=>whnf);first|refine vA ?_|refine vE ?_|((first|refine vF ?_ ?_|refine vI ?_ ?_)<;>intro hc<;>try simp only [vL] at hc)|refine vJ fun hg=>?_|refine vT ?_|(refine vQ ?_ fun x hx=>?_;·omega)|(refine vO ?_ ?_;·omega)|(refine vU ?_ ?_;·kernel_rfl)|refine vZ ?_|refine yD (zkD _ _) ⟨⟨rfl,rfl⟩,⟨rfl,rfl⟩,rfl⟩ rfl ?_));all_goals try conv=>whnf
  ·exact ⟨k+1,[(0,0),(1,1)],[],⟨by (omega),by rw [hI,zQ ‹a.rel[k]? = some _›,zQ ‹b.rel[k]? = some _›];simp_all⟩,by (omega),by (refine ⟨rfl,rfl,rfl,?_,?_⟩;repeat' first|exact trivial|exact rfl|refine And.intro ?_ ?_|refine ⟨_,rfl,?_⟩|decide)⟩
  ·refine no (.inr (.inr fun e=>?_))
   have g1:=‹a.rel[k]? = some _›
   rw [e,hx] at g1
   cases g1
   have:=‹(_==_)=false›
   simp at this
  ·rw [List.drop_eq_nil_of_le (by omega),List.drop_eq_nil_of_le (by omega)] at hI
   have e2:a.rel=b.rel:=by simpa using hI
   rw [decide_eq_true]
   cases a;cases b;simp_all
 ·exact no (.inr (.inl fun e=>by
   have:=‹(a.val==b.val)=false›
   rw [e] at this;simp at this))
end Go.Ab
