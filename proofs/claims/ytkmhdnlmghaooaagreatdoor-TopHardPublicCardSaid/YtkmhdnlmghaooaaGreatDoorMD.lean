/- A part of the proofs of this seat: functions and their contracts. -/
import Derived.Test.YtkmhdnlmghaooaaGreatDoorMC
import Derived.Test.YtkmhdnlmghaooaaGreatDoorProg
import Derived.Lib.TrailingZeros
import Derived.Sort.AssemblyPlain
set_option linter.unusedVariables false
set_option linter.unusedSimpArgs false
set_option linter.unusedSectionVars false
namespace Go.Ab.K
open Go
abbrev t:=Arg.t
abbrev c:=Arg.c
abbrev n (x:Int):V := .d (.int .i64 x)
abbrev u (x:BitVec 64):V := .d (.u64 x)
abbrev m (x:Nat):CO := .mv (.t x)
abbrev pf (x y:Nat):CO := .pick (.t x) (.t y) (.c .bf)
abbrev pt (x y:Nat):CO := .pick (.t x) (.c .bt) (.t y)
abbrev b (o:BinOp) (x y:Nat):CO := .bin o (.t x) (.t y)
abbrev bc (o:BinOp) (x:Nat) (y:V):CO := .bin o (.t x) (.c y)
abbrev l (x:Nat):CO := .load none (.t x)
abbrev la (k x:Nat):CO := .load (some k) (.t x)
abbrev f (o x:Nat):CO := .faddr o (.t x)
abbrev ia (s x i:Nat):CO := .iaddr s (.t x) (.t i)
abbrev e (x k:Nat):CO := .ext (.t x) k
abbrev ln (x:Nat):CO := .len (.t x)
abbrev o (d:Nat) (x:CO):COp:=⟨some d,none,x⟩
abbrev w (x:CO):COp:=⟨none,none,x⟩
abbrev g (d k:Nat) (v:Bool) (x:CO):COp:=⟨some d,some (k,v),x⟩
abbrev gw (k:Nat) (v:Bool) (x:CO):COp:=⟨none,some (k,v),x⟩
abbrev i (x:Nat) (p r:CC):CC := .cond (.t x) p r
def q:List CC→CC
 | [] => .skip
 | [x]=>x
 | x::y::r => .seq x (q (y::r))
end Go.Ab.K
namespace Go.Ab
open Go K
def zg7:Nat:=8
def zha:Nat:=9
def zfx:Nat:=12
def zfG:Nat:=13
def zcO:Nat:=14
def zfW:Nat:=15
def zfO:Nat:=16
def zh4:Nat:=17
def zeT:Nat:=18
def zhU:Nat:=28
def zhb:Nat:=29
def zdX:Nat:=30
def zjt:Nat:=32
def zgL:Nat:=34
def zdz:Nat:=35
def zjv:Nat:=36
def zc8:Nat:=37
def zgH:Nat:=40
def zh1:Nat:=42
def zb3:Nat:=43
def zh0:Nat:=44
def zgM:Nat:=45
def zdT:Nat:=46
def zfP:Nat:=55
def zeI:Nat:=56
def zfS:Nat:=57
def zU:Nat:=58
def zhd:Nat:=60
def zbg:Nat:=61
def zdm:Nat:=62
def zlH:Nat:=63
def zaH:Nat:=64
def zhc:Nat:=65
def zeK:Nat:=66
def zlI:Nat:=67
def zbJ:Nat:=69
def zg8:Nat:=73
def zhW:Nat:=74
def zee:Nat:=75
def za9:Nat:=76
def zcN:Nat:=77
def zbv:Nat:=78
def zh2:Nat:=88
def zfw:Nat:=89
def zj9:Nat:=90
def zju:Nat:=91
def zgG:Nat:=92
def zjs:Nat:=93
def zbq:Nat:=96
def zcD:Nat:=97
def zbw:Nat:=98
def zka:Nat:=99
def zdl:Nat:=101
def zdg:Nat:=107
def zfT:Nat:=108
def zef:Nat:=109
def zgK:Nat:=110
def zg9:Nat:=111
def zhV:Nat:=112
def zgJ:Nat:=113
def zgI:Nat:=114
def zfQ:Nat:=115
def zeS:Nat:=116
def zfR:Nat:=117
def zeg:Nat:=124
def zh3:Nat:=125
def zhX:Nat:=126
def ze1:Nat:=127
def zeJ:Nat:=128
def zbM:Nat:=133
def zfV:Nat:=144
def zfU:Nat:=147
def zcM:Nat:=148
def zj:Nat:=149
def zdy:Nat:=150
def zdW:Nat:=151
def zc0:Nat:=152
def zce:Nat:=153
def zkc:Nat:=154
def zbC:Nat:=155
def zkb:Nat:=156
def zhY:Nat:=157
def zb2:Nat:=158
def zfH:Nat:=179
def zhZ:Nat:=180
def znn:CFn:=⟨23,[.tmp 4,.tmp 5],(q [(.reg [o 2 (.box 3 (t 0)),o 4 (.mv (c (u 0))),o 5 (.mv (c (n 0)))]),
 (.reg [o 9 (la 3 2),o 10 (m 1),o 11 (.call 28 [(t 9),(t 10)]),o 8 (m 11),o 12 (e 8 0),o 13 (e 8 1),o 6 (m 12),o 7 (m 13)]),
 (q [(.reg [o 14 (m 7),o 15 (bc .neq 14 (n 0))]),
 (i 15 (q [(.reg [o 16 (m 7),o 4 (.mv (c (u 0))),o 5 (m 16)]),
 .ret]) .skip)]),
 (.reg [o 17 (m 6),o 18 (m 6),o 19 (ln 18),o 20 (bc .sub 19 (n 1)),o 21 (ia 1 17 20),o 22 (l 21),o 4 (m 22),o 5 (.mv (c (n 0)))]),
 .ret])⟩
def znr:CFn:=⟨5,[.tmp 2],(q [(.reg [o 2 (.mv (c (n 0)))]),
 (.reg [o 3 (m 0),o 4 (.call 29 [(t 3),(c (.fn zdX []))]),o 2 (m 4)]),
 .ret])⟩
def zjX:CFn:=⟨49,[.tmp 2],(q [(.reg [o 1 (.box 4 (t 0)),o 2 (.mv (c .bf))]),
 (q [(.reg [o 5 (f 1 1),o 6 (l 5),o 7 (ln 6),o 8 (bc .gtr 7 (n 20)),o 9 (m 8),g 10 9 false (f 2 1),g 11 9 false (l 10),g 12 9 false (ln 11),g 13 9 false (bc .gtr 12 (n 8)),o 14 (pt 9 13),o 15 (m 14),g 16 15 false (f 3 1),g 17 15 false (l 16),g 18 15 false (ln 17),g 19 15 false (bc .gtr 18 (n 8)),o 20 (pt 15 19)]),
 (i 20 (q [(.reg [o 2 (.mv (c .bf))]),
 .ret]) .skip)]),
 (q [(.reg [o 3 (.mv (c (n 0)))]),
 (.block 0 (.loop (q [(q [(.reg [o 21 (m 3),o 22 (f 2 1),o 23 (l 22),o 24 (ln 23),o 25 (b .lss 21 24)]),
 (i 25 .skip (.exit 0))]),
 (.block 1 (q [(.reg [o 28 (f 2 1),o 29 (l 28),o 30 (m 3),o 31 (ia 1 29 30),o 32 (l 31),o 33 (ln 32),o 34 (bc .gtr 33 (n 20))]),
 (i 34 (q [(.reg [o 2 (.mv (c .bf))]),
 .ret]) .skip)])),
 (.reg [o 26 (m 3),o 27 (bc .add 26 (n 1)),o 3 (m 27)])])))]),
 (q [(.reg [o 4 (.mv (c (n 0)))]),
 (.block 2 (.loop (q [(q [(.reg [o 35 (m 4),o 36 (f 3 1),o 37 (l 36),o 38 (ln 37),o 39 (b .lss 35 38)]),
 (i 39 .skip (.exit 2))]),
 (.block 3 (q [(.reg [o 42 (f 3 1),o 43 (l 42),o 44 (m 4),o 45 (ia 1 43 44),o 46 (l 45),o 47 (ln 46),o 48 (bc .gtr 47 (n 20))]),
 (i 48 (q [(.reg [o 2 (.mv (c .bf))]),
 .ret]) .skip)])),
 (.reg [o 40 (m 4),o 41 (bc .add 40 (n 1)),o 4 (m 41)])])))]),
 (.reg [o 2 (.mv (c .bt))]),
 .ret])⟩
def zqn:CFn:=⟨123,[.tmp 2],(q [(.reg [o 1 (.box 4 (t 0)),o 2 (.mv (c (n 0)))]),
 (q [(.reg [o 14 (f 0 1),o 15 (l 14),o 16 (f 2 1),o 17 (l 16),o 18 (ln 17),o 19 (f 1 1),o 20 (l 19),o 21 (.call 36 [(t 15),(t 18),(t 20)]),o 3 (m 21)]),
 (.reg [o 22 (m 3),o 23 (bc .neq 22 (n 0))]),
 (i 23 (q [(.reg [o 24 (m 3),o 2 (m 24)]),
 .ret]) .skip)]),
 (q [(.reg [o 25 (f 3 1),o 26 (l 25),o 27 (ln 26),o 28 (f 2 1),o 29 (l 28),o 30 (ln 29),o 31 (b .neq 27 30)]),
 (i 31 (q [(.reg [o 2 (.mv (c (n 3)))]),
 .ret]) .skip)]),
 (q [(.reg [o 32 (f 2 1),o 33 (l 32),o 34 (ln 33),o 35 (.mv (c (n 0)))]),
 (.block 0 (.loop (q [(.reg [o 36 (b .lss 35 34)]),
 (i 36 .skip (.exit 0)),
 (.block 1 (q [(.reg [o 37 (m 35),o 4 (m 37)]),
 (.regd [o 38 (f 2 1),o 39 (l 38),o 40 (m 4),o 41 (ia 1 39 40),o 42 (l 41),o 43 (ln 42),o 44 (f 0 1),o 45 (l 44),o 46 (b .neq 43 45),o 47 (m 46),g 48 47 false (f 3 1),g 49 47 false (l 48),g 50 47 false (m 4),g 51 47 false (ia 1 49 50),g 52 47 false (l 51),g 53 47 false (ln 52),g 54 47 false (f 0 1),g 55 47 false (l 54),g 56 47 false (b .neq 53 55),o 57 (pt 47 56)] [0,1,0,7,15,31,0,64,255,511,1023,2047,1023,8191,16383,32767,1023,66559,262143,524287]),
 (i 57 (q [(.reg [o 2 (.mv (c (n 3)))]),
 .ret]) .skip)])),
 (.reg [o 58 (bc .add 35 (n 1)),o 35 (m 58)])])))]),
 (q [(.reg [o 59 (f 2 1),o 60 (l 59),o 61 (ln 60),o 62 (.mv (c (n 0)))]),
 (.block 2 (.loop (q [(.reg [o 63 (b .lss 62 61)]),
 (i 63 .skip (.exit 2)),
 (.block 3 (q [(.reg [o 64 (ia 1 60 62),o 65 (l 64),o 6 (m 65)]),
 (.reg [o 66 (m 6),o 67 (ln 66),o 68 (.mv (c (n 0)))]),
 (.block 4 (.loop (q [(.reg [o 69 (b .lss 68 67)]),
 (i 69 .skip (.exit 4)),
 (.block 5 (q [(.reg [o 70 (m 68),o 71 (ia 1 66 68),o 72 (l 71),o 7 (m 70),o 8 (m 72)]),
 (.reg [o 73 (m 8),o 74 (bc .lss 73 (n 0)),o 75 (m 74),g 76 75 false (m 8),g 77 75 false (m 7),g 78 75 false (b .gtr 76 77),o 79 (pt 75 78),o 80 (m 79),g 81 80 false (m 6),g 82 80 false (m 8),g 83 80 false (ia 1 81 82),g 84 80 false (l 83),g 85 80 false (m 8),g 86 80 false (b .neq 84 85),o 87 (pt 80 86)]),
 (i 87 (q [(.reg [o 2 (.mv (c (n 1)))]),
 .ret]) .skip)])),
 (.reg [o 88 (bc .add 68 (n 1)),o 68 (m 88)])])))])),
 (.reg [o 89 (bc .add 62 (n 1)),o 62 (m 89)])])))]),
 (q [(.reg [o 90 (f 2 1),o 91 (l 90),o 92 (ln 91),o 93 (.mv (c (n 0)))]),
 (.block 6 (.loop (q [(.reg [o 94 (b .lss 93 92)]),
 (i 94 .skip (.exit 6)),
 (.block 7 (q [(.reg [o 95 (m 93),o 96 (ia 1 91 93),o 97 (l 96),o 9 (m 95),o 10 (m 97)]),
 (.reg [o 98 (m 10),o 99 (f 3 1),o 100 (l 99),o 101 (m 9),o 102 (ia 1 100 101),o 103 (l 102),o 104 (.call 37 [(t 98),(t 103)]),o 105 (.range (t 104))]),
 (.block 8 (.loop (q [(.reg [o 106 (.next (t 105)),o 107 (e 106 0)]),
 (i 107 .skip (.exit 8)),
 (.block 9 (q [(.reg [o 108 (.entry (t 105)),o 109 (e 108 1),o 12 (m 109)]),
 (.reg [o 110 (m 12),o 111 (ln 110),o 112 (.mv (c (n 0)))]),
 (.block 10 (.loop (q [(.reg [o 113 (b .lss 112 111)]),
 (i 113 .skip (.exit 10)),
 (.block 11 (q [(.reg [o 114 (m 112),o 13 (m 114)]),
 (.reg [o 115 (m 12),o 116 (m 13),o 117 (ia 1 115 116),o 118 (l 117),o 119 (m 13),o 120 (b .neq 118 119)]),
 (i 120 (q [(.reg [o 2 (.mv (c (n 9)))]),
 .ret]) .skip)])),
 (.reg [o 121 (bc .add 112 (n 1)),o 112 (m 121)])])))]))])))])),
 (.reg [o 122 (bc .add 93 (n 1)),o 93 (m 122)])])))]),
 (.reg [o 2 (.mv (c (n 0)))]),
 .ret])⟩
def zlq:CFn:=⟨9,[.cell 2 (some 3),.tmp 3],(q [(.reg [o 1 (.box 4 (t 0)),o 2 (.alloc [(n 0),(.nils 1),(.nils 1)]),o 3 (.mv (c (n 0)))]),
 (.reg [o 4 (la 4 1),o 5 (.fnew zb3 [(t 1)]),o 6 (.call 42 [(t 4),(t 5)]),o 7 (e 6 0),o 8 (e 6 1),w (.store 3 (t 2) (t 7)),o 3 (m 8)]),
 .ret])⟩
def zlg:CFn:=⟨28,[.cell 4 (some 3),.tmp 5,.tmp 6],(q [(.reg [o 2 (.box 3 (t 0)),o 4 (.alloc [(n 0),(.nils 1),(.nils 1)]),o 5 (.mv (c (.nils 1))),o 6 (.mv (c (n 0)))]),
 (.reg [o 10 (la 3 2),o 11 (m 1),o 12 (.call 8 [(t 10),(t 11)]),o 9 (m 12),o 13 (e 9 0),o 14 (e 9 1),o 7 (m 13),o 8 (m 14)]),
 (q [(.reg [o 15 (m 8),o 16 (bc .neq 15 (n 0))]),
 (i 16 (q [(.reg [o 17 (.build [(n 0),(.nils 1),(.nils 1)] []),o 18 (m 8),w (.store 3 (t 4) (t 17)),o 5 (.mv (c (.nils 1))),o 6 (m 18)]),
 .ret]) .skip)]),
 (q [(.reg [o 19 (m 7),o 20 (bc .eql 19 (u 0))]),
 (i 20 (q [(.reg [o 21 (.build [(n 0),(.nils 1),(.nils 1)] []),w (.store 3 (t 4) (t 21)),o 5 (.mv (c (.nils 1))),o 6 (.mv (c (n 11)))]),
 .ret]) .skip)]),
 (.reg [o 22 (la 3 2),o 23 (m 7),o 24 (.call 34 [(t 22),(t 23)]),o 25 (e 24 0),o 26 (e 24 1),o 27 (e 24 2),w (.store 3 (t 4) (t 25)),o 5 (m 26),o 6 (m 27)]),
 .ret])⟩
def zoN:CFn:=⟨28,[.cell 4 (some 4),.tmp 5,.tmp 6],(q [(.reg [o 2 (.box 4 (t 0)),o 4 (.alloc [(n 0),(.nils 1),(.nils 1),(.nils 1)]),o 5 (.mv (c (.nils 1))),o 6 (.mv (c (n 0)))]),
 (.reg [o 10 (la 4 2),o 11 (m 1),o 12 (.call 40 [(t 10),(t 11)]),o 9 (m 12),o 13 (e 9 0),o 14 (e 9 1),o 7 (m 13),o 8 (m 14)]),
 (q [(.reg [o 15 (m 8),o 16 (bc .neq 15 (n 0))]),
 (i 16 (q [(.reg [o 17 (.build [(n 0),(.nils 1),(.nils 1),(.nils 1)] []),o 18 (m 8),w (.store 4 (t 4) (t 17)),o 5 (.mv (c (.nils 1))),o 6 (m 18)]),
 .ret]) .skip)]),
 (q [(.reg [o 19 (m 7),o 20 (bc .eql 19 (u 0))]),
 (i 20 (q [(.reg [o 21 (.build [(n 0),(.nils 1),(.nils 1),(.nils 1)] []),w (.store 4 (t 4) (t 21)),o 5 (.mv (c (.nils 1))),o 6 (.mv (c (n 11)))]),
 .ret]) .skip)]),
 (.reg [o 22 (la 4 2),o 23 (m 7),o 24 (.call 45 [(t 22),(t 23)]),o 25 (e 24 0),o 26 (e 24 1),o 27 (e 24 2),w (.store 4 (t 4) (t 25)),o 5 (m 26),o 6 (m 27)]),
 .ret])⟩
def zjF:CFn:=⟨47,[.tmp 4],(q [(.reg [o 2 (.box 3 (t 0)),o 3 (.box 3 (t 1)),o 4 (.mv (c .bf))]),
 (q [(.reg [o 6 (f 0 2),o 7 (l 6),o 8 (f 0 3),o 9 (l 8),o 10 (b .neq 7 9),o 11 (m 10),g 12 11 false (f 1 2),g 13 11 false (l 12),g 14 11 false (f 1 3),g 15 11 false (l 14),g 16 11 false (.call 46 [(t 13),(t 15)]),g 17 11 false (.un .not (t 16)),o 18 (pt 11 17),o 19 (m 18),g 20 19 false (f 2 2),g 21 19 false (l 20),g 22 19 false (ln 21),g 23 19 false (f 2 3),g 24 19 false (l 23),g 25 19 false (ln 24),g 26 19 false (b .neq 22 25),o 27 (pt 19 26)]),
 (i 27 (q [(.reg [o 4 (.mv (c .bf))]),
 .ret]) .skip)]),
 (q [(.reg [o 5 (.mv (c (n 0)))]),
 (.block 0 (.loop (q [(q [(.reg [o 28 (m 5),o 29 (f 2 2),o 30 (l 29),o 31 (ln 30),o 32 (b .lss 28 31)]),
 (i 32 .skip (.exit 0))]),
 (.block 1 (q [(.regd [o 35 (f 2 2),o 36 (l 35),o 37 (m 5),o 38 (ia 1 36 37),o 39 (l 38),o 40 (f 2 3),o 41 (l 40),o 42 (m 5),o 43 (ia 1 41 42),o 44 (l 43),o 45 (.call 46 [(t 39),(t 44)]),o 46 (.un .not (t 45))] [0,1,0,7,15,0,32,0,224,480,1023,2047]),
 (i 46 (q [(.reg [o 4 (.mv (c .bf))]),
 .ret]) .skip)])),
 (.reg [o 33 (m 5),o 34 (bc .add 33 (n 1)),o 5 (m 34)])])))]),
 (.reg [o 4 (.mv (c .bt))]),
 .ret])⟩
def zoB:CFn:=⟨85,[.tmp 4,.tmp 5],(q [(.reg [o 2 (.box 3 (t 0)),o 4 (.mv (c (.nils 1))),o 5 (.mv (c (n 0)))]),
 (q [(.reg [o 12 (la 3 2),o 13 (m 1),o 14 (.call 55 [(t 12),(t 13)]),o 6 (m 14)]),
 (.reg [o 15 (m 6),o 16 (bc .neq 15 (n 0))]),
 (i 16 (q [(.reg [o 17 (m 6),o 4 (.mv (c (.nils 1))),o 5 (m 17)]),
 .ret]) .skip)]),
 (.reg [o 18 (m 1),o 19 (ln 18),o 20 (.mkslice 1 8 [(u 0)] (t 19) (t 19)),o 7 (m 20)]),
 (.reg [o 21 (m 1),o 22 (ln 21),o 23 (.mkslice 1 1 [.bf] (t 22) (t 22)),o 8 (m 23)]),
 (q [(.reg [o 24 (m 1),o 25 (ln 24),o 26 (.mv (c (n 0)))]),
 (.block 0 (.loop (q [(.reg [o 27 (b .lss 26 25)]),
 (i 27 .skip (.exit 0)),
 (.block 1 (q [(.reg [o 28 (m 26),o 29 (ia 6 24 26),o 30 (la 6 29),o 10 (.alloc [(n 0),(n 0),(n 0),(n 0),(n 0),(n 0)]),o 9 (m 28),w (.store 6 (t 10) (t 30))]),
 (.reg [o 11 (.mv (c .bt))]),
 (q [(.reg [o 31 (f 0 10),o 32 (l 31),o 33 (bc .geq 32 (n 4))]),
 (i 33 (.reg [o 34 (m 8),o 35 (f 4 10),o 36 (l 35),o 37 (ia 1 34 36),o 38 (l 37),o 11 (m 38)]) .skip)]),
 (q [(.reg [o 39 (f 0 10),o 40 (l 39),o 41 (bc .geq 40 (n 5)),o 42 (m 41),g 43 42 true (f 0 10),g 44 42 true (l 43),g 45 42 true (bc .leq 44 (n 8)),o 46 (pf 42 45),o 47 (m 46),g 48 47 false (f 0 10),g 49 47 false (l 48),g 50 47 false (bc .eql 49 (n 13)),o 51 (pt 47 50)]),
 (i 51 (.reg [o 52 (m 11),o 53 (m 52),g 54 53 true (m 8),g 55 53 true (f 5 10),g 56 53 true (l 55),g 57 53 true (ia 1 54 56),g 58 53 true (l 57),o 59 (pf 53 58),o 11 (m 59)]) .skip)]),
 (.reg [o 60 (m 11)]),
 (i 60 (.regd [o 62 (m 7),o 63 (m 9),o 64 (m 8),o 65 (m 9),o 66 (la 3 2),o 67 (la 6 10),o 68 (m 7),o 69 (f 4 10),o 70 (l 69),o 71 (ia 1 68 70),o 72 (l 71),o 73 (m 7),o 74 (f 5 10),o 75 (l 74),o 76 (ia 1 73 75),o 77 (l 76),o 78 (.call 56 [(t 66),(t 67),(t 72),(t 77)]),o 61 (m 78),o 79 (e 61 0),o 80 (e 61 1),o 81 (ia 1 62 63),w (.store 1 (t 81) (t 79)),o 82 (ia 1 64 65),w (.store 1 (t 82) (t 80))] [0,0,0,0,0,0,0,0,128,448,960,0,0,4096,14336,30720,65520,131056,262128,262128,524275,1572851,4194303,8388607]) .skip)])),
 (.reg [o 83 (bc .add 26 (n 1)),o 26 (m 83)])])))]),
 (.reg [o 84 (m 7),o 4 (m 84),o 5 (.mv (c (n 0)))]),
 .ret])⟩
def zns:CFn:=⟨31,[.tmp 4],(q [(.reg [o 4 (.mv (c (n 0)))]),
 (.reg [o 5 (.mv (c (n 0)))]),
 (q [(.reg [o 10 (m 0),o 11 (.call 57 [(t 10)]),o 12 (ln 11),o 13 (.mv (c (n 0)))]),
 (.block 0 (.loop (q [(.reg [o 14 (b .lss 13 12)]),
 (i 14 .skip (.exit 0)),
 (.block 1 (q [(.reg [o 15 (ia 6 11 13),o 16 (la 6 15),o 7 (.alloc [(n 0),(n 0),(n 0),(n 0),(n 0),(n 0)]),w (.store 6 (t 7) (t 16))]),
 (.reg [o 18 (f 0 7),o 19 (l 18),o 20 (.call 58 [(t 19)]),o 17 (m 20),o 21 (e 17 0),o 22 (e 17 1),o 8 (.alloc [.bf,.bf,.bf,.bf,.bf,.bf,(n 0)]),w (.store 7 (t 8) (t 21)),o 9 (m 22)]),
 (.reg [o 23 (m 5),o 24 (m 1),o 25 (la 6 7),o 26 (la 7 8),o 27 (.callv (t 24) [(t 25),(t 26)]),o 28 (b .or 23 27),o 5 (m 28)])])),
 (.reg [o 29 (bc .add 13 (n 1)),o 13 (m 29)])])))]),
 (.reg [o 30 (m 5),o 4 (m 30)]),
 .ret])⟩
def zlm:CFn:=⟨7,[.tmp 4],(q [(.reg [o 2 (.box 6 (t 0)),o 3 (.box 7 (t 1)),o 4 (.mv (c (n 0)))]),
 (.reg [o 5 (f 6 3),o 6 (l 5),o 4 (m 6)]),
 .ret])⟩
def zql:CFn:=⟨47,[.tmp 2],(q [(.reg [o 1 (.box 3 (t 0)),o 2 (.mv (c (n 0)))]),
 (q [(.reg [o 5 (f 0 1),o 6 (l 5),o 7 (bc .lss 6 (n 1)),o 8 (m 7),g 9 8 false (f 0 1),g 10 8 false (l 9),g 11 8 false (bc .gtr 10 (n 64)),o 12 (pt 8 11)]),
 (i 12 (q [(.reg [o 2 (.mv (c (n 2)))]),
 .ret]) .skip)]),
 (q [(.reg [o 13 (f 2 1),o 14 (l 13),o 15 (ln 14),o 16 (bc .gtr 15 (n 4)),o 17 (m 16),g 18 17 false (f 1 1),g 19 17 false (l 18),g 20 17 false (ln 19),g 21 17 false (bc .gtr 20 (n 8)),o 22 (pt 17 21)]),
 (i 22 (q [(.reg [o 2 (.mv (c (n 8)))]),
 .ret]) .skip)]),
 (q [(.reg [o 23 (f 2 1),o 24 (l 23),o 25 (ln 24),o 26 (.mv (c (n 0)))]),
 (.block 0 (.loop (q [(.reg [o 27 (b .lss 26 25)]),
 (i 27 .skip (.exit 0)),
 (.block 1 (q [(.reg [o 28 (ia 1 24 26),o 29 (l 28),o 4 (m 29)]),
 (.reg [o 30 (m 4),o 31 (ln 30),o 32 (f 0 1),o 33 (l 32),o 34 (b .neq 31 33)]),
 (i 34 (q [(.reg [o 2 (.mv (c (n 3)))]),
 .ret]) .skip)])),
 (.reg [o 35 (bc .add 26 (n 1)),o 26 (m 35)])])))]),
 (q [(.reg [o 36 (f 1 1),o 37 (l 36),o 38 (f 0 1),o 39 (l 38),o 40 (.call 60 [(t 37),(t 39)]),o 41 (m 40),g 42 41 false (f 2 1),g 43 41 false (l 42),g 44 41 false (.fnew zdm [(t 1)]),g 45 41 false (.call 61 [(t 43),(t 44)]),o 46 (pt 41 45)]),
 (i 46 (q [(.reg [o 2 (.mv (c (n 2)))]),
 .ret]) .skip)]),
 (.reg [o 2 (.mv (c (n 0)))]),
 .ret])⟩
def zmn:CFn:=⟨31,[.cell 4 (some 3),.tmp 5,.tmp 6],(q [(.reg [o 2 (.box 3 (t 0)),o 4 (.alloc [(n 0),(.nils 1),(.nils 1)]),o 5 (.mv (c (.nils 1))),o 6 (.mv (c (n 0)))]),
 (q [(.reg [o 9 (la 3 2),o 10 (.call 32 [(t 9)]),o 7 (m 10)]),
 (.reg [o 11 (m 7),o 12 (bc .neq 11 (n 0))]),
 (i 12 (q [(.reg [o 13 (.build [(n 0),(.nils 1),(.nils 1)] []),o 14 (m 7),w (.store 3 (t 4) (t 13)),o 5 (.mv (c (.nils 1))),o 6 (m 14)]),
 .ret]) .skip)]),
 (q [(.reg [o 15 (m 1),o 16 (f 0 2),o 17 (l 16),o 18 (.call 63 [(t 17)]),o 19 (b .andNot 15 18),o 20 (bc .neq 19 (u 0))]),
 (i 20 (q [(.reg [o 21 (.build [(n 0),(.nils 1),(.nils 1)] []),w (.store 3 (t 4) (t 21)),o 5 (.mv (c (.nils 1))),o 6 (.mv (c (n 2)))]),
 .ret]) .skip)]),
 (q [(.reg [o 22 (m 1),o 23 (bc .eql 22 (u 0))]),
 (i 23 (q [(.reg [o 24 (.build [(n 0),(.nils 1),(.nils 1)] []),w (.store 3 (t 4) (t 24)),o 5 (.mv (c (.nils 1))),o 6 (.mv (c (n 6)))]),
 .ret]) .skip)]),
 (.reg [o 25 (m 1),o 26 (.call 65 [(t 25)]),o 8 (m 26)]),
 (.reg [o 27 (la 3 2),o 28 (m 8),o 29 (.call 66 [(t 27),(t 28)]),o 30 (m 8),w (.store 3 (t 4) (t 29)),o 5 (m 30),o 6 (.mv (c (n 0)))]),
 .ret])⟩
def zgz:CFn:=⟨19,[.tmp 4],(q [(.reg [o 4 (.mv (c (n 0)))]),
 (q [(.reg [o 6 (m 0),o 7 (ln 6),o 8 (.mv (c (n 0)))]),
 (.block 0 (.loop (q [(.reg [o 9 (b .lss 8 7)]),
 (i 9 .skip (.exit 0)),
 (.block 1 (q [(.reg [o 10 (m 8),o 5 (m 10)]),
 (.reg [o 11 (m 1),o 12 (m 0),o 13 (m 5),o 14 (ia 1 12 13),o 15 (l 14),o 16 (b .eql 11 15)]),
 (i 16 (q [(.reg [o 17 (m 5),o 4 (m 17)]),
 .ret]) .skip)])),
 (.reg [o 18 (bc .add 8 (n 1)),o 8 (m 18)])])))]),
 (.reg [o 4 (.mv (c (n (-1))))]),
 .ret])⟩
def zqp:CFn:=⟨34,[.tmp 6],(q [(.reg [o 6 (.mv (c (n 0)))]),
 (q [(.reg [o 9 (m 0),o 10 (bc .lss 9 (n 1)),o 11 (m 10),g 12 11 false (m 0),g 13 11 false (bc .gtr 12 (n 64)),o 14 (pt 11 13)]),
 (i 14 (q [(.reg [o 6 (.mv (c (n 2)))]),
 .ret]) .skip)]),
 (q [(.reg [o 15 (m 2),o 16 (ln 15),o 17 (bc .gtr 16 (n 8)),o 18 (m 17),g 19 18 false (m 1),g 20 18 false (bc .gtr 19 (n 4)),o 21 (pt 18 20)]),
 (i 21 (q [(.reg [o 6 (.mv (c (n 8)))]),
 .ret]) .skip)]),
 (q [(.reg [o 22 (m 2),o 23 (ln 22),o 24 (.mv (c (n 0)))]),
 (.block 0 (.loop (q [(.reg [o 25 (b .lss 24 23)]),
 (i 25 .skip (.exit 0)),
 (.block 1 (q [(.reg [o 26 (ia 1 22 24),o 27 (l 26),o 8 (m 27)]),
 (.reg [o 28 (m 8),o 29 (m 0),o 30 (.call 67 [(t 29)]),o 31 (b .andNot 28 30),o 32 (bc .neq 31 (u 0))]),
 (i 32 (q [(.reg [o 6 (.mv (c (n 3)))]),
 .ret]) .skip)])),
 (.reg [o 33 (bc .add 24 (n 1)),o 24 (m 33)])])))]),
 (.reg [o 6 (.mv (c (n 0)))]),
 .ret])⟩
def zmg:CFn:=⟨71,[.tmp 4,.tmp 5],(q [(.reg [o 2 (.box 4 (t 0)),o 4 (.mv (c (u 0))),o 5 (.mv (c (n 0)))]),
 (q [(.reg [o 13 (la 4 2),o 14 (.call 13 [(t 13)]),o 6 (m 14)]),
 (.reg [o 15 (m 6),o 16 (bc .neq 15 (n 0))]),
 (i 16 (q [(.reg [o 17 (m 6),o 4 (.mv (c (u 0))),o 5 (m 17)]),
 .ret]) .skip)]),
 (q [(.reg [o 18 (m 1),o 19 (.call 73 [(t 18)]),o 7 (m 19)]),
 (.reg [o 20 (m 7),o 21 (bc .neq 20 (n 0))]),
 (i 21 (q [(.reg [o 22 (m 7),o 4 (.mv (c (u 0))),o 5 (m 22)]),
 .ret]) .skip)]),
 (q [(.reg [o 23 (m 1),o 24 (.call 9 [(t 23)]),o 25 (bc .andNot 24 (n 59)),o 26 (bc .neq 25 (n 0))]),
 (i 26 (q [(.reg [o 4 (.mv (c (u 0))),o 5 (.mv (c (n 10)))]),
 .ret]) .skip)]),
 (q [(.reg [o 27 (m 1),o 28 (f 2 2),o 29 (l 28),o 30 (ln 29),o 31 (f 1 2),o 32 (l 31),o 33 (ln 32),o 34 (.call 74 [(t 27),(t 30),(t 33)]),o 35 (.un .not (t 34))]),
 (i 35 (q [(.reg [o 4 (.mv (c (u 0))),o 5 (.mv (c (n 2)))]),
 .ret]) .skip)]),
 (.reg [o 8 (.mv (c (.nils 1)))]),
 (q [(.reg [o 36 (m 1),o 37 (.call 57 [(t 36)]),o 38 (ln 37),o 39 (.mv (c (n 0)))]),
 (.block 0 (.loop (q [(.reg [o 40 (b .lss 39 38)]),
 (i 40 .skip (.exit 0)),
 (.block 1 (q [(.reg [o 41 (ia 6 37 39),o 42 (la 6 41),o 10 (.alloc [(n 0),(n 0),(n 0),(n 0),(n 0),(n 0)]),w (.store 6 (t 10) (t 42))]),
 (.reg [o 11 (.mv (c (u 0))),o 12 (.mv (c (u 0)))]),
 (q [(.reg [o 43 (m 8),o 44 (ln 43),o 45 (bc .gtr 44 (n 0))]),
 (i 45 (.regd [o 46 (m 8),o 47 (f 4 10),o 48 (l 47),o 49 (ia 1 46 48),o 50 (l 49),o 51 (m 8),o 52 (f 5 10),o 53 (l 52),o 54 (ia 1 51 53),o 55 (l 54),o 11 (m 50),o 12 (m 55)] [0,0,2,7,15,0,0,64,224,480,31,2047]) .skip)]),
 (.reg [o 56 (m 8),o 57 (la 4 2),o 58 (la 6 10),o 59 (m 11),o 60 (m 12),o 61 (.call 75 [(t 57),(t 58),(t 59),(t 60)]),o 62 (.bslice 1 1 [(u 0)] [(0,(t 61))]),o 63 (.app 1 8 (t 56) (t 62)),o 8 (m 63)])])),
 (.reg [o 64 (bc .add 39 (n 1)),o 39 (m 64)])])))]),
 (.reg [o 65 (m 8),o 66 (m 8),o 67 (ln 66),o 68 (bc .sub 67 (n 1)),o 69 (ia 1 65 68),o 70 (l 69),o 4 (m 70),o 5 (.mv (c (n 0)))]),
 .ret])⟩
def zoK:CFn:=⟨53,[.cell 4 (some 3),.tmp 5],(q [(.reg [o 2 (.box 4 (t 0)),o 4 (.alloc [(n 0),(.nils 1),(.nils 1)]),o 5 (.mv (c (n 0)))]),
 (q [(.reg [o 11 (la 4 2),o 12 (.call 13 [(t 11)]),o 6 (m 12)]),
 (.reg [o 13 (m 6),o 14 (bc .neq 13 (n 0))]),
 (i 14 (q [(.reg [o 15 (.build [(n 0),(.nils 1),(.nils 1)] []),o 16 (m 6),w (.store 3 (t 4) (t 15)),o 5 (m 16)]),
 .ret]) .skip)]),
 (.regd [o 17 (f 0 2),o 18 (l 17),o 19 (f 1 2),o 20 (l 19),o 21 (.call 76 [(t 20)]),o 22 (.build [(n 0),(.nils 1),(.nils 1)] [(0,1,(t 18)),(1,1,(t 21))]),o 7 (.alloc [(n 0),(.nils 1),(.nils 1)]),w (.store 3 (t 7) (t 22))] [0,1,0,4,12,31,0,127]),
 (q [(.reg [o 23 (f 2 2),o 24 (l 23),o 25 (ln 24),o 26 (.mv (c (n 0)))]),
 (.block 0 (.loop (q [(.reg [o 27 (b .lss 26 25)]),
 (i 27 .skip (.exit 0)),
 (.block 1 (q [(.reg [o 28 (m 26),o 8 (m 28)]),
 (.reg [o 29 (f 0 2),o 30 (l 29),o 31 (.mkslice 1 8 [(u 0)] (t 30) (t 30)),o 9 (m 31)]),
 (q [(.reg [o 32 (m 9),o 33 (ln 32),o 34 (.mv (c (n 0)))]),
 (.block 2 (.loop (q [(.reg [o 35 (b .lss 34 33)]),
 (i 35 .skip (.exit 2)),
 (.block 3 (q [(.reg [o 36 (m 34),o 10 (m 36)]),
 (.reg [o 37 (m 9),o 38 (m 10),o 39 (m 1),o 40 (m 8),o 41 (m 10),o 42 (.callv (t 39) [(t 40),(t 41)]),o 43 (ia 1 37 38),w (.store 1 (t 43) (t 42))])])),
 (.reg [o 44 (bc .add 34 (n 1)),o 34 (m 44)])])))]),
 (.reg [o 45 (f 2 7),o 46 (l 45),o 47 (m 9),o 48 (.bslice 1 1 [(.nils 1)] [(0,(t 47))]),o 49 (.app 1 24 (t 46) (t 48)),o 50 (f 2 7),w (.store 1 (t 50) (t 49))])])),
 (.reg [o 51 (bc .add 26 (n 1)),o 26 (m 51)])])))]),
 (.reg [o 52 (la 3 7),w (.store 3 (t 4) (t 52)),o 5 (.mv (c (n 0)))]),
 .ret])⟩
def zjE:CFn:=⟨10,[.tmp 5],(q [(.reg [o 5 (.mv (c (u 0)))]),
 (.reg [o 6 (la 4 2),o 7 (m 0),o 8 (m 1),o 9 (.call 44 [(t 6),(t 7),(t 8)]),o 5 (m 9)]),
 .ret])⟩
def zoJ:CFn:=⟨37,[.tmp 6],(q [(.reg [o 3 (.box 4 (t 0)),o 6 (.mv (c (u 0)))]),
 (.reg [o 7 (.mv (c (u 0)))]),
 (q [(.reg [o 10 (f 2 3),o 11 (l 10),o 12 (m 1),o 13 (ia 1 11 12),o 14 (l 13),o 15 (ln 14),o 16 (.mv (c (n 0)))]),
 (.block 0 (.loop (q [(.reg [o 17 (b .lss 16 15)]),
 (i 17 .skip (.exit 0)),
 (.block 1 (q [(.reg [o 18 (m 16),o 19 (ia 1 14 16),o 20 (l 19),o 8 (m 18),o 9 (m 20)]),
 (.reg [o 21 (m 9),o 22 (f 2 3),o 23 (l 22),o 24 (m 1),o 25 (ia 1 23 24),o 26 (l 25),o 27 (m 2),o 28 (ia 1 26 27),o 29 (l 28),o 30 (b .eql 21 29)]),
 (i 30 (.reg [o 31 (m 7),o 32 (m 8),o 33 (.bin .shl (c (u 1)) (t 32)),o 34 (b .or 31 33),o 7 (m 34)]) .skip)])),
 (.reg [o 35 (bc .add 16 (n 1)),o 16 (m 35)])])))]),
 (.reg [o 36 (m 7),o 6 (m 36)]),
 .ret])⟩
def zmo:CFn:=⟨162,[.cell 4 (some 4),.tmp 5,.tmp 6],(q [(.reg [o 2 (.box 4 (t 0)),o 4 (.alloc [(n 0),(.nils 1),(.nils 1),(.nils 1)]),o 5 (.mv (c (.nils 1))),o 6 (.mv (c (n 0)))]),
 (q [(.reg [o 23 (la 4 2),o 24 (.call 13 [(t 23)]),o 7 (m 24)]),
 (.reg [o 25 (m 7),o 26 (bc .neq 25 (n 0))]),
 (i 26 (q [(.reg [o 27 (.build [(n 0),(.nils 1),(.nils 1),(.nils 1)] []),o 28 (m 7),w (.store 4 (t 4) (t 27)),o 5 (.mv (c (.nils 1))),o 6 (m 28)]),
 .ret]) .skip)]),
 (q [(.reg [o 29 (m 1),o 30 (f 0 2),o 31 (l 30),o 32 (.call 67 [(t 31)]),o 33 (b .andNot 29 32),o 34 (bc .neq 33 (u 0))]),
 (i 34 (q [(.reg [o 35 (.build [(n 0),(.nils 1),(.nils 1),(.nils 1)] []),w (.store 4 (t 4) (t 35)),o 5 (.mv (c (.nils 1))),o 6 (.mv (c (n 2)))]),
 .ret]) .skip)]),
 (q [(.reg [o 36 (m 1),o 37 (bc .eql 36 (u 0))]),
 (i 37 (q [(.reg [o 38 (.build [(n 0),(.nils 1),(.nils 1),(.nils 1)] []),w (.store 4 (t 4) (t 38)),o 5 (.mv (c (.nils 1))),o 6 (.mv (c (n 6)))]),
 .ret]) .skip)]),
 (.reg [o 8 (.mv (c (.nils 1)))]),
 (q [(.reg [o 39 (f 0 2),o 40 (l 39),o 41 (.mv (c (n 0)))]),
 (.block 0 (.loop (q [(.reg [o 42 (b .lss 41 40)]),
 (i 42 .skip (.exit 0)),
 (.block 1 (q [(.reg [o 43 (m 41),o 9 (m 43)]),
 (.reg [o 44 (m 1),o 45 (m 9),o 46 (b .shr 44 45),o 47 (bc .and 46 (u 1)),o 48 (bc .eql 47 (u 1))]),
 (i 48 (.reg [o 49 (m 8),o 50 (m 9),o 51 (.bslice 1 1 [(n 0)] [(0,(t 50))]),o 52 (.app 1 8 (t 49) (t 51)),o 8 (m 52)]) .skip)])),
 (.reg [o 53 (bc .add 41 (n 1)),o 41 (m 53)])])))]),
 (.reg [o 54 (m 8),o 55 (ln 54),o 56 (.build [(n 0),(.nils 1),(.nils 1),(.nils 1)] [(0,1,(t 55))]),o 10 (.alloc [(n 0),(.nils 1),(.nils 1),(.nils 1)]),w (.store 4 (t 10) (t 56))]),
 (q [(.reg [o 57 (f 1 2),o 58 (l 57),o 59 (ln 58),o 60 (.mv (c (n 0)))]),
 (.block 2 (.loop (q [(.reg [o 61 (b .lss 60 59)]),
 (i 61 .skip (.exit 2)),
 (.block 3 (q [(.reg [o 62 (ia 1 58 60),o 63 (l 62),o 12 (m 63)]),
 (.reg [o 13 (.mv (c (u 0)))]),
 (q [(.reg [o 64 (m 8),o 65 (ln 64),o 66 (.mv (c (n 0)))]),
 (.block 4 (.loop (q [(.reg [o 67 (b .lss 66 65)]),
 (i 67 .skip (.exit 4)),
 (.block 5 (q [(.reg [o 68 (m 66),o 69 (ia 1 64 66),o 70 (l 69),o 14 (m 68),o 15 (m 70)]),
 (.reg [o 71 (m 13),o 72 (m 12),o 73 (m 15),o 74 (b .shr 72 73),o 75 (bc .and 74 (u 1)),o 76 (m 14),o 77 (b .shl 75 76),o 78 (b .or 71 77),o 13 (m 78)])])),
 (.reg [o 79 (bc .add 66 (n 1)),o 66 (m 79)])])))]),
 (.reg [o 80 (f 1 10),o 81 (l 80),o 82 (m 13),o 83 (.bslice 1 1 [(u 0)] [(0,(t 82))]),o 84 (.app 1 8 (t 81) (t 83)),o 85 (f 1 10),w (.store 1 (t 85) (t 84))])])),
 (.reg [o 86 (bc .add 60 (n 1)),o 60 (m 86)])])))]),
 (q [(.reg [o 87 (f 2 2),o 88 (l 87),o 89 (ln 88),o 90 (.mv (c (n 0)))]),
 (.block 6 (.loop (q [(.reg [o 91 (b .lss 90 89)]),
 (i 91 .skip (.exit 6)),
 (.block 7 (q [(.reg [o 92 (m 90),o 16 (.alloc [(n 0)]),w (.store 1 (t 16) (t 92))]),
 (.regd [o 93 (m 8),o 94 (ln 93),o 95 (.mkslice 1 8 [(n 0)] (t 94) (t 94)),o 96 (m 8),o 97 (ln 96),o 98 (.mkslice 1 8 [(n 0)] (t 97) (t 97)),o 17 (m 95),o 18 (m 98)] [0,1,3,0,8,24,7,127]),
 (q [(.reg [o 99 (m 8),o 100 (ln 99),o 101 (.mv (c (n 0)))]),
 (.block 8 (.loop (q [(.reg [o 102 (b .lss 101 100)]),
 (i 102 .skip (.exit 8)),
 (.block 9 (q [(.reg [o 103 (m 101),o 104 (ia 1 99 101),o 105 (l 104),o 20 (.alloc [(n 0)]),o 19 (m 103),w (.store 1 (t 20) (t 105))]),
 (.reg [o 106 (m 17),o 107 (m 19),o 108 (m 8),o 109 (.fnew zbv [(t 2),(t 16),(t 20)]),o 110 (.call 77 [(t 108),(t 109)]),o 111 (ia 1 106 107),w (.store 1 (t 111) (t 110))]),
 (.regd [o 112 (m 18),o 113 (m 19),o 114 (f 3 2),o 115 (l 114),o 116 (l 16),o 117 (ia 1 115 116),o 118 (l 117),o 119 (l 20),o 120 (ia 1 118 119),o 121 (l 120),o 122 (ia 1 112 113),w (.store 1 (t 122) (t 121))] [0,0,0,4,0,28,60,0,252,508,1023,2047])])),
 (.reg [o 123 (bc .add 101 (n 1)),o 101 (m 123)])])))]),
 (.reg [o 124 (m 17),o 125 (m 18),o 126 (.call 37 [(t 124),(t 125)]),o 21 (m 126)]),
 (q [(.reg [o 127 (m 8),o 128 (ln 127),o 129 (.mv (c (n 0)))]),
 (.block 10 (.loop (q [(.reg [o 130 (b .lss 129 128)]),
 (i 130 .skip (.exit 10)),
 (.block 11 (q [(.reg [o 131 (m 129),o 22 (m 131)]),
 (.regd [o 132 (m 18),o 133 (m 22),o 134 (m 21),o 135 (m 17),o 136 (m 22),o 137 (ia 1 135 136),o 138 (l 137),o 139 (.look (.int .i64) [(.nils 1)] (t 134) (t 138) false),o 140 (m 18),o 141 (m 22),o 142 (ia 1 140 141),o 143 (l 142),o 144 (.call 35 [(t 139),(t 143)]),o 145 (ia 1 132 133),w (.store 1 (t 145) (t 144))] [0,0,0,0,0,24,56,124,0,0,768,1792,4092,8191,16383])])),
 (.reg [o 146 (bc .add 129 (n 1)),o 129 (m 146)])])))]),
 (.regd [o 147 (f 2 10),o 148 (l 147),o 149 (m 17),o 150 (.bslice 1 1 [(.nils 1)] [(0,(t 149))]),o 151 (.app 1 24 (t 148) (t 150)),o 152 (f 3 10),o 153 (l 152),o 154 (m 18),o 155 (.bslice 1 1 [(.nils 1)] [(0,(t 154))]),o 156 (.app 1 24 (t 153) (t 155)),o 157 (f 2 10),w (.store 1 (t 157) (t 151)),o 158 (f 3 10),w (.store 1 (t 158) (t 156))] [0,1,0,4,15,0,32,0,128,511,127,2047,4095,8191])])),
 (.reg [o 159 (bc .add 90 (n 1)),o 90 (m 159)])])))]),
 (.reg [o 160 (la 4 10),o 161 (m 8),w (.store 4 (t 4) (t 160)),o 5 (m 161),o 6 (.mv (c (n 0)))]),
 .ret])⟩
def zg0:CFn:=⟨26,[.tmp 4],(q [(.reg [o 4 (.mv (c .bf))]),
 (q [(.reg [o 6 (m 0),o 7 (ln 6),o 8 (m 1),o 9 (ln 8),o 10 (b .neq 7 9)]),
 (i 10 (q [(.reg [o 4 (.mv (c .bf))]),
 .ret]) .skip)]),
 (q [(.reg [o 5 (.mv (c (n 0)))]),
 (.block 0 (.loop (q [(q [(.reg [o 11 (m 5),o 12 (m 0),o 13 (ln 12),o 14 (b .lss 11 13)]),
 (i 14 .skip (.exit 0))]),
 (.block 1 (q [(.regd [o 17 (m 0),o 18 (m 5),o 19 (ia 1 17 18),o 20 (l 19),o 21 (m 1),o 22 (m 5),o 23 (ia 1 21 22),o 24 (l 23),o 25 (b .neq 20 24)] [0,0,3,7,0,0,48,112,255]),
 (i 25 (q [(.reg [o 4 (.mv (c .bf))]),
 .ret]) .skip)])),
 (.reg [o 15 (m 5),o 16 (bc .add 15 (n 1)),o 5 (m 16)])])))]),
 (.reg [o 4 (.mv (c .bt))]),
 .ret])⟩
def zlh:CFn:=⟨30,[.tmp 4],(q [(.reg [o 2 (.box 3 (t 0)),o 4 (.mv (c (n 0)))]),
 (q [(.reg [o 7 (la 3 2),o 8 (.call 32 [(t 7)]),o 5 (m 8)]),
 (.reg [o 9 (m 5),o 10 (bc .neq 9 (n 0))]),
 (i 10 (q [(.reg [o 11 (m 5),o 4 (m 11)]),
 .ret]) .skip)]),
 (q [(.reg [o 12 (m 1),o 13 (.call 73 [(t 12)]),o 6 (m 13)]),
 (.reg [o 14 (m 6),o 15 (bc .neq 14 (n 0))]),
 (i 15 (q [(.reg [o 16 (m 6),o 4 (m 16)]),
 .ret]) .skip)]),
 (q [(.reg [o 17 (m 1),o 18 (.call 9 [(t 17)]),o 19 (bc .andNot 18 (n 15)),o 20 (bc .neq 19 (n 0))]),
 (i 20 (q [(.reg [o 4 (.mv (c (n 10)))]),
 .ret]) .skip)]),
 (q [(.reg [o 21 (m 1),o 22 (f 2 2),o 23 (l 22),o 24 (ln 23),o 25 (f 1 2),o 26 (l 25),o 27 (ln 26),o 28 (.call 74 [(t 21),(t 24),(t 27)]),o 29 (.un .not (t 28))]),
 (i 29 (q [(.reg [o 4 (.mv (c (n 2)))]),
 .ret]) .skip)]),
 (.reg [o 4 (.mv (c (n 0)))]),
 .ret])⟩
def zno:CFn:=⟨129,[.tmp 8,.tmp 9],(q [(.reg [o 4 (.box 3 (t 0)),o 5 (.box 6 (t 1)),o 8 (.mv (c (u 0))),o 9 (.mv (c .bf))]),
 (.reg [o 12 (f 0 4),o 13 (l 12),o 14 (.bin .sub (c (n 64)) (t 13)),o 15 (.bin .shr (c (u 18446744073709551615)) (t 14)),o 10 (m 15)]),
 (q [(.reg [o 16 (f 0 5),o 17 (l 16)]),
 (.block 0 (q [(.reg [o 19 (bc .eql 17 (n 1)),o 18 (m 19)]),
 (i 18 (q [(.reg [o 20 (m 10),o 8 (m 20),o 9 (.mv (c .bt))]),
 .ret]) (q [(.reg [o 22 (bc .eql 17 (n 2)),o 21 (m 22)]),
 (i 21 (q [(.reg [o 8 (.mv (c (u 0))),o 9 (.mv (c .bt))]),
 .ret]) (q [(.reg [o 24 (bc .eql 17 (n 3)),o 23 (m 24)]),
 (i 23 (q [(q [(.reg [o 25 (f 1 5),o 26 (l 25),o 27 (f 1 4),o 28 (l 27),o 29 (ln 28),o 30 (b .geq 26 29)]),
 (i 30 (q [(.reg [o 8 (.mv (c (u 0))),o 9 (.mv (c .bf))]),
 .ret]) .skip)]),
 (.reg [o 31 (f 1 4),o 32 (l 31),o 33 (f 1 5),o 34 (l 33),o 35 (ia 1 32 34),o 36 (l 35),o 8 (m 36),o 9 (.mv (c .bt))]),
 .ret]) (q [(.reg [o 38 (bc .eql 17 (n 4)),o 37 (m 38)]),
 (i 37 (q [(.reg [o 39 (m 10),o 40 (m 2),o 41 (b .andNot 39 40),o 8 (m 41),o 9 (.mv (c .bt))]),
 .ret]) (q [(.reg [o 43 (bc .eql 17 (n 5)),o 42 (m 43)]),
 (i 42 (q [(.reg [o 44 (m 2),o 45 (m 3),o 46 (b .and 44 45),o 8 (m 46),o 9 (.mv (c .bt))]),
 .ret]) (q [(.reg [o 48 (bc .eql 17 (n 6)),o 47 (m 48)]),
 (i 47 (q [(.reg [o 49 (m 2),o 50 (m 3),o 51 (b .or 49 50),o 8 (m 51),o 9 (.mv (c .bt))]),
 .ret]) (q [(.reg [o 53 (bc .eql 17 (n 7)),o 52 (m 53)]),
 (i 52 (q [(.reg [o 54 (m 10),o 55 (m 2),o 56 (b .andNot 54 55),o 57 (m 3),o 58 (b .or 56 57),o 8 (m 58),o 9 (.mv (c .bt))]),
 .ret]) (q [(.reg [o 60 (bc .eql 17 (n 8)),o 59 (m 60)]),
 (i 59 (q [(.reg [o 61 (m 10),o 62 (m 2),o 63 (m 3),o 64 (b .xor 62 63),o 65 (b .andNot 61 64),o 8 (m 65),o 9 (.mv (c .bt))]),
 .ret]) (q [(q [(.reg [o 67 (bc .eql 17 (n 9)),o 66 (m 67)]),
 (i 66 .skip (.reg [o 68 (bc .eql 17 (n 10)),o 66 (m 68)]))]),
 (i 66 (q [(q [(.reg [o 69 (f 1 5),o 70 (l 69),o 71 (f 2 4),o 72 (l 71),o 73 (ln 72),o 74 (b .geq 70 73)]),
 (i 74 (q [(.reg [o 8 (.mv (c (u 0))),o 9 (.mv (c .bf))]),
 .ret]) .skip)]),
 (q [(.reg [o 75 (f 0 5),o 76 (l 75),o 77 (bc .eql 76 (n 9))]),
 (i 77 (q [(.reg [o 78 (f 2 4),o 79 (l 78),o 80 (f 1 5),o 81 (l 80),o 82 (ia 1 79 81),o 83 (l 82),o 84 (m 2),o 85 (.call 88 [(t 83),(t 84)]),o 8 (m 85),o 9 (.mv (c .bt))]),
 .ret]) .skip)]),
 (.reg [o 86 (f 2 4),o 87 (l 86),o 88 (f 1 5),o 89 (l 88),o 90 (ia 1 87 89),o 91 (l 90),o 92 (m 2),o 93 (.call 89 [(t 91),(t 92)]),o 8 (m 93),o 9 (.mv (c .bt))]),
 .ret]) (q [(q [(.reg [o 95 (bc .eql 17 (n 11)),o 94 (m 95)]),
 (i 94 .skip (q [(.reg [o 96 (bc .eql 17 (n 12)),o 94 (m 96)]),
 (i 94 .skip (.reg [o 97 (bc .eql 17 (n 13)),o 94 (m 97)]))]))]),
 (i 94 (q [(q [(.regd [o 98 (f 3 5),o 99 (l 98),o 100 (f 2 4),o 101 (l 100),o 102 (ln 101),o 103 (.bin .shl (c (n 1)) (t 102)),o 104 (b .geq 99 103)] [0,1,0,4,12,28,63]),
 (i 104 (q [(.reg [o 8 (.mv (c (u 0))),o 9 (.mv (c .bf))]),
 .ret]) .skip)]),
 (q [(.reg [o 105 (f 0 5),o 106 (l 105),o 107 (bc .eql 106 (n 12))]),
 (i 107 (q [(.reg [o 108 (la 3 4),o 109 (f 3 5),o 110 (l 109),o 111 (.call 90 [(t 108),(t 110)]),o 112 (m 2),o 113 (.call 88 [(t 111),(t 112)]),o 8 (m 113),o 9 (.mv (c .bt))]),
 .ret]) .skip)]),
 (.reg [o 114 (la 3 4),o 115 (f 3 5),o 116 (l 115),o 117 (.call 91 [(t 114),(t 116)]),o 11 (m 117)]),
 (q [(.reg [o 118 (f 0 5),o 119 (l 118),o 120 (bc .eql 119 (n 11))]),
 (i 120 (q [(.reg [o 121 (m 11),o 122 (m 2),o 123 (.call 88 [(t 121),(t 122)]),o 8 (m 123),o 9 (.mv (c .bt))]),
 .ret]) .skip)]),
 (.reg [o 124 (m 11),o 125 (m 10),o 126 (m 2),o 127 (m 3),o 128 (.call 92 [(t 124),(t 125),(t 126),(t 127)]),o 8 (m 128),o 9 (.mv (c .bt))]),
 .ret]) .skip)]))]))]))]))]))]))]))]))]))]))]),
 (.reg [o 8 (.mv (c (u 0))),o 9 (.mv (c .bf))]),
 .ret])⟩
def zlk:CFn:=⟨8,[.tmp 2],(q [(.reg [o 2 (.mv (c (.nils 6)))]),
 (.reg [o 3 (m 0),o 4 (m 0),o 5 (ln 4),o 6 (bc .sub 5 (n 1)),o 7 (.call 93 [(t 3),(t 6)]),o 2 (m 7)]),
 .ret])⟩
def zoE:CFn:=⟨55,[.cell 2 (some 7),.tmp 3],(q [(.reg [o 2 (.alloc [.bf,.bf,.bf,.bf,.bf,.bf,(n 0)]),o 3 (.mv (c .bf))]),
 (q [(.reg [o 4 (m 0)]),
 (.block 0 (q [(q [(.reg [o 6 (bc .eql 4 (n 1)),o 5 (m 6)]),
 (i 5 .skip (.reg [o 7 (bc .eql 4 (n 2)),o 5 (m 7)]))]),
 (i 5 (q [(.reg [o 8 (.build [.bf,.bf,.bf,.bf,.bf,.bf,(n 0)] []),w (.store 7 (t 2) (t 8)),o 3 (.mv (c .bt))]),
 .ret]) (q [(.reg [o 10 (bc .eql 4 (n 3)),o 9 (m 10)]),
 (i 9 (q [(.reg [o 11 (.build [.bf,.bf,.bf,.bf,.bf,.bf,(n 0)] [(2,1,(c .bt))]),w (.store 7 (t 2) (t 11)),o 3 (.mv (c .bt))]),
 .ret]) (q [(.reg [o 13 (bc .eql 4 (n 4)),o 12 (m 13)]),
 (i 12 (q [(.reg [o 14 (.build [.bf,.bf,.bf,.bf,.bf,.bf,(n 0)] [(0,1,(c .bt))]),w (.store 7 (t 2) (t 14)),o 3 (.mv (c .bt))]),
 .ret]) (q [(q [(.reg [o 16 (bc .eql 4 (n 5)),o 15 (m 16)]),
 (i 15 .skip (q [(.reg [o 17 (bc .eql 4 (n 6)),o 15 (m 17)]),
 (i 15 .skip (q [(.reg [o 18 (bc .eql 4 (n 7)),o 15 (m 18)]),
 (i 15 .skip (.reg [o 19 (bc .eql 4 (n 8)),o 15 (m 19)]))]))]))]),
 (i 15 (q [(.reg [o 20 (.build [.bf,.bf,.bf,.bf,.bf,.bf,(n 0)] [(0,1,(c .bt)),(1,1,(c .bt))]),w (.store 7 (t 2) (t 20)),o 3 (.mv (c .bt))]),
 .ret]) (q [(q [(.reg [o 22 (bc .eql 4 (n 9)),o 21 (m 22)]),
 (i 21 .skip (.reg [o 23 (bc .eql 4 (n 10)),o 21 (m 23)]))]),
 (i 21 (q [(.reg [o 24 (.build [.bf,.bf,.bf,.bf,.bf,.bf,(n 0)] [(0,1,(c .bt)),(3,1,(c .bt)),(6,1,(c (n 1)))]),w (.store 7 (t 2) (t 24)),o 3 (.mv (c .bt))]),
 .ret]) (q [(.reg [o 26 (bc .eql 4 (n 11)),o 25 (m 26)]),
 (i 25 (q [(.reg [o 27 (.build [.bf,.bf,.bf,.bf,.bf,.bf,(n 0)] [(0,1,(c .bt)),(4,1,(c .bt)),(6,1,(c (n 2)))]),w (.store 7 (t 2) (t 27)),o 3 (.mv (c .bt))]),
 .ret]) (q [(.reg [o 29 (bc .eql 4 (n 12)),o 28 (m 29)]),
 (i 28 (q [(.reg [o 30 (.build [.bf,.bf,.bf,.bf,.bf,.bf,(n 0)] [(0,1,(c .bt)),(4,1,(c .bt)),(6,1,(c (n 4)))]),w (.store 7 (t 2) (t 30)),o 3 (.mv (c .bt))]),
 .ret]) (q [(.reg [o 32 (bc .eql 4 (n 13)),o 31 (m 32)]),
 (i 31 (q [(.reg [o 33 (.build [.bf,.bf,.bf,.bf,.bf,.bf,(n 0)] [(0,1,(c .bt)),(1,1,(c .bt)),(4,1,(c .bt)),(6,1,(c (n 8)))]),w (.store 7 (t 2) (t 33)),o 3 (.mv (c .bt))]),
 .ret]) (q [(.reg [o 35 (bc .eql 4 (n 14)),o 34 (m 35)]),
 (i 34 (q [(.reg [o 36 (.build [.bf,.bf,.bf,.bf,.bf,.bf,(n 0)] [(0,1,(c .bt)),(1,1,(c .bt)),(3,1,(c .bt)),(6,1,(c (n 16)))]),w (.store 7 (t 2) (t 36)),o 3 (.mv (c .bt))]),
 .ret]) (q [(.reg [o 38 (bc .eql 4 (n 15)),o 37 (m 38)]),
 (i 37 (q [(.reg [o 39 (.build [.bf,.bf,.bf,.bf,.bf,.bf,(n 0)] [(0,1,(c .bt)),(3,1,(c .bt)),(6,1,(c (n 32)))]),w (.store 7 (t 2) (t 39)),o 3 (.mv (c .bt))]),
 .ret]) (q [(.reg [o 41 (bc .eql 4 (n 16)),o 40 (m 41)]),
 (i 40 (q [(.reg [o 42 (.build [.bf,.bf,.bf,.bf,.bf,.bf,(n 0)] [(0,1,(c .bt)),(1,1,(c .bt)),(6,1,(c (n 64)))]),w (.store 7 (t 2) (t 42)),o 3 (.mv (c .bt))]),
 .ret]) (q [(.reg [o 44 (bc .eql 4 (n 17)),o 43 (m 44)]),
 (i 43 (q [(.reg [o 45 (.build [.bf,.bf,.bf,.bf,.bf,.bf,(n 0)] [(0,1,(c .bt)),(5,1,(c .bt)),(6,1,(c (n 128)))]),w (.store 7 (t 2) (t 45)),o 3 (.mv (c .bt))]),
 .ret]) (q [(q [(.reg [o 47 (bc .eql 4 (n 18)),o 46 (m 47)]),
 (i 46 .skip (.reg [o 48 (bc .eql 4 (n 20)),o 46 (m 48)]))]),
 (i 46 (q [(.reg [o 49 (.build [.bf,.bf,.bf,.bf,.bf,.bf,(n 0)] [(0,1,(c .bt)),(6,1,(c (n 256)))]),w (.store 7 (t 2) (t 49)),o 3 (.mv (c .bt))]),
 .ret]) (q [(q [(.reg [o 51 (bc .eql 4 (n 19)),o 50 (m 51)]),
 (i 50 .skip (.reg [o 52 (bc .eql 4 (n 21)),o 50 (m 52)]))]),
 (i 50 (q [(.reg [o 53 (.build [.bf,.bf,.bf,.bf,.bf,.bf,(n 0)] [(0,1,(c .bt)),(1,1,(c .bt)),(6,1,(c (n 256)))]),w (.store 7 (t 2) (t 53)),o 3 (.mv (c .bt))]),
 .ret]) .skip)]))]))]))]))]))]))]))]))]))]))]))]))]))]))]),
 (.reg [o 54 (.build [.bf,.bf,.bf,.bf,.bf,.bf,(n 0)] []),w (.store 7 (t 2) (t 54)),o 3 (.mv (c .bf))]),
 .ret])⟩
def zny:CFn:=⟨8,[.tmp 4],(q [(.reg [o 3 (.box 1 (t 1)),o 4 (.mv (c .bf))]),
 (.reg [o 5 (m 0),o 6 (.fnew zcD [(t 3)]),o 7 (.call 96 [(t 5),(t 6)]),o 4 (m 7)]),
 .ret])⟩
def zc7:CFn:=⟨9,[.tmp 4],(q [(.reg [o 4 (.mv (c .bf))]),
 (.reg [o 5 (m 0),o 6 (m 1),o 7 (.call 98 [(t 5),(t 6)]),o 8 (bc .geq 7 (n 0)),o 4 (m 8)]),
 .ret])⟩
def znu:CFn:=⟨8,[.tmp 3],(q [(.reg [o 3 (.mv (c .bf))]),
 (.reg [o 4 (m 0),o 5 (f 0 1),o 6 (l 5),o 7 (.call 60 [(t 4),(t 6)]),o 3 (m 7)]),
 .ret])⟩
def zsv:CFn:=⟨8,[.tmp 2],(q [(.reg [o 2 (.mv (c (u 0)))]),
 (q [(.reg [o 3 (m 0),o 4 (bc .geq 3 (n 64))]),
 (i 4 (q [(.reg [o 2 (.mv (c (u 18446744073709551615)))]),
 .ret]) .skip)]),
 (.reg [o 5 (m 0),o 6 (.bin .shl (c (u 1)) (t 5)),o 7 (bc .sub 6 (u 1)),o 2 (m 7)]),
 .ret])⟩
def znx:CFn:=⟨16,[.tmp 2],(q [(.reg [o 2 (.mv (c (.nils 1)))]),
 (.reg [o 3 (.mv (c (.nils 1)))]),
 (.block 0 (.loop (q [(q [(.reg [o 4 (m 0),o 5 (bc .neq 4 (u 0))]),
 (i 5 .skip (.exit 0))]),
 (.block 1 (.reg [o 10 (m 3),o 11 (m 0),o 12 (.call 64 [(t 11)]),o 13 (.bslice 1 1 [(n 0)] [(0,(t 12))]),o 14 (.app 1 8 (t 10) (t 13)),o 3 (m 14)])),
 (.reg [o 6 (m 0),o 7 (m 0),o 8 (bc .sub 7 (u 1)),o 9 (b .and 6 8),o 0 (m 9)])]))),
 (.reg [o 15 (m 3),o 2 (m 15)]),
 .ret])⟩
def znw:CFn:=⟨63,[.cell 4 (some 3)],(q [(.reg [o 2 (.box 3 (t 0)),o 4 (.alloc [(n 0),(.nils 1),(.nils 1)])]),
 (.reg [o 13 (m 1),o 14 (ln 13),o 15 (.build [(n 0),(.nils 1),(.nils 1)] [(0,1,(t 14))]),o 5 (.alloc [(n 0),(.nils 1),(.nils 1)]),w (.store 3 (t 5) (t 15))]),
 (q [(.reg [o 16 (f 1 2),o 17 (l 16),o 18 (ln 17),o 19 (.mv (c (n 0)))]),
 (.block 0 (.loop (q [(.reg [o 20 (b .lss 19 18)]),
 (i 20 .skip (.exit 0)),
 (.block 1 (q [(.reg [o 21 (ia 1 17 19),o 22 (l 21),o 7 (m 22)]),
 (.regd [o 23 (f 1 5),o 24 (l 23),o 25 (m 7),o 26 (m 1),o 27 (.call 99 [(t 25),(t 26)]),o 28 (.bslice 1 1 [(u 0)] [(0,(t 27))]),o 29 (.app 1 8 (t 24) (t 28)),o 30 (f 1 5),w (.store 1 (t 30) (t 29))] [0,1,0,0,12,28,63,127,255])])),
 (.reg [o 31 (bc .add 19 (n 1)),o 19 (m 31)])])))]),
 (q [(.reg [o 32 (f 2 2),o 33 (l 32),o 34 (ln 33),o 35 (.mv (c (n 0)))]),
 (.block 2 (.loop (q [(.reg [o 36 (b .lss 35 34)]),
 (i 36 .skip (.exit 2)),
 (.block 3 (q [(.reg [o 37 (ia 1 33 35),o 38 (l 37),o 9 (m 38)]),
 (.reg [o 10 (.mv (c (.nils 1)))]),
 (q [(.reg [o 39 (m 1),o 40 (ln 39),o 41 (.mv (c (n 0)))]),
 (.block 4 (.loop (q [(.reg [o 42 (b .lss 41 40)]),
 (i 42 .skip (.exit 4)),
 (.block 5 (q [(.reg [o 43 (ia 1 39 41),o 44 (l 43),o 12 (m 44)]),
 (.reg [o 45 (m 10),o 46 (m 9),o 47 (m 12),o 48 (ia 1 46 47),o 49 (l 48),o 50 (m 1),o 51 (.call 99 [(t 49),(t 50)]),o 52 (.bslice 1 1 [(u 0)] [(0,(t 51))]),o 53 (.app 1 8 (t 45) (t 52)),o 10 (m 53)])])),
 (.reg [o 54 (bc .add 41 (n 1)),o 41 (m 54)])])))]),
 (.reg [o 55 (f 2 5),o 56 (l 55),o 57 (m 10),o 58 (.bslice 1 1 [(.nils 1)] [(0,(t 57))]),o 59 (.app 1 24 (t 56) (t 58)),o 60 (f 2 5),w (.store 1 (t 60) (t 59))])])),
 (.reg [o 61 (bc .add 35 (n 1)),o 35 (m 61)])])))]),
 (.reg [o 62 (la 3 5),w (.store 3 (t 4) (t 62))]),
 .ret])⟩
def zsw:CFn:=⟨8,[.tmp 2],(q [(.reg [o 2 (.mv (c (u 0)))]),
 (q [(.reg [o 3 (m 0),o 4 (bc .geq 3 (n 64))]),
 (i 4 (q [(.reg [o 2 (.mv (c (u 18446744073709551615)))]),
 .ret]) .skip)]),
 (.reg [o 5 (m 0),o 6 (.bin .shl (c (u 1)) (t 5)),o 7 (bc .sub 6 (u 1)),o 2 (m 7)]),
 .ret])⟩
def zfF:CFn:=⟨61,[.tmp 2],(q [(.reg [o 2 (.mv (c (.nils 1)))]),
 (q [(.reg [o 6 (m 0),o 7 (ln 6),o 8 (bc .lss 7 (n 2))]),
 (i 8 (q [(.reg [o 9 (m 0),o 2 (m 9)]),
 .ret]) .skip)]),
 (q [(.reg [o 3 (.mv (c (n 1)))]),
 (.block 0 (.loop (q [(q [(.reg [o 10 (m 3),o 11 (m 0),o 12 (ln 11),o 13 (b .lss 10 12)]),
 (i 13 .skip (.exit 0))]),
 (.block 1 (q [(.regd [o 16 (m 0),o 17 (m 3),o 18 (ia 1 16 17),o 19 (l 18),o 20 (m 0),o 21 (m 3),o 22 (bc .sub 21 (n 1)),o 23 (ia 1 20 22),o 24 (l 23),o 25 (b .eql 19 24)] [0,0,3,7,0,0,32,112,240,511]),
 (i 25 (q [(.reg [o 26 (m 0),o 27 (m 3),o 28 (.slice 1 (t 26) (some (t 27)) none),o 4 (m 28)]),
 (q [(.reg [o 5 (.mv (c (n 1)))]),
 (.block 2 (.loop (q [(q [(.reg [o 29 (m 5),o 30 (m 4),o 31 (ln 30),o 32 (b .lss 29 31)]),
 (i 32 .skip (.exit 2))]),
 (.block 3 (q [(.regd [o 35 (m 4),o 36 (m 5),o 37 (ia 1 35 36),o 38 (l 37),o 39 (m 4),o 40 (m 5),o 41 (bc .sub 40 (n 1)),o 42 (ia 1 39 41),o 43 (l 42),o 44 (b .neq 38 43)] [0,0,3,7,0,0,32,112,240,511]),
 (i 44 (q [(.reg [o 45 (m 0),o 46 (m 3),o 47 (m 4),o 48 (m 5),o 49 (ia 1 47 48),o 50 (l 49),o 51 (ia 1 45 46),w (.store 1 (t 51) (t 50))]),
 (.reg [o 52 (m 3),o 53 (bc .add 52 (n 1)),o 3 (m 53)])]) .skip)])),
 (.reg [o 33 (m 5),o 34 (bc .add 33 (n 1)),o 5 (m 34)])])))]),
 (.reg [o 54 (m 0),o 55 (m 3),o 56 (.slice 1 (t 54) (some (t 55)) none),w (.clear 1 [(n 0)] (t 56))]),
 (.reg [o 57 (m 0),o 58 (m 3),o 59 (.slice 1 (t 57) none (some (t 58))),o 2 (m 59)]),
 .ret]) .skip)])),
 (.reg [o 14 (m 3),o 15 (bc .add 14 (n 1)),o 3 (m 15)])])))]),
 (.reg [o 60 (m 0),o 2 (m 60)]),
 .ret])⟩
def znp:CFn:=⟨26,[.tmp 2],(q [(.reg [o 2 (.mv (c (n 0)))]),
 (q [(.reg [o 6 (m 0),o 7 (ln 6),o 8 (bc .eql 7 (n 0))]),
 (i 8 (q [(.reg [o 2 (.mv (c (n 3)))]),
 .ret]) .skip)]),
 (q [(.reg [o 9 (m 0),o 10 (ln 9),o 11 (bc .gtr 10 (n 200))]),
 (i 11 (q [(.reg [o 2 (.mv (c (n 8)))]),
 .ret]) .skip)]),
 (q [(.reg [o 12 (m 0),o 13 (ln 12),o 14 (.mv (c (n 0)))]),
 (.block 0 (.loop (q [(.reg [o 15 (b .lss 14 13)]),
 (i 15 .skip (.exit 0)),
 (.block 1 (q [(.reg [o 16 (m 14),o 17 (ia 6 12 14),o 18 (la 6 17),o 4 (.alloc [(n 0),(n 0),(n 0),(n 0),(n 0),(n 0)]),o 3 (m 16),w (.store 6 (t 4) (t 18))]),
 (.reg [o 19 (la 6 4),o 20 (m 3),o 21 (.call 107 [(t 19),(t 20)]),o 5 (m 21)]),
 (.reg [o 22 (m 5),o 23 (bc .neq 22 (n 0))]),
 (i 23 (q [(.reg [o 24 (m 5),o 2 (m 24)]),
 .ret]) .skip)])),
 (.reg [o 25 (bc .add 14 (n 1)),o 14 (m 25)])])))]),
 (.reg [o 2 (.mv (c (n 0)))]),
 .ret])⟩
def zoD:CFn:=⟨25,[.tmp 6],(q [(.reg [o 6 (.mv (c .bf))]),
 (.reg [o 7 (.mv (c (.fn zef [])))]),
 (.reg [o 8 (m 0),o 9 (.call 73 [(t 8)]),o 10 (bc .eql 9 (n 0)),o 11 (m 10),g 12 11 true (m 7),g 13 11 true (m 0),g 14 11 true (.call 110 [(t 13)]),g 15 11 true (m 1),g 16 11 true (.callv (t 12) [(t 14),(t 15)]),o 17 (pf 11 16),o 18 (m 17),g 19 18 true (m 7),g 20 18 true (m 0),g 21 18 true (.call 111 [(t 20)]),g 22 18 true (m 2),g 23 18 true (.callv (t 19) [(t 21),(t 22)]),o 24 (pf 18 23),o 6 (m 24)]),
 .ret])⟩
def zmj:CFn:=⟨105,[.tmp 8],(q [(.reg [o 4 (.box 4 (t 0)),o 5 (.box 6 (t 1)),o 8 (.mv (c (u 0)))]),
 (q [(.reg [o 9 (f 0 5),o 10 (l 9)]),
 (.block 0 (q [(.reg [o 12 (bc .eql 10 (n 1)),o 11 (m 12)]),
 (i 11 (q [(.reg [o 13 (la 4 4),o 14 (.call 112 [(t 13)]),o 8 (m 14)]),
 .ret]) (q [(.reg [o 16 (bc .eql 10 (n 3)),o 15 (m 16)]),
 (i 15 (q [(.reg [o 17 (f 1 4),o 18 (l 17),o 19 (f 1 5),o 20 (l 19),o 21 (ia 1 18 20),o 22 (l 21),o 8 (m 22)]),
 .ret]) (q [(.reg [o 24 (bc .eql 10 (n 4)),o 23 (m 24)]),
 (i 23 (q [(.reg [o 25 (la 4 4),o 26 (.call 112 [(t 25)]),o 27 (m 2),o 28 (b .andNot 26 27),o 8 (m 28)]),
 .ret]) (q [(.reg [o 30 (bc .eql 10 (n 5)),o 29 (m 30)]),
 (i 29 (q [(.reg [o 31 (m 2),o 32 (m 3),o 33 (b .and 31 32),o 8 (m 33)]),
 .ret]) (q [(.reg [o 35 (bc .eql 10 (n 6)),o 34 (m 35)]),
 (i 34 (q [(.reg [o 36 (m 2),o 37 (m 3),o 38 (b .or 36 37),o 8 (m 38)]),
 .ret]) (q [(.reg [o 40 (bc .eql 10 (n 7)),o 39 (m 40)]),
 (i 39 (q [(.reg [o 41 (la 4 4),o 42 (.call 112 [(t 41)]),o 43 (m 2),o 44 (b .andNot 42 43),o 45 (m 3),o 46 (b .or 44 45),o 8 (m 46)]),
 .ret]) (q [(.reg [o 48 (bc .eql 10 (n 8)),o 47 (m 48)]),
 (i 47 (q [(.reg [o 49 (la 4 4),o 50 (.call 112 [(t 49)]),o 51 (m 2),o 52 (m 3),o 53 (b .xor 51 52),o 54 (b .andNot 50 53),o 8 (m 54)]),
 .ret]) (q [(.reg [o 56 (bc .eql 10 (n 9)),o 55 (m 56)]),
 (i 55 (q [(.reg [o 57 (la 4 4),o 58 (f 1 5),o 59 (l 58),o 60 (m 2),o 61 (.call 113 [(t 57),(t 59),(t 60)]),o 8 (m 61)]),
 .ret]) (q [(.reg [o 63 (bc .eql 10 (n 10)),o 62 (m 63)]),
 (i 62 (q [(.regd [o 64 (la 4 4),o 65 (.call 112 [(t 64)]),o 66 (la 4 4),o 67 (f 1 5),o 68 (l 67),o 69 (la 4 4),o 70 (.call 112 [(t 69)]),o 71 (m 2),o 72 (b .andNot 70 71),o 73 (.call 113 [(t 66),(t 68),(t 72)]),o 74 (b .andNot 65 73),o 8 (m 74)] [0,1,0,0,8,0,35,0,227,511,1023,2047]),
 .ret]) (q [(.reg [o 76 (bc .eql 10 (n 11)),o 75 (m 76)]),
 (i 75 (q [(.reg [o 77 (la 4 4),o 78 (f 3 5),o 79 (l 78),o 80 (m 2),o 81 (.call 114 [(t 77),(t 79),(t 80)]),o 8 (m 81)]),
 .ret]) (q [(.reg [o 83 (bc .eql 10 (n 13)),o 82 (m 83)]),
 (i 82 (q [(.reg [o 84 (la 4 4),o 85 (f 3 5),o 86 (l 85),o 87 (m 2),o 88 (m 3),o 89 (.call 115 [(t 84),(t 86),(t 87),(t 88)]),o 8 (m 89)]),
 .ret]) (q [(.reg [o 91 (bc .eql 10 (n 14)),o 90 (m 91)]),
 (i 90 (q [(.reg [o 92 (la 4 4),o 93 (f 1 5),o 94 (l 93),o 95 (m 2),o 96 (m 3),o 97 (.call 116 [(t 92),(t 94),(t 95),(t 96)]),o 8 (m 97)]),
 .ret]) (q [(.reg [o 99 (bc .eql 10 (n 15)),o 98 (m 99)]),
 (i 98 (q [(.reg [o 100 (la 4 4),o 101 (f 1 5),o 102 (l 101),o 103 (m 2),o 104 (.call 117 [(t 100),(t 102),(t 103)]),o 8 (m 104)]),
 .ret]) .skip)]))]))]))]))]))]))]))]))]))]))]))]))]))]),
 (.reg [o 8 (.mv (c (u 0)))]),
 .ret])⟩
def zeD:CFn:=⟨8,[.tmp 2],(q [(.reg [o 2 (.mv (c (.nils 1)))]),
 (q [(.reg [o 3 (m 0),o 4 (.eqN false (t 3) (c (.nils 1)))]),
 (i 4 (q [(.reg [o 2 (.mv (c (.nils 1)))]),
 .ret]) .skip)]),
 (.reg [o 5 (.bslice 1 0 [(u 0)] []),o 6 (m 0),o 7 (.app 1 8 (t 5) (t 6)),o 2 (m 7)]),
 .ret])⟩
def zeY:CFn:=⟨19,[.tmp 4],(q [(.reg [o 4 (.mv (c (n 0)))]),
 (q [(.reg [o 6 (m 0),o 7 (ln 6),o 8 (.mv (c (n 0)))]),
 (.block 0 (.loop (q [(.reg [o 9 (b .lss 8 7)]),
 (i 9 .skip (.exit 0)),
 (.block 1 (q [(.reg [o 10 (m 8),o 5 (m 10)]),
 (.reg [o 11 (m 1),o 12 (m 0),o 13 (m 5),o 14 (ia 1 12 13),o 15 (l 14),o 16 (.callv (t 11) [(t 15)])]),
 (i 16 (q [(.reg [o 17 (m 5),o 4 (m 17)]),
 .ret]) .skip)])),
 (.reg [o 18 (bc .add 8 (n 1)),o 8 (m 18)])])))]),
 (.reg [o 4 (.mv (c (n (-1))))]),
 .ret])⟩
def zjV:CFn:=⟨23,[.tmp 5],(q [(.reg [o 5 (.mv (c .bf))]),
 (.regd [o 6 (f 2 1),o 7 (l 6),o 8 (l 2),o 9 (ia 1 7 8),o 10 (l 9),o 11 (m 0),o 12 (ia 1 10 11),o 13 (l 12),o 14 (f 2 1),o 15 (l 14),o 16 (l 2),o 17 (ia 1 15 16),o 18 (l 17),o 19 (l 3),o 20 (ia 1 18 19),o 21 (l 20),o 22 (b .eql 13 21),o 5 (m 22)] [0,1,0,7,15,0,63,127,0,256,0,1792,3840,0,16128,32512,65535,131071]),
 .ret])⟩
def zoL:CFn:=⟨30,[.tmp 4],(q [(.reg [o 4 (.mv (c (u 0)))]),
 (q [(.reg [o 7 (m 0),o 8 (ln 7),o 9 (m 0),o 10 (.call 124 [(t 8),(t 9)]),o 11 (bc .neq 10 (n 0))]),
 (i 11 (q [(.reg [o 4 (.mv (c (u 0)))]),
 .ret]) .skip)]),
 (.reg [o 5 (.mv (c (u 0)))]),
 (q [(.reg [o 12 (m 0),o 13 (ln 12),o 14 (.mv (c (n 0)))]),
 (.block 0 (.loop (q [(.reg [o 15 (b .lss 14 13)]),
 (i 15 .skip (.exit 0)),
 (.block 1 (q [(.reg [o 16 (m 14),o 6 (m 16)]),
 (.reg [o 17 (m 0),o 18 (m 6),o 19 (ia 1 17 18),o 20 (l 19),o 21 (m 1),o 22 (b .andNot 20 21),o 23 (bc .eql 22 (u 0))]),
 (i 23 (.reg [o 24 (m 5),o 25 (m 6),o 26 (.bin .shl (c (u 1)) (t 25)),o 27 (b .or 24 26),o 5 (m 27)]) .skip)])),
 (.reg [o 28 (bc .add 14 (n 1)),o 14 (m 28)])])))]),
 (.reg [o 29 (m 5),o 4 (m 29)]),
 .ret])⟩
def zjW:CFn:=⟨18,[.tmp 4],(q [(.reg [o 4 (.mv (c (u 0)))]),
 (q [(.reg [o 5 (m 0),o 6 (ln 5),o 7 (m 0),o 8 (.call 124 [(t 6),(t 7)]),o 9 (bc .neq 8 (n 0))]),
 (i 9 (q [(.reg [o 4 (.mv (c (u 0)))]),
 .ret]) .skip)]),
 (.reg [o 10 (m 0),o 11 (ln 10),o 12 (.call 125 [(t 11)]),o 13 (m 0),o 14 (m 1),o 15 (.un .xor (t 14)),o 16 (.call 88 [(t 13),(t 15)]),o 17 (b .andNot 12 16),o 4 (m 17)]),
 .ret])⟩
def zq4:CFn:=⟨8,[.tmp 4],(q [(.reg [o 2 (.box 3 (t 0)),o 4 (.mv (c (.nils 1)))]),
 (.reg [o 5 (la 3 2),o 6 (m 1),o 7 (.call 126 [(t 5),(t 6),(c (.fn ze1 []))]),o 4 (m 7)]),
 .ret])⟩
def zqm:CFn:=⟨8,[.tmp 4],(q [(.reg [o 2 (.box 3 (t 0)),o 4 (.mv (c (.nils 1)))]),
 (.reg [o 5 (la 3 2),o 6 (m 1),o 7 (.call 126 [(t 5),(t 6),(c (.fn zeJ []))]),o 4 (m 7)]),
 .ret])⟩
def zmf:CFn:=⟨26,[.tmp 8],(q [(.reg [o 8 (.mv (c (u 0)))]),
 (.reg [o 11 (m 1),o 9 (m 11)]),
 (.block 0 (.loop (.block 1 (q [(.reg [o 12 (m 0),o 13 (m 1),o 14 (m 2),o 15 (b .andNot 13 14),o 16 (m 3),o 17 (m 9),o 18 (b .and 16 17),o 19 (b .or 15 18),o 20 (.call 88 [(t 12),(t 19)]),o 10 (m 20)]),
 (q [(.reg [o 21 (m 10),o 22 (m 9),o 23 (b .eql 21 22)]),
 (i 23 (q [(.reg [o 24 (m 9),o 8 (m 24)]),
 .ret]) .skip)]),
 (.reg [o 25 (m 10),o 9 (m 25)])]))))])⟩
def zqk:CFn:=⟨21,[.tmp 4],(q [(.reg [o 4 (.mv (c (.nils 6)))]),
 (q [(.reg [o 5 (m 0),o 6 (.call 73 [(t 5)]),o 7 (bc .neq 6 (n 0)),o 8 (m 7),g 9 8 false (m 1),g 10 8 false (bc .lss 9 (n 0)),o 11 (pt 8 10),o 12 (m 11),g 13 12 false (m 1),g 14 12 false (m 0),g 15 12 false (ln 14),g 16 12 false (b .geq 13 15),o 17 (pt 12 16)]),
 (i 17 (q [(.reg [o 4 (.mv (c (.nils 6)))]),
 .ret]) .skip)]),
 (.reg [o 18 (m 0),o 19 (m 1),o 20 (.call 108 [(t 18),(t 19)]),o 4 (m 20)]),
 .ret])⟩
def zdo:CFn:=⟨9,[.tmp 4],(q [(.reg [o 4 (.mv (c .bf))]),
 (.reg [o 5 (m 0),o 6 (m 1),o 7 (.call 133 [(t 5),(t 6)]),o 8 (bc .geq 7 (n 0)),o 4 (m 8)]),
 .ret])⟩
def zlp:CFn:=⟨9,[.tmp 3],(q [(.reg [o 3 (.mv (c .bf))]),
 (.reg [o 4 (m 0),o 5 (l 1),o 6 (.call 63 [(t 5)]),o 7 (b .andNot 4 6),o 8 (bc .neq 7 (u 0)),o 3 (m 8)]),
 .ret])⟩
def zdt:CFn:=⟨19,[.tmp 4],(q [(.reg [o 4 (.mv (c (n 0)))]),
 (q [(.reg [o 6 (m 0),o 7 (ln 6),o 8 (.mv (c (n 0)))]),
 (.block 0 (.loop (q [(.reg [o 9 (b .lss 8 7)]),
 (i 9 .skip (.exit 0)),
 (.block 1 (q [(.reg [o 10 (m 8),o 5 (m 10)]),
 (.reg [o 11 (m 1),o 12 (m 0),o 13 (m 5),o 14 (ia 1 12 13),o 15 (l 14),o 16 (.callv (t 11) [(t 15)])]),
 (i 16 (q [(.reg [o 17 (m 5),o 4 (m 17)]),
 .ret]) .skip)])),
 (.reg [o 18 (bc .add 8 (n 1)),o 8 (m 18)])])))]),
 (.reg [o 4 (.mv (c (n (-1))))]),
 .ret])⟩
def zq5:CFn:=⟨25,[.tmp 4],(q [(.reg [o 4 (.mv (c (u 0)))]),
 (.reg [o 5 (.mv (c (u 0)))]),
 (q [(.reg [o 8 (m 1),o 9 (ln 8),o 10 (.mv (c (n 0)))]),
 (.block 0 (.loop (q [(.reg [o 11 (b .lss 10 9)]),
 (i 11 .skip (.exit 0)),
 (.block 1 (q [(.reg [o 12 (m 10),o 13 (ia 1 8 10),o 14 (l 13),o 6 (m 12),o 7 (m 14)]),
 (.reg [o 15 (m 5),o 16 (m 0),o 17 (m 7),o 18 (b .shr 16 17),o 19 (bc .and 18 (u 1)),o 20 (m 6),o 21 (b .shl 19 20),o 22 (b .or 15 21),o 5 (m 22)])])),
 (.reg [o 23 (bc .add 10 (n 1)),o 10 (m 23)])])))]),
 (.reg [o 24 (m 5),o 4 (m 24)]),
 .ret])⟩
def znt:CFn:=⟨8,[.tmp 2],(q [(.reg [o 2 (.mv (c (n 0)))]),
 (.cond (c .bf) (q [(.reg [o 3 (m 0),o 4 (.conv .u32 (t 3)),o 5 (.call 143 [(t 4)]),o 2 (m 5)]),
 .ret]) .skip),
 (.reg [o 6 (m 0),o 7 (.call 144 [(t 6)]),o 2 (m 7)]),
 .ret])⟩
def zjD:CFn:=⟨106,[.tmp 4],(q [(.reg [o 2 (.box 6 (t 0)),o 4 (.mv (c (n 0)))]),
 (.reg [o 9 (f 0 2),o 10 (l 9),o 11 (.call 58 [(t 10)]),o 8 (m 11),o 12 (e 8 0),o 13 (e 8 1),o 5 (.alloc [.bf,.bf,.bf,.bf,.bf,.bf,(n 0)]),w (.store 7 (t 5) (t 12)),o 6 (m 13)]),
 (q [(.reg [o 14 (m 6),o 15 (.un .not (t 14))]),
 (i 15 (q [(.reg [o 4 (.mv (c (n 10)))]),
 .ret]) .skip)]),
 (q [(.reg [o 16 (f 0 5),o 17 (l 16),o 18 (f 4 2),o 19 (l 18),o 20 (m 1),o 21 (.call 147 [(t 17),(t 19),(t 20)]),o 22 (.un .not (t 21)),o 23 (m 22),g 24 23 false (f 1 5),g 25 23 false (l 24),g 26 23 false (f 5 2),g 27 23 false (l 26),g 28 23 false (m 1),g 29 23 false (.call 147 [(t 25),(t 27),(t 28)]),g 30 23 false (.un .not (t 29)),o 31 (pt 23 30)]),
 (i 31 (q [(.reg [o 4 (.mv (c (n 3)))]),
 .ret]) .skip)]),
 (q [(.reg [o 32 (f 2 5),o 33 (l 32),o 34 (m 33),g 35 34 false (f 3 5),g 36 34 false (l 35),o 37 (pt 34 36),o 38 (m 37),g 39 38 false (f 5 5),g 40 38 false (l 39),o 41 (pt 38 40),o 42 (.un .not (t 41)),o 43 (m 42),g 44 43 true (f 1 2),g 45 43 true (l 44),g 46 43 true (bc .neq 45 (n 0)),o 47 (pf 43 46),o 48 (m 47),g 49 48 false (f 5 5),g 50 48 false (l 49),g 51 48 false (.un .not (t 50)),g 52 48 false (m 51),g 53 52 true (f 2 2),g 54 52 true (l 53),g 55 52 true (bc .neq 54 (n 0)),g 56 48 false (pf 52 55),o 57 (pt 48 56),o 58 (m 57),g 59 58 false (f 4 5),g 60 58 false (l 59),g 61 58 false (.un .not (t 60)),g 62 58 false (m 61),g 63 62 true (f 3 2),g 64 62 true (l 63),g 65 62 true (bc .neq 64 (n 0)),g 66 58 false (pf 62 65),o 67 (pt 58 66)]),
 (i 67 (q [(.reg [o 4 (.mv (c (n 3)))]),
 .ret]) .skip)]),
 (.reg [o 7 (.mv (c (.fn zcM [])))]),
 (q [(.reg [o 68 (m 7),o 69 (f 2 5),o 70 (l 69),o 71 (f 1 2),o 72 (l 71),o 73 (.callv (t 68) [(t 70),(t 72),(c (n 0)),(c (n 7))]),o 74 (m 73),g 75 74 false (m 7),g 76 74 false (f 3 5),g 77 74 false (l 76),g 78 74 false (f 1 2),g 79 74 false (l 78),g 80 74 false (.callv (t 75) [(t 77),(t 79),(c (n 0)),(c (n 3))]),o 81 (pt 74 80),o 82 (m 81),g 83 82 false (m 7),g 84 82 false (f 5 5),g 85 82 false (l 84),g 86 82 false (f 1 2),g 87 82 false (l 86),g 88 82 false (.callv (t 83) [(t 85),(t 87),(c (n 0)),(c (n 7))]),o 89 (pt 82 88),o 90 (m 89),g 91 90 false (m 7),g 92 90 false (f 5 5),g 93 90 false (l 92),g 94 90 false (f 2 2),g 95 90 false (l 94),g 96 90 false (.callv (t 91) [(t 93),(t 95),(c (n 0)),(c (n 7))]),o 97 (pt 90 96),o 98 (m 97),g 99 98 false (m 7),g 100 98 false (f 4 5),g 101 98 false (l 100),g 102 98 false (f 3 2),g 103 98 false (l 102),g 104 98 false (.callv (t 99) [(t 101),(t 103),(c (n 1)),(c (n 15))]),o 105 (pt 98 104)]),
 (i 105 (q [(.reg [o 4 (.mv (c (n 2)))]),
 .ret]) .skip)]),
 (.reg [o 4 (.mv (c (n 0)))]),
 .ret])⟩
def zln:CFn:=⟨16,[.tmp 4],(q [(.reg [o 2 (.box 1 (t 0)),o 4 (.mv (c (.nils 6)))]),
 (.reg [o 5 (.alloc [(.nils 6)])]),
 (.reg [o 9 .mkmap,o 6 (.alloc [(.d .nil)]),w (.store 1 (t 6) (t 9))]),
 (.reg [o 10 .mkmap,o 7 (.alloc [(.d .nil)]),w (.store 1 (t 7) (t 10))]),
 (.reg [o 8 (.alloc [(.d .nil)])]),
 (.reg [o 11 (.fnew zj [(t 7),(t 2),(t 8),(t 6),(t 5)]),w (.store 1 (t 8) (t 11))]),
 (.reg [o 12 (l 8),o 13 (m 1),o 14 (.callv (t 12) [(t 13)])]),
 (.reg [o 15 (l 5),o 4 (m 15)]),
 .ret])⟩
def zmm:CFn:=⟨14,[.tmp 4],(q [(.reg [o 4 (.mv (c .bf))]),
 (.reg [o 5 (m 1),o 6 (bc .geq 5 (n 31)),o 7 (m 6),g 8 7 false (m 0),g 9 7 false (m 1),g 10 7 false (.mm true (t 9) (c (n 0))),g 11 7 false (b .shr 8 10),g 12 7 false (bc .eql 11 (n 0)),o 13 (pt 7 12),o 4 (m 13)]),
 .ret])⟩
def zml:CFn:=⟨5,[.tmp 2],(q [(.reg [o 2 (.mv (c (n 0)))]),
 (.reg [o 3 (m 0),o 4 (.call 29 [(t 3),(c (.fn zdy []))]),o 2 (m 4)]),
 .ret])⟩
def znq:CFn:=⟨5,[.tmp 2],(q [(.reg [o 2 (.mv (c (n 0)))]),
 (.reg [o 3 (m 0),o 4 (.call 29 [(t 3),(c (.fn zdW []))]),o 2 (m 4)]),
 .ret])⟩
def zoC:CFn:=⟨7,[.tmp 2],(q [(.reg [o 1 (.box 4 (t 0)),o 2 (.mv (c (u 0)))]),
 (.reg [o 3 (f 0 1),o 4 (l 3),o 5 (.bin .sub (c (n 64)) (t 4)),o 6 (.bin .shr (c (u 18446744073709551615)) (t 5)),o 2 (m 6)]),
 .ret])⟩
def zmi:CFn:=⟨10,[.tmp 6],(q [(.reg [o 3 (.box 4 (t 0)),o 4 (.box 1 (t 1)),o 5 (.box 1 (t 2)),o 6 (.mv (c (u 0)))]),
 (.reg [o 7 (la 4 3),o 8 (.fnew zce [(t 3),(t 4),(t 5)]),o 9 (.call 152 [(t 7),(t 8)]),o 6 (m 9)]),
 .ret])⟩
def zmh:CFn:=⟨30,[.tmp 6],(q [(.reg [o 3 (.box 4 (t 0)),o 6 (.mv (c (u 0)))]),
 (.reg [o 9 (la 4 3),o 10 (.call 112 [(t 9)]),o 7 (m 10)]),
 (q [(.reg [o 11 (f 2 3),o 12 (l 11),o 13 (ln 12),o 14 (.mv (c (n 0)))]),
 (.block 0 (.loop (q [(.reg [o 15 (b .lss 14 13)]),
 (i 15 .skip (.exit 0)),
 (.block 1 (q [(.reg [o 16 (m 14),o 8 (m 16)]),
 (.reg [o 17 (m 1),o 18 (m 8),o 19 (b .shr 17 18),o 20 (bc .and 19 (n 1)),o 21 (bc .eql 20 (n 1))]),
 (i 21 (.reg [o 22 (m 7),o 23 (la 4 3),o 24 (m 8),o 25 (m 2),o 26 (.call 113 [(t 23),(t 24),(t 25)]),o 27 (b .and 22 26),o 7 (m 27)]) .skip)])),
 (.reg [o 28 (bc .add 14 (n 1)),o 14 (m 28)])])))]),
 (.reg [o 29 (m 7),o 6 (m 29)]),
 .ret])⟩
def zli:CFn:=⟨29,[.tmp 8],(q [(.reg [o 4 (.box 4 (t 0)),o 8 (.mv (c (u 0)))]),
 (.reg [o 11 (la 4 4),o 12 (.call 112 [(t 11)]),o 9 (m 12)]),
 (.block 0 (.loop (.block 1 (q [(.regd [o 13 (la 4 4),o 14 (m 1),o 15 (la 4 4),o 16 (.call 112 [(t 15)]),o 17 (m 2),o 18 (b .andNot 16 17),o 19 (m 3),o 20 (m 9),o 21 (b .and 19 20),o 22 (b .or 18 21),o 23 (.call 114 [(t 13),(t 14),(t 22)]),o 10 (m 23)] [0,0,0,4,0,28,0,0,192,508,1023,2047]),
 (q [(.reg [o 24 (m 10),o 25 (m 9),o 26 (b .eql 24 25)]),
 (i 26 (q [(.reg [o 27 (m 9),o 8 (m 27)]),
 .ret]) .skip)]),
 (.reg [o 28 (m 10),o 9 (m 28)])]))))])⟩
def zjA:CFn:=⟨12,[.tmp 8],(q [(.reg [o 4 (.box 4 (t 0)),o 5 (.box 1 (t 1)),o 6 (.box 1 (t 2)),o 7 (.box 1 (t 3)),o 8 (.mv (c (u 0)))]),
 (.reg [o 9 (la 4 4),o 10 (.fnew zbC [(t 4),(t 5),(t 6),(t 7)]),o 11 (.call 152 [(t 9),(t 10)]),o 8 (m 11)]),
 .ret])⟩
def zlj:CFn:=⟨18,[.tmp 6],(q [(.reg [o 3 (.box 4 (t 0)),o 5 (.box 1 (t 2)),o 6 (.mv (c (u 0)))]),
 (.reg [o 10 (la 4 3),o 11 (m 1),o 12 (.call 157 [(t 10),(t 11)]),o 9 (m 12),o 13 (e 9 0),o 14 (e 9 1),o 7 (.alloc [(.nils 1)]),w (.store 1 (t 7) (t 13)),o 8 (m 14)]),
 (.reg [o 15 (la 4 3),o 16 (.fnew zb2 [(t 7),(t 5)]),o 17 (.call 152 [(t 15),(t 16)]),o 6 (m 17)]),
 .ret])⟩
def zmp:CFn:=⟨29,[.tmp 4],(q [(.reg [o 4 (.mv (c (n 0)))]),
 (q [(.reg [o 7 (m 0),o 8 (bc .lss 7 (n 0)),o 9 (m 8),g 10 9 false (m 0),g 11 9 false (bc .gtr 10 (n 64)),o 12 (pt 9 11)]),
 (i 12 (q [(.reg [o 4 (.mv (c (n 2)))]),
 .ret]) .skip)]),
 (q [(.reg [o 13 (m 1),o 14 (ln 13),o 15 (m 0),o 16 (b .neq 14 15)]),
 (i 16 (q [(.reg [o 4 (.mv (c (n 3)))]),
 .ret]) .skip)]),
 (q [(.reg [o 17 (m 1),o 18 (ln 17),o 19 (.mv (c (n 0)))]),
 (.block 0 (.loop (q [(.reg [o 20 (b .lss 19 18)]),
 (i 20 .skip (.exit 0)),
 (.block 1 (q [(.reg [o 21 (ia 1 17 19),o 22 (l 21),o 6 (m 22)]),
 (.reg [o 23 (m 6),o 24 (m 0),o 25 (.call 125 [(t 24)]),o 26 (b .andNot 23 25),o 27 (bc .neq 26 (u 0))]),
 (i 27 (q [(.reg [o 4 (.mv (c (n 1)))]),
 .ret]) .skip)])),
 (.reg [o 28 (bc .add 19 (n 1)),o 19 (m 28)])])))]),
 (.reg [o 4 (.mv (c (n 0)))]),
 .ret])⟩
def zoM:CFn:=⟨8,[.tmp 2],(q [(.reg [o 2 (.mv (c (u 0)))]),
 (q [(.reg [o 3 (m 0),o 4 (bc .geq 3 (n 64))]),
 (i 4 (q [(.reg [o 2 (.mv (c (u 18446744073709551615)))]),
 .ret]) .skip)]),
 (.reg [o 5 (m 0),o 6 (.bin .shl (c (u 1)) (t 5)),o 7 (bc .sub 6 (u 1)),o 2 (m 7)]),
 .ret])⟩
def zoG:CFn:=⟨64,[.tmp 6],(q [(.reg [o 3 (.box 3 (t 0)),o 6 (.mv (c (.nils 1)))]),
 (q [(.reg [o 11 (la 3 3),o 12 (.call 32 [(t 11)]),o 13 (bc .neq 12 (n 0)),o 14 (m 13),g 15 14 false (m 1),g 16 14 false (bc .lss 15 (n 1)),o 17 (pt 14 16),o 18 (m 17),g 19 18 false (m 1),g 20 18 false (f 2 3),g 21 18 false (l 20),g 22 18 false (ln 21),g 23 18 false (.bin .shl (c (n 1)) (t 22)),g 24 18 false (b .geq 19 23),o 25 (pt 18 24)]),
 (i 25 (q [(.reg [o 6 (.mv (c (.nils 1)))]),
 .ret]) .skip)]),
 (.reg [o 7 (.mv (c (.nils 1)))]),
 (q [(.reg [o 26 (f 2 3),o 27 (l 26),o 28 (ln 27),o 29 (.mv (c (n 0)))]),
 (.block 0 (.loop (q [(.reg [o 30 (b .lss 29 28)]),
 (i 30 .skip (.exit 0)),
 (.block 1 (q [(.reg [o 31 (m 29),o 32 (ia 1 27 29),o 33 (l 32),o 8 (m 31),o 9 (m 33)]),
 (q [(.reg [o 34 (m 1),o 35 (m 8),o 36 (b .shr 34 35),o 37 (bc .and 36 (n 1)),o 38 (bc .eql 37 (n 0))]),
 (i 38 (.exit 1) .skip)]),
 (q [(.reg [o 39 (m 7),o 40 (.eqN false (t 39) (c (.nils 1)))]),
 (i 40 (q [(.reg [o 41 (m 9),o 42 (.call 76 [(t 41)]),o 7 (m 42)]),
 (.exit 1)]) .skip)]),
 (.reg [o 43 (m 7),o 44 (ln 43),o 45 (.mv (c (n 0)))]),
 (.block 2 (.loop (q [(.reg [o 46 (b .lss 45 44)]),
 (i 46 .skip (.exit 2)),
 (.block 3 (q [(.reg [o 47 (m 45),o 10 (m 47)]),
 (.regd [o 48 (m 7),o 49 (m 10),o 50 (m 2),o 51 (m 7),o 52 (m 10),o 53 (ia 1 51 52),o 54 (l 53),o 55 (m 9),o 56 (m 10),o 57 (ia 1 55 56),o 58 (l 57),o 59 (.callv (t 50) [(t 54),(t 58)]),o 60 (ia 1 48 49),w (.store 1 (t 60) (t 59))] [0,0,0,0,0,24,56,0,0,384,896,2044,4095,8191])])),
 (.reg [o 61 (bc .add 45 (n 1)),o 45 (m 61)])])))])),
 (.reg [o 62 (bc .add 29 (n 1)),o 29 (m 62)])])))]),
 (.reg [o 63 (m 7),o 6 (m 63)]),
 .ret])⟩
def zoF:CFn:=⟨8,[.tmp 4],(q [(.reg [o 4 (.mv (c (u 0)))]),
 (.reg [o 5 (m 0),o 6 (m 1),o 7 (b .and 5 6),o 4 (m 7)]),
 .ret])⟩
def znv:CFn:=⟨8,[.tmp 4],(q [(.reg [o 4 (.mv (c (u 0)))]),
 (.reg [o 5 (m 0),o 6 (m 1),o 7 (b .or 5 6),o 4 (m 7)]),
 .ret])⟩
def zdV:CFn:=⟨19,[.tmp 4],(q [(.reg [o 4 (.mv (c (n 0)))]),
 (q [(.reg [o 6 (m 0),o 7 (ln 6),o 8 (.mv (c (n 0)))]),
 (.block 0 (.loop (q [(.reg [o 9 (b .lss 8 7)]),
 (i 9 .skip (.exit 0)),
 (.block 1 (q [(.reg [o 10 (m 8),o 5 (m 10)]),
 (.reg [o 11 (m 1),o 12 (m 0),o 13 (m 5),o 14 (ia 1 12 13),o 15 (l 14),o 16 (.callv (t 11) [(t 15)])]),
 (i 16 (q [(.reg [o 17 (m 5),o 4 (m 17)]),
 .ret]) .skip)])),
 (.reg [o 18 (bc .add 8 (n 1)),o 8 (m 18)])])))]),
 (.reg [o 4 (.mv (c (n (-1))))]),
 .ret])⟩
def zlo:CFn:=⟨25,[.tmp 6],(q [(.reg [o 6 (.mv (c .bf))]),
 (.reg [o 7 (m 0),o 8 (m 7),g 9 8 true (m 1),g 10 8 true (bc .geq 9 (n 0)),o 11 (pf 8 10),o 12 (m 11),g 13 12 true (m 1),g 14 12 true (m 2),g 15 12 true (b .lss 13 14),o 16 (pf 12 15),o 17 (m 16),g 18 17 false (m 0),g 19 17 false (.un .not (t 18)),g 20 17 false (m 19),g 21 20 true (m 1),g 22 20 true (bc .eql 21 (n 0)),g 23 17 false (pf 20 22),o 24 (pt 17 23),o 6 (m 24)]),
 .ret])⟩
def zhM:CFn:=⟨20,[.tmp 8],(q [(.reg [o 8 (.mv (c .bf))]),
 (.reg [o 9 (m 0),o 10 (m 9),g 11 10 true (m 1),g 12 10 true (m 2),g 13 10 true (b .lss 11 12),g 14 10 true (m 13),g 15 14 false (m 1),g 16 14 false (m 3),g 17 14 false (b .gtr 15 16),g 18 10 true (pt 14 17),o 19 (pf 10 18),o 8 (m 19)]),
 .ret])⟩
def zjC:CFn:=⟨68,[.tmp 7],(q [(.reg [o 7 (.mv (c (n 0)))]),
 (q [(.reg [o 16 (l 1),o 17 (m 0),o 18 (.look (.int .i64) [(n 0)] (t 16) (t 17) true),o 15 (m 18),o 19 (e 15 0),o 20 (e 15 1),o 8 (m 19),o 9 (m 20)]),
 (.reg [o 21 (m 9)]),
 (i 21 (q [(.reg [o 22 (m 8),o 7 (m 22)]),
 .ret]) .skip)]),
 (.reg [o 23 (l 2),o 24 (m 0),o 25 (ia 6 23 24),o 26 (la 6 25),o 10 (.alloc [(n 0),(n 0),(n 0),(n 0),(n 0),(n 0)]),w (.store 6 (t 10) (t 26))]),
 (.reg [o 28 (f 0 10),o 29 (l 28),o 30 (.call 58 [(t 29)]),o 27 (m 30),o 31 (e 27 0),o 32 (e 27 1),o 11 (.alloc [.bf,.bf,.bf,.bf,.bf,.bf,(n 0)]),w (.store 7 (t 11) (t 31)),o 12 (m 32)]),
 (q [(.reg [o 33 (f 0 11),o 34 (l 33)]),
 (i 34 (.reg [o 35 (l 3),o 36 (f 4 10),o 37 (l 36),o 38 (.callv (t 35) [(t 37)]),o 39 (f 4 10),w (.store 1 (t 39) (t 38))]) .skip)]),
 (q [(.reg [o 40 (f 1 11),o 41 (l 40)]),
 (i 41 (.reg [o 42 (l 3),o 43 (f 5 10),o 44 (l 43),o 45 (.callv (t 42) [(t 44)]),o 46 (f 5 10),w (.store 1 (t 46) (t 45))]) .skip)]),
 (.reg [o 48 (l 4),o 49 (la 6 10),o 50 (.look (.agg [(.int .i64),(.int .i64),(.int .i64),(.int .i64),(.int .i64),(.int .i64)]) [(n 0)] (t 48) (t 49) true),o 47 (m 50),o 51 (e 47 0),o 52 (e 47 1),o 13 (m 51),o 14 (m 52)]),
 (q [(.reg [o 53 (m 14),o 54 (.un .not (t 53))]),
 (i 54 (q [(.reg [o 55 (l 5),o 56 (ln 55),o 13 (m 56)]),
 (.reg [o 57 (l 5),o 58 (la 6 10),o 59 (.bslice 6 1 [(n 0),(n 0),(n 0),(n 0),(n 0),(n 0)] [(0,(t 58))]),o 60 (.app 6 48 (t 57) (t 59)),w (.store 1 (t 5) (t 60))]),
 (.reg [o 61 (l 4),o 62 (la 6 10),o 63 (m 13),w (.mupd (.agg [(.int .i64),(.int .i64),(.int .i64),(.int .i64),(.int .i64),(.int .i64)]) (t 61) (t 62) (t 63))])]) .skip)]),
 (.reg [o 64 (l 1),o 65 (m 0),o 66 (m 13),w (.mupd (.int .i64) (t 64) (t 65) (t 66))]),
 (.reg [o 67 (m 13),o 7 (m 67)]),
 .ret])⟩
def zjU:CFn:=⟨12,[.tmp 4],(q [(.reg [o 2 (.box 6 (t 0)),o 3 (.box 7 (t 1)),o 4 (.mv (c (n 0)))]),
 (q [(.reg [o 5 (f 3 3),o 6 (l 5)]),
 (i 6 (q [(.reg [o 7 (f 1 2),o 8 (l 7),o 9 (.bin .shl (c (n 1)) (t 8)),o 4 (m 9)]),
 .ret]) .skip)]),
 (.reg [o 10 (f 3 2),o 11 (l 10),o 4 (m 11)]),
 .ret])⟩
def zll:CFn:=⟨10,[.tmp 4],(q [(.reg [o 2 (.box 6 (t 0)),o 3 (.box 7 (t 1)),o 4 (.mv (c (n 0)))]),
 (q [(.reg [o 5 (f 2 3),o 6 (l 5)]),
 (i 6 (q [(.reg [o 7 (f 1 2),o 8 (l 7),o 9 (.bin .shl (c (n 1)) (t 8)),o 4 (m 9)]),
 .ret]) .skip)]),
 (.reg [o 4 (.mv (c (n 0)))]),
 .ret])⟩
def zmk:CFn:=⟨21,[.tmp 4],(q [(.reg [o 2 (.box 4 (t 0)),o 4 (.mv (c (u 0)))]),
 (.reg [o 5 (.mv (c (u 0)))]),
 (q [(.reg [o 7 (f 0 2),o 8 (l 7),o 9 (.mv (c (n 0)))]),
 (.block 0 (.loop (q [(.reg [o 10 (b .lss 9 8)]),
 (i 10 .skip (.exit 0)),
 (.block 1 (q [(.reg [o 11 (m 9),o 6 (m 11)]),
 (.reg [o 12 (m 1),o 13 (m 6),o 14 (.callv (t 12) [(t 13)])]),
 (i 14 (.reg [o 15 (m 5),o 16 (m 6),o 17 (.bin .shl (c (u 1)) (t 16)),o 18 (b .or 15 17),o 5 (m 18)]) .skip)])),
 (.reg [o 19 (bc .add 9 (n 1)),o 9 (m 19)])])))]),
 (.reg [o 20 (m 5),o 4 (m 20)]),
 .ret])⟩
def zjT:CFn:=⟨13,[.tmp 5],(q [(.reg [o 5 (.mv (c .bf))]),
 (.regd [o 6 (la 4 1),o 7 (l 2),o 8 (m 0),o 9 (.call 154 [(t 6),(t 7),(t 8)]),o 10 (l 3),o 11 (b .andNot 9 10),o 12 (bc .eql 11 (u 0)),o 5 (m 12)] [0,0,0,7,0,31,63,127]),
 .ret])⟩
def zq7:CFn:=⟨16,[.tmp 6],(q [(.reg [o 3 (.box 4 (t 0)),o 6 (.mv (c (u 0)))]),
 (q [(.reg [o 7 (la 4 3),o 8 (m 1),o 9 (m 2),o 10 (.call 179 [(t 7),(t 8),(t 9)]),o 11 (.un .not (t 10))]),
 (i 11 (q [(.reg [o 6 (.mv (c (u 0)))]),
 .ret]) .skip)]),
 (.reg [o 12 (la 4 3),o 13 (m 1),o 14 (m 2),o 15 (.call 44 [(t 12),(t 13),(t 14)]),o 6 (m 15)]),
 .ret])⟩
def zhL:CFn:=⟨15,[.tmp 6],(q [(.reg [o 6 (.mv (c .bf))]),
 (.regd [o 7 (la 4 1),o 8 (l 2),o 9 (m 0),o 10 (l 3),o 11 (.call 156 [(t 7),(t 8),(t 9),(t 10)]),o 12 (l 4),o 13 (b .andNot 11 12),o 14 (bc .eql 13 (u 0)),o 6 (m 14)] [0,0,0,0,15,0,63,127,255]),
 .ret])⟩
def zq6:CFn:=⟨26,[.tmp 8],(q [(.reg [o 4 (.box 4 (t 0)),o 8 (.mv (c (u 0)))]),
 (q [(.reg [o 9 (la 4 4),o 10 (m 1),o 11 (m 2),o 12 (.call 179 [(t 9),(t 10),(t 11)]),o 13 (.un .not (t 12))]),
 (i 13 (q [(.reg [o 8 (.mv (c (u 0)))]),
 .ret]) .skip)]),
 (.regd [o 14 (f 3 4),o 15 (l 14),o 16 (m 1),o 17 (ia 1 15 16),o 18 (l 17),o 19 (m 3),o 20 (la 4 4),o 21 (m 1),o 22 (m 2),o 23 (.call 44 [(t 20),(t 21),(t 22)]),o 24 (b .and 19 23),o 25 (.call 180 [(t 18),(t 24)]),o 8 (m 25)] [0,1,0,7,15,0,0,0,0,448,992,2047,4095]),
 .ret])⟩
def zoH:CFn:=⟨84,[.tmp 4,.tmp 5],(q [(.reg [o 2 (.box 4 (t 0)),o 4 (.mv (c (.nils 1))),o 5 (.mv (c (n 0)))]),
 (q [(.reg [o 10 (la 4 2),o 11 (.call 13 [(t 10)]),o 6 (m 11)]),
 (.reg [o 12 (m 6),o 13 (bc .neq 12 (n 0))]),
 (i 13 (q [(.reg [o 14 (m 6),o 4 (.mv (c (.nils 1))),o 5 (m 14)]),
 .ret]) .skip)]),
 (q [(.reg [o 15 (m 1),o 16 (bc .lss 15 (n 0)),o 17 (m 16),g 18 17 false (m 1),g 19 17 false (f 2 2),g 20 17 false (l 19),g 21 17 false (ln 20),g 22 17 false (b .geq 18 21),o 23 (pt 17 22)]),
 (i 23 (q [(.reg [o 4 (.mv (c (.nils 1))),o 5 (.mv (c (n 2)))]),
 .ret]) .skip)]),
 (.reg [o 24 (f 0 2),o 25 (l 24),o 26 (.mkslice 1 8 [(u 0)] (t 25) (t 25)),o 7 (m 26)]),
 (q [(.reg [o 27 (m 7),o 28 (ln 27),o 29 (.mv (c (n 0)))]),
 (.block 0 (.loop (q [(.reg [o 30 (b .lss 29 28)]),
 (i 30 .skip (.exit 0)),
 (.block 1 (q [(.reg [o 31 (m 29),o 8 (m 31)]),
 (.reg [o 32 (m 7),o 33 (ln 32),o 34 (.mv (c (n 0)))]),
 (.block 2 (.loop (q [(.reg [o 35 (b .lss 34 33)]),
 (i 35 .skip (.exit 2)),
 (.block 3 (q [(.reg [o 36 (m 34),o 9 (m 36)]),
 (.regd [o 37 (f 2 2),o 38 (l 37),o 39 (m 1),o 40 (ia 1 38 39),o 41 (l 40),o 42 (m 9),o 43 (ia 1 41 42),o 44 (l 43),o 45 (f 2 2),o 46 (l 45),o 47 (m 1),o 48 (ia 1 46 47),o 49 (l 48),o 50 (m 8),o 51 (ia 1 49 50),o 52 (l 51),o 53 (b .eql 44 52),o 54 (m 53),g 55 54 true (f 3 2),g 56 54 true (l 55),g 57 54 true (m 1),g 58 54 true (ia 1 56 57),g 59 54 true (l 58),g 60 54 true (m 9),g 61 54 true (ia 1 59 60),g 62 54 true (l 61),g 63 54 true (f 3 2),g 64 54 true (l 63),g 65 54 true (m 1),g 66 54 true (ia 1 64 65),g 67 54 true (l 66),g 68 54 true (m 8),g 69 54 true (ia 1 67 68),g 70 54 true (l 69),g 71 54 true (b .leq 62 70),o 72 (pf 54 71)] [0,1,0,7,15,0,63,127,0,256,0,1792,3840,0,16128,32512,65535,131071,262143,524287,262143,2097151,4194303,262143,16777215,33554431,262143,67371007,262143,470024191,1006895103,262143,4228120575,8523087871,17179869183,34359738367]),
 (i 72 (.regd [o 73 (m 7),o 74 (m 8),o 75 (ia 1 73 74),o 76 (l 75),o 77 (m 9),o 78 (.bin .shl (c (u 1)) (t 77)),o 79 (b .or 76 78),o 80 (ia 1 73 74),w (.store 1 (t 80) (t 79))] [0,0,3,7,0,16,63,127,255]) .skip)])),
 (.reg [o 81 (bc .add 34 (n 1)),o 34 (m 81)])])))])),
 (.reg [o 82 (bc .add 29 (n 1)),o 29 (m 82)])])))]),
 (.reg [o 83 (m 7),o 4 (m 83),o 5 (.mv (c (n 0)))]),
 .ret])⟩
def zjB:CFn:=⟨12,[.tmp 4],(q [(.reg [o 4 (.mv (c .bf))]),
 (.regd [o 5 (l 1),o 6 (m 0),o 7 (ia 1 5 6),o 8 (l 7),o 9 (l 2),o 10 (b .andNot 8 9),o 11 (bc .eql 10 (u 0)),o 4 (m 11)] [0,0,3,7,0,31,63,127]),
 .ret])⟩
def zqo:CFn:=⟨31,[.tmp 6],(q [(.reg [o 3 (.box 4 (t 0)),o 6 (.mv (c .bf))]),
 (.reg [o 7 (la 4 3),o 8 (.call 13 [(t 7)]),o 9 (bc .eql 8 (n 0)),o 10 (m 9),g 11 10 true (m 1),g 12 10 true (bc .geq 11 (n 0)),o 13 (pf 10 12),o 14 (m 13),g 15 14 true (m 1),g 16 14 true (f 2 3),g 17 14 true (l 16),g 18 14 true (ln 17),g 19 14 true (b .lss 15 18),o 20 (pf 14 19),o 21 (m 20),g 22 21 true (m 2),g 23 21 true (bc .geq 22 (n 0)),o 24 (pf 21 23),o 25 (m 24),g 26 25 true (m 2),g 27 25 true (f 0 3),g 28 25 true (l 27),g 29 25 true (b .lss 26 28),o 30 (pf 25 29),o 6 (m 30)]),
 .ret])⟩
def zoI:CFn:=⟨43,[.tmp 4],(q [(.reg [o 4 (.mv (c (u 0)))]),
 (.reg [o 5 (.mv (c (u 0))),o 6 (.mv (c (n 0)))]),
 (q [(.reg [o 9 (m 0),o 10 (ln 9),o 11 (.mv (c (n 0)))]),
 (.block 0 (.loop (q [(.reg [o 12 (b .lss 11 10)]),
 (i 12 .skip (.exit 0)),
 (.block 1 (q [(.reg [o 13 (m 11),o 14 (ia 1 9 11),o 15 (l 14),o 7 (m 13),o 8 (m 15)]),
 (.block 2 (q [(.reg [o 17 (m 1),o 18 (m 7),o 19 (b .shr 17 18),o 20 (bc .and 19 (u 1)),o 21 (bc .eql 20 (u 0)),o 16 (m 21)]),
 (i 16 .skip (q [(.reg [o 23 (m 5),o 24 (bc .eql 23 (u 0)),o 25 (m 24),g 26 25 false (m 8),g 27 25 false (m 6),g 28 25 false (b .lss 26 27),o 29 (pt 25 28),o 22 (m 29)]),
 (i 22 (.reg [o 30 (m 7),o 31 (.bin .shl (c (u 1)) (t 30)),o 32 (m 8),o 5 (m 31),o 6 (m 32)]) (q [(.reg [o 34 (m 8),o 35 (m 6),o 36 (b .eql 34 35),o 33 (m 36)]),
 (i 33 (.reg [o 37 (m 5),o 38 (m 7),o 39 (.bin .shl (c (u 1)) (t 38)),o 40 (b .or 37 39),o 5 (m 40)]) .skip)]))]))]))])),
 (.reg [o 41 (bc .add 11 (n 1)),o 11 (m 41)])])))]),
 (.reg [o 42 (m 5),o 4 (m 42)]),
 .ret])⟩
end Go.Ab
namespace Go.Ab
open Go Go.Proofs
theorem zt:Tryz.prog.follows .mixedOrders=true:=by kernel_rfl
theorem znU:zm Tryz.prog zg7=some znn:=by kernel_rfl
theorem znY:zm Tryz.prog zha=some znr:=by kernel_rfl
theorem zkv:zm Tryz.prog zfx=some zjX:=by kernel_rfl
theorem zqv:zm Tryz.prog zfG=some zqn:=by kernel_rfl
theorem zlB:zm Tryz.prog zfW=some zlq:=by kernel_rfl
theorem zls:zm Tryz.prog zfO=some zlg:=by kernel_rfl
theorem zpa:zm Tryz.prog zh4=some zoN:=by kernel_rfl
theorem zjL:zm Tryz.prog zeT=some zjF:=by kernel_rfl
theorem zoZ:zm Tryz.prog zhU=some zoB:=by kernel_rfl
theorem znZ:zm Tryz.prog zhb=some zns:=by kernel_rfl
theorem zlx:zm Tryz.prog zdX=some zlm:=by kernel_rfl
theorem zqt:zm Tryz.prog zjt=some zql:=by kernel_rfl
theorem zmN:zm Tryz.prog zgL=some zmn:=by kernel_rfl
theorem zgP:zm Tryz.prog zdz=some zgz:=by kernel_rfl
theorem zqx:zm Tryz.prog zjv=some zqp:=by kernel_rfl
theorem zmH:zm Tryz.prog zgH=some zmg:=by kernel_rfl
theorem zo7:zm Tryz.prog zh1=some zoK:=by kernel_rfl
theorem zjK:zm Tryz.prog zb3=some zjE:=by kernel_rfl
theorem zo6:zm Tryz.prog zh0=some zoJ:=by kernel_rfl
theorem zmO:zm Tryz.prog zgM=some zmo:=by kernel_rfl
theorem zg1:zm Tryz.prog zdT=some zg0:=by kernel_rfl
theorem zlt:zm Tryz.prog zfP=some zlh:=by kernel_rfl
theorem znV:zm Tryz.prog zeI=some zno:=by kernel_rfl
theorem zlw:zm Tryz.prog zfS=some zlk:=by kernel_rfl
theorem zif:zm Tryz.prog zU=some zoE:=by kernel_rfl
theorem zn5:zm Tryz.prog zhd=some zny:=by kernel_rfl
theorem zdc:zm Tryz.prog zbg=some zc7:=by kernel_rfl
theorem zn1:zm Tryz.prog zdm=some znu:=by kernel_rfl
theorem zsQ:zm Tryz.prog zlH=some zsv:=by kernel_rfl
theorem zn4:zm Tryz.prog zhc=some znx:=by kernel_rfl
theorem zn3:zm Tryz.prog zeK=some znw:=by kernel_rfl
theorem zsR:zm Tryz.prog zlI=some zsw:=by kernel_rfl
theorem zdb:zm Tryz.prog zbJ=some zfF:=by kernel_rfl
theorem znW:zm Tryz.prog zg8=some znp:=by kernel_rfl
theorem zo1:zm Tryz.prog zhW=some zoD:=by kernel_rfl
theorem zmK:zm Tryz.prog zee=some zmj:=by kernel_rfl
theorem zcj:zm Tryz.prog za9=some zeD:=by kernel_rfl
theorem ze4:zm Tryz.prog zcN=some zeY:=by kernel_rfl
theorem zkt:zm Tryz.prog zbv=some zjV:=by kernel_rfl
theorem zo8:zm Tryz.prog zh2=some zoL:=by kernel_rfl
theorem zku:zm Tryz.prog zfw=some zjW:=by kernel_rfl
theorem zrO:zm Tryz.prog zj9=some zq4:=by kernel_rfl
theorem zqu:zm Tryz.prog zju=some zqm:=by kernel_rfl
theorem zmG:zm Tryz.prog zgG=some zmf:=by kernel_rfl
theorem zqs:zm Tryz.prog zjs=some zqk:=by kernel_rfl
theorem zdp:zm Tryz.prog zbq=some zdo:=by kernel_rfl
theorem zlA:zm Tryz.prog zcD=some zlp:=by kernel_rfl
theorem zdB:zm Tryz.prog zbw=some zdt:=by kernel_rfl
theorem zrP:zm Tryz.prog zka=some zq5:=by kernel_rfl
theorem zn0:zm Tryz.prog zdl=some znt:=by kernel_rfl
theorem zjJ:zm Tryz.prog zdg=some zjD:=by kernel_rfl
theorem zly:zm Tryz.prog zfT=some zln:=by kernel_rfl
theorem zmM:zm Tryz.prog zef=some zmm:=by kernel_rfl
theorem zmL:zm Tryz.prog zgK=some zml:=by kernel_rfl
theorem znX:zm Tryz.prog zg9=some znq:=by kernel_rfl
theorem zo0:zm Tryz.prog zhV=some zoC:=by kernel_rfl
theorem zmJ:zm Tryz.prog zgJ=some zmi:=by kernel_rfl
theorem zmI:zm Tryz.prog zgI=some zmh:=by kernel_rfl
theorem zlu:zm Tryz.prog zfQ=some zli:=by kernel_rfl
theorem zjH:zm Tryz.prog zeS=some zjA:=by kernel_rfl
theorem zlv:zm Tryz.prog zfR=some zlj:=by kernel_rfl
theorem zmP:zm Tryz.prog zeg=some zmp:=by kernel_rfl
theorem zo9:zm Tryz.prog zh3=some zoM:=by kernel_rfl
theorem zo3:zm Tryz.prog zhX=some zoG:=by kernel_rfl
theorem zo2:zm Tryz.prog ze1=some zoF:=by kernel_rfl
theorem zn2:zm Tryz.prog zeJ=some znv:=by kernel_rfl
theorem zdY:zm Tryz.prog zbM=some zdV:=by kernel_rfl
theorem zlz:zm Tryz.prog zfU=some zlo:=by kernel_rfl
theorem zie:zm Tryz.prog zcM=some zhM:=by kernel_rfl
theorem zO:zm Tryz.prog zj=some zjC:=by kernel_rfl
theorem zfB:zm Tryz.prog zdy=some zjU:=by kernel_rfl
theorem zfX:zm Tryz.prog zdW=some zll:=by kernel_rfl
theorem zej:zm Tryz.prog zc0=some zmk:=by kernel_rfl
theorem zks:zm Tryz.prog zce=some zjT:=by kernel_rfl
theorem zrR:zm Tryz.prog zkc=some zq7:=by kernel_rfl
theorem zid:zm Tryz.prog zbC=some zhL:=by kernel_rfl
theorem zrQ:zm Tryz.prog zkb=some zq6:=by kernel_rfl
theorem zo4:zm Tryz.prog zhY=some zoH:=by kernel_rfl
theorem zjI:zm Tryz.prog zb2=some zjB:=by kernel_rfl
theorem zqw:zm Tryz.prog zfH=some zqo:=by kernel_rfl
theorem zo5:zm Tryz.prog zhZ=some zoI:=by kernel_rfl
end Go.Ab
namespace Go.Ab
open Go Go.Proofs
set_option maxRecDepth 10000
set_option maxHeartbeats 4000000
variable {T:Nat→Obj→Prop}
def zM (n:Int):BitVec 64:=if n ≥ 64 then -1 else (1#64 <<< n.toNat) - 1#64
theorem zkj (n:Int) (h:0≤n):Fn Tryz.prog T zlI [.d (.int .i64 n)] [] (.d (.u64 (zM n))) []:=by
 refine zd zt zsR (by show 1≤8;decide) ?_
 (repeat' ((conv=>whnf);first|refine vA ?_|(refine vF ?_ ?_<;>intro hc<;>try simp only [vL] at hc)|refine vT ?_|(refine vP ?_ ?_;·omega)|refine vY ?_));all_goals try conv=>whnf
 ·simp [zM, *]
 ·rw [zM,if_neg (by omega)];rfl
theorem zhh (n:Int) (h:0≤n):Fn Tryz.prog T zh3 [.d (.int .i64 n)] [] (.d (.u64 (zM n))) []:=by
 refine zd zt zo9 (by show 1≤8;decide) ?_
 (repeat' ((conv=>whnf);first|refine vA ?_|(refine vF ?_ ?_<;>intro hc<;>try simp only [vL] at hc)|refine vT ?_|(refine vP ?_ ?_;·omega)|refine vY ?_));all_goals try conv=>whnf
 ·simp [zM, *]
 ·rw [zM,if_neg (by omega)];rfl
def bad (n:Int) (s:BitVec 64):Bool:=s &&& ~~~ (zM n)≠0
def zbc (worlds agents:Int) (val:List (BitVec 64)):Int :=
 if worlds < 1∨64 < worlds then 2 else if 8 < val.length∨4 < agents then 8 else if val.any (bad worlds) then 3 else 0
theorem zoW (worlds agents:Int) (val:List (BitVec 64)):Fn Tryz.prog T zjv [.d (.int .i64 worlds),.d (.int .i64 agents),.d (dU val)] [] (.d (.int .i64 (zbc worlds agents val))) []:=by
 refine zd zt zqx (by show 3≤34;decide) ?_
 (repeat' ((conv=>whnf);first|refine vA ?_|(refine vF ?_ ?_<;>intro hc<;>try simp only [vL] at hc)|refine vJ fun hg=>?_|refine vT ?_|refine vX ?_));all_goals try conv=>whnf
 ·simp [zbc, *]
 ·simp [zbc, *]
 ·rw [zbc,if_neg (by omega),if_pos (by omega)]
 ·rw [zbc,if_neg (by omega),if_pos (by omega)]
 ·refine zar (fun (k:Nat)=>[(0,.d (.int .i64 (worlds))),(22,.d (dU val)),(23,.d (.int .i64 ((val.map D.u64).length:Int))),(24,.d (.int .i64 ((k:Int))))]) (fun (k:Nat)=>k≤val.length∧val.any (bad worlds)=(val.drop k).any (bad worlds)) (fun (k:Nat)=>val.length - k) (0) (⟨by simp,by simp⟩) (by (repeat' first|exact trivial|exact rfl|refine And.intro ?_ ?_)) ?_
  rintro k ⟨hk,hI⟩
  (repeat' ((conv=>whnf);first|refine vA ?_|((first|refine vD ?_ ?_|refine vF ?_ ?_)<;>intro hc<;>try simp only [vL] at hc)|refine vT ?_|(refine vQ ?_ fun x hx=>?_;·omega)|(refine vO ?_ ?_;·omega)|refine vX ?_|(refine yD (zkj _ ?_) ⟨⟨rfl,rfl⟩,rfl⟩ rfl ?_;(·omega))|fail));all_goals try conv=>whnf
  ·have hb:bad worlds x=true:=by simpa [bad] using hc
   rw [zbc,if_neg (by omega),if_neg (by omega),hI,zaG hx];simp [hb]
  ·have hb:bad worlds x=false:=by simpa [bad] using hc
   exact ⟨k+1,[],[],⟨by (omega),by rw [hI,zaG hx];simp [hb]⟩,by (omega),by (refine ⟨rfl,rfl,rfl,?_,?_⟩;repeat' first|exact trivial|exact rfl|refine And.intro ?_ ?_)⟩
  ·rw [zbc,if_neg (by omega),if_neg (by omega),hI,List.drop_eq_nil_of_le (by omega)];simp
structure PM where
 W:Int
 val:List (BitVec 64)
 cell:List (List Int)
 rank:List (List Int)
 deriving DecidableEq
abbrev dPM (p:PM):D := .agg [.int .i64 p.W,dU p.val,dII p.cell,dII p.rank]
theorem zoy (s:BitVec 64) (n:Nat):(s >>> n)&&&1#64=1#64↔s.getLsbD n=true:=by
 constructor
 ·intro h
  have:=congrArg (fun x=>x.getLsbD 0) h
  simpa using this
 ·intro h
  apply BitVec.eq_of_getLsbD_eq
  intro i hi
  by_cases h0:i=0
  ·subst h0;simpa using h
  ·simp [h0]
theorem zmd (s:BitVec 64) (n:Nat):(s >>> n)&&&1#64=0#64↔s.getLsbD n=false:=by
 constructor
 ·intro h
  have:=congrArg (fun x=>x.getLsbD 0) h
  simpa using this
 ·intro h
  apply BitVec.eq_of_getLsbD_eq
  intro i hi
  by_cases h0:i=0
  ·subst h0;simpa using h
  ·simp [h0]
@[irreducible] def bit (s:BitVec 64) (i:Nat):Bool:=s.getLsbD i
def at0 (l:List Int) (i:Nat):Int:=l.getD i 0
theorem zY {l:List Int} {i:Nat} {x:Int} (h:l[i]? = some x):at0 l i=x:=by simp [at0,List.getD,h]
theorem zdN {l:List Int} {i:Nat} (h:i < l.length):l[i]? = some (at0 l i):=by simp [at0,List.getD,h]
abbrev ztA (cell:List Int):Prop := ∀ w,w < cell.length→0≤at0 cell w∧at0 cell w≤w∧at0 cell (at0 cell w).toNat=at0 cell w
abbrev znb (cell rank:List Int):Prop := ∀ w,w < cell.length→0≤at0 rank w∧(at0 rank w=0 ∨ ∃ v,v < cell.length∧at0 cell v=at0 cell w∧at0 rank v=at0 rank w - 1)
end Go.Ab
namespace Go.Ab
open Go Go.Proofs
set_option maxRecDepth 10000
set_option maxHeartbeats 4000000
variable {T:Nat→Obj→Prop}
def zF (f:Nat→Bool):Nat→BitVec 64
 | 0=>0#64
 | k+1=>if f k then zF f k|||1#64 <<< k else zF f k
theorem zoz (k i:Nat):(1#64 <<< k).getLsbD i=(decide (i < 64)&&decide (i=k)):=by
 rw [BitVec.getLsbD_shiftLeft]
 by_cases h:i < 64
 ·by_cases h1:i < k
  ·simp [h,h1];omega
  ·by_cases h2:i=k
   ·subst h2;simp [h]
   ·have:i - k≠0:=by omega
    simp [h,h1,h2,this]
 ·simp [h]
theorem zes (f:Nat→Bool) : ∀ (n i:Nat),(zF f n).getLsbD i=(decide (i < 64)&&decide (i < n)&&f i)
 | 0,i=>by simp [zF]
 | n+1,i=>by
  have ih:=zes f n i
  unfold zF
  split
  ·rename_i h
   rw [BitVec.getLsbD_or,ih,zoz]
   by_cases h1:i=n
   ·subst h1;simp [h]
   ·by_cases h2:i < n
    ·simp [h1,h2,show i < n+1 by omega]
    ·simp [h1,h2,show ¬ i < n+1 by omega]
  ·rename_i h
   rw [ih]
   by_cases h1:i=n
   ·subst h1;simp [h]
   ·by_cases h2:i < n
    ·simp [h2,show i < n+1 by omega]
    ·simp [h2,show ¬ i < n+1 by omega]
def zcI (row:List Int) (w:Nat):BitVec 64:=zF (fun v=>at0 row v==at0 row w) row.length
theorem zkh (p:PM) (a w:Int) (row:List Int) (ha:0≤a) (hr:p.cell[a.toNat]? = some row) (hw:0≤w) (hw':w < row.length):Fn Tryz.prog T zh0 [.d (dPM p),.d (.int .i64 a),.d (.int .i64 w)] [] (.d (.u64 (zcI row w.toNat))) []:=by
 refine zd zt zo6 (by show 3≤37;decide) ?_
 (repeat' ((conv=>whnf);first|refine vA ?_|refine vJ fun hg=>?_|refine vT ?_|(refine vR ?_ ‹_› ?_;·omega)|fail));all_goals try conv=>whnf
 refine zA (fun ((k,s):Nat×BitVec 64)=>[(1,.d (.int .i64 (a))),(2,.d (.int .i64 (w))),(3,.ptr 0 0),(14,.d (dI row)),(15,.d (.int .i64 ((row.map (D.int .i64)).length:Int))),(7,.d (.u64 (s))),(16,.d (.int .i64 ((k:Int))))]) (fun ((k,s):Nat×BitVec 64)=>[(0,some (.box [.d (.int .i64 p.W),.d (dU p.val),.d (dII p.cell),.d (dII p.rank)]))]) 1 (fun ((k,s):Nat×BitVec 64)=>k≤row.length∧s=zF (fun v=>at0 row v==at0 row w.toNat) k) (fun ((k,s):Nat×BitVec 64)=>row.length - k) ((0,0#64)) [(0,0)] [] (⟨by simp,rfl⟩) (by (refine ⟨rfl,rfl,rfl,?_,?_⟩;repeat' first|exact trivial|exact rfl|refine And.intro ?_ ?_|refine ⟨_,rfl,?_⟩|decide)) ?_
 rintro ⟨k,s⟩ ⟨hk,hI⟩
 (repeat' ((conv=>whnf);first|refine vA ?_|(refine vF ?_ ?_<;>intro hc<;>try simp only [vL] at hc)|refine vT ?_|(refine vQ ?_ fun x hx=>?_;·omega)|((first|refine vO ?_ ?_|refine vR ?_ ‹_› ?_|refine vS ?_ fun x hx=>?_|refine vP ?_ ?_);·omega)|refine vY ?_));all_goals try conv=>whnf
 ·have h1:=zY ‹row[k]? = some _›
  have h2:=zY hx
  refine ⟨(k+1,_),[(0,0)],[],?_,?_,by (refine ⟨rfl,rfl,rfl,?_,?_⟩;repeat' first|exact trivial|exact rfl|refine And.intro ?_ ?_|refine ⟨_,rfl,?_⟩|decide)⟩
  ·exact ⟨by (omega),by rw [zF,if_pos (by simp;omega),hI];rfl⟩
  ·((simp only [vM] at *;omega))
 ·have h1:=zY ‹row[k]? = some _›
  have h2:=zY hx
  exact ⟨(k+1,s),[(0,0)],[],⟨by (omega),by rw [zF,if_neg (by simp;omega),hI]⟩,by ((simp only [vM] at *;omega)),by (refine ⟨rfl,rfl,rfl,?_,?_⟩;repeat' first|exact trivial|exact rfl|refine And.intro ?_ ?_|refine ⟨_,rfl,?_⟩|decide)⟩
 ·rw [hI,show k=row.length by omega];rfl
def zbE (rank:List Int) (s:BitVec 64) (n v:Nat):Bool:=s.getLsbD v&&decide (∀ u,u < n→s.getLsbD u=true→at0 rank v≤at0 rank u)
def zs6 (rank:List Int) (s:BitVec 64):BitVec 64:=zF (zbE rank s rank.length) rank.length
theorem ziR {s:BitVec 64} {n:Nat} (h : ¬(s >>> n)&&&1#64=0#64):s.getLsbD n=true:=by
 rw [zmd] at h;simpa using h
theorem zsT {rank:List Int} {s:BitVec 64} {n v:Nat} : zbE rank s n v=true↔s.getLsbD v=true ∧ ∀ u,u < n→s.getLsbD u=true→at0 rank v≤at0 rank u:=by
 simp [zbE]
theorem zcs {rank:List Int} {s:BitVec 64} {n i:Nat} : (zF (zbE rank s n) n).getLsbD i=true↔i < n∧s.getLsbD i=true ∧ ∀ u,u < n→s.getLsbD u=true→at0 rank i≤at0 rank u:=by
 rw [zes]
 simp only [Bool.and_eq_true,decide_eq_true_eq,zsT]
 constructor
 ·rintro ⟨⟨_,h1⟩,h2⟩;exact ⟨h1,h2⟩
 ·rintro ⟨h1,h2⟩;exact ⟨⟨by have:=BitVec.lt_of_getLsbD h2.1;exact this,h1⟩,h2⟩
theorem zgy {x y:BitVec 64} (h : ∀ i,i < 64→(x.getLsbD i=true↔y.getLsbD i=true)):x=y :=
 BitVec.eq_of_getLsbD_eq fun i hi=>Bool.eq_iff_iff.2 (h i hi)
def zfY (rank:List Int) (s:BitVec 64) (k:Nat) (m:Int):Prop:=(∃ v,v < k∧s.getLsbD v=true)→(∃ v,v < k∧s.getLsbD v=true∧at0 rank v=m) ∧ ∀ v,v < k→s.getLsbD v=true→m≤at0 rank v
theorem zg4 {rank:List Int} {s:BitVec 64} {k:Nat} {m:Int} (hM:zfY rank s k m):zF (zbE rank s k) k=0#64 ↔ ¬∃ v,v < k∧s.getLsbD v=true:=by
 constructor
 ·intro h hv
  obtain ⟨⟨v,h1,h2,h3⟩,h4⟩:=hM hv
  have:(zF (zbE rank s k) k).getLsbD v=true:=zcs.2 ⟨h1,h2,fun u hu hs=>by rw [h3];exact h4 u hu hs⟩
  rw [h] at this;simp at this
 ·intro h
  refine zgy fun i hi=>⟨fun hb=>?_,fun hb=>by simp at hb⟩
  exact absurd ⟨i,(zcs.1 hb).1,(zcs.1 hb).2.1⟩ h
theorem zuG {rank:List Int} {s:BitVec 64} {k:Nat} (hs:s.getLsbD k=false):zF (zbE rank s (k+1)) (k+1)=zF (zbE rank s k) k:=by
 refine zgy fun i hi=>?_
 rw [zcs,zcs]
 constructor
 ·rintro ⟨h1,h2,h3⟩
  have:i≠k:=fun e=>by rw [e,hs] at h2;cases h2
  exact ⟨by omega,h2,fun u hu=>h3 u (by omega)⟩
 ·rintro ⟨h1,h2,h3⟩
  refine ⟨by omega,h2,fun u hu hsu=>?_⟩
  have:u≠k:=fun e=>by rw [e,hs] at hsu;cases hsu
  exact h3 u (by omega) hsu
theorem zua {rank:List Int} {s:BitVec 64} {k:Nat} {m:Int} (hM:zfY rank s k m) (hs:s.getLsbD k=false):zfY rank s (k+1) m:=by
 have key : ∀ v,v < k+1→s.getLsbD v=true→v < k:=fun v hv h=>by
  have:v≠k:=fun e=>by rw [e,hs] at h;cases h
  omega
 rintro ⟨v,h1,h2⟩
 obtain ⟨⟨u,h3,h4⟩,h5⟩:=hM ⟨v,key v h1 h2,h2⟩
 exact ⟨⟨u,by omega,h4⟩,fun v hv h=>h5 v (key v hv h) h⟩
theorem zqY {rank:List Int} {s:BitVec 64} {k:Nat} (hk:k < 64) (hs:s.getLsbD k=true) (h : ∀ v,v < k→s.getLsbD v=true→at0 rank k < at0 rank v):zF (zbE rank s (k+1)) (k+1)=1#64 <<< k:=by
 refine zgy fun i hi=>?_
 rw [zcs,zoz]
 simp only [Bool.and_eq_true,decide_eq_true_eq]
 constructor
 ·rintro ⟨h1,h2,h3⟩
  refine ⟨hi,?_⟩
  by_cases e:i=k
  ·exact e
  ·have:=h i (by omega) h2
   have:=h3 k (by omega) hs
   omega
 ·rintro ⟨_,rfl⟩
  refine ⟨by omega,hs,fun u hu hsu=>?_⟩
  by_cases e:u=i
  ·rw [e];omega
  ·have:=h u (by omega) hsu;omega
theorem zpR {rank:List Int} {s:BitVec 64} {k:Nat} (hs:s.getLsbD k=true) (h : ∀ v,v < k→s.getLsbD v=true→at0 rank k < at0 rank v):zfY rank s (k+1) (at0 rank k):=by
 rintro _
 refine ⟨⟨k,by omega,hs,rfl⟩,fun v hv hsv=>?_⟩
 by_cases e:v=k
 ·rw [e];omega
 ·have:=h v (by omega) hsv;omega
theorem zuE {rank:List Int} {s:BitVec 64} {k:Nat} {m:Int} (hk:k < 64) (hs:s.getLsbD k=true) (hM:zfY rank s k m) (hv : ∃ v,v < k∧s.getLsbD v=true) (e:at0 rank k=m) :
  zF (zbE rank s (k+1)) (k+1)=zF (zbE rank s k) k|||1#64 <<< k:=by
 obtain ⟨⟨w,w1,w2,w3⟩,w4⟩:=hM hv
 refine zgy fun i hi=>?_
 rw [BitVec.getLsbD_or,Bool.or_eq_true,zcs,zcs,zoz]
 simp only [Bool.and_eq_true,decide_eq_true_eq]
 constructor
 ·rintro ⟨h1,h2,h3⟩
  by_cases e:i=k
  ·exact .inr ⟨hi,e⟩
  ·exact .inl ⟨by omega,h2,fun u hu=>h3 u (by omega)⟩
 ·rintro (⟨h1,h2,h3⟩|⟨_,rfl⟩)
  ·refine ⟨by omega,h2,fun u hu hsu=>?_⟩
   by_cases e':u=k
   ·rw [e',e,← w3];exact h3 w w1 w2
   ·exact h3 u (by omega) hsu
  ·refine ⟨by omega,hs,fun u hu hsu=>?_⟩
   by_cases e':u=i
   ·rw [e'];omega
   ·have:=w4 u (by omega) hsu;omega
theorem zn6 {rank:List Int} {s:BitVec 64} {k:Nat} {m:Int} (hM:zfY rank s k m) (hv : ∃ v,v < k∧s.getLsbD v=true) (e:m≤at0 rank k):zfY rank s (k+1) m:=by
 obtain ⟨⟨w,w1,w2⟩,w4⟩:=hM hv
 refine fun _=>⟨⟨w,by omega,w2⟩,fun v hv hsv=>?_⟩
 by_cases e':v=k
 ·rw [e'];exact e
 ·exact w4 v (by omega) hsv
theorem zuF {rank:List Int} {s:BitVec 64} {k:Nat} {m:Int} (hs:s.getLsbD k=true) (hM:zfY rank s k m) (hv : ∃ v,v < k∧s.getLsbD v=true) (e:m < at0 rank k) :
  zF (zbE rank s (k+1)) (k+1)=zF (zbE rank s k) k:=by
 obtain ⟨⟨w,w1,w2,w3⟩,w4⟩:=hM hv
 refine zgy fun i hi=>?_
 rw [zcs,zcs]
 constructor
 ·rintro ⟨h1,h2,h3⟩
  have:i≠k:=fun e'=>by have:=h3 w (by omega) w2;rw [e'] at this;omega
  exact ⟨by omega,h2,fun u hu=>h3 u (by omega)⟩
 ·rintro ⟨h1,h2,h3⟩
  refine ⟨by omega,h2,fun u hu hsu=>?_⟩
  by_cases e':u=k
  ·have:=h3 w w1 w2;rw [e'];omega
  ·exact h3 u (by omega) hsu
theorem zuZ (rank:List Int) (s:BitVec 64) (hl:rank.length≤64):Fn Tryz.prog T zhZ [.d (dI rank),.d (.u64 s)] [] (.d (.u64 (zs6 rank s))) []:=by
 refine zd zt zo5 (by show 2≤43;decide) ?_
 (repeat' ((conv=>whnf);first|refine vA ?_|refine vJ fun hg=>?_|refine vT ?_));all_goals try conv=>whnf
 refine zar (fun ((k,o,m):Nat×BitVec 64×Int)=>[(1,.d (.u64 (s))),(9,.d (dI rank)),(10,.d (.int .i64 ((rank.map (D.int .i64)).length:Int))),(5,.d (.u64 (o))),(6,.d (.int .i64 (m))),(11,.d (.int .i64 ((k:Int))))]) (fun ((k,o,m):Nat×BitVec 64×Int)=>k≤rank.length∧o=zF (zbE rank s k) k∧zfY rank s k m) (fun ((k,o,m):Nat×BitVec 64×Int)=>rank.length - k) ((0,0#64,0)) (⟨by simp,rfl,fun ⟨v,h,_⟩=>by omega⟩) (by (repeat' first|exact trivial|exact rfl|refine And.intro ?_ ?_)) ?_
 rintro ⟨k,o,m⟩ ⟨hk,hI,hM⟩
 (repeat' ((conv=>whnf);first|refine vA ?_|(refine vF ?_ ?_<;>intro hc<;>try simp only [vL] at hc)|refine vT ?_|(refine vQ ?_ fun x hx=>?_;·omega)|((first|refine vO ?_ ?_|refine vP ?_ ?_);·omega)|refine vY ?_));all_goals try conv=>whnf
 ·have hb:=(zmd s k).1 hc
  exact ⟨(k+1,o,m),[],[],⟨by (omega),by rw [zuG hb,hI],zua hM hb⟩,by ((simp only [vM] at *;omega)),by (refine ⟨rfl,rfl,rfl,?_,?_⟩;repeat' first|exact trivial|exact rfl|refine And.intro ?_ ?_)⟩
 ·have hb:s.getLsbD k=true:=ziR ‹¬s >>> (k:Int).toNat&&&1=0›
  have h0:=zY hx
  subst h0
  have hn:=(zg4 hM).1 (hI▸hc)
  have hn' : ∀ v,v < k→s.getLsbD v=true→at0 rank k < at0 rank v:=fun v h1 h2=>absurd ⟨v,h1,h2⟩ hn
  exact ⟨(k+1,1#64 <<< k,at0 rank k),[],[],⟨by (omega),(zqY (by omega) hb hn').symm,zpR hb hn'⟩,by ((simp only [vM] at *;omega)),by (refine ⟨rfl,rfl,rfl,?_,?_⟩;repeat' first|exact trivial|exact rfl|refine And.intro ?_ ?_)⟩
 ·have hb:s.getLsbD k=true:=ziR ‹¬s >>> (k:Int).toNat&&&1=0›
  have h0:=zY hx
  subst h0
  have hn:=Classical.not_not.1 (fun h=>‹¬o=0› (hI.trans ((zg4 hM).2 h)))
  have hn' : ∀ v,v < k→s.getLsbD v=true→at0 rank k < at0 rank v:=fun v h1 h2=>by have:=(hM hn).2 v h1 h2;omega
  exact ⟨(k+1,1#64 <<< k,at0 rank k),[],[],⟨by (omega),(zqY (by omega) hb hn').symm,zpR hb hn'⟩,by ((simp only [vM] at *;omega)),by (refine ⟨rfl,rfl,rfl,?_,?_⟩;repeat' first|exact trivial|exact rfl|refine And.intro ?_ ?_)⟩
 ·have hb:s.getLsbD k=true:=ziR ‹¬s >>> (k:Int).toNat&&&1=0›
  have h0:=zY hx
  subst h0
  have hn:=Classical.not_not.1 (fun h=>‹¬o=0› (hI.trans ((zg4 hM).2 h)))
  exact ⟨(k+1,o|||1#64 <<< k,m),[],[],⟨by (omega),by rw [zuE (by omega) hb hM hn hc,hI],zn6 hM hn (by omega)⟩,by ((simp only [vM] at *;omega)),by (refine ⟨rfl,rfl,rfl,?_,?_⟩;repeat' first|exact trivial|exact rfl|refine And.intro ?_ ?_)⟩
 ·have hb:s.getLsbD k=true:=ziR ‹¬s >>> (k:Int).toNat&&&1=0›
  have h0:=zY hx
  subst h0
  have hn:=Classical.not_not.1 (fun h=>‹¬o=0› (hI.trans ((zg4 hM).2 h)))
  exact ⟨(k+1,o,m),[],[],⟨by (omega),by rw [zuF hb hM hn (by omega),hI],zn6 hM hn (by omega)⟩,by ((simp only [vM] at *;omega)),by (refine ⟨rfl,rfl,rfl,?_,?_⟩;repeat' first|exact trivial|exact rfl|refine And.intro ?_ ?_)⟩
 ·rw [hI,show k=rank.length by omega];rfl
end Go.Ab
namespace Go.Ab
open Go Go.Proofs
set_option maxRecDepth 10000
set_option maxHeartbeats 4000000
variable {T:Nat→Obj→Prop}
def za (l:List (List Int)) (a:Nat):List Int:=l.getD a []
theorem zaV {l:List (List Int)} {i:Nat} {x:List Int} (h:l[i]? = some x):za l i=x:=by simp [za,List.getD,h]
theorem zhj {l:List (List Int)} {i:Nat} (h:i < l.length):l[i]? = some (za l i):=by simp [za,List.getD,h]
abbrev zjP (p:PM):Prop := ∀ a,a < p.cell.length→((za p.cell a).length:Int)=p.W∧((za p.rank a).length:Int)=p.W
abbrev zea (p:PM):Prop := ∀ a,a < p.cell.length→ztA (za p.cell a)
abbrev zfo (p:PM):Prop := ∀ a,a < p.cell.length→znb (za p.cell a) (za p.rank a)
def zy (p:PM):Int :=
 if zbc p.W p.cell.length p.val≠0 then zbc p.W p.cell.length p.val
 else if p.rank.length≠p.cell.length then 3
 else if ¬zjP p then 3
 else if ¬zea p then 1
 else if ¬zfo p then 9
 else 0
structure zwh (p:PM):Prop where
 w1:1≤p.W
 w2:p.W≤64
 val : ∀ s∈p.val,bad p.W s=false
 n4:p.cell.length≤4
 v8:p.val.length≤8
 len:p.rank.length=p.cell.length
 lens:zjP p
 cells:zea p
 ranked:zfo p
theorem zp8 {W n:Int} {val:List (BitVec 64)} (h:zbc W n val=0):1≤W∧W≤64∧val.length≤8∧n≤4 ∧ ∀ s∈val,bad W s=false:=by
 unfold zbc at h
 split at h
 ·cases h
 ·split at h
  ·cases h
  ·split at h
   ·cases h
   ·rename_i h1 h2 h3
    refine ⟨by omega,by omega,by omega,by omega,fun s hs=>?_⟩
    simp only [List.any_eq_true,not_exists,not_and] at h3
    simpa using h3 s hs
theorem zB {p:PM} (h:zy p=0):zwh p:=by
 unfold zy at h
 split at h
 ·rename_i h0;exact absurd h h0
 ·rename_i h0
  obtain ⟨a1,a2,a3,a4,a5⟩:=zp8 (Classical.not_not.1 h0)
  split at h
  ·cases h
  ·split at h
   ·cases h
   ·split at h
    ·cases h
    ·split at h
     ·cases h
     ·rename_i h1 h2 h3 h4
      exact ⟨a1,a2,a5,by omega,a3,Classical.not_not.1 h1,Classical.not_not.1 h2,Classical.not_not.1 h3,Classical.not_not.1 h4⟩
def zaM (l:List (List Int)):Prop := ∀ r∈l,∀ x∈r,inR .i64 x
abbrev za1 (p:PM):Ob := .box [.d (.int .i64 p.W),.d (dU p.val),.d (dII p.cell),.d (dII p.rank)]
theorem zrc {p:PM} (h0:zbc p.W p.cell.length p.val=0) (h1:p.rank.length=p.cell.length) (h : ¬zjP p):zy p=3:=by
 rw [zy,if_neg (by omega),if_neg (by omega),if_pos h]
theorem zrb {p:PM} (h0:zbc p.W p.cell.length p.val=0) (h1:p.rank.length=p.cell.length) (h2:zjP p) (h : ¬zea p):zy p=1:=by
 rw [zy,if_neg (by omega),if_neg (by omega),if_neg (not_not_intro h2),if_pos h]
theorem zwz {p:PM} (h0:zbc p.W p.cell.length p.val=0) (h1:p.rank.length=p.cell.length) (h2:zjP p) (h3:zea p) (h : ¬zfo p):zy p=9:=by
 rw [zy,if_neg (by omega),if_neg (by omega),if_neg (not_not_intro h2),if_neg (not_not_intro h3),if_pos h]
theorem zwy {p:PM} (h0:zbc p.W p.cell.length p.val=0) (h1:p.rank.length=p.cell.length) (h2:zjP p) (h3:zea p) (h4:zfo p):zy p=0:=by
 rw [zy,if_neg (by omega),if_neg (by omega),if_neg (not_not_intro h2),if_neg (not_not_intro h3),if_neg (not_not_intro h4)]
theorem zlr (n:Int) (r:List (BitVec 64)):Fn Tryz.prog T zeg [.d (.int .i64 n),.d (dU r)] [] (.d (.int .i64 (if n < 0∨64 < n then 2 else if (r.length:Int)≠n then 3 else if r.any (bad n) then 1 else 0))) []:=by
 refine zd zt zmP (by show 2≤29;decide) ?_
 (repeat' ((conv=>whnf);first|refine vA ?_|((first|refine vD ?_ ?_|refine vF ?_ ?_)<;>intro hc<;>try simp only [vL] at hc)|refine vJ fun hg=>?_|refine vT ?_|refine vX ?_));all_goals try conv=>whnf
 ·rw [if_pos (.inl hc)]
 ·rw [if_pos (.inr hc)]
 ·rw [if_neg (by omega),if_pos hc]
 refine zar (fun (k:Nat)=>[(0,.d (.int .i64 (n))),(17,.d (dU r)),(18,.d (.int .i64 ((r.map D.u64).length:Int))),(19,.d (.int .i64 ((k:Int))))]) (fun (k:Nat)=>k≤r.length∧r.any (bad n)=(r.drop k).any (bad n)) (fun (k:Nat)=>r.length - k) (0) (⟨by simp,by simp⟩) (by (repeat' first|exact trivial|exact rfl|refine And.intro ?_ ?_)) ?_
 rintro k ⟨hk,hI⟩
 (repeat' ((conv=>whnf);first|refine vA ?_|((first|refine vD ?_ ?_|refine vF ?_ ?_)<;>intro hc<;>try simp only [vL] at hc)|refine vT ?_|(refine vQ ?_ fun x hx=>?_;·omega)|(refine vO ?_ ?_;·omega)|refine vX ?_|(refine yD (zhh _ ?_) ⟨⟨rfl,rfl⟩,rfl⟩ rfl ?_;(·omega))|fail));all_goals try conv=>whnf
 ·have hb:bad n x=true:=by simpa [bad] using hc
  rw [if_neg (by omega),if_neg (by omega),hI,zaG hx];simp [hb]
 ·have hb:bad n x=false:=by simpa [bad] using hc
  exact ⟨k+1,[],[],⟨by (omega),by rw [hI,zaG hx];simp [hb]⟩,by (omega),by (refine ⟨rfl,rfl,rfl,?_,?_⟩;repeat' first|exact trivial|exact rfl|refine And.intro ?_ ?_)⟩
 ·rw [if_neg (by omega),if_neg (by omega),hI,List.drop_eq_nil_of_le (by omega)];simp
theorem zwL (hC : ∀ p,zaM p.rank→Fn Tryz.prog T zfG [.d (dPM p)] [] (.d (.int .i64 (zy p))) []) (p:PM) (hp:zaM p.rank) (a w:Int):Fn Tryz.prog T zfH [.d (dPM p),.d (.int .i64 a),.d (.int .i64 w)] [] (.d (.bool (decide (zy p=0∧0≤a∧a < p.cell.length∧0≤w∧w < p.W)))) []:=by
 refine zd zt zqw (by show 3≤31;decide) ?_
 (repeat' ((conv=>whnf);first|refine vA ?_|(refine vF ?_ ?_<;>intro hc<;>try simp only [vL] at hc)|refine vJ fun hg=>?_|refine vT ?_|refine vZ ?_|refine yD (hC _ hp) (by (repeat refine ⟨⟨rfl,rfl⟩,?_⟩);rfl) rfl ?_));all_goals try conv=>whnf
 ·simp [*]
 all_goals
  symm;rw [decide_eq_false_iff_not];omega
theorem zz1 (p:PM):Fn Tryz.prog T zfx [.d (dPM p)] [] (.d (.bool (decide (p.val.length≤20∧p.cell.length≤8∧p.rank.length≤8∧(∀ a,a < p.cell.length→(za p.cell a).length≤20) ∧ ∀ a,a < p.rank.length→(za p.rank a).length≤20)))) []:=by
 refine zd zt zkv (by show 1≤49;decide) ?_
 (repeat' ((conv=>whnf);first|refine vA ?_|(refine vF ?_ ?_<;>intro hc<;>try simp only [vL] at hc)|refine vJ fun hg=>?_|refine vT ?_|refine vZ ?_));all_goals try conv=>whnf
 iterate 3
  ·symm;rw [decide_eq_false_iff_not];omega
 refine zA (fun (k:Nat)=>[(1,.ptr 0 0),(3,.d (.int .i64 ((k:Int))))]) (fun (k:Nat)=>[(0,some (za1 p))]) 1 (fun (k:Nat)=>k≤p.cell.length ∧ ∀ a,a < k→(za p.cell a).length≤20) (fun (k:Nat)=>p.cell.length - k) (0) [(0,0)] [] (⟨by simp,by simp⟩) (by (refine ⟨rfl,rfl,rfl,?_,?_⟩;repeat' first|exact trivial|exact rfl|refine And.intro ?_ ?_|refine ⟨_,rfl,?_⟩|decide)) ?_
 rintro k ⟨hk,hI⟩
 (repeat' ((conv=>whnf);first|refine vA ?_|(refine vF ?_ ?_<;>intro hc<;>try simp only [vL] at hc)|refine vJ fun hg=>?_|refine vT ?_|(refine vQ ?_ fun x hx=>?_;·omega)|(refine vO ?_ ?_;·omega)|refine vZ ?_));all_goals try conv=>whnf
 ·have h1:=zaV hx
  symm;rw [decide_eq_false_iff_not];intro h
  have:=h.2.2.2.1 k (by omega)
  rw [h1] at this;omega
 ·have h1:=zaV hx
  exact ⟨k+1,[(0,0)],[],⟨by (omega),fun a ha=>by
   by_cases e:a=k
   ·subst e;rw [h1];omega
   ·exact hI a (by omega)⟩,by (omega),by (refine ⟨rfl,rfl,rfl,?_,?_⟩;repeat' first|exact trivial|exact rfl|refine And.intro ?_ ?_|refine ⟨_,rfl,?_⟩|decide)⟩
 have hI1 : ∀ a,a < p.cell.length→(za p.cell a).length≤20:=fun a ha=>hI a (by omega)
 refine zA (fun (k:Nat)=>[(1,.ptr 0 0),(4,.d (.int .i64 ((k:Int))))]) (fun (k:Nat)=>[(0,some (za1 p))]) 1 (fun (k:Nat)=>k≤p.rank.length ∧ ∀ a,a < k→(za p.rank a).length≤20) (fun (k:Nat)=>p.rank.length - k) (0) [(0,0)] [] (⟨by simp,by simp⟩) (by (refine ⟨rfl,rfl,rfl,?_,?_⟩;repeat' first|exact trivial|exact rfl|refine And.intro ?_ ?_|refine ⟨_,rfl,?_⟩|decide)) ?_
 rintro k ⟨hk,hI⟩
 (repeat' ((conv=>whnf);first|refine vA ?_|(refine vF ?_ ?_<;>intro hc<;>try simp only [vL] at hc)|refine vJ fun hg=>?_|refine vT ?_|(refine vQ ?_ fun x hx=>?_;·omega)|(refine vO ?_ ?_;·omega)|refine vZ ?_));all_goals try conv=>whnf
 ·have h1:=zaV hx
  symm;rw [decide_eq_false_iff_not];intro h
  have:=h.2.2.2.2 k (by omega)
  rw [h1] at this;omega
 ·have h1:=zaV hx
  exact ⟨k+1,[(0,0)],[],⟨by (omega),fun a ha=>by
   by_cases e:a=k
   ·subst e;rw [h1];omega
   ·exact hI a (by omega)⟩,by (omega),by (refine ⟨rfl,rfl,rfl,?_,?_⟩;repeat' first|exact trivial|exact rfl|refine And.intro ?_ ?_|refine ⟨_,rfl,?_⟩|decide)⟩
 ·symm;rw [decide_eq_true_eq];exact ⟨by omega,by omega,by omega,hI1,fun a ha=>hI a (by omega)⟩
end Go.Ab
namespace Go.Ab
open Go Go.Proofs
set_option maxRecDepth 10000
set_option maxHeartbeats 4000000
variable {T:Nat→Obj→Prop}
def zkq (x:Int):List Int→List Int
 | []=>[x]
 | y::r=>if x < y then x::y::r else if x=y then y::r else y::zkq x r
def zjm:List Int→List Int
 | []=>[]
 | x::r=>zkq x (zjm r)
def zx (cell:List Int):List Int:=cell.foldl (fun l c=>if c∈l then l else l++[c]) []
def zvg (cell rank:List Int) (c:Int):List Int:=((List.range cell.length).filter fun w=>at0 cell w==c).map (at0 rank)
def zW (cell rank:List Int) (c:Int):List Int:=zjm (zvg cell rank c)
abbrev zd7 (cell rank:List Int):List (D×D):=(zx cell).map fun c=>(.int .i64 c,dI (zW cell rank c))
def zaK (T:Nat→Obj→Prop):Prop := ∀ cell rank:List Int,cell.length≤rank.length→cell.length≤64→Fn Tryz.prog T zc8 [.d (dI cell),.d (dI rank)] [] (.d (.map (zd7 cell rank))) []
def zkW (l:List Int):Prop := ∀ i,i < l.length→at0 l i=i
instance (l:List Int):Decidable (zkW l):=inferInstanceAs (Decidable (∀ i,i < l.length→at0 l i=i))
theorem zpT {α β:Type} (f:α→β) : ∀ (l:List α) (i:Nat),(l.map f).eraseIdx i=(l.eraseIdx i).map f
 | [],_=>rfl
 | _::_,0=>rfl
 | x::l,i+1=>congrArg (f x :: ·) (zpT f l i)
abbrev zez (l:List Int):Prop:=l.Pairwise (· < ·)
theorem zmR {x y:Int} : ∀ {l:List Int},y∈zkq x l↔y=x∨y∈l
 | []=>by simp [zkq]
 | z::r=>by
  unfold zkq
  split
  ·simp
  ·split
   ·rename_i h;subst h;simp
   ·rw [List.mem_cons,zmR,List.mem_cons]
    constructor
    ·rintro (h|h|h)
     ·exact .inr (.inl h)
     ·exact .inl h
     ·exact .inr (.inr h)
    ·rintro (h|h|h)
     ·exact .inr (.inl h)
     ·exact .inl h
     ·exact .inr (.inr h)
theorem zl2 {x:Int} : ∀ {l:List Int},zez l→zez (zkq x l)
 | [],_=>by simp [zkq,zez]
 | z::r,h=>by
  unfold zkq
  obtain ⟨h1,h2⟩:=List.pairwise_cons.1 h
  split
  ·rename_i hx
   refine List.pairwise_cons.2 ⟨fun y hy=>?_,h⟩
   rcases List.mem_cons.1 hy with rfl|hy
   ·exact hx
   ·have:=h1 y hy;omega
  ·split
   ·exact h
   ·refine List.pairwise_cons.2 ⟨fun y hy=>?_,zl2 h2⟩
    rcases zmR.1 hy with rfl|hy
    ·omega
    ·exact h1 y hy
theorem zky {y:Int} : ∀ {l:List Int},y∈zjm l↔y∈l
 | []=>by simp [zjm]
 | x::r=>by rw [zjm,zmR,zky,List.mem_cons]
theorem zcS : ∀ {l:List Int},zez (zjm l)
 | []=>List.Pairwise.nil
 | x::r=>zl2 zcS
theorem zkx {c:Int} : ∀ {l acc:List Int},c∈l.foldl (fun l c=>if c∈l then l else l++[c]) acc↔c∈acc∨c∈l
 | [],acc=>by simp
 | x::r,acc=>by
  rw [List.foldl_cons,zkx]
  split
  ·rename_i h
   rw [List.mem_cons]
   constructor
   ·rintro (h1|h1)
    ·exact .inl h1
    ·exact .inr (.inr h1)
   ·rintro (h1|rfl|h1)
    ·exact .inl h1
    ·exact .inl h
    ·exact .inr h1
  ·rw [List.mem_append,List.mem_singleton,List.mem_cons,or_assoc]
theorem zf8 {c:Int} {cell:List Int} : c∈zx cell↔c∈cell:=by
 rw [zx,zkx];simp
theorem zd5 {cell rank:List Int} {c x:Int} : x∈zW cell rank c ↔ ∃ w,w < cell.length∧at0 cell w=c∧at0 rank w=x:=by
 rw [zW,zky,zvg,List.mem_map]
 constructor
 ·rintro ⟨w,h,rfl⟩
  rw [List.mem_filter,List.mem_range] at h
  exact ⟨w,h.1,by simpa using h.2,rfl⟩
 ·rintro ⟨w,h1,h2,rfl⟩
  exact ⟨w,List.mem_filter.2 ⟨List.mem_range.2 h1,by simpa using h2⟩,rfl⟩
theorem zdO {l:List Int} {x:Int} : x∈l ↔ ∃ i,i < l.length∧at0 l i=x:=by
 constructor
 ·intro h
  obtain ⟨i,hi⟩:=List.getElem?_of_mem h
  exact ⟨i,(List.getElem?_eq_some_iff.1 hi).1,zY hi⟩
 ·rintro ⟨i,hi,rfl⟩
  exact List.mem_of_getElem? (zdN hi)
theorem zeP {l:List Int} (h:zez l) {i j:Nat} (hij:i < j) (hj:j < l.length):at0 l i < at0 l j:=by
 have h1:=zdN (show i < l.length by omega)
 have h2:=zdN hj
 obtain ⟨_,e1⟩:=List.getElem?_eq_some_iff.1 h1
 obtain ⟨_,e2⟩:=List.getElem?_eq_some_iff.1 h2
 rw [← e1,← e2]
 exact List.pairwise_iff_getElem.1 h i j (by omega) hj hij
theorem zlQ {l:List Int} (h:zez l):zkW l ↔ ∀ x∈l,0≤x∧(x=0∨x - 1∈l):=by
 constructor
 ·intro hg x hx
  obtain ⟨i,hi,rfl⟩:=zdO.1 hx
  rw [hg i hi]
  refine ⟨by omega,?_⟩
  by_cases e:i=0
  ·exact .inl (by omega)
  ·exact .inr (zdO.2 ⟨i - 1,by omega,by rw [hg (i - 1) (by omega)];omega⟩)
 ·intro hc i
  induction i using Nat.strongRecOn with
  | _ i ih =>
   intro hi
   obtain ⟨h0,h1⟩:=hc _ (zdO.2 ⟨i,hi,rfl⟩)
   by_cases e:i=0
   ·subst e
    rcases h1 with h1|h1
    ·exact h1
    ·obtain ⟨j,hj,hj'⟩:=zdO.1 h1
     by_cases e:j=0
     ·subst e;omega
     ·have:=zeP h (show 0 < j by omega) hj;omega
   ·have hp:=ih (i - 1) (by omega) (by omega)
    have hr:=zeP h (show i - 1 < i by omega) hi
    rcases h1 with h1|h1
    ·omega
    ·obtain ⟨j,hj,hj'⟩:=zdO.1 h1
     have:j < i:=by
      apply Classical.byContradiction
      intro hn
      by_cases e:j=i
      ·subst e;omega
      ·have:=zeP h (show i < j by omega) hj;omega
     have:=ih j this hj
     omega
theorem zh9 {cell rank:List Int} : (∀ c∈zx cell,zkW (zW cell rank c))↔znb cell rank:=by
 constructor
 ·intro h w hw
  have hc:=h (at0 cell w) (zf8.2 (zdO.2 ⟨w,hw,rfl⟩))
  replace hc:=(zlQ zcS).1 hc
  obtain ⟨h1,h2⟩:=hc (at0 rank w) (zd5.2 ⟨w,hw,rfl,rfl⟩)
  refine ⟨h1,h2.imp_right fun h3=>?_⟩
  obtain ⟨v,hv,h4,h5⟩:=zd5.1 h3
  exact ⟨v,hv,h4,h5⟩
 ·intro h c hc
  refine (zlQ zcS).2 ?_
  intro x hx
  obtain ⟨w,hw,rfl,rfl⟩:=zd5.1 hx
  obtain ⟨h1,h2⟩:=h w hw
  refine ⟨h1,h2.imp_right fun ⟨v,hv,h4,h5⟩=>?_⟩
  exact zd5.2 ⟨v,hv,h4,h5⟩
theorem zcP (hR:zaK T) (p:PM) (hp:zaM p.rank):Fn Tryz.prog T zfG [.d (dPM p)] [] (.d (.int .i64 (zy p))) []:=by
 refine zd zt zqv (by show 1≤123;decide) ?_
 (repeat' ((conv=>whnf);first|refine vA ?_|(refine vD ?_ ?_<;>intro hc<;>try simp only [vL] at hc)|refine vJ fun hg=>?_|refine vT ?_|refine vX ?_|refine yD (zoW _ _ _) ⟨⟨rfl,rfl⟩,⟨rfl,rfl⟩,⟨rfl,rfl⟩,rfl⟩ rfl ?_));all_goals try conv=>whnf
 ·rw [List.length_map,zy,if_pos hc]
 ·rw [zy,if_neg (by omega),if_pos (by omega)]
 have hs0:=‹zbc p.W p.cell.length p.val=0›
 have hW64:=(zp8 hs0).2.1
 have hlr:p.rank.length=p.cell.length:=by omega
 refine zA (fun (k:Nat)=>[(1,.ptr 0 0),(34,.d (.int .i64 ((p.cell.map dI).length:Int))),(35,.d (.int .i64 ((k:Int))))]) (fun (k:Nat)=>[(0,some (za1 p))]) 1 (fun (k:Nat)=>k≤p.cell.length ∧ ∀ a,a < k→((za p.cell a).length:Int)=p.W∧((za p.rank a).length:Int)=p.W) (fun (k:Nat)=>p.cell.length - k) (0) [(0,0)] [] (⟨by simp,by simp⟩) (by (refine ⟨rfl,rfl,rfl,?_,?_⟩;repeat' first|exact trivial|exact rfl|refine And.intro ?_ ?_|refine ⟨_,rfl,?_⟩|decide)) ?_
 rintro k ⟨hk,hI⟩
 (repeat' ((conv=>whnf);first|refine vA ?_|((first|refine vD ?_ ?_|refine vF ?_ ?_)<;>intro hc<;>try simp only [vL] at hc)|refine vJ fun hg=>?_|refine vT ?_|(refine vQ ?_ fun x hx=>?_;·omega)|(refine vO ?_ ?_;·omega)|(refine vU ?_ ?_;·kernel_rfl)|refine vX ?_));all_goals try conv=>whnf
 ·have h1:=zaV hx
  refine (zrc hs0 hlr fun h=>?_).symm
  have:=(h k (by omega)).1
  rw [h1] at this;exact hc this
 ·have h1:=zaV hx
  refine (zrc hs0 hlr fun h=>?_).symm
  have:=(h k (by omega)).2
  rw [h1] at this;exact hc this
 ·have h1:=zaV ‹p.cell[k]? = some _›
  have h2:=zaV ‹p.rank[k]? = some _›
  exact ⟨k+1,[(0,0)],[],⟨by (omega),fun a ha=>by
   by_cases e:a=k
   ·subst e;rw [h1,h2];omega
   ·exact hI a (by omega)⟩,by (omega),by (refine ⟨rfl,rfl,rfl,?_,?_⟩;repeat' first|exact trivial|exact rfl|refine And.intro ?_ ?_|refine ⟨_,rfl,?_⟩|decide)⟩
 have hL:zjP p:=fun a ha=>hI a (by omega)
 refine zA (fun (k:Nat)=>[(1,.ptr 0 0),(60,.d (dII p.cell)),(61,.d (.int .i64 ((p.cell.map dI).length:Int))),(62,.d (.int .i64 ((k:Int))))]) (fun (k:Nat)=>[(0,some (za1 p))]) 1 (fun (k:Nat)=>k≤p.cell.length ∧ ∀ a,a < k→ztA (za p.cell a)) (fun (k:Nat)=>p.cell.length - k) (0) [(0,0)] [] (⟨by simp,by simp⟩) (by (refine ⟨rfl,rfl,rfl,?_,?_⟩;repeat' first|exact trivial|exact rfl|refine And.intro ?_ ?_|refine ⟨_,rfl,?_⟩|decide)) ?_
 rintro k ⟨hk,hI⟩
 (repeat' ((conv=>whnf);first|refine vA ?_|(refine vF ?_ ?_<;>intro hc<;>try simp only [vL] at hc)|refine vJ fun hg=>?_|refine vT ?_|(refine vQ ?_ fun x hx=>?_;·omega)|fail));all_goals try conv=>whnf
 ·have h1:=zaV hx
  subst h1
  refine zA (fun (j:Nat)=>[(1,.ptr 0 0),(60,.d (dII p.cell)),(61,.d (.int .i64 ((p.cell.map dI).length:Int))),(62,.d (.int .i64 ((k:Int)))),(6,.d (dI (za p.cell k))),(66,.d (dI (za p.cell k))),(67,.d (.int .i64 (((za p.cell k).map (D.int .i64)).length:Int))),(68,.d (.int .i64 ((j:Int))))]) (fun (j:Nat)=>[(0,some (za1 p))]) 1 (fun (j:Nat)=>j≤(za p.cell k).length ∧ ∀ w,w < j→0≤at0 (za p.cell k) w∧at0 (za p.cell k) w≤w∧at0 (za p.cell k) (at0 (za p.cell k) w).toNat=at0 (za p.cell k) w) (fun (j:Nat)=>(za p.cell k).length - j) (0) [(0,0)] [] (⟨by simp,by simp⟩) (by (refine ⟨rfl,rfl,rfl,?_,?_⟩;repeat' first|exact trivial|exact rfl|refine And.intro ?_ ?_|refine ⟨_,rfl,?_⟩|decide)) ?_
  rintro j ⟨hj,hJ⟩
  (repeat' ((conv=>whnf);first|refine vA ?_|((first|refine vD ?_ ?_|refine vF ?_ ?_)<;>intro hc<;>try simp only [vL] at hc)|refine vT ?_|(refine vQ ?_ fun x hx=>?_;·omega)|((first|refine vO ?_ ?_|refine vS ?_ fun x hx=>?_);·omega)|refine vX ?_));all_goals try conv=>whnf
  iterate 2
   ·refine (zrb hs0 hlr hL fun h=>?_).symm
    have:=h k (by omega) j (by omega)
    rw [zY hx] at this;omega
  ·refine (zrb hs0 hlr hL fun h=>?_).symm
   have:=h k (by omega) j (by omega)
   rw [zY ‹(za p.cell k)[j]? = some _›,zY hx] at this;omega
  ·have h0:=zY ‹(za p.cell k)[j]? = some _›
   have h1:=zY hx
   exact ⟨j+1,[(0,0)],[],⟨by (omega),fun w hw=>by
    by_cases e:w=j
    ·subst e;rw [h0,h1];omega
    ·exact hJ w (by omega)⟩,by (omega),by (refine ⟨rfl,rfl,rfl,?_,?_⟩;repeat' first|exact trivial|exact rfl|refine And.intro ?_ ?_|refine ⟨_,rfl,?_⟩|decide)⟩
  ·exact ⟨k+1,[(0,0)],[],⟨by (omega),fun a ha=>by
    by_cases e:a=k
    ·subst e;exact fun w hw=>hJ w (by omega)
    ·exact hI a (by omega)⟩,by (omega),by (refine ⟨rfl,rfl,rfl,?_,?_⟩;repeat' first|exact trivial|exact rfl|refine And.intro ?_ ?_|refine ⟨_,rfl,?_⟩|decide)⟩
 have hC:zea p:=fun a ha=>hI a (by omega)
 refine zA (fun (k:Nat)=>[(1,.ptr 0 0),(91,.d (dII p.cell)),(92,.d (.int .i64 ((p.cell.map dI).length:Int))),(93,.d (.int .i64 ((k:Int))))]) (fun (k:Nat)=>[(0,some (za1 p))]) 1 (fun (k:Nat)=>k≤p.cell.length ∧ ∀ a,a < k→znb (za p.cell a) (za p.rank a)) (fun (k:Nat)=>p.cell.length - k) (0) [(0,0)] [] (⟨by simp,by simp⟩) (by (refine ⟨rfl,rfl,rfl,?_,?_⟩;repeat' first|exact trivial|exact rfl|refine And.intro ?_ ?_|refine ⟨_,rfl,?_⟩|decide)) ?_
 rintro k ⟨hk,hI⟩
 (repeat' ((conv=>whnf);first|refine vA ?_|(refine vF ?_ ?_<;>intro hc<;>try simp only [vL] at hc)|refine vT ?_|(refine vQ ?_ fun x hx=>?_;·omega)|refine vX ?_));all_goals try conv=>whnf
 ·have h1:=zaV ‹p.cell[k]? = some _›
  have h2:=zaV ‹p.rank[k]? = some _›
  have h3:=hL k (by omega)
  subst h1;subst h2
  refine zT.dataN (hR (za p.cell k) (za p.rank k) (by omega) (by omega)) (by (repeat refine ⟨⟨rfl,rfl⟩,?_⟩);rfl) ?_
  (repeat' ((conv=>whnf);refine vT ?_));all_goals try conv=>whnf
  refine zA (fun ((left,cur):List (D×D)×Option (D×D))=>[(1,.ptr 0 0),(91,.d (dII p.cell)),(92,.d (.int .i64 ((p.cell.map dI).length:Int))),(93,.d (.int .i64 ((k:Int)))),(105,.iter 1)]) (fun ((left,cur):List (D×D)×Option (D×D))=>[(0,some (za1 p)),(1,some (.iter left cur))]) 2 (fun ((left,cur):List (D×D)×Option (D×D)) => ∃ ks:List Int,left=ks.map (fun c=>(D.int .i64 c,dI (zW (za p.cell k) (za p.rank k) c)))∧(∀ c∈ks,c∈zx (za p.cell k)) ∧ ∀ c∈zx (za p.cell k),c∈ks∨zkW (zW (za p.cell k) (za p.rank k) c)) (fun ((left,cur):List (D×D)×Option (D×D))=>left.length) ((zd7 (za p.cell k) (za p.rank k),none)) [(0,0),(1,1)] [] (⟨_,rfl,fun c h=>h,fun c h => .inl h⟩) (by (refine ⟨rfl,rfl,rfl,?_,?_⟩;repeat' first|exact trivial|exact rfl|refine And.intro ?_ ?_|refine ⟨_,rfl,?_⟩|decide)) ?_
  rintro ⟨left,cur⟩ ⟨ks,hleft,hks,hdone⟩
  (repeat' ((conv=>whnf);first|refine vA ?_|refine vC (fun hl=>?_) fun i kv vv hi=>?_|refine vG ?_|refine vH ?_|refine vT ?_|(refine vO ?_ ?_;·omega)|fail));all_goals try conv=>whnf
  ·exact ⟨k+1,[(0,0)],[],⟨by (omega),fun a ha=>by
    by_cases e:a=k
    ·subst e
     rw [hl] at hleft
     have:ks=[]:=by simpa using hleft.symm
     subst this
     exact zh9.1 fun c hc=>(hdone c hc).resolve_left (by simp)
    ·exact hI a (by omega)⟩,by (omega),by (refine ⟨rfl,rfl,rfl,?_,?_⟩;repeat' first|exact trivial|exact rfl|refine And.intro ?_ ?_|refine ⟨_,rfl,?_⟩|decide)⟩
  ·rw [hleft,List.getElem?_map,Option.map_eq_some_iff] at hi
   obtain ⟨c,hci,hce⟩:=hi
   cases hce
   (repeat' ((conv=>whnf);first|refine vJ fun hg=>?_|refine vT ?_));all_goals try conv=>whnf
   refine zA (fun (j:Nat)=>[(1,.ptr 0 0),(91,.d (dII p.cell)),(92,.d (.int .i64 ((p.cell.map dI).length:Int))),(93,.d (.int .i64 ((k:Int)))),(105,.iter 1),(12,.d (dI (zW (za p.cell k) (za p.rank k) c))),(111,.d (.int .i64 (((zW (za p.cell k) (za p.rank k) c).map (D.int .i64)).length:Int))),(112,.d (.int .i64 ((j:Int))))]) (fun (j:Nat)=>[(0,some (za1 p)),(1,some (.iter (left.eraseIdx i) (some (D.int .i64 c,dI (zW (za p.cell k) (za p.rank k) c)))))]) 2 (fun (j:Nat)=>j≤(zW (za p.cell k) (za p.rank k) c).length ∧ ∀ i,i < j→at0 (zW (za p.cell k) (za p.rank k) c) i=i) (fun (j:Nat)=>(zW (za p.cell k) (za p.rank k) c).length - j) (0) [(0,0),(1,1)] [] (⟨by simp,by simp⟩) (by (refine ⟨rfl,rfl,rfl,?_,?_⟩;repeat' first|exact trivial|exact rfl|refine And.intro ?_ ?_|refine ⟨_,rfl,?_⟩|decide)) ?_
   rintro j ⟨hj,hJ⟩
   (repeat' ((conv=>whnf);first|refine vA ?_|((first|refine vD ?_ ?_|refine vF ?_ ?_)<;>intro hc<;>try simp only [vL] at hc)|refine vT ?_|(refine vQ ?_ fun x hx=>?_;·omega)|(refine vO ?_ ?_;·omega)|refine vX ?_));all_goals try conv=>whnf
   ·refine (zwz hs0 hlr hL hC fun h=>hc ?_).symm
    have h4:=zh9.2 (h k (by omega)) c (hks c (List.mem_of_getElem? hci)) j (by omega)
    rw [zY hx] at h4;exact h4
   ·have h0:=zY hx
    exact ⟨j+1,[(0,0),(1,1)],[],⟨by (omega),fun w hw=>by
     by_cases e:w=j
     ·subst e;rw [h0];omega
     ·exact hJ w (by omega)⟩,by (omega),by (refine ⟨rfl,rfl,rfl,?_,?_⟩;repeat' first|exact trivial|exact rfl|refine And.intro ?_ ?_|refine ⟨_,rfl,?_⟩|decide)⟩
   ·refine ⟨(left.eraseIdx i,some (D.int .i64 c,dI (zW (za p.cell k) (za p.rank k) c))),[(0,0),(1,1)],[],⟨ks.eraseIdx i,?_,?_,?_⟩,?_,⟨rfl,rfl,rfl,by (repeat' first|exact trivial|exact rfl|refine And.intro ?_ ?_|refine ⟨_,rfl,?_⟩),by (repeat' first|exact trivial|exact rfl|refine And.intro ?_ ?_|refine ⟨_,rfl,?_⟩|decide)⟩⟩
    ·rw [hleft,zpT]
    ·exact fun c h=>hks c (List.mem_of_mem_eraseIdx h)
    ·intro c' h
     rcases hdone c' h with h1|h1
     ·by_cases e:c'=c
      ·subst e;exact .inr fun i hi=>hJ i (by omega)
      ·refine .inl ?_
       rw [List.mem_eraseIdx_iff_getElem?]
       obtain ⟨i',hi'⟩:=List.getElem?_of_mem h1
       exact ⟨i',fun e'=>e (by rw [e',hci] at hi';cases hi';rfl),hi'⟩
     ·exact .inr h1
    ·show (left.eraseIdx i).length < left.length
     have:i < left.length:=by
      rw [hleft,List.length_map];exact (List.getElem?_eq_some_iff.1 hci).1
     rw [List.length_eraseIdx];split<;>omega
 ·exact (zwy hs0 hlr hL hC fun a ha=>hI a (by omega)).symm
end Go.Ab
namespace Go.Ab
open Go Go.Proofs
set_option maxRecDepth 10000
set_option maxHeartbeats 4000000
variable {T:Nat→Obj→Prop}
structure At (p:PM) (a w:Int):Prop where
 ok:zy p=0
 a0:0≤a
 a1:a < p.cell.length
 w0:0≤w
 w1:w < p.W
instance (p:PM) (a w:Int):Decidable (At p a w):=decidable_of_iff (zy p=0∧0≤a∧a < p.cell.length∧0≤w∧w < p.W) ⟨fun ⟨a,b,c,d,e⟩=>⟨a,b,c,d,e⟩,fun ⟨a,b,c,d,e⟩=>⟨a,b,c,d,e⟩⟩
theorem zpI (hR:zaK T) (p:PM) (hp:zaM p.rank) (a w:Int):Fn Tryz.prog T zfH [.d (dPM p),.d (.int .i64 a),.d (.int .i64 w)] [] (.d (.bool (decide (At p a w)))) []:=by
 have:=zwL (T:=T) (fun p hp=>zcP hR p hp) p hp a w
 rwa [show decide (zy p=0∧0≤a∧a < p.cell.length∧0≤w∧w < p.W)=decide (At p a w) from by
  rw [Bool.eq_iff_iff,decide_eq_true_eq,decide_eq_true_eq]
  exact ⟨fun ⟨a,b,c,d,e⟩=>⟨a,b,c,d,e⟩,fun ⟨a,b,c,d,e⟩=>⟨a,b,c,d,e⟩⟩] at this
def zg5 (p:PM) (a w:Int):BitVec 64:=if At p a w then zcI (za p.cell a.toNat) w.toNat else 0#64
def znh (p:PM) (a w:Int) (s:BitVec 64):BitVec 64:=if At p a w then zs6 (za p.rank a.toNat) (s&&&zcI (za p.cell a.toNat) w.toNat) else 0#64
theorem At.rows {p:PM} {a w:Int} (h:At p a w):p.cell[a.toNat]? = some (za p.cell a.toNat)∧p.rank[a.toNat]? = some (za p.rank a.toNat)∧((za p.cell a.toNat).length:Int)=p.W∧((za p.rank a.toNat).length:Int)=p.W∧p.W≤64∧a.toNat < p.cell.length∧p.rank.length=p.cell.length:=by
 have hg:=zB h.ok
 have h0:=h.a0
 have h1:=h.a1
 have hl:=hg.lens a.toNat (by omega)
 exact ⟨zhj (by omega),zhj (by rw [hg.len];omega),hl.1,hl.2,hg.w2,by omega,hg.len⟩
theorem zx6 (hR:zaK T) (p:PM) (hp:zaM p.rank) (a w:Int):Fn Tryz.prog T zkc [.d (dPM p),.d (.int .i64 a),.d (.int .i64 w)] [] (.d (.u64 (zg5 p a w))) []:=by
 refine zd zt zrR (by show 3≤16;decide) ?_
 (repeat' ((conv=>whnf);first|refine vA ?_|refine vE ?_|(refine vF ?_ ?_<;>intro hc)|refine vT ?_|refine vY ?_|refine yD (zpI hR _ hp _ _) (by (repeat refine ⟨⟨rfl,rfl⟩,?_⟩);rfl) rfl ?_));all_goals try conv=>whnf
 ·obtain ⟨h1,-,h2,-⟩:=At.rows hc
  refine zT.data (zkh p a w (za p.cell a.toNat) hc.a0 h1 hc.w0 (by rw [h2];exact hc.w1)) (by (repeat refine ⟨⟨rfl,rfl⟩,?_⟩);rfl) rfl ?_
  (repeat' ((conv=>whnf);first|refine vT ?_|refine vY ?_));all_goals try conv=>whnf
  rw [zg5,if_pos hc]
 ·rw [zg5,if_neg hc];rfl
theorem zx5 (hR:zaK T) (p:PM) (hp:zaM p.rank) (a w:Int) (s:BitVec 64):Fn Tryz.prog T zkb [.d (dPM p),.d (.int .i64 a),.d (.int .i64 w),.d (.u64 s)] [] (.d (.u64 (znh p a w s))) []:=by
 refine zd zt zrQ (by show 4≤26;decide) ?_
 (repeat' ((conv=>whnf);first|refine vA ?_|refine vE ?_|(refine vF ?_ ?_<;>intro hc)|refine vT ?_|(refine vS ?_ fun x hx=>?_;·omega)|refine vY ?_|refine yD (zpI hR _ hp _ _) (by (repeat refine ⟨⟨rfl,rfl⟩,?_⟩);rfl) rfl ?_));all_goals try conv=>whnf
 ·obtain ⟨hrow,hrank,hlen,hlen',h64,ha,-⟩:=At.rows hc
  have h0:=hc.a0
  (repeat' ((conv=>whnf);first|refine vT ?_|(refine vR ?_ ‹_› ?_;·omega)|fail));all_goals try conv=>whnf
  refine zT.data (zkh p a w (za p.cell a.toNat) h0 hrow hc.w0 (by rw [hlen];exact hc.w1)) (by (repeat refine ⟨⟨rfl,rfl⟩,?_⟩);rfl) rfl ?_
  (repeat' ((conv=>whnf);first|refine vT ?_|(refine vU ?_ ?_;·kernel_rfl)|refine vY ?_|(refine yD (zuZ _ _ ?_) ⟨⟨rfl,rfl⟩,⟨rfl,rfl⟩,rfl⟩ rfl ?_;(·omega))|fail));all_goals try conv=>whnf
  rw [znh,if_pos hc]
 ·rw [znh,if_neg hc];rfl
def zcT (cell rank:List Int) (w:Nat):Nat→BitVec 64:=zF fun v=>at0 cell v==at0 cell w&&decide (at0 rank v≤at0 rank w)
def zb6 (p:PM) (a:Nat):List (BitVec 64):=(List.range p.W.toNat).map fun w=>zcT (za p.cell a) (za p.rank a) w p.W.toNat
def zex (p:PM) (a:Int):List (BitVec 64)×Int:=if zy p≠0 then ([],zy p) else if a < 0∨(p.cell.length:Int)≤a then ([],2) else (zb6 p a.toNat,0)
abbrev dUI (x:List (BitVec 64)×Int):D := .tup [dU x.1,.int .i64 x.2]
theorem zeu {β:Type} {g:Nat→β} {n k:Nat} (x:β):((List.range n).map g).set k x=(List.range n).map fun u=>if u=k then x else g u:=by
 refine List.ext_getElem (by simp) fun i h1 h2=>?_
 rw [List.getElem_set]
 by_cases e:k=i
 ·subst e;simp
 ·simp [e,Ne.symm e]
theorem z1 {β:Type} {g h:Nat→β} {n:Nat} (e : ∀ u,u < n→g u=h u):(List.range n).map g=(List.range n).map h :=
 List.map_congr_left fun u hu=>e u (List.mem_range.1 hu)
theorem zkn {n k x:Nat} (h:(List.range n)[k]? = some x):x=k:=by
 obtain ⟨h1,rfl⟩:=List.getElem?_eq_some_iff.1 h
 simp
theorem zho {β:Type} (x:β) (n:Nat):List.replicate n x=(List.range n).map fun _=>x:=by
 refine List.ext_getElem (by simp) fun i h1 h2=>by simp
theorem zuY (hR:zaK T) (p:PM) (hp:zaM p.rank) (a:Int):Fn Tryz.prog T zhY [.d (dPM p),.d (.int .i64 a)] [] (.d (dUI (zex p a))) []:=by
 refine zd zt zo4 (by show 2≤84;decide) ?_
 (repeat' ((conv=>whnf);first|refine vA ?_|((first|refine vD ?_ ?_|refine vF ?_ ?_)<;>intro hc<;>try simp only [vL] at hc)|refine vJ fun hg=>?_|refine vT ?_|(refine vP ?_ ?_;·omega)|refine yD (zcP hR _ hp) ⟨⟨rfl,rfl⟩,rfl⟩ rfl ?_));all_goals try conv=>whnf
 ·rw [zex,if_pos hc];rfl
 ·rw [zex,if_neg (by omega),if_pos (.inl hc)];rfl
 ·rw [zex,if_neg (by omega),if_pos (.inr hc)];rfl
 have hg:=zB ‹zy p=0›
 have hw1:=hg.w1
 have hw2:=hg.w2
 have hrow:=zhj (l:=p.cell) (i:=a.toNat) (by omega)
 have hrank:=zhj (l:=p.rank) (i:=a.toNat) (by have:=hg.len;omega)
 obtain ⟨hl1,hl2⟩:=hg.lens a.toNat (by omega)
 have hlr:=hg.len
 (repeat' ((conv=>whnf);first|refine vA ?_|refine vK fun hg=>?_|refine vT ?_|(refine vP ?_ ?_;·omega)|fail));all_goals try conv=>whnf
 refine zA (fun ((k,xs):Nat×List D)=>[(1,.d (.int .i64 (a))),(2,.ptr 0 0),(7,.own 1),(28,.d (.int .i64 ((List.replicate p.W.toNat (D.u64 0#64)).length:Int))),(29,.d (.int .i64 ((k:Int))))]) (fun ((k,xs):Nat×List D)=>[(0,some (za1 p)),(1,some (.row 1 xs))]) 2 (fun ((k,xs):Nat×List D)=>k≤p.W.toNat∧xs=(List.range p.W.toNat).map fun u=>D.u64 (if u < k then zcT (za p.cell a.toNat) (za p.rank a.toNat) u p.W.toNat else 0#64)) (fun ((k,xs):Nat×List D)=>p.W.toNat - k) ((0,List.replicate p.W.toNat (D.u64 0#64))) [(0,0),(1,1)] [] (⟨by simp,by simp only [Nat.not_lt_zero,if_false];exact zho _ _⟩) (by (refine ⟨rfl,rfl,rfl,?_,?_⟩;repeat' first|exact trivial|exact rfl|refine And.intro ?_ ?_|refine ⟨_,rfl,?_⟩|decide)) ?_
 rintro ⟨k,_⟩ ⟨hk,rfl⟩
 (repeat' ((conv=>whnf);first|refine vA ?_|(refine vF ?_ ?_<;>intro hc<;>try simp only [vL] at hc)|refine vJ fun hg=>?_|refine vT ?_));all_goals try conv=>whnf
 ·refine zA (fun ((j,xs):Nat×List D)=>[(1,.d (.int .i64 (a))),(2,.ptr 0 0),(7,.own 1),(8,.d (.int .i64 ((k:Int)))),(28,.d (.int .i64 ((List.replicate p.W.toNat (D.u64 0#64)).length:Int))),(29,.d (.int .i64 ((k:Int)))),(33,.d (.int .i64 (((List.range p.W.toNat).map fun u=>D.u64 (if u < k then zcT (za p.cell a.toNat) (za p.rank a.toNat) u p.W.toNat else 0#64)).length:Int))),(34,.d (.int .i64 ((j:Int))))]) (fun ((j,xs):Nat×List D)=>[(0,some (za1 p)),(1,some (.row 1 xs))]) 2 (fun ((j,xs):Nat×List D)=>j≤p.W.toNat∧xs=(List.range p.W.toNat).map fun u=>D.u64 (if u < k then zcT (za p.cell a.toNat) (za p.rank a.toNat) u p.W.toNat else if u=k then zcT (za p.cell a.toNat) (za p.rank a.toNat) k j else 0#64)) (fun ((j,xs):Nat×List D)=>p.W.toNat - j) ((0,_)) [(0,0),(1,1)] [] (⟨by simp,z1 fun u hu=>by simp [zcT,zF]⟩) (by (refine ⟨rfl,rfl,rfl,?_,?_⟩;repeat' first|exact trivial|exact rfl|refine And.intro ?_ ?_|refine ⟨_,rfl,?_⟩|decide)) ?_
  rintro ⟨j,_⟩ ⟨hj,rfl⟩
  (repeat' ((conv=>whnf);first|refine vA ?_|(refine vF ?_ ?_<;>intro hc<;>try simp only [vL] at hc)|refine vT ?_|(refine vQ ?_ fun x hx=>?_;·first|omega|(simp only [vM] at *;omega))|((first|refine vO ?_ ?_|refine vR ?_ ‹_› ?_|refine vP ?_ ?_);·first|omega|(simp only [vM] at *;omega))|(refine vU ?_ ?_;·kernel_rfl)|fail));all_goals try conv=>whnf
  ·have h1:=zY ‹(za p.cell a.toNat)[j]? = some _›
   have h2:=zY ‹(za p.cell a.toNat)[k]? = some _›
   have h3:=zY ‹(za p.rank a.toNat)[j]? = some _›
   have h4:=zY ‹(za p.rank a.toNat)[k]? = some _›
   have hx':=zkn hx
   refine ⟨(j+1,_),[(0,0),(1,1)],[],?_,?_,by (refine ⟨rfl,rfl,rfl,?_,?_⟩;repeat' first|exact trivial|exact rfl|refine And.intro ?_ ?_|refine ⟨_,rfl,?_⟩|decide)⟩
   ·refine ⟨by (omega),(zeu _).trans (z1 fun u hu=>?_)⟩
    have e0:(at0 (za p.cell a.toNat) j==at0 (za p.cell a.toNat) k&&decide (at0 (za p.rank a.toNat) j≤at0 (za p.rank a.toNat) k))=true:=by
     simp only [Bool.and_eq_true,beq_iff_eq,decide_eq_true_eq];omega
    show (if u=k then _ else _)=_
    have hx'':x=k:=hx'
    subst hx''
    by_cases e:u=x
    ·subst e
     simp only [Nat.lt_irrefl,if_false,if_true,zcT,zF,e0];rfl
    ·rw [if_neg e];simp only [if_neg e]
   ·((simp only [vM] at *;omega))
  ·have h1:=zY ‹(za p.cell a.toNat)[j]? = some _›
   have h2:=zY ‹(za p.cell a.toNat)[k]? = some _›
   have h3:=zY ‹(za p.rank a.toNat)[j]? = some _›
   have h4:=zY ‹(za p.rank a.toNat)[k]? = some _›
   refine ⟨(j+1,_),[(0,0),(1,1)],[],?_,?_,by (refine ⟨rfl,rfl,rfl,?_,?_⟩;repeat' first|exact trivial|exact rfl|refine And.intro ?_ ?_|refine ⟨_,rfl,?_⟩|decide)⟩
   ·refine ⟨by (omega),z1 fun u hu=>?_⟩
    have e0:(at0 (za p.cell a.toNat) j==at0 (za p.cell a.toNat) k&&decide (at0 (za p.rank a.toNat) j≤at0 (za p.rank a.toNat) k))=false:=by
     rw [Bool.and_eq_false_iff];right;rw [decide_eq_false_iff_not];omega
    simp only [zcT,zF,e0,Bool.false_eq_true,if_false]
   ·((simp only [vM] at *;omega))
  ·have h1:=zY ‹(za p.cell a.toNat)[j]? = some _›
   have h2:=zY ‹(za p.cell a.toNat)[k]? = some _›
   refine ⟨(j+1,_),[(0,0),(1,1)],[],?_,?_,by (refine ⟨rfl,rfl,rfl,?_,?_⟩;repeat' first|exact trivial|exact rfl|refine And.intro ?_ ?_|refine ⟨_,rfl,?_⟩|decide)⟩
   ·refine ⟨by (omega),z1 fun u hu=>?_⟩
    have e0:(at0 (za p.cell a.toNat) j==at0 (za p.cell a.toNat) k&&decide (at0 (za p.rank a.toNat) j≤at0 (za p.rank a.toNat) k))=false:=by
     rw [Bool.and_eq_false_iff];left;rw [beq_eq_false_iff_ne];omega
    simp only [zcT,zF,e0,Bool.false_eq_true,if_false]
   ·((simp only [vM] at *;omega))
  ·refine ⟨(k+1,_),[(0,0),(1,1)],[],?_,?_,by (refine ⟨rfl,rfl,rfl,?_,?_⟩;repeat' first|exact trivial|exact rfl|refine And.intro ?_ ?_|refine ⟨_,rfl,?_⟩|decide)⟩
   ·refine ⟨by (omega),z1 fun u hu=>?_⟩
    have e0:j=p.W.toNat:=by (omega)
    subst e0
    by_cases e:u=k
    ·subst e;simp
    ·by_cases e1:u < k
     ·simp [e1,show u < k+1 by omega]
     ·simp [e1,e,show ¬ u < k+1 by omega]
   ·((simp only [vM] at *;omega))
 ·rw [zex,if_neg (by omega),if_neg (by omega),zb6]
  have e0:k=p.W.toNat:=by (omega)
  refine congrArg some (congrArg D.tup (congrArg (fun l=>[D.arr 1 l,D.int .i64 0]) ?_))
  rw [List.map_map]
  refine z1 fun u hu=>?_
  rw [if_pos (by omega)];rfl
end Go.Ab
namespace Go.Ab
open Go Go.Proofs
set_option maxRecDepth 10000
set_option maxHeartbeats 4000000
variable {T:Nat→Obj→Prop}
structure KM where
 W:Int
 val:List (BitVec 64)
 rel:List (List (BitVec 64))
 deriving DecidableEq
abbrev dKM (m:KM):D := .agg [.int .i64 m.W,dU m.val,dUU m.rel]
abbrev znl (m:KM):Ob := .box [.d (.int .i64 m.W),.d (dU m.val),.d (dUU m.rel)]
theorem zrx (l:List (BitVec 64)) (hl:l.length≤34359738368):Fn Tryz.prog T za9 [.d (dU l)] [] (.d (dU l)) []:=by
 refine zd zt zcj (by show 1≤8;decide) ?_
 (repeat' ((conv=>whnf);first|refine vA ?_|refine vB fun b hb=>?_|refine vE ?_|(refine vF ?_ ?_<;>intro hc)|refine vT ?_|(refine vP ?_ ?_;·(simp only [vM] at *;omega))|fail));all_goals try conv=>whnf
 ·rfl
 ·have:l=[]:=by simpa using hb (by simpa using hc)
  subst this;rfl
def zgk (p:PM) (succ:Nat→Nat→BitVec 64):KM×Int :=
 if zy p≠0 then (⟨0,[],[]⟩,zy p) else (⟨p.W,p.val,(List.range p.cell.length).map fun a=>(List.range p.W.toNat).map fun w=>succ a w⟩,0)
abbrev dKI (x:KM×Int):D := .tup [dKM x.1,.int .i64 x.2]
abbrev zrf (p:PM):D := .box [.int .i64 p.W,dU p.val,dII p.cell,dII p.rank]
theorem zoV (p:PM) (hg:zy p=0) (a w:Nat) (ha:a < p.cell.length) (hw:w < p.W.toNat):Fn Tryz.prog T zb3 [.d (.int .i64 (a:Int)),.d (.int .i64 (w:Int)),.d (zrf p)] [] (.d (.u64 (zcI (za p.cell a) w))) []:=by
 refine zd zt zjK (by show 3≤10;decide) ?_
 have hat:At p a w:=⟨hg,by omega,by omega,by omega,by omega⟩
 obtain ⟨h1,-,h2,-⟩:=hat.rows
 (repeat' ((conv=>whnf);refine vT ?_));all_goals try conv=>whnf
 refine zT.data (zkh p (a:Int) (w:Int) (za p.cell a) (by omega) h1 (by omega) (by rw [show ((za p.cell a).length:Int)=p.W from h2];omega)) (by (repeat refine ⟨⟨rfl,rfl⟩,?_⟩);rfl) rfl ?_
 (repeat' ((conv=>whnf);first|refine vT ?_|refine vY ?_));all_goals try conv=>whnf
 rfl
theorem zu3 (hR:zaK T) (p:PM) (hp:zaM p.rank) (g:Nat) (succ:Nat→Nat→BitVec 64)
  (hs:zy p=0 → ∀ a w:Nat,a < p.cell.length→w < p.W.toNat→Fn Tryz.prog T g [.d (.int .i64 (a:Int)),.d (.int .i64 (w:Int)),.d (zrf p)] [] (.d (.u64 (succ a w))) []) :
  Fn Tryz.prog T zh1 [.d (dPM p),.d (.fn g [zrf p])] [] (.d (dKI (zgk p succ))) []:=by
 refine zd zt zo7 (by show 2≤53;decide) ?_
 (repeat' ((conv=>whnf);first|refine vA ?_|(refine vD ?_ ?_<;>intro hc)|refine vT ?_|refine yD (zcP hR _ hp) ⟨⟨rfl,rfl⟩,rfl⟩ rfl ?_));all_goals try conv=>whnf
 ·rw [zgk,if_pos hc];rfl
 have hg:=zB hc
 have hw1:=hg.w1
 have hw2:=hg.w2
 have hv8:=hg.v8
 have hn4:=hg.n4
 have hs':=hs hc
 (repeat' ((conv=>whnf);first|refine vA ?_|refine vJ fun hg=>?_|refine vT ?_|(refine vU ?_ ?_;·kernel_rfl)|(refine yN (zrx _ ?_) ⟨⟨rfl,rfl⟩,rfl⟩ ?_;(·omega))|fail));all_goals try conv=>whnf
 refine zA (fun ((k,xs):Nat×List D)=>[(1,.d (.fn g [zrf p])),(2,.ptr 0 0),(4,.ptr 1 0),(7,.ptr 2 0),(25,.d (.int .i64 ((p.cell.map dI).length:Int))),(26,.d (.int .i64 ((k:Int))))]) (fun ((k,xs):Nat×List D)=>[(0,some (za1 p)),(1,some (.box [.d (.int .i64 0),.nils 1,.nils 1])),(2,some (.box [.d (.int .i64 p.W),.d (dU p.val),.own 3])),(3,some (.row 1 xs))]) 4 (fun ((k,xs):Nat×List D)=>k≤p.cell.length∧xs=(List.range k).map fun a=>dU ((List.range p.W.toNat).map fun w=>succ a w)) (fun ((k,xs):Nat×List D)=>p.cell.length - k) ((0,[])) [(0,0),(1,1),(2,2)]   [3] (⟨by simp,rfl⟩) (by (refine ⟨rfl,rfl,rfl,?_,?_⟩;repeat' first|exact trivial|exact rfl|exact ⟨_,rfl⟩|refine And.intro ?_ ?_|refine ⟨_,rfl,?_⟩|decide)) ?_
 rintro ⟨k,_⟩ ⟨hk,rfl⟩
 (repeat' ((conv=>whnf);first|refine vA ?_|(refine vF ?_ ?_<;>intro hc<;>try simp only [vL] at hc)|refine vK fun hg=>?_|refine vT ?_|(refine vP ?_ ?_;·omega)|fail));all_goals try conv=>whnf
 ·refine zA (fun ((j,ys):Nat×List D)=>[(1,.d (.fn g [zrf p])),(2,.ptr 0 0),(4,.ptr 1 0),(7,.ptr 2 0),(8,.d (.int .i64 ((k:Int)))),(9,.own 4),(25,.d (.int .i64 ((p.cell.map dI).length:Int))),(26,.d (.int .i64 ((k:Int)))),(33,.d (.int .i64 ((List.replicate p.W.toNat (D.u64 0#64)).length:Int))),(34,.d (.int .i64 ((j:Int))))]) (fun ((j,ys):Nat×List D)=>[(0,some (za1 p)),(1,some (.box [.d (.int .i64 0),.nils 1,.nils 1])),(2,some (.box [.d (.int .i64 p.W),.d (dU p.val),.own 3])),(3,some (.row 1 ((List.range k).map fun a=>dU ((List.range p.W.toNat).map fun w=>succ a w)))),(4,some (.row 1 ys))]) 5 (fun ((j,ys):Nat×List D)=>j≤p.W.toNat∧ys=(List.range p.W.toNat).map fun u=>D.u64 (if u < j then succ k u else 0#64)) (fun ((j,ys):Nat×List D)=>p.W.toNat - j) ((0,List.replicate p.W.toNat (D.u64 0#64))) [(0,0),(1,1),(2,2),(3,3),(4,4)] [] (⟨by simp,by simp only [Nat.not_lt_zero,if_false];exact zho _ _⟩) (by (refine ⟨rfl,rfl,rfl,?_,?_⟩;repeat' first|exact trivial|exact rfl|refine And.intro ?_ ?_|refine ⟨_,rfl,?_⟩|decide)) ?_
  rintro ⟨j,_⟩ ⟨hj,rfl⟩
  (repeat' ((conv=>whnf);first|refine vA ?_|(refine vF ?_ ?_<;>intro hc<;>try simp only [vL] at hc)|refine vT ?_|((first|refine vO ?_ ?_|refine vP ?_ ?_);·first|omega|(simp only [vM] at *;omega))|fail));all_goals try conv=>whnf
  ·refine zT.data (hs' k j (by omega) (by (omega))) (by (repeat refine ⟨⟨rfl,rfl⟩,?_⟩);rfl) rfl ?_
   (repeat' ((conv=>whnf);first|refine vT ?_|((first|refine vO ?_ ?_|refine vP ?_ ?_);·first|omega|(simp only [vM] at *;omega))|fail));all_goals try conv=>whnf
   refine ⟨(j+1,_),[(0,0),(1,1),(2,2),(3,3),(4,4)],[],?_,?_,by (refine ⟨rfl,rfl,rfl,?_,?_⟩;repeat' first|exact trivial|exact rfl|refine And.intro ?_ ?_|refine ⟨_,rfl,?_⟩|decide)⟩
   ·refine ⟨by (omega),(zeu _).trans (z1 fun u hu=>?_)⟩
    show (if u=j then _ else _)=_
    by_cases e:u=j
    ·subst e;simp
    ·by_cases e1:u < j
     ·simp [e1,e,show u < j+1 by omega]
     ·simp [e1,e,show ¬ u < j+1 by omega]
   ·((simp only [vM] at *;omega))
  ·refine ⟨(k+1,_),[(0,0),(1,1),(2,2),(3,6)],[],?_,?_,by (refine ⟨rfl,rfl,rfl,?_,?_⟩;repeat' first|exact trivial|exact rfl|refine And.intro ?_ ?_|refine ⟨_,rfl,?_⟩|decide)⟩
   ·refine ⟨by (omega),?_⟩
    have e0:j=p.W.toNat:=by (omega)
    subst e0
    rw [List.range_succ,List.map_append]
    refine congrArg (_++[D.arr 1 ·]) ?_
    rw [List.map_map]
    exact z1 fun u hu=>by rw [if_pos hu];rfl
   ·((simp only [vM] at *;omega))
 ·rw [zgk,if_neg (by omega)]
  have e0:k=p.cell.length:=by (omega)
  refine congrArg some (congrArg D.tup (congrArg (fun l=>[D.agg [.int .i64 p.W,dU p.val,.arr 1 l],D.int .i64 0]) ?_))
  rw [List.map_map,e0];rfl
theorem zy5 (hR:zaK T) (p:PM) (hp:zaM p.rank):Fn Tryz.prog T zfW [.d (dPM p)] [] (.d (dKI (zgk p fun a w=>zcI (za p.cell a) w))) []:=by
 refine zd zt zlB (by show 1≤9;decide) ?_
 (repeat' ((conv=>whnf);first|refine vT ?_|refine yN (zu3 hR p hp zb3 _ (fun hg a w ha hw=>zoV p hg a w ha hw)) ⟨⟨rfl,rfl⟩,⟨rfl,rfl⟩,rfl⟩ ?_));all_goals try conv=>whnf
 rfl
end Go.Ab
namespace Go.Ab
open Go Go.Proofs
set_option maxRecDepth 10000
set_option maxHeartbeats 4000000
variable {T:Nat→Obj→Prop}
theorem zbT {n:Int} {i:Nat} (h1:0≤n) (hi:i < 64):(zM n).getLsbD i=decide ((i:Int) < n):=by
 unfold zM
 split
 ·rename_i h
  rw [show ((-1:BitVec 64))=BitVec.allOnes 64 from rfl,BitVec.getLsbD_allOnes]
  simp [hi];omega
 ·rename_i h
  obtain ⟨m,rfl⟩:=Int.eq_ofNat_of_zero_le h1
  have hm:m < 64:=by omega
  rw [show (1#64 <<< (m:Int).toNat - 1#64)=BitVec.setWidth 64 (BitVec.allOnes m) from ?_]
  ·rw [BitVec.getLsbD_setWidth,BitVec.getLsbD_allOnes];simp [hi]
  ·apply BitVec.eq_of_toNat_eq
   have h2:2 ^ m < 2 ^ 64:=Nat.pow_lt_pow_right (by omega) hm
   have h3:0 < 2 ^ m:=Nat.two_pow_pos m
   rw [BitVec.toNat_sub,BitVec.toNat_shiftLeft,BitVec.toNat_setWidth,BitVec.toNat_allOnes]
   simp only [Int.toNat_natCast,Nat.shiftLeft_eq]
   rw [show (1#64).toNat=1 from rfl,Nat.one_mul,Nat.mod_eq_of_lt h2,Nat.mod_eq_of_lt (show 2 ^ m - 1 < 2 ^ 64 by omega)]
   omega
end Go.Ab
namespace Go.Ab
open Go Go.Proofs
set_option maxRecDepth 10000
set_option maxHeartbeats 4000000
variable {T:Nat→Obj→Prop}
def zZ (s:BitVec 64):List Nat:=(List.range 64).filter fun i=>s.getLsbD i
theorem zkf {p:Nat→Bool} {k:Nat} (hk:p k=true) (hlow : ∀ i,i < k→p i=false) : ∀ n,k < n→(List.range n).filter p=k::(List.range n).filter fun i=>p i&&i != k
 | 0,h=>by omega
 | n+1,h=>by
  rw [List.range_succ,List.filter_append,List.filter_append]
  by_cases e:k=n
  ·subst e
   have h1:(List.range k).filter p=[]:=by
    rw [List.filter_eq_nil_iff];intro i hi;rw [hlow i (List.mem_range.1 hi)];simp
   have h2:((List.range k).filter fun i=>p i&&i != k)=[]:=by
    rw [List.filter_eq_nil_iff];intro i hi;rw [hlow i (List.mem_range.1 hi)];simp
   rw [h1,h2]
   simp [hk]
  ·rw [zkf hk hlow n (by omega)]
   have:(n != k)=true:=by simp;omega
   have:List.filter (fun i=>p i&&i != k) [n]=List.filter p [n]:=by
    simp only [List.filter,this,Bool.and_true]
   rw [this];rfl
theorem zyg (s:BitVec 64) (h:s≠0#64):Lib.ctz 64 s.toNat < 64∧s.getLsbD (Lib.ctz 64 s.toNat)=true∧(∀ i,i < Lib.ctz 64 s.toNat→s.getLsbD i=false) ∧
  ∀ i,(s&&&(s - 1#64)).getLsbD i=(s.getLsbD i&&i != Lib.ctz 64 s.toNat):=by
 have h0:s.toNat≠0:=fun e=>h (BitVec.eq_of_toNat_eq (by simpa using e))
 have hc:Lib.ctz 64 s.toNat=Lib.ctzFrom 64 s.toNat:=by rw [Lib.ctz,if_neg h0]
 rw [hc]
 obtain ⟨m,hm,hlt⟩:=Lib.ctzFrom_spec 64 s.toNat (by omega) s.isLt
 generalize Lib.ctzFrom 64 s.toNat=k at hm hlt
 have hp:0 < 2 ^ k:=Nat.two_pow_pos k
 have hs:s.toNat=2 ^ k * (2 * m+1)+0:=hm
 have hbit : ∀ i,s.getLsbD i=if i < k then false else (2 * m+1).testBit (i - k):=fun i=>by
  rw [BitVec.getLsbD,hs,Nat.testBit_two_pow_mul_add _ hp]
  simp
 have hsub:(s - 1#64).toNat=2 ^ k * (2 * m)+(2 ^ k - 1):=by
  rw [BitVec.toNat_sub]
  have hlt':=s.isLt
  rw [hm] at hlt' ⊢
  rw [show (1#64).toNat=1 from rfl,Nat.mul_add,Nat.mul_one]
  rw [Nat.mul_add,Nat.mul_one] at hlt'
  omega
 have hbit' : ∀ i,(s - 1#64).getLsbD i=if i < k then (2 ^ k - 1).testBit i else (2 * m).testBit (i - k):=fun i=>by
  rw [BitVec.getLsbD,hsub,Nat.testBit_two_pow_mul_add _ (by omega)]
 refine ⟨hlt,?_,fun i hi=>?_,fun i=>?_⟩
 ·rw [hbit,if_neg (by omega),Nat.sub_self,Nat.testBit_zero];simp
 ·rw [hbit,if_pos hi]
 ·rw [BitVec.getLsbD_and,hbit,hbit']
  by_cases h1:i < k
  ·simp [h1]
  ·simp only [h1,if_false]
   by_cases h2:i=k
   ·subst h2;simp [Nat.testBit_zero]
   ·obtain ⟨j,hj⟩ : ∃ j,i - k=j+1:=⟨i - k - 1,by omega⟩
    rw [hj,Nat.testBit_succ,Nat.testBit_succ]
    have e1:(2 * m+1) / 2=m:=by omega
    have e2:2 * m / 2=m:=by omega
    rw [e1,e2]
    simp [h2]
theorem zst (s:BitVec 64) (h:s≠0#64):zZ s=Lib.ctz 64 s.toNat::zZ (s&&&(s - 1#64)):=by
 obtain ⟨h1,h2,h3,h4⟩:=zyg s h
 rw [zZ,zkf h2 h3 64 h1,zZ]
 congr 1
 exact List.filter_congr fun i _=>(h4 i).symm
theorem zsu:zZ 0#64=[]:=by decide
def zma (T:Nat→Obj→Prop):Prop := ∀ x:BitVec 64,Fn Tryz.prog T zaH [.d (.u64 x)] [] (.d (.int .i64 (Lib.ctz 64 x.toNat))) []
def rb (r:List (BitVec 64)) (w v:Nat):Bool:=(r.getD w 0#64).getLsbD v
theorem zun {r:List (BitVec 64)} {w:Nat} {s:BitVec 64} (h:r[w]? = some s) (v:Nat):rb r w v=s.getLsbD v:=by simp [rb,List.getD,h]
theorem zvB {r:List (BitVec 64)} {w v:Nat} (h:r.length≤w):rb r w v=false:=by simp [rb,List.getD,h]
def zjN (r:List (BitVec 64)):Prop := ∀ w v,rb r w v=true→v < r.length
theorem zn8 {s:BitVec 64} {v:Nat} : v∈zZ s↔s.getLsbD v=true:=by
 rw [zZ,List.mem_filter,List.mem_range]
 constructor
 ·exact fun h=>h.2
 ·exact fun h=>⟨BitVec.lt_of_getLsbD h,h⟩
def zcf {α:Type} (p:α→Bool) (l:List α):Int:=if l.findIdx p < l.length then (l.findIdx p:Int) else -1
theorem zfy {α:Type} {p:α→Bool} {l:List α} {k:Nat} {x:α} (h:l[k]? = some x) (hp:p x=true) (hI : ∀ i y,i < k→l[i]? = some y→p y=false):zcf p l=k:=by
 obtain ⟨hk,rfl⟩:=List.getElem?_eq_some_iff.1 h
 have:l.findIdx p=k:=by
  rw [List.findIdx_eq hk]
  exact ⟨hp,fun j hj=>by simpa using hI j l[j] hj (List.getElem?_eq_getElem (by omega))⟩
 rw [zcf,this,if_pos hk]
theorem zf3 {α:Type} {p:α→Bool} {l:List α} (hI : ∀ i y,i < l.length→l[i]? = some y→p y=false):zcf p l = -1:=by
 rw [zcf,if_neg]
 intro h
 have h1:=List.findIdx_getElem (p:=p) (xs:=l) (w:=h)
 rw [hI _ _ h (List.getElem?_eq_getElem h)] at h1;cases h1
theorem zrs {α:Type} {p:α→Bool} {l:List α} : 0≤zcf p l ↔ ∃ x∈l,p x=true:=by
 rw [zcf,← List.findIdx_lt_length]
 split<;>omega
theorem zrA (l:List Int) (x:Int):Fn Tryz.prog T zdz [.d (dI l),.d (.int .i64 x)] [] (.d (.int .i64 (zcf (fun y=>x==y) l))) []:=by
 refine zd zt zgP (by show 2≤19;decide) ?_
 (repeat' ((conv=>whnf);first|refine vA ?_|refine vJ fun hg=>?_|refine vT ?_));all_goals try conv=>whnf
 refine zar (fun (k:Nat)=>[(0,.d (dI l)),(1,.d (.int .i64 (x))),(7,.d (.int .i64 ((l.map (D.int .i64)).length:Int))),(8,.d (.int .i64 ((k:Int))))]) (fun (k:Nat)=>k≤l.length ∧ ∀ i y,i < k→l[i]? = some y→(x==y)=false) (fun (k:Nat)=>l.length - k) (0) (⟨by simp,by simp⟩) (by (repeat' first|exact trivial|exact rfl|refine And.intro ?_ ?_)) ?_
 rintro k ⟨hk,hI⟩
 (repeat' ((conv=>whnf);first|refine vA ?_|(refine vF ?_ ?_<;>intro hc<;>try simp only [vL] at hc)|refine vT ?_|(refine vQ ?_ fun x hx=>?_;·omega)|(refine vO ?_ ?_;·omega)|refine vX ?_));all_goals try conv=>whnf
 ·exact (zfy hx (by simpa using hc) hI).symm
 ·have hne:=hc
  exact ⟨k+1,[],[],⟨by (omega),fun i y hi hy=>by
   by_cases e:i=k
   ·subst e;rw [hx] at hy;cases hy;simpa using hne
   ·exact hI i y (by omega) hy⟩,by (omega),by (refine ⟨rfl,rfl,rfl,?_,?_⟩;repeat' first|exact trivial|exact rfl|refine And.intro ?_ ?_)⟩
 ·exact (zf3 fun i y hi hy=>hI i y (by omega) hy).symm
def zag (r:List (BitVec 64)):Int:=if 64 < r.length then 2 else if r.any (bad r.length) then 1 else 0
theorem zlP (r:List (BitVec 64)):Fn Tryz.prog T zeg [.d (.int .i64 ((r.map D.u64).length:Int)),.d (dU r)] [] (.d (.int .i64 (zag r))) []:=by
 have h:=zlr (T:=T) (r.length:Int) r
 have e:zag r=if (r.length:Int) < 0∨(64:Int) < (r.length:Int) then 2 else if (r.length:Int)≠(r.length:Int) then 3 else if r.any (bad (r.length:Int)) then 1 else 0:=by
  unfold zag
  by_cases h1:64 < r.length
  ·rw [if_pos h1,if_pos (.inr (Int.ofNat_lt.2 h1))]
  ·rw [if_neg h1,if_neg (show ¬((r.length:Int) < 0∨(64:Int) < (r.length:Int)) by omega),if_neg (show ¬((r.length:Int)≠(r.length:Int)) by simp)]
 rw [List.length_map,e];exact h
theorem zfs {n:Int} {s:BitVec 64} (h:0≤n):bad n s=false ↔ ∀ i,s.getLsbD i=true→(i:Int) < n:=by
 rw [bad,decide_eq_false_iff_not,Classical.not_not]
 constructor
 ·intro e i hi
  have hlt:=BitVec.lt_of_getLsbD hi
  have:=congrArg (fun x=>x.getLsbD i) e
  simp only [BitVec.getLsbD_and,BitVec.getLsbD_not,hlt,decide_true,Bool.true_and,hi,zbT h hlt] at this
  simpa using this
 ·intro hs
  apply BitVec.eq_of_getLsbD_eq
  intro i hi
  rw [BitVec.getLsbD_and,BitVec.getLsbD_not,zbT h hi]
  cases hb:s.getLsbD i with
  | false=>simp
  | true=>have:=hs i hb;simp [hi,this]
theorem zbt {r:List (BitVec 64)} : zag r=0↔r.length≤64∧zjN r:=by
 unfold zag
 by_cases h1:64 < r.length
 ·rw [if_pos h1];simp;omega
 ·rw [if_neg h1]
  have:(r.any (bad r.length)=false)↔zjN r:=by
   rw [List.any_eq_false]
   constructor
   ·intro h w v hv
    by_cases hw:w < r.length
    ·have:=(zfs (n:=(r.length:Int)) (by omega)).1 (by simpa using h r[w] (List.getElem_mem hw)) v (by rw [← zun (List.getElem?_eq_getElem hw)];exact hv)
     omega
    ·rw [zvB (by omega)] at hv;cases hv
   ·intro h s hs
    obtain ⟨w,hw⟩:=List.getElem?_of_mem hs
    rw [(zfs (n:=(r.length:Int)) (by omega)).2 (fun i hi=>by have:=h w i (by rw [zun hw];exact hi);omega)]
    simp
  cases hb:r.any (bad r.length) with
  | true =>
   rw [if_pos rfl]
   have : ¬ zjN r:=fun h=>by have:=this.2 h;rw [hb] at this;cases this
   simp [this]
  | false =>
   simp only [Bool.false_eq_true,if_false,true_iff]
   exact ⟨by omega,this.1 hb⟩
theorem zss {x y:BitVec 64} : x &&& ~~~y=0#64 ↔ ∀ i,x.getLsbD i=true→y.getLsbD i=true:=by
 constructor
 ·intro e i hi
  have hlt:=BitVec.lt_of_getLsbD hi
  have:=congrArg (fun x=>x.getLsbD i) e
  simp only [BitVec.getLsbD_and,BitVec.getLsbD_not,hlt,decide_true,Bool.true_and,hi] at this
  simpa using this
 ·intro h
  apply BitVec.eq_of_getLsbD_eq
  intro i hi
  rw [BitVec.getLsbD_and,BitVec.getLsbD_not]
  cases hb:x.getLsbD i with
  | false=>simp
  | true=>simp [hi,h i hb]
theorem zxC {s:BitVec 64} : s=0#64 ↔ ∀ i,s.getLsbD i=false:=by
 constructor
 ·rintro rfl i;simp
 ·intro h;apply BitVec.eq_of_getLsbD_eq;intro i _;rw [h i];simp
end Go.Ab
namespace Go.Ab
open Go Go.Proofs
section
variable {p:PM} {a w:Int} (hat:At p a w)
include hat
theorem zuN {i:Nat} : (zg5 p a w).getLsbD i=true↔i < p.W.toNat∧at0 (za p.cell a.toNat) i=at0 (za p.cell a.toNat) w.toNat:=by
 obtain ⟨-,-,h1,-,h3,-⟩:=hat.rows
 rw [zg5,if_pos hat,zcI,zes]
 simp only [Bool.and_eq_true,decide_eq_true_eq,beq_iff_eq]
 constructor
 ·rintro ⟨⟨-,h4⟩,h5⟩;exact ⟨by omega,h5⟩
 ·rintro ⟨h4,h5⟩;exact ⟨⟨by omega,by omega⟩,h5⟩
end
end Go.Ab
namespace Go.Ab
open Go Go.Proofs
set_option maxRecDepth 10000
set_option maxHeartbeats 4000000
variable {T:Nat→Obj→Prop}
abbrev bI (x:Int):D := .box [.int .i64 x]
abbrev bU (x:BitVec 64):D := .box [.u64 x]
abbrev bP (p:PM):D := .box [.int .i64 p.W,dU p.val,dII p.cell,dII p.rank]
theorem zu7 (p:PM) (hW:p.W≤64) (g:Nat) (x0 x1:D) (c:Nat→Bool) (hcl : ∀ w:Nat,w < p.W.toNat→Fn Tryz.prog T g [.d (.int .i64 (w:Int)),.d x0,.d x1] [] (.d (.bool (c w))) []) :
  Fn Tryz.prog T zc0 [.d (dPM p),.d (.fn g [x0,x1])] [] (.d (.u64 (zF c p.W.toNat))) []:=by
 refine zd zt zej (by show 2≤21;decide) ?_
 (repeat' ((conv=>whnf);first|refine vA ?_|refine vT ?_));all_goals try conv=>whnf
 refine zar (fun ((k,s):Nat×BitVec 64)=>[(1,.d (.fn g [x0,x1])),(8,.d (.int .i64 (p.W))),(5,.d (.u64 (s))),(9,.d (.int .i64 ((k:Int))))]) (fun ((k,s):Nat×BitVec 64)=>k≤p.W.toNat∧s=zF c k) (fun ((k,s):Nat×BitVec 64)=>p.W.toNat - k) ((0,0#64)) (⟨by simp,rfl⟩) (by (repeat' first|exact trivial|exact rfl|refine And.intro ?_ ?_)) ?_
 rintro ⟨k,s⟩ ⟨hk,hI⟩
 (repeat' ((conv=>whnf);first|refine vA ?_|(refine vF ?_ ?_<;>intro hc<;>try simp only [vL] at hc)|refine vT ?_|refine vY ?_));all_goals try conv=>whnf
 ·have h1:=hcl k (by omega)
  cases hck:c k with
  | true =>
   rw [hck] at h1
   (repeat' ((conv=>whnf);first|refine vG ?_|refine vT ?_|((first|refine vO ?_ ?_|refine vP ?_ ?_);·omega)|refine yD h1 (by (repeat refine ⟨⟨rfl,rfl⟩,?_⟩);rfl) rfl ?_));all_goals try conv=>whnf
   refine ⟨(k+1,_),[],[],?_,?_,by (refine ⟨rfl,rfl,rfl,?_,?_⟩;repeat' first|exact trivial|exact rfl|refine And.intro ?_ ?_)⟩
   ·exact ⟨by (omega),by rw [zF,if_pos hck,hI];rfl⟩
   ·((simp only [vM] at *;omega))
  | false =>
   rw [hck] at h1
   (repeat' ((conv=>whnf);first|refine vH ?_|refine vT ?_|(refine vO ?_ ?_;·omega)|refine yD h1 (by (repeat refine ⟨⟨rfl,rfl⟩,?_⟩);rfl) rfl ?_));all_goals try conv=>whnf
   exact ⟨(k+1,s),[],[],⟨by (omega),by rw [zF,if_neg (by simp [hck]),hI]⟩,by ((simp only [vM] at *;omega)),by (refine ⟨rfl,rfl,rfl,?_,?_⟩;repeat' first|exact trivial|exact rfl|refine And.intro ?_ ?_)⟩
 ·rw [hI,show k=p.W.toNat by omega]
theorem zu8 (p:PM) (hW:p.W≤64) (g:Nat) (x0 x1 x2:D) (c:Nat→Bool) (hcl : ∀ w:Nat,w < p.W.toNat→Fn Tryz.prog T g [.d (.int .i64 (w:Int)),.d x0,.d x1,.d x2] [] (.d (.bool (c w))) []) :
  Fn Tryz.prog T zc0 [.d (dPM p),.d (.fn g [x0,x1,x2])] [] (.d (.u64 (zF c p.W.toNat))) []:=by
 refine zd zt zej (by show 2≤21;decide) ?_
 (repeat' ((conv=>whnf);first|refine vA ?_|refine vT ?_));all_goals try conv=>whnf
 refine zar (fun ((k,s):Nat×BitVec 64)=>[(1,.d (.fn g [x0,x1,x2])),(8,.d (.int .i64 (p.W))),(5,.d (.u64 (s))),(9,.d (.int .i64 ((k:Int))))]) (fun ((k,s):Nat×BitVec 64)=>k≤p.W.toNat∧s=zF c k) (fun ((k,s):Nat×BitVec 64)=>p.W.toNat - k) ((0,0#64)) (⟨by simp,rfl⟩) (by (repeat' first|exact trivial|exact rfl|refine And.intro ?_ ?_)) ?_
 rintro ⟨k,s⟩ ⟨hk,hI⟩
 (repeat' ((conv=>whnf);first|refine vA ?_|(refine vF ?_ ?_<;>intro hc<;>try simp only [vL] at hc)|refine vT ?_|refine vY ?_));all_goals try conv=>whnf
 ·have h1:=hcl k (by omega)
  cases hck:c k with
  | true =>
   rw [hck] at h1
   (repeat' ((conv=>whnf);first|refine vG ?_|refine vT ?_|((first|refine vO ?_ ?_|refine vP ?_ ?_);·omega)|refine yD h1 (by (repeat refine ⟨⟨rfl,rfl⟩,?_⟩);rfl) rfl ?_));all_goals try conv=>whnf
   refine ⟨(k+1,_),[],[],?_,?_,by (refine ⟨rfl,rfl,rfl,?_,?_⟩;repeat' first|exact trivial|exact rfl|refine And.intro ?_ ?_)⟩
   ·exact ⟨by (omega),by rw [zF,if_pos hck,hI];rfl⟩
   ·((simp only [vM] at *;omega))
  | false =>
   rw [hck] at h1
   (repeat' ((conv=>whnf);first|refine vH ?_|refine vT ?_|(refine vO ?_ ?_;·omega)|refine yD h1 (by (repeat refine ⟨⟨rfl,rfl⟩,?_⟩);rfl) rfl ?_));all_goals try conv=>whnf
   exact ⟨(k+1,s),[],[],⟨by (omega),by rw [zF,if_neg (by simp [hck]),hI]⟩,by ((simp only [vM] at *;omega)),by (refine ⟨rfl,rfl,rfl,?_,?_⟩;repeat' first|exact trivial|exact rfl|refine And.intro ?_ ?_)⟩
 ·rw [hI,show k=p.W.toNat by omega]
theorem zu9 (p:PM) (hW:p.W≤64) (g:Nat) (x0 x1 x2 x3:D) (c:Nat→Bool) (hcl : ∀ w:Nat,w < p.W.toNat→Fn Tryz.prog T g [.d (.int .i64 (w:Int)),.d x0,.d x1,.d x2,.d x3] [] (.d (.bool (c w))) []) :
  Fn Tryz.prog T zc0 [.d (dPM p),.d (.fn g [x0,x1,x2,x3])] [] (.d (.u64 (zF c p.W.toNat))) []:=by
 refine zd zt zej (by show 2≤21;decide) ?_
 (repeat' ((conv=>whnf);first|refine vA ?_|refine vT ?_));all_goals try conv=>whnf
 refine zar (fun ((k,s):Nat×BitVec 64)=>[(1,.d (.fn g [x0,x1,x2,x3])),(8,.d (.int .i64 (p.W))),(5,.d (.u64 (s))),(9,.d (.int .i64 ((k:Int))))]) (fun ((k,s):Nat×BitVec 64)=>k≤p.W.toNat∧s=zF c k) (fun ((k,s):Nat×BitVec 64)=>p.W.toNat - k) ((0,0#64)) (⟨by simp,rfl⟩) (by (repeat' first|exact trivial|exact rfl|refine And.intro ?_ ?_)) ?_
 rintro ⟨k,s⟩ ⟨hk,hI⟩
 (repeat' ((conv=>whnf);first|refine vA ?_|(refine vF ?_ ?_<;>intro hc<;>try simp only [vL] at hc)|refine vT ?_|refine vY ?_));all_goals try conv=>whnf
 ·have h1:=hcl k (by omega)
  cases hck:c k with
  | true =>
   rw [hck] at h1
   (repeat' ((conv=>whnf);first|refine vG ?_|refine vT ?_|((first|refine vO ?_ ?_|refine vP ?_ ?_);·omega)|refine yD h1 (by (repeat refine ⟨⟨rfl,rfl⟩,?_⟩);rfl) rfl ?_));all_goals try conv=>whnf
   refine ⟨(k+1,_),[],[],?_,?_,by (refine ⟨rfl,rfl,rfl,?_,?_⟩;repeat' first|exact trivial|exact rfl|refine And.intro ?_ ?_)⟩
   ·exact ⟨by (omega),by rw [zF,if_pos hck,hI];rfl⟩
   ·((simp only [vM] at *;omega))
  | false =>
   rw [hck] at h1
   (repeat' ((conv=>whnf);first|refine vH ?_|refine vT ?_|(refine vO ?_ ?_;·omega)|refine yD h1 (by (repeat refine ⟨⟨rfl,rfl⟩,?_⟩);rfl) rfl ?_));all_goals try conv=>whnf
   exact ⟨(k+1,s),[],[],⟨by (omega),by rw [zF,if_neg (by simp [hck]),hI]⟩,by ((simp only [vM] at *;omega)),by (refine ⟨rfl,rfl,rfl,?_,?_⟩;repeat' first|exact trivial|exact rfl|refine And.intro ?_ ?_)⟩
 ·rw [hI,show k=p.W.toNat by omega]
def zeN (p:PM) (a:Int) (s:BitVec 64):BitVec 64:=zF (fun w=>decide (zg5 p a w &&& ~~~s=0#64)) p.W.toNat
def zpv (p:PM) (a:Int) (c s:BitVec 64):BitVec 64:=zF (fun w=>decide (znh p a w c &&& ~~~s=0#64)) p.W.toNat
def zpl (p:PM) (a:Int) (s:BitVec 64):BitVec 64:=zF (fun w=>decide ((zex p a).1.getD w 0#64 &&& ~~~s=0#64)) p.W.toNat
theorem zf4 (p:PM) (h:1≤p.W) (h':p.W≤64):Fn Tryz.prog T zhV [.d (dPM p)] [] (.d (.u64 (zM p.W))) []:=by
 refine zd zt zo0 (by show 1≤7;decide) ?_
 (repeat' ((conv=>whnf);first|refine vT ?_|((first|refine vO ?_ ?_|refine vP ?_ ?_);·omega)|refine vY ?_));all_goals try conv=>whnf
 apply BitVec.eq_of_getLsbD_eq
 intro i hi
 rw [zbT (by omega) hi]
 show ((18446744073709551615#64) >>> (64 - p.W).toNat).getLsbD i=_
 rw [BitVec.getLsbD_ushiftRight,show (18446744073709551615#64)=BitVec.allOnes 64 from rfl,BitVec.getLsbD_allOnes,Bool.eq_iff_iff]
 simp only [Bool.and_eq_true,decide_eq_true_eq]
 omega
theorem zrC (hR:zaK T) (p:PM) (hp:zaM p.rank) (hW:p.W≤64) (a:Int) (s:BitVec 64):Fn Tryz.prog T zgJ [.d (dPM p),.d (.int .i64 a),.d (.u64 s)] [] (.d (.u64 (zeN p a s))) []:=by
 have h1 : ∀ w:Nat,w < p.W.toNat→Fn Tryz.prog T zce [.d (.int .i64 (w:Int)),.d (bP p),.d (bI a),.d (bU s)] [] (.d (.bool (decide (zg5 p a w &&& ~~~s=0#64)))) []:=fun w hw=>by
  refine zd zt zks (by show 4≤13;decide) ?_
  (repeat' ((conv=>whnf);first|refine vA ?_|refine vT ?_|(refine vU ?_ ?_;·kernel_rfl)|refine vZ ?_|refine yD (zx6 hR _ hp _ _) ⟨⟨rfl,rfl⟩,⟨rfl,rfl⟩,⟨rfl,rfl⟩,rfl⟩ rfl ?_));all_goals try conv=>whnf
  all_goals rfl
 have h2:=zu8 p hW zce (bP p) (bI a) (bU s) _ h1
 refine zd zt zmJ (by show 3≤10;decide) ?_
 (repeat' ((conv=>whnf);first|refine vT ?_|refine vY ?_|refine yD h2 ⟨⟨rfl,rfl⟩,⟨rfl,rfl⟩,rfl⟩ rfl ?_));all_goals try conv=>whnf
 all_goals rfl
theorem zsJ (hR:zaK T) (p:PM) (hp:zaM p.rank) (hW:p.W≤64) (a:Int) (c s:BitVec 64):Fn Tryz.prog T zeS [.d (dPM p),.d (.int .i64 a),.d (.u64 c),.d (.u64 s)] [] (.d (.u64 (zpv p a c s))) []:=by
 have h1 : ∀ w:Nat,w < p.W.toNat→Fn Tryz.prog T zbC [.d (.int .i64 (w:Int)),.d (bP p),.d (bI a),.d (bU c),.d (bU s)] [] (.d (.bool (decide (znh p a w c &&& ~~~s=0#64)))) []:=fun w hw=>by
  refine zd zt zid (by show 5≤15;decide) ?_
  (repeat' ((conv=>whnf);first|refine vA ?_|refine vT ?_|(refine vU ?_ ?_;·kernel_rfl)|refine vZ ?_|refine yD (zx5 hR _ hp _ _ _) (by (repeat refine ⟨⟨rfl,rfl⟩,?_⟩);rfl) rfl ?_));all_goals try conv=>whnf
  all_goals rfl
 have h2:=zu9 p hW zbC (bP p) (bI a) (bU c) (bU s) _ h1
 refine zd zt zjH (by show 4≤12;decide) ?_
 (repeat' ((conv=>whnf);first|refine vT ?_|refine vY ?_|refine yD h2 ⟨⟨rfl,rfl⟩,⟨rfl,rfl⟩,rfl⟩ rfl ?_));all_goals try conv=>whnf
 all_goals rfl
theorem zu5 (hR:zaK T) (p:PM) (hp:zaM p.rank) (hc0:zy p=0) (a:Int) (ha:0≤a) (ha':a < p.cell.length) (s:BitVec 64):Fn Tryz.prog T zfR [.d (dPM p),.d (.int .i64 a),.d (.u64 s)] [] (.d (.u64 (zpl p a s))) []:=by
 have hg:=zB hc0
 have e:zex p a=(zb6 p a.toNat,0):=by rw [zex,if_neg (by omega),if_neg (by omega)]
 have hl:(zb6 p a.toNat).length=p.W.toNat:=by simp [zb6]
 have h1 : ∀ w:Nat,w < p.W.toNat→Fn Tryz.prog T zb2 [.d (.int .i64 (w:Int)),.d (.box [dU (zb6 p a.toNat)]),.d (bU s)] [] (.d (.bool (decide ((zb6 p a.toNat).getD w 0#64 &&& ~~~s=0#64)))) []:=fun w hw=>by
  refine zd zt zjI (by show 3≤12;decide) ?_
  have hx:(zb6 p a.toNat)[w]? = some ((zb6 p a.toNat).getD w 0#64):=by simp [List.getD,hl,hw]
  (repeat' ((conv=>whnf);first|refine vA ?_|refine vT ?_|refine vN ‹_› ?_|(refine vU ?_ ?_;·kernel_rfl)|refine vZ ?_));all_goals try conv=>whnf
  all_goals rfl
 have h2:=zu7 p hg.w2 zb2 (.box [dU (zb6 p a.toNat)]) (bU s) _ h1
 have h3:=zuY (T:=T) hR p hp a
 rw [e] at h3
 rw [zpl,e]
 refine zd zt zlv (by show 3≤18;decide) ?_
 (repeat' ((conv=>whnf);first|refine vT ?_|refine vY ?_|refine yN h3 ⟨⟨rfl,rfl⟩,⟨rfl,rfl⟩,rfl⟩ ?_|refine yD h2 ⟨⟨rfl,rfl⟩,⟨rfl,rfl⟩,rfl⟩ rfl ?_));all_goals try conv=>whnf
 all_goals rfl
end Go.Ab
namespace Go.Ab
open Go Go.Proofs
set_option maxRecDepth 10000
set_option maxHeartbeats 4000000
variable {T:Nat→Obj→Prop}
theorem zT.objs {P:Program} {M:Nat→Option Ob} {n f:Nat} {vs lvs:List V} {obs:List Ob} {lv:V} {obs':List (Option Ob)} {K:V→Upd→Nat→Prop} (js:List Nat) (hf:Fn P T f lvs obs lv obs') (ha:VPasses M js [] 20 lvs vs)
  (ho:zaD M js [] obs js) (hnd:nodup js=true) (hsj:zdG js (zI M vs)=true) (hle:js.length≤obs'.length)
  (hK:K (zjg js n 20 lv) (zfh js [] n obs' false) (obs'.length - js.length)):zT (zcW P T) M n f vs K :=
 ⟨⟨_,_,_,⟨js,[],false,lvs,obs,lv,obs',hf,ha,ho,hnd,by simp [zdw],hsj,by simp [zdG],hle,nofun,rfl,rfl,rfl⟩,hK⟩⟩
section
variable {α:Type} [Inhabited α]
theorem zxV {d:Array α} {i:Nat} (h:i < d.size):d.toList[i]? = some d[i]! := by
 simp [h]
theorem zd2 {d:Array α} {i:Nat} {x:α} (h:d.toList[i]? = some x):d[i]! = x∧i < d.size:=by
 obtain ⟨h1,h2⟩:=List.getElem?_eq_some_iff.1 h
 rw [Array.length_toList] at h1
 exact ⟨by simp [h1];simpa using h2,h1⟩
theorem zfr {d:Array α} {i:Int} {x:α} (k:Nat) (h:d.toList[i.toNat]? = some x) (hk:i=k):d.toList[k]? = some x:=by subst hk;exact h
theorem swp_size (d:Array α) (i j:Nat):(Sort.swp d i j).size=d.size:=by simp [Sort.swp]
variable {lt:α→α→Bool}
theorem insInner_size {a:Nat} : ∀ {j:Nat} {d:Array α},(Sort.insInner lt a j d).size=d.size
 | 0,d=>rfl
 | j+1,d=>by
  unfold Sort.insInner
  split
  ·rw [insInner_size,swp_size]
  ·rfl
theorem insOuter_stop {a b i:Nat} {d:Array α} (h : ¬i < b):Sort.insOuter lt a b i d=d:=by rw [Sort.insOuter,if_neg h]
theorem insOuter_step {a b i:Nat} {d:Array α} (h:i < b):Sort.insOuter lt a b i d=Sort.insOuter lt a b (i+1) (Sort.insInner lt a i d):=by rw [Sort.insOuter.eq_def lt a b i,if_pos h]
theorem zqa {hi first root:Nat} {d:Array α} (h:2 * root+1 ≥ hi):Sort.siftDown lt hi first root d=d:=by rw [Sort.siftDown,dif_pos h]
def zge (lt:α→α→Bool) (hi first root:Nat) (d:Array α):Nat:=if 2 * root+1+1 < hi∧lt d[first+(2 * root+1)]! d[first+(2 * root+1)+1]! = true then 2 * root+2 else 2 * root+1
theorem zyw {hi first root:Nat} {d:Array α} (h : ¬2 * root+1 ≥ hi):Sort.siftDown lt hi first root d =
  if lt d[first+root]! d[first+zge lt hi first root d]! = true then Sort.siftDown lt hi first (zge lt hi first root d) (Sort.swp d (first+root) (first+zge lt hi first root d)) else d:=by
 rw [Sort.siftDown,dif_neg h,zge]
 by_cases h1:2 * root+1+1 < hi∧lt d[first+(2 * root+1)]! d[first+(2 * root+1)+1]! = true
 ·rw [if_pos (by simpa using h1),if_pos h1]
  cases hb:lt d[first+root]! d[first+(2 * root+2)]! with
  | false=>simp
  | true=>simp only [Bool.not_true,Bool.false_eq_true,if_false,if_true];rw [dif_pos (by omega)]
 ·rw [if_neg (by simpa using h1),if_neg h1]
  cases hb:lt d[first+root]! d[first+(2 * root+1)]! with
  | false=>simp
  | true=>simp
theorem zp9 {hi first:Nat} : ∀ (n root:Nat) (d:Array α),hi - root≤n→(Sort.siftDown lt hi first root d).size=d.size
 | 0,root,d,h=>by rw [zqa (by omega)]
 | n+1,root,d,h=>by
  by_cases h1:2 * root+1 ≥ hi
  ·rw [zqa h1]
  ·rw [zyw h1]
   split
   ·have:root < zge lt hi first root d:=by unfold zge;split<;>omega
    rw [zp9 n _ _ (by omega),swp_size]
   ·rfl
theorem siftDown_size {hi first root:Nat} {d:Array α} : (Sort.siftDown lt hi first root d).size=d.size:=zp9 _ _ _ (Nat.le_refl _)
theorem build_size {hi first:Nat} : ∀ {k:Nat} {d:Array α},(Sort.heapBuild lt hi first k d).size=d.size
 | 0,d=>rfl
 | k+1,d=>by rw [Sort.heapBuild,build_size,siftDown_size]
end
end Go.Ab
namespace Go.Ab
structure Nd where
 op:Int
 i:Int
 e:Int
 g:Int
 x:Int
 y:Int
 deriving DecidableEq,Inhabited
structure Hd where
 op:Int
 i:Int
 e:Int
 g:Int
 deriving DecidableEq,Inhabited
def Nd.hd (n:Nd):Hd:=⟨n.op,n.i,n.e,n.g⟩
def zcx (op:Int):Bool:=decide (1≤op∧op≤21)
def zak (op:Int):Bool:=decide (4≤op∧op≤21)
def zae (op:Int):Bool:=decide (5≤op∧op≤8∨op=13∨op=14∨op=16∨op=19∨op=21)
def z2 (op:Int):Bool:=decide (op=3)
def zE (op:Int):Bool:=decide (op=9∨op=10∨op=14∨op=15)
def zN (op:Int):Bool:=decide (op=17)
def zH (op:Int):Bool:=decide (11≤op∧op≤13)
def zaP (op:Int):Int :=
 if op=9∨op=10 then 1 else if op=11 then 2 else if op=12 then 4 else if op=13 then 8 else if op=14 then 16 else if op=15 then 32 else if op=16 then 64 else if op=17 then 128 else
 if 18≤op∧op≤21 then 256 else 0
theorem zaQ {op:Int} (h:zae op=true):zak op=true:=by
 simp only [zak,zae,decide_eq_true_eq] at h ⊢;omega
def zhn (used:Bool) (f at_:Int):Bool:=used&&decide (0≤f)&&decide (f < at_) || !used&&decide (f=0)
def zbG (used:Bool) (v lo hi:Int):Bool:=used&&(decide (v < lo)||decide (hi < v))
def zdD (n:Nd) (at_:Int):Int :=
 if zcx n.op=false then 10 else
 if zhn (zak n.op) n.x at_=false∨zhn (zae n.op) n.y at_=false then 3 else
 if (!(z2 n.op||zE n.op||zN n.op)&&decide (n.i≠0)||(!zN n.op&&decide (n.e≠0))||(!zH n.op&&decide (n.g≠0)))=true then 3 else
 if (zbG (z2 n.op) n.i 0 7||zbG (zE n.op) n.i 0 3||zbG (zN n.op) n.i 0 7||zbG (zN n.op) n.e 0 7||zbG (zH n.op) n.g 1 15)=true then 2 else 0
def zfv:List Nd→Nat→Int
 | [],_=>0
 | n::r,k=>if zdD n k≠0 then zdD n k else zfv r (k+1)
def zbh (f:List Nd):Int:=if f.length=0 then 3 else if 200 < f.length then 8 else zfv f 0
def zaN (f:List Nd):Prop := ∀ (k:Nat) n,f[k]? = some n→zdD n k=0
theorem zj8 : ∀ (f:List Nd) (k:Nat),zfv f k=0 ↔ ∀ (j:Nat) n,f[j]? = some n→zdD n (k+j:Nat)=0
 | [],k=>by simp [zfv]
 | n::r,k=>by
  unfold zfv
  constructor
  ·intro h
   split at h
   ·contradiction
   ·rename_i h0
    intro j m hj
    cases j with
    | zero=>simp at hj;subst hj;simpa using h0
    | succ j =>
     have:=(zj8 r (k+1)).1 h j m (by simpa using hj)
     rwa [show k+1+j=k+(j+1) by omega] at this
  ·intro h
   have h0:=h 0 n (by simp)
   rw [if_neg (by simpa using h0)]
   refine (zj8 r (k+1)).2 fun j m hj=>?_
   have:=h (j+1) m (by simpa using hj)
   rwa [show k+(j+1)=k+1+j by omega] at this
theorem zdI {f:List Nd} : zbh f=0↔0 < f.length∧f.length≤200∧zaN f:=by
 unfold zbh zaN
 have:=zj8 f 0
 simp only [Nat.zero_add] at this
 by_cases h1:f.length=0
 ·rw [if_pos h1];omega
 ·rw [if_neg h1]
  by_cases h2:200 < f.length
  ·rw [if_pos h2];omega
  ·rw [if_neg h2,this]
   exact ⟨fun h=>⟨by omega,by omega,h⟩,fun h=>h.2.2⟩
theorem zpe {n:Nd} {a:Int} (h:zdD n a=0):zcx n.op=true∧(zak n.op=true→0≤n.x∧n.x < a)∧(zak n.op=false→n.x=0)∧(zae n.op=true→0≤n.y∧n.y < a)∧(zae n.op=false→n.y=0) ∧
  (z2 n.op=true→0≤n.i∧n.i≤7)∧(zE n.op=true→0≤n.i∧n.i≤3)∧(zN n.op=true→0≤n.i∧n.i≤7∧0≤n.e∧n.e≤7)∧(zH n.op=true→1≤n.g∧n.g≤15) ∧
  (z2 n.op=false→zE n.op=false→zN n.op=false→n.i=0)∧(zN n.op=false→n.e=0)∧(zH n.op=false→n.g=0):=by
 unfold zdD at h
 split at h
 ·cases h
 ·rename_i h1
  split at h
  ·cases h
  ·rename_i h2
   split at h
   ·cases h
   ·rename_i h3
    split at h
    ·cases h
    ·rename_i h4
     generalize zak n.op=a1 at *
     generalize zae n.op=a2 at *
     generalize z2 n.op=a3 at *
     generalize zE n.op=a4 at *
     generalize zN n.op=a5 at *
     generalize zH n.op=a6 at *
     refine ⟨by simpa using h1,?_⟩
     simp only [zhn,zbG] at h2 h3 h4
     cases a1<;>cases a2<;>cases a3<;>cases a4<;>cases a5<;>cases a6<;>simp at h2 h3 h4 ⊢ <;> omega
theorem zyi {n:Nd} {a:Int} (h:zcx n.op=true∧(zak n.op=true→0≤n.x∧n.x < a)∧(zak n.op=false→n.x=0)∧(zae n.op=true→0≤n.y∧n.y < a)∧(zae n.op=false→n.y=0) ∧
  (z2 n.op=true→0≤n.i∧n.i≤7)∧(zE n.op=true→0≤n.i∧n.i≤3)∧(zN n.op=true→0≤n.i∧n.i≤7∧0≤n.e∧n.e≤7)∧(zH n.op=true→1≤n.g∧n.g≤15) ∧
  (z2 n.op=false→zE n.op=false→zN n.op=false→n.i=0)∧(zN n.op=false→n.e=0)∧(zH n.op=false→n.g=0)):zdD n a=0:=by
 unfold zdD
 generalize zak n.op=a1 at *
 generalize zae n.op=a2 at *
 generalize z2 n.op=a3 at *
 generalize zE n.op=a4 at *
 generalize zN n.op=a5 at *
 generalize zH n.op=a6 at *
 rw [if_neg (by simp [h.1]),if_neg,if_neg,if_neg]
 all_goals
  try simp only [zhn,zbG]
  cases a1<;>cases a2<;>cases a3<;>cases a4<;>cases a5<;>cases a6<;>simp at h ⊢ <;> omega
structure FSt where
 out:List Nd
 done:List (Nat×Nat)
def put (l:List Nd) (x:Nd):Nat×List Nd:=match l.idxOf? x with
 | some k=>(k,l)
 | none=>(l.length,l++[x])
def fin (f:List Nd):Nat→Nat→FSt→Nat×FSt
 | 0,_,s=>(0,s)
 | k+1,i,s=>match s.done.lookup i with
  | some r=>(r,s)
  | none =>
   let n:=f.getD i default
   let a:=cond (zak n.op) (fin f k n.x.toNat s) (n.x.toNat,s)
   let b:=cond (zae n.op) (fin f k n.y.toNat a.2) (n.y.toNat,a.2)
   let p:=put b.2.out { n with x:=a.1,y:=b.1 }
   (p.1,⟨p.2,b.2.done++[(i,p.1)]⟩)
def zcu (f:List Nd) (root:Nat):List Nd:=(fin f (root+1) root ⟨[],[]⟩).2.out
inductive Tm where
 | z (h:Hd)
 | u (h:Hd) (x:Tm)
 | b (h:Hd) (x y:Tm)
def tm (f:List Nd):Nat→Nat→Tm
 | 0,_ => .z default
 | k+1,i =>
  let n:=f.getD i default
  cond (zae n.op) (.b n.hd (tm f k n.x.toNat) (tm f k n.y.toNat)) (cond (zak n.op) (.u n.hd (tm f k n.x.toNat)) (.z n.hd))
def zat (f:List Nd) (i:Nat):Tm:=tm f (i+1) i
theorem zgl {f:List Nd} (hf:zaN f) {i:Nat} (hi:i < f.length):zdD (f.getD i default) i=0:=hf i _ (by simp [hi])
theorem zbn {f:List Nd} (hf:zaN f) {i:Nat} (hi:i < f.length) (h:zak (f.getD i default).op=true):0≤(f.getD i default).x∧(f.getD i default).x.toNat < i:=by
 have:=(zpe (zgl hf hi)).2.1 h;omega
theorem zd6 {f:List Nd} (hf:zaN f) {i:Nat} (hi:i < f.length) (h:zae (f.getD i default).op=true):0≤(f.getD i default).y∧(f.getD i default).y.toNat < i:=by
 have:=(zpe (zgl hf hi)).2.2.2.1 h;omega
theorem zgq {f:List Nd} (hf:zaN f) : ∀ (k k' i:Nat),i < f.length→i < k→i < k'→tm f k i=tm f k' i
 | 0,_,_,_,h,_=>by omega
 | _+1,0,_,_,_,h=>by omega
 | k+1,k'+1,i,hi,h1,h2=>by
  unfold tm
  simp only
  cases hy:zae (f.getD i default).op with
  | true =>
   have e1:=zbn hf hi (zaQ hy)
   have e2:=zd6 hf hi hy
   simp only [cond_true]
   rw [zgq hf k k' _ (by omega) (by omega) (by omega),zgq hf k k' (f.getD i default).y.toNat (by omega) (by omega) (by omega)]
  | false =>
   simp only [cond_false]
   cases hx:zak (f.getD i default).op with
   | true =>
    have e1:=zbn hf hi hx
    simp only [cond_true]
    rw [zgq hf k k' _ (by omega) (by omega) (by omega)]
   | false=>rfl
theorem zgo {f:List Nd} (hf:zaN f) {i:Nat} (hi:i < f.length):zat f i=cond (zae (f.getD i default).op) (.b (f.getD i default).hd (zat f (f.getD i default).x.toNat) (zat f (f.getD i default).y.toNat)) (cond (zak (f.getD i default).op) (.u (f.getD i default).hd (zat f (f.getD i default).x.toNat)) (.z (f.getD i default).hd)):=by
 unfold zat
 rw [tm]
 try simp only
 cases hy:zae (f.getD i default).op with
 | true =>
  have e1:=zbn hf hi (zaQ hy)
  have e2:=zd6 hf hi hy
  simp only [cond_true]
  rw [zgq hf i _ _ (by omega) (by omega) (Nat.lt_succ_self _),zgq hf i _ (f.getD i default).y.toNat (by omega) (by omega) (Nat.lt_succ_self _)]
 | false =>
  simp only [cond_false]
  cases hx:zak (f.getD i default).op with
  | true =>
   have e1:=zbn hf hi hx
   simp only [cond_true]
   rw [zgq hf i _ _ (by omega) (by omega) (Nat.lt_succ_self _)]
  | false=>rfl
theorem zht {f g:List Nd} (hf:zaN f) : ∀ (k i:Nat),i < f.length→tm (f++g) k i=tm f k i
 | 0,_,_=>rfl
 | k+1,i,hi=>by
  unfold tm
  simp only
  have e:(f++g).getD i default=f.getD i default:=by simp [List.getD,List.getElem?_append_left hi]
  rw [e]
  cases hy:zae (f.getD i default).op with
  | true =>
   have e1:=zbn hf hi (zaQ hy)
   have e2:=zd6 hf hi hy
   simp only [cond_true]
   rw [zht hf k _ (by omega),zht hf k (f.getD i default).y.toNat (by omega)]
  | false =>
   simp only [cond_false]
   cases hx:zak (f.getD i default).op with
   | true =>
    have e1:=zbn hf hi hx
    simp only [cond_true]
    rw [zht hf k _ (by omega)]
   | false=>rfl
theorem zbR {f g:List Nd} (hf:zaN f) {i:Nat} (hi:i < f.length):zat (f++g) i=zat f i:=zht hf _ _ hi
def Tm.all (p:Hd→Prop):Tm→Prop
 | .z h=>p h
 | .u h x=>p h∧x.all p
 | .b h x y=>p h∧x.all p∧y.all p
def Tm.size:Tm→Nat
 | .z _=>1
 | .u _ x=>x.size+1
 | .b _ x y=>x.size+y.size+1
structure zjM (h:Hd):Prop where
 op:zcx h.op=true
 fact:z2 h.op=true→0≤h.i∧h.i≤7
 agent:zE h.op=true→0≤h.i∧h.i≤3
 event:zN h.op=true→0≤h.i∧h.i≤7∧0≤h.e∧h.e≤7
 group:zH h.op=true→1≤h.g∧h.g≤15
 i0:z2 h.op=false→zE h.op=false→zN h.op=false→h.i=0
 e0:zN h.op=false→h.e=0
 g0:zH h.op=false→h.g=0
theorem zbX {n:Nd} {a:Int} : zdD n a=0↔zjM n.hd∧(zak n.op=true→0≤n.x∧n.x < a)∧(zak n.op=false→n.x=0)∧(zae n.op=true→0≤n.y∧n.y < a)∧(zae n.op=false→n.y=0):=by
 constructor
 ·intro h
  obtain ⟨h1,h2,h3,h4,h5,h6,h7,h8,h9,h10,h11,h12⟩:=zpe h
  exact ⟨⟨h1,h6,h7,h8,h9,h10,h11,h12⟩,h2,h3,h4,h5⟩
 ·rintro ⟨⟨h1,h6,h7,h8,h9,h10,h11,h12⟩,h2,h3,h4,h5⟩
  exact zyi ⟨h1,h2,h3,h4,h5,h6,h7,h8,h9,h10,h11,h12⟩
def Tm.ok:Tm→Prop
 | .z h=>zjM h∧zak h.op=false∧zae h.op=false
 | .u h x=>zjM h∧zak h.op=true∧zae h.op=false∧x.ok
 | .b h x y=>zjM h∧zak h.op=true∧zae h.op=true∧x.ok∧y.ok
theorem zgp {f:List Nd} (hf:zaN f) : ∀ (n i:Nat),i < n→i < f.length→(zat f i).ok
 | 0,_,h,_=>by omega
 | n+1,i,h,hi=>by
  rw [zgo hf hi]
  have h0:=(zbX.1 (zgl hf hi)).1
  cases hy:zae (f.getD i default).op with
  | true =>
   have e1:=zbn hf hi (zaQ hy)
   have e2:=zd6 hf hi hy
   exact ⟨h0,zaQ hy,hy,zgp hf n _ (by omega) (by omega),zgp hf n _ (by omega) (by omega)⟩
  | false =>
   cases hx:zak (f.getD i default).op with
   | true =>
    have e1:=zbn hf hi hx
    exact ⟨h0,hx,hy,zgp hf n _ (by omega) (by omega)⟩
   | false=>exact ⟨h0,hx,hy⟩
def nd (h:Hd) (x y:Nat):Nd:=⟨h.op,h.i,h.e,h.g,x,y⟩
def zc:Tm→List Nd→Nat×List Nd
 | .z h,l=>put l (nd h 0 0)
 | .u h x,l=>put (zc x l).2 (nd h (zc x l).1 0)
 | .b h x y,l=>put (zc y (zc x l).2).2 (nd h (zc x l).1 (zc y (zc x l).2).1)
theorem z8 {l:List Nd} {x:Nd} {k:Nat} (h:l.idxOf? x=some k):put l x=(k,l):=by unfold put;rw [h]
theorem zbf {l:List Nd} {x:Nd} (h:l.idxOf? x=none):put l x=(l.length,l++[x]):=by unfold put;rw [h]
theorem zi5 {l m:List Nd} {x:Nd} {k:Nat} (h:l.idxOf? x=some k):(l++m).idxOf? x=some k:=by
 simp only [List.idxOf?] at h ⊢
 rw [List.findIdx?_append,h];rfl
theorem zoY {l:List Nd} {x:Nd} {k:Nat} (h:l.idxOf? x=some k):l[k]? = some x:=by
 simp only [List.idxOf?] at h
 obtain ⟨h1,h2,h3⟩:=List.findIdx?_eq_some_iff_getElem.1 h
 simp at h2
 simp [h1,h2]
theorem zwU {l:List Nd} {x:Nd} (h:l.idxOf? x=none):(l++[x]).idxOf? x=some l.length:=by
 simp only [List.idxOf?] at h ⊢
 rw [List.findIdx?_append,h]
 simp
theorem zaY (l:List Nd) (x:Nd):(∃ m,(put l x).2=l++m)∧(put l x).2.idxOf? x=some (put l x).1:=by
 cases h:l.idxOf? x with
 | some k=>rw [z8 h];exact ⟨⟨[],by simp⟩,h⟩
 | none=>rw [zbf h];exact ⟨⟨[x],rfl⟩,zwU h⟩
theorem zbK : ∀ (t:Tm) (l:List Nd),∃ m,(zc t l).2=l++m
 | .z h,l=>(zaY _ _).1
 | .u h x,l=>by
  obtain ⟨m,hm⟩:=zbK x l
  obtain ⟨m',hm'⟩:=(zaY (zc x l).2 (nd h (zc x l).1 0)).1
  exact ⟨m++m',by rw [zc,hm',hm,List.append_assoc]⟩
 | .b h x y,l=>by
  obtain ⟨m,hm⟩:=zbK x l
  obtain ⟨m2,hm2⟩:=zbK y (zc x l).2
  obtain ⟨m',hm'⟩:=(zaY (zc y (zc x l).2).2 (nd h (zc x l).1 (zc y (zc x l).2).1)).1
  exact ⟨m++m2++m',by rw [zc,hm',hm2,hm,List.append_assoc,List.append_assoc,List.append_assoc]⟩
def zcG (t:Tm) (l:List Nd) (r:Nat):Prop:=zc t l=(r,l)
theorem zcG.mono : ∀ {t:Tm} {l:List Nd} {r:Nat} (m:List Nd),zcG t l r→zcG t (l++m) r
 | .z h,l,r,m,hh=>by
  unfold zcG zc at *
  cases hi:l.idxOf? (nd h 0 0) with
  | some k=>rw [z8 hi] at hh;cases hh;rw [z8 (zi5 hi)]
  | none=>rw [zbf hi] at hh;have:=congrArg (fun p=>p.2.length) hh;simp at this
 | .u h x,l,r,m,hh=>by
  unfold zcG at *
  obtain ⟨a,ha⟩:=zbK x l
  obtain ⟨b,hb⟩:=(zaY (zc x l).2 (nd h (zc x l).1 0)).1
  have e:a=[]∧b=[]:=by
   have:(zc (.u h x) l).2=l++a++b:=by rw [zc,hb,ha]
   rw [hh] at this
   have:=congrArg List.length this
   simp only [List.length_append] at this
   exact ⟨List.length_eq_zero_iff.1 (by omega),List.length_eq_zero_iff.1 (by omega)⟩
  obtain ⟨rfl,rfl⟩:=e
  rw [List.append_nil] at ha
  have hx:zcG x l (zc x l).1:=Prod.ext rfl ha
  have hx':=zcG.mono m hx
  unfold zcG at hx'
  rw [zc,ha] at hh
  rw [zc,hx']
  cases hi:l.idxOf? (nd h (zc x l).1 0) with
  | some k=>rw [z8 hi] at hh;cases hh;exact z8 (zi5 hi)
  | none=>rw [zbf hi] at hh;have:=congrArg (fun p=>p.2.length) hh;simp at this
 | .b h x y,l,r,m,hh=>by
  unfold zcG at *
  obtain ⟨a,ha⟩:=zbK x l
  obtain ⟨c,hc⟩:=zbK y (zc x l).2
  obtain ⟨b,hb⟩:=(zaY (zc y (zc x l).2).2 (nd h (zc x l).1 (zc y (zc x l).2).1)).1
  have e:a=[]∧c=[]∧b=[]:=by
   have:(zc (.b h x y) l).2=l++a++c++b:=by rw [zc,hb,hc,ha]
   rw [hh] at this
   have:=congrArg List.length this
   simp only [List.length_append] at this
   exact ⟨List.length_eq_zero_iff.1 (by omega),List.length_eq_zero_iff.1 (by omega),List.length_eq_zero_iff.1 (by omega)⟩
  obtain ⟨rfl,rfl,rfl⟩:=e
  rw [List.append_nil] at ha hc
  rw [ha] at hc
  have hx:zcG x l (zc x l).1:=Prod.ext rfl ha
  have hy:zcG y l (zc y l).1:=Prod.ext rfl hc
  have hx':=zcG.mono m hx
  have hy':=zcG.mono m hy
  unfold zcG at hx' hy'
  rw [zc,ha,hc] at hh
  rw [zc,hx']
  simp only
  rw [hy']
  cases hi:l.idxOf? (nd h (zc x l).1 (zc y l).1) with
  | some k=>rw [z8 hi] at hh;cases hh;exact z8 (zi5 hi)
  | none=>rw [zbf hi] at hh;have:=congrArg (fun p=>p.2.length) hh;simp at this
theorem ziZ : ∀ (t:Tm) (l:List Nd),zcG t (zc t l).2 (zc t l).1
 | .z h,l=>by
  unfold zcG zc
  exact z8 (zaY _ _).2
 | .u h x,l=>by
  obtain ⟨m,hm⟩:=(zaY (zc x l).2 (nd h (zc x l).1 0)).1
  have h1:=(ziZ x l).mono m
  rw [← hm] at h1
  unfold zcG at *
  rw [zc,zc,h1]
  exact z8 (zaY _ _).2
 | .b h x y,l=>by
  obtain ⟨m,hm⟩:=(zaY (zc y (zc x l).2).2 (nd h (zc x l).1 (zc y (zc x l).2).1)).1
  obtain ⟨m2,hm2⟩:=zbK y (zc x l).2
  have h1:=((ziZ x l).mono m2).mono m
  rw [← hm2] at h1
  have h2:=(ziZ y (zc x l).2).mono m
  rw [← hm] at h1 h2
  unfold zcG at *
  rw [zc,zc,h1]
  simp only
  rw [h2]
  exact z8 (zaY _ _).2
theorem ziu (l:List Nd) (x:Nd):(put l x).1 < (put l x).2.length:=by
 have:=zoY (zaY l x).2
 exact (List.getElem?_eq_some_iff.1 this).1
theorem zk3 : ∀ (t:Tm) (l:List Nd),(zc t l).1 < (zc t l).2.length
 | .z _,_=>ziu _ _
 | .u _ _,_=>ziu _ _
 | .b _ _ _,_=>ziu _ _
theorem zmW {l:List Nd} {x:Nd} (hl:zaN l) (h:zdD x l.length=0):zaN (put l x).2:=by
 cases hi:l.idxOf? x with
 | some k=>rw [z8 hi];exact hl
 | none =>
  rw [zbf hi]
  intro k n hk
  simp only [List.getElem?_append] at hk
  split at hk
  ·exact hl k n hk
  ·rename_i h1
   have:k=l.length:=by
    have:=(List.getElem?_eq_some_iff.1 hk).1;simp at this;omega
   subst this
   simp at hk;subst hk;exact h
theorem zmX {l:List Nd} {x:Nd} (hl:zaN l) (h:zdD x l.length=0):(put l x).2.getD (put l x).1 default=x:=by
 have:=zoY (zaY l x).2
 simp [List.getD,this]
theorem zvo {k:Nat} : ((k:Nat):Int).toNat=k:=by omega
theorem zbx : ∀ (t:Tm) (l:List Nd),t.ok→zaN l→zaN (zc t l).2∧zat (zc t l).2 (zc t l).1=t
 | .z h,l,ht,hl=>by
  have hn:zdD (nd h 0 0) l.length=0:=zbX.2 ⟨ht.1,fun e=>by have:=ht.2.1;simp [nd] at e;simp [this] at e,fun _=>rfl,fun e=>by have:=ht.2.2;simp [nd] at e;simp [this] at e,fun _=>rfl⟩
  have h1:=zmW hl hn
  refine ⟨h1,?_⟩
  have h2:=zgo h1 (ziu l (nd h 0 0))
  rw [zmX hl hn] at h2
  rw [zc,h2]
  simp only [nd,ht.2.1,ht.2.2,cond_false,Nd.hd]
 | .u h x,l,ht,hl=>by
  obtain ⟨a1,a2⟩:=zbx x l ht.2.2.2 hl
  have a3:=zk3 x l
  have hn:zdD (nd h (zc x l).1 0) (zc x l).2.length=0:=zbX.2 ⟨ht.1,fun e=>⟨by simp [nd],by simp only [nd];omega⟩,fun e=>by have:=ht.2.1;simp [nd] at e;simp [this] at e,fun e=>by have:=ht.2.2.1;simp [nd] at e;simp [this] at e,fun _=>rfl⟩
  have h1:=zmW a1 hn
  refine ⟨h1,?_⟩
  have h2:=zgo h1 (ziu (zc x l).2 (nd h (zc x l).1 0))
  rw [zmX a1 hn] at h2
  obtain ⟨m,hm⟩:=(zaY (zc x l).2 (nd h (zc x l).1 0)).1
  rw [zc,h2]
  simp only [nd,ht.2.1,ht.2.2.1,cond_false,cond_true,Nd.hd,zvo]
  have h3:zat (put (zc x l).2 (nd h (zc x l).1 0)).2 (zc x l).1=x:=by rw [hm,zbR a1 a3,a2]
  simp only [nd] at h3
  rw [h3]
 | .b h x y,l,ht,hl=>by
  obtain ⟨a1,a2⟩:=zbx x l ht.2.2.2.1 hl
  have a3:=zk3 x l
  obtain ⟨b1,b2⟩:=zbx y (zc x l).2 ht.2.2.2.2 a1
  have b3:=zk3 y (zc x l).2
  obtain ⟨m2,hm2⟩:=zbK y (zc x l).2
  have hn:zdD (nd h (zc x l).1 (zc y (zc x l).2).1) (zc y (zc x l).2).2.length=0:=zbX.2 ⟨ht.1,fun e=>⟨by simp [nd],by simp only [nd];rw [hm2,List.length_append];omega⟩,
   fun e=>by have:=ht.2.1;simp [nd] at e;simp [this] at e,fun e=>⟨by simp [nd],by simp only [nd];omega⟩,fun e=>by have:=ht.2.2.1;simp [nd] at e;simp [this] at e⟩
  have h1:=zmW b1 hn
  refine ⟨h1,?_⟩
  have h2:=zgo h1 (ziu (zc y (zc x l).2).2 (nd h (zc x l).1 (zc y (zc x l).2).1))
  rw [zmX b1 hn] at h2
  obtain ⟨m,hm⟩:=(zaY (zc y (zc x l).2).2 (nd h (zc x l).1 (zc y (zc x l).2).1)).1
  rw [zc,h2]
  simp only [nd,ht.2.1,ht.2.2.1,cond_false,cond_true,Nd.hd,zvo]
  have h3:zat (put (zc y (zc x l).2).2 (nd h (zc x l).1 (zc y (zc x l).2).1)).2 (zc x l).1=x:=by
   rw [hm,zbR b1 (by rw [hm2,List.length_append];omega),hm2,zbR a1 a3,a2]
  have h4:zat (put (zc y (zc x l).2).2 (nd h (zc x l).1 (zc y (zc x l).2).1)).2 (zc y (zc x l).2).1=y:=by
   rw [hm,zbR b1 b3,b2]
  simp only [nd] at h3 h4
  rw [h3,h4]
theorem zpg (p:Hd→Prop) (l:List Nd) (x:Nd):(∀ n∈(put l x).2,p n.hd)↔(∀ n∈l,p n.hd)∧p x.hd:=by
 cases hi:l.idxOf? x with
 | some k =>
  rw [z8 hi]
  have:=List.mem_of_getElem? (zoY hi)
  exact ⟨fun h=>⟨h,h x this⟩,fun h=>h.1⟩
 | none =>
  rw [zbf hi]
  simp only [List.mem_append,List.mem_singleton]
  exact ⟨fun h=>⟨fun n hn=>h n (.inl hn),h x (.inr rfl)⟩,fun h n hn=>hn.elim (h.1 n) (fun e=>e▸h.2)⟩
theorem ziY (p:Hd→Prop) : ∀ (t:Tm) (l:List Nd),(∀ n∈(zc t l).2,p n.hd)↔(∀ n∈l,p n.hd)∧t.all p
 | .z h,l=>zpg p l _
 | .u h x,l=>by
  rw [zc,zpg,ziY p x l,Tm.all]
  exact ⟨fun ⟨⟨a,b⟩,c⟩=>⟨a,c,b⟩,fun ⟨a,c,b⟩=>⟨⟨a,b⟩,c⟩⟩
 | .b h x y,l=>by
  rw [zc,zpg,ziY p y _,ziY p x l,Tm.all]
  exact ⟨fun ⟨⟨⟨a,b⟩,d⟩,c⟩=>⟨a,c,b,d⟩,fun ⟨a,c,b,d⟩=>⟨⟨⟨a,b⟩,d⟩,c⟩⟩
theorem ziO : ∀ (t:Tm) (l:List Nd) (r:Nat),t.ok→zaN l→l.length≤r→r < (zc t l).2.length→(zat (zc t l).2 r).size≤t.size∧(r+1 < (zc t l).2.length→(zat (zc t l).2 r).size < t.size)
 | .z h,l,r,ht,hl,h1,h2=>by
  obtain ⟨o1,o2⟩:=zbx (.z h) l ht hl
  have:(zc (.z h) l).1=r ∧ ¬ r+1 < (zc (.z h) l).2.length:=by
   unfold zc at h2 ⊢
   cases hi:l.idxOf? (nd h 0 0) with
   | some k=>rw [z8 hi] at h2;simp at h2;omega
   | none=>rw [zbf hi] at h2 ⊢;simp at h2 ⊢;omega
  rw [← this.1,o2]
  rw [this.1]
  exact ⟨Nat.le_refl _,fun h=>absurd h this.2⟩
 | .u h x,l,r,ht,hl,h1,h2=>by
  obtain ⟨o1,o2⟩:=zbx (.u h x) l ht hl
  obtain ⟨a1,a2⟩:=zbx x l ht.2.2.2 hl
  have ih:=ziO x l r ht.2.2.2 hl h1
  by_cases hr:r < (zc x l).2.length
  ·obtain ⟨m,hm⟩:=(zaY (zc x l).2 (nd h (zc x l).1 0)).1
   have e:zat (zc (.u h x) l).2 r=zat (zc x l).2 r:=by rw [zc,hm,zbR a1 hr]
   rw [e]
   have:=(ih hr).1
   simp only [Tm.size]
   omega
  ·have:(zc (.u h x) l).1=r ∧ ¬ r+1 < (zc (.u h x) l).2.length:=by
    unfold zc at h2 ⊢
    cases hi:(zc x l).2.idxOf? (nd h (zc x l).1 0) with
    | some k=>rw [z8 hi] at h2;simp at h2;omega
    | none=>rw [zbf hi] at h2 ⊢;simp at h2 ⊢;omega
   rw [← this.1,o2,this.1]
   exact ⟨Nat.le_refl _,fun h=>absurd h this.2⟩
 | .b h x y,l,r,ht,hl,h1,h2=>by
  obtain ⟨o1,o2⟩:=zbx (.b h x y) l ht hl
  obtain ⟨a1,a2⟩:=zbx x l ht.2.2.2.1 hl
  obtain ⟨b1,b2⟩:=zbx y (zc x l).2 ht.2.2.2.2 a1
  have ih:=ziO x l r ht.2.2.2.1 hl h1
  obtain ⟨m2,hm2⟩:=zbK y (zc x l).2
  obtain ⟨m,hm⟩:=(zaY (zc y (zc x l).2).2 (nd h (zc x l).1 (zc y (zc x l).2).1)).1
  by_cases hr:r < (zc x l).2.length
  ·have e:zat (zc (.b h x y) l).2 r=zat (zc x l).2 r:=by
    rw [zc,hm,zbR b1 (by rw [hm2,List.length_append];omega),hm2,zbR a1 hr]
   rw [e]
   have:=(ih hr).1
   simp only [Tm.size]
   omega
  ·have ih2:=ziO y (zc x l).2 r ht.2.2.2.2 a1 (by omega)
   by_cases hr2:r < (zc y (zc x l).2).2.length
   ·have e:zat (zc (.b h x y) l).2 r=zat (zc y (zc x l).2).2 r:=by
     rw [zc,hm,zbR b1 hr2]
    rw [e]
    have:=(ih2 hr2).1
    simp only [Tm.size]
    omega
   ·have:(zc (.b h x y) l).1=r ∧ ¬ r+1 < (zc (.b h x y) l).2.length:=by
     unfold zc at h2 ⊢
     cases hi:(zc y (zc x l).2).2.idxOf? (nd h (zc x l).1 (zc y (zc x l).2).1) with
     | some k=>rw [z8 hi] at h2;simp at h2;omega
     | none=>rw [zbf hi] at h2 ⊢;simp at h2 ⊢;omega
    rw [← this.1,o2,this.1]
    exact ⟨Nat.le_refl _,fun h=>absurd h this.2⟩
theorem zjd:zaN []:=fun k n h=>by simp at h
theorem zpC {t:Tm} (ht:t.ok):(zc t []).1+1=(zc t []).2.length:=by
 have h1:=zk3 t []
 have h2:=(zbx t [] ht zjd).2
 by_cases h:(zc t []).1+1 < (zc t []).2.length
 ·have:=(ziO t [] (zc t []).1 ht zjd (by simp) h1).2 h
  rw [h2] at this;omega
 ·omega
end Go.Ab
namespace Go.Ab
structure ziI (f:List Nd) (s:FSt):Prop where
 has : ∀ i r,s.done.lookup i=some r→zcG (zat f i) s.out r
 rng : ∀ p∈s.done,p.1 < f.length
 keys:(s.done.map Prod.fst).Nodup
 len:s.out.length≤s.done.length
theorem zsU {d:List (Nat×Nat)} {i:Nat} (h : ∀ p∈d,p.1≠i):d.lookup i=none:=by
 induction d with
 | nil=>rfl
 | cons p d ih =>
  obtain ⟨a,b⟩:=p
  have h0:=h (a,b) (by simp)
  have:(i==a)=false:=by simpa using fun e=>h0 e.symm
  simp only [List.lookup,this]
  exact ih fun q hq=>h q (by simp [hq])
theorem zn7 {d:List (Nat×Nat)} {i:Nat} (h:d.lookup i=none) : ∀ p∈d,p.1≠i:=by
 induction d with
 | nil=>simp
 | cons p d ih =>
  obtain ⟨a,b⟩:=p
  simp only [List.lookup] at h
  split at h
  ·cases h
  ·rename_i e
   intro q hq
   rcases List.mem_cons.1 hq with rfl|hq
   ·intro h';subst h';simp at e
   ·exact ih h q hq
theorem zqy {d:List (Nat×Nat)} {i j r q:Nat} (h:(d++[(i,r)]).lookup j=some q):d.lookup j=some q∨(j=i∧q=r∧d.lookup j=none):=by
 induction d with
 | nil =>
  simp only [List.nil_append,List.lookup] at h
  split at h
  ·rename_i e;simp at e;cases h;exact .inr ⟨e,rfl,rfl⟩
  ·cases h
 | cons p d ih =>
  obtain ⟨a,b⟩:=p
  simp only [List.cons_append,List.lookup] at h ⊢
  split at h
  ·exact .inl h
  ·exact ih h
theorem zgN {f:List Nd} (hf:zaN f) : ∀ (k i:Nat) (s:FSt),i < k→i < f.length→ziI f s →
  ziI f (fin f k i s).2∧(fin f k i s).1=(zc (zat f i) s.out).1∧(fin f k i s).2.out=(zc (zat f i) s.out).2∧(∃ l,(fin f k i s).2.done=s.done++l ∧ ∀ p∈l,p.1≤i)
 | 0,i,s,h,_,_=>by omega
 | k+1,i,s,hk,hi,hs=>by
  unfold fin
  cases hd:s.done.lookup i with
  | some r =>
   have:=hs.has i r hd
   unfold zcG at this
   refine ⟨hs,?_,?_,[],by simp,by simp⟩
   ·rw [this]
   ·rw [this]
  | none =>
   simp only
   have key : ∀ (a b:Nat) (s2:FSt),ziI f s2→(∃ l,s2.done=s.done++l ∧ ∀ p∈l,p.1 < i)→zc (zat f i) s.out=put s2.out (nd (f.getD i default).hd a b) →
     (∃ m,s2.out=s.out++m) →
     ziI f ⟨(put s2.out (nd (f.getD i default).hd a b)).2,s2.done++[(i,(put s2.out (nd (f.getD i default).hd a b)).1)]⟩∧(put s2.out (nd (f.getD i default).hd a b)).1=(zc (zat f i) s.out).1 ∧
     (put s2.out (nd (f.getD i default).hd a b)).2=(zc (zat f i) s.out).2∧(∃ l,s2.done++[(i,(put s2.out (nd (f.getD i default).hd a b)).1)]=s.done++l ∧ ∀ p∈l,p.1≤i):=by
    intro a b s2 h2 hl hT hm
    obtain ⟨l,hl1,hl2⟩:=hl
    obtain ⟨m,hm⟩:=(zaY s2.out (nd (f.getD i default).hd a b)).1
    have hni : ∀ p∈s2.done,p.1≠i:=by
     intro p hp
     rw [hl1,List.mem_append] at hp
     rcases hp with hp|hp
     ·exact zn7 hd p hp
     ·have:=hl2 p hp;omega
    refine ⟨⟨fun j r hj=>?_,fun p hp=>?_,?_,?_⟩,by rw [hT],by rw [hT],l++[(i,(put s2.out (nd (f.getD i default).hd a b)).1)],by rw [hl1,List.append_assoc],fun p hp=>?_⟩
    ·rcases zqy hj with h|⟨rfl,rfl,-⟩
     ·have:=(h2.has j r h).mono m
      rw [← hm] at this;exact this
     ·rw [← hT];exact ziZ _ _
    ·rcases List.mem_append.1 hp with hp|hp
     ·exact h2.rng p hp
     ·simp at hp;subst hp;exact hi
    ·simp only [List.map_append,List.map_cons,List.map_nil]
     rw [List.nodup_append]
     refine ⟨h2.keys,by simp,fun x hx y hy=>?_⟩
     simp at hy;subst hy
     obtain ⟨p,hp,rfl⟩:=List.mem_map.1 hx
     exact hni p hp
    ·have:=h2.len
     simp only [List.length_append,List.length_cons,List.length_nil]
     cases hx:s2.out.idxOf? (nd (f.getD i default).hd a b) with
     | some k=>rw [z8 hx];simp only;omega
     | none=>rw [zbf hx];simp only [List.length_append,List.length_cons,List.length_nil];omega
    ·rcases List.mem_append.1 hp with hp|hp
     ·have:=hl2 p hp;omega
     ·simp at hp;subst hp;exact Nat.le_refl _
   have hT:=zgo hf hi
   have hn:=zbX.1 (zgl hf hi)
   cases hy:zae (f.getD i default).op with
   | true =>
    have hx:=zaQ hy
    have e1:=zbn hf hi hx
    have e2:=zd6 hf hi hy
    simp only [hy,hx,cond_true] at hT ⊢
    obtain ⟨a1,a2,a3,la,a4,a5⟩:=zgN hf k (f.getD i default).x.toNat s (by omega) (by omega) hs
    obtain ⟨b1,b2,b3,lb,b4,b5⟩:=zgN hf k (f.getD i default).y.toNat (fin f k (f.getD i default).x.toNat s).2 (by omega) (by omega) a1
    obtain ⟨m1,hm1⟩:=zbK (zat f (f.getD i default).x.toNat) s.out
    obtain ⟨m2,hm2⟩:=zbK (zat f (f.getD i default).y.toNat) (fin f k (f.getD i default).x.toNat s).2.out
    refine key _ _ _ b1 ⟨la++lb,by rw [b4,a4,List.append_assoc],fun p hp=>?_⟩ ?_ ⟨m1++m2,by rw [b3,hm2,a3,hm1,List.append_assoc]⟩
    ·rcases List.mem_append.1 hp with hp|hp
     ·have:=a5 p hp;omega
     ·have:=b5 p hp;omega
    ·rw [hT,zc,b3,b2,a3,a2]
   | false =>
    cases hx:zak (f.getD i default).op with
    | true =>
     have e1:=zbn hf hi hx
     simp only [hy,hx,cond_true,cond_false] at hT ⊢
     obtain ⟨a1,a2,a3,la,a4,a5⟩:=zgN hf k (f.getD i default).x.toNat s (by omega) (by omega) hs
     obtain ⟨m1,hm1⟩:=zbK (zat f (f.getD i default).x.toNat) s.out
     have e0:(f.getD i default).y.toNat=0:=by rw [hn.2.2.2.2 hy];rfl
     refine key _ _ _ a1 ⟨la,a4,fun p hp=>by have:=a5 p hp;omega⟩ ?_ ⟨m1,by rw [a3,hm1]⟩
     rw [hT,zc,a2,a3,e0]
    | false =>
     simp only [hy,hx,cond_true,cond_false] at hT ⊢
     have e0:(f.getD i default).y.toNat=0:=by rw [hn.2.2.2.2 hy];rfl
     have e1:(f.getD i default).x.toNat=0:=by rw [hn.2.2.1 hx];rfl
     refine key _ _ _ hs ⟨[],by simp,by simp⟩ ?_ ⟨[],by simp⟩
     rw [hT,zc,e0,e1]
theorem ze2 {f:List Nd} (hf:zaN f) : ∀ (k k' i:Nat) (s:FSt),i < k→i < k'→i < f.length→fin f k i s=fin f k' i s
 | 0,_,_,_,h,_,_=>by omega
 | _+1,0,_,_,_,h,_=>by omega
 | k+1,k'+1,i,s,h1,h2,hi=>by
  unfold fin
  cases hd:s.done.lookup i with
  | some r=>rfl
  | none =>
   simp only
   cases hy:zae (f.getD i default).op with
   | true =>
    have hx:=zaQ hy
    have e1:=zbn hf hi hx
    have e2:=zd6 hf hi hy
    simp only [hx,cond_true]
    rw [ze2 hf k k' (f.getD i default).x.toNat s (by omega) (by omega) (by omega),ze2 hf k k' (f.getD i default).y.toNat _ (by omega) (by omega) (by omega)]
   | false =>
    cases hx:zak (f.getD i default).op with
    | true =>
     have e1:=zbn hf hi hx
     simp only [cond_true,cond_false]
     rw [ze2 hf k k' (f.getD i default).x.toNat s (by omega) (by omega) (by omega)]
    | false=>rfl
theorem ztk (f:List Nd):ziI f ⟨[],[]⟩:=⟨fun i r h=>by simp at h,by simp,by simp,by simp⟩
theorem zpJ {l:List Nat} {n:Nat} (h:l.Nodup) (hn : ∀ x∈l,x < n):l.length≤n:=by
 have h2:l ⊆ List.range n:=fun x hx=>List.mem_range.2 (hn x hx)
 have:=List.Nodup.length_le_of_subset h h2
 simpa using this
structure zqB (t:Tm) (c:List Nd):Prop where
 ok:zaN c
 pos:0 < c.length
 tree:zat c (c.length - 1)=t
 all : ∀ p:Hd→Prop,(∀ n∈c,p n.hd)↔t.all p
theorem zyO {t:Tm} (ht:t.ok):zqB t (zc t []).2:=by
 have h1:=zpC ht
 obtain ⟨h2,h3⟩:=zbx t [] ht zjd
 refine ⟨h2,by omega,by rw [← h1,Nat.add_sub_cancel];exact h3,fun p=>?_⟩
 rw [ziY p t []];simp
theorem zlE {f:List Nd} (hf:zaN f) {i:Nat} (hi:i < f.length):zcu f i=(zc (zat f i) []).2∧(zcu f i).length≤f.length∧(fin f (i+1) i ⟨[],[]⟩).1+1=(zcu f i).length:=by
 obtain ⟨a1,a2,a3,a4⟩:=zgN hf (i+1) i ⟨[],[]⟩ (by omega) hi (ztk f)
 refine ⟨a3,?_,?_⟩
 ·have h1:=a1.len
  have h2:=zpJ a1.keys (n:=f.length) (fun x hx=>by obtain ⟨p,hp,rfl⟩:=List.mem_map.1 hx;exact a1.rng p hp)
  rw [List.length_map] at h2
  unfold zcu;omega
 ·unfold zcu
  rw [a2,a3]
  exact zpC (zgp hf (i+1) i (by omega) hi)
theorem zoO {f:List Nd} (hf:zaN f) {i:Nat} (hi:i < f.length):zqB (zat f i) (zcu f i):=by
 rw [(zlE hf hi).1];exact zyO (zgp hf (i+1) i (by omega) hi)
def zam {β:Type} (v:Hd→β→β→β) (d:β):List Nd→List β→List β
 | [],acc=>acc
 | n::r,acc=>zam v d r (acc++[v n.hd (acc.getD n.x.toNat d) (acc.getD n.y.toNat d)])
def ev {β:Type} (v:Hd→β→β→β) (d:β):Tm→β
 | .z h=>v h d d
 | .u h x=>v h (ev v d x) d
 | .b h x y=>v h (ev v d x) (ev v d y)
structure ztF {β:Type} (v:Hd→β→β→β):Prop where
 x : ∀ h a b c,zak h.op=false→v h a c=v h b c
 y : ∀ h a b c,zae h.op=false→v h c a=v h c b
theorem zfb {β:Type} (v:Hd→β→β→β) (d:β) : ∀ (l:List Nd) (acc:List β),(zam v d l acc).length=acc.length+l.length
 | [],acc=>by simp [zam]
 | n::r,acc=>by rw [zam,zfb v d r];simp;omega
theorem zlb {β:Type} {v:Hd→β→β→β} {d:β} (hv:ztF v) {f:List Nd} (hf:zaN f) : ∀ (l:List Nd) (acc:List β),f.drop acc.length=l→acc.length≤f.length→(∀ i,i < acc.length→acc.getD i d=ev v d (zat f i)) →
  ∀ i,i < f.length→(zam v d l acc).getD i d=ev v d (zat f i)
 | [],acc,h1,h2,h3,i,hi=>by
  have:acc.length=f.length:=by
   have:=congrArg List.length h1;simp at this;omega
  exact h3 i (by omega)
 | n::r,acc,h1,h2,h3,i,hi=>by
  have hlt:acc.length < f.length:=by
   have:=congrArg List.length h1;simp at this;omega
  have hn:f.getD acc.length default=n:=by
   have:=congrArg (fun l=>l[0]?) h1
   simp at this
   simp [List.getD,this]
  rw [zam]
  refine zlb hv hf r _ ?_ (by simp;omega) (fun j hj=>?_) i hi
  ·simp only [List.length_append,List.length_cons,List.length_nil]
   have:=congrArg List.tail h1
   simpa using this
  ·by_cases hj2:j < acc.length
   ·rw [show (acc++[v n.hd (acc.getD n.x.toNat d) (acc.getD n.y.toNat d)]).getD j d=acc.getD j d by simp [List.getD,List.getElem?_append_left hj2]]
    exact h3 j hj2
   ·simp at hj
    have e:j=acc.length:=by omega
    subst e
    rw [show (acc++[v n.hd (acc.getD n.x.toNat d) (acc.getD n.y.toNat d)]).getD acc.length d=v n.hd (acc.getD n.x.toNat d) (acc.getD n.y.toNat d) by simp [List.getD]]
    rw [zgo hf hlt,hn]
    cases hy:zae n.op with
    | true =>
     have hx:=zaQ hy
     have e1:=zbn hf hlt (by rw [hn];exact hx)
     have e2:=zd6 hf hlt (by rw [hn];exact hy)
     rw [hn] at e1 e2
     simp only [cond_true,ev]
     rw [h3 _ e1.2,h3 _ e2.2]
    | false =>
     cases hx:zak n.op with
     | true =>
      have e1:=zbn hf hlt (by rw [hn];exact hx)
      rw [hn] at e1
      simp only [cond_true,cond_false,ev]
      rw [h3 _ e1.2]
      exact hv.y _ _ _ _ hy
     | false =>
      simp only [cond_false,ev]
      rw [hv.x _ _ d _ hx,hv.y _ _ d _ hy]
theorem zvK {β:Type} {v:Hd→β→β→β} {d:β} (hv:ztF v) {t:Tm} {c:List Nd} (hc:zqB t c):(zam v d c []).getD (c.length - 1) d=ev v d t:=by
 have hp:=hc.pos
 rw [zlb hv hc.ok c [] (by simp) (by simp) (fun i hi=>by simp at hi) (c.length - 1) (by omega),hc.tree]
end Go.Ab
namespace Go.Ab
open Go Go.Proofs
set_option maxRecDepth 10000
set_option maxHeartbeats 4000000
variable {T:Nat→Obj→Prop}
theorem zap.yes {b:Bool} {p q:Prop} (hb:b=true) (h:p):zap b p q:=⟨fun _=>h,fun e=>by rw [hb] at e;cases e⟩
theorem zap.no {b:Bool} {p q:Prop} (hb:b=false) (h:q):zap b p q:=⟨fun e=>(by rw [hb] at e;cases e),fun _=>h⟩
theorem zap.decY {x:Prop} [Decidable x] {p q:Prop} (hx:x) (h:p):zap (decide x) p q := .yes (decide_eq_true hx) h
theorem zap.decN {x:Prop} [Decidable x] {p q:Prop} (hx : ¬x) (h:q):zap (decide x) p q := .no (decide_eq_false hx) h
abbrev dNd (n:Nd):D := .agg [.int .i64 n.op,.int .i64 n.i,.int .i64 n.e,.int .i64 n.g,.int .i64 n.x,.int .i64 n.y]
abbrev dF (f:List Nd):D := .arr 6 (f.map dNd)
abbrev zmr (op:Int):D := .agg [.bool (zak op),.bool (zae op),.bool (z2 op),.bool (zE op),.bool (zH op),.bool (zN op),.int .i64 (zaP op)]
theorem zoX (op:Int):Fn Tryz.prog T zU [.d (.int .i64 op)] [] (.d (.tup [zmr op,.bool (zcx op)])) []:=by
 by_cases h:1≤op∧op≤21
 ·have:op=1∨op=2∨op=3∨op=4∨op=5∨op=6∨op=7∨op=8∨op=9∨op=10∨op=11∨op=12∨op=13∨op=14∨op=15∨op=16∨op=17∨op=18∨op=19∨op=20∨op=21:=by omega
  clear h
  rcases this with rfl|rfl|rfl|rfl|rfl|rfl|rfl|rfl|rfl|rfl|rfl|rfl|rfl|rfl|rfl|rfl|rfl|rfl|rfl|rfl|rfl
  all_goals refine zd zt zif (by show 1≤55;decide) ?_
  all_goals (repeat' ((conv=>whnf);first|refine zap.decN (by omega) ?_|refine zap.decY (by omega) ?_|refine vA ?_|refine vT ?_));all_goals try conv=>whnf
  all_goals first|rfl|kernel_rfl|skip
 ·refine zd zt zif (by show 1≤55;decide) ?_
  (repeat' ((conv=>whnf);first|refine zap.decN (by omega) ?_|refine vA ?_|refine vT ?_));all_goals try conv=>whnf
  have e1:zcx op=false:=by simp only [zcx,decide_eq_false_iff_not];omega
  have e2:zak op=false:=by simp only [zak,decide_eq_false_iff_not];omega
  have e3:zae op=false:=by simp only [zae,decide_eq_false_iff_not];omega
  have e4:z2 op=false:=by simp only [z2,decide_eq_false_iff_not];omega
  have e5:zE op=false:=by simp only [zE,decide_eq_false_iff_not];omega
  have e6:zH op=false:=by simp only [zH,decide_eq_false_iff_not];omega
  have e7:zN op=false:=by simp only [zN,decide_eq_false_iff_not];omega
  have e8:zaP op=0:=by unfold zaP; (repeat' rw [if_neg (by omega)])
  rw [e1,zmr,e2,e3,e4,e5,e6,e7,e8]
  first|rfl|skip
theorem zt5 (u:Bool) (f a:Int):Fn Tryz.prog T zfU [.d (.bool u),.d (.int .i64 f),.d (.int .i64 a)] [] (.d (.bool (zhn u f a))) []:=by
 refine zd zt zlz (by show 3≤25;decide) ?_
 (repeat' ((conv=>whnf);first|refine vA ?_|refine vE ?_|((first|refine vF ?_ ?_|refine vI ?_ ?_)<;>intro hc<;>try simp only [vL] at hc)|refine vT ?_|refine vZ ?_));all_goals try conv=>whnf
 all_goals (cases u<;>simp_all [zhn]<;>omega)
theorem zt6 (u:Bool) (v lo hi:Int):Fn Tryz.prog T zcM [.d (.bool u),.d (.int .i64 v),.d (.int .i64 lo),.d (.int .i64 hi)] [] (.d (.bool (zbG u v lo hi))) []:=by
 refine zd zt zie (by show 4≤20;decide) ?_
 (repeat' ((conv=>whnf);first|refine vA ?_|((first|refine vF ?_ ?_|refine vI ?_ ?_)<;>intro hc<;>try simp only [vL] at hc)|refine vT ?_|refine vZ ?_));all_goals try conv=>whnf
 all_goals (cases u<;>simp_all [zbG]<;>omega)
def zxM (ok ux uy fa ag ev gr:Bool) (n:Nd) (at_:Int):Int :=
 if ok=false then 10 else
 if zhn ux n.x at_=false∨zhn uy n.y at_=false then 3 else
 if (!(fa||ag||ev)&&decide (n.i≠0)||(!ev&&decide (n.e≠0))||(!gr&&decide (n.g≠0)))=true then 3 else
 if (zbG fa n.i 0 7||zbG ag n.i 0 3||zbG ev n.i 0 7||zbG ev n.e 0 7||zbG gr n.g 1 15)=true then 2 else 0
set_option maxHeartbeats 40000000 in
theorem zsM (ok ux uy fa ag ev gr:Bool) (fr:Int) (n:Nd) (a:Int) (hu:Fn Tryz.prog T zU [.d (.int .i64 n.op)] [] (.d (.tup [.agg [.bool ux,.bool uy,.bool fa,.bool ag,.bool gr,.bool ev,.int .i64 fr],.bool ok])) []) :
  Fn Tryz.prog T zdg [.d (dNd n),.d (.int .i64 a)] [] (.d (.int .i64 (zxM ok ux uy fa ag ev gr n a))) []:=by
 refine zd zt zjJ (by show 2≤106;decide) ?_
 (repeat' ((conv=>whnf);first|refine vA ?_|refine vE ?_|((first|refine vD ?_ ?_|refine vI ?_ ?_)<;>intro hc)|refine vT ?_|refine vX ?_|refine yD hu (by (repeat refine ⟨⟨rfl,rfl⟩,?_⟩);rfl) rfl ?_|refine yD (zt5 _ _ _) ⟨⟨rfl,rfl⟩,⟨rfl,rfl⟩,⟨rfl,rfl⟩,rfl⟩ rfl ?_|refine yD (zt6 _ _ _ _) (by (repeat refine ⟨⟨rfl,rfl⟩,?_⟩);rfl) rfl ?_));all_goals try conv=>whnf
 all_goals (clear hu;simp_all [zxM])
theorem zrF (n:Nd) (a:Int):Fn Tryz.prog T zdg [.d (dNd n),.d (.int .i64 a)] [] (.d (.int .i64 (zdD n a))) []:=by
 exact zsM _ _ _ _ _ _ _ _ n a (zoX n.op)
theorem zhg (f:List Nd):Fn Tryz.prog T zg8 [.d (dF f)] [] (.d (.int .i64 (zbh f))) []:=by
 refine zd zt znW (by show 1≤26;decide) ?_
 (repeat' ((conv=>whnf);first|refine vA ?_|(refine vF ?_ ?_<;>intro hc<;>try simp only [vL] at hc)|refine vJ fun hg=>?_|refine vT ?_|refine vX ?_));all_goals try conv=>whnf
 ·simp_all [zbh]
 ·rw [zbh,if_neg (by omega),if_pos (by omega)]
 ·have h0 : ¬f.length=0:=by omega
  refine zar (fun (k:Nat)=>[(12,.d (dF f)),(13,.d (.int .i64 ((f.map dNd).length:Int))),(14,.d (.int .i64 ((k:Int))))]) (fun (k:Nat)=>k≤f.length∧zbh f=zfv (f.drop k) k) (fun (k:Nat)=>f.length - k) (0) (⟨by simp,by rw [zbh,if_neg (by omega),if_neg (by omega)];rfl⟩) (by (repeat' first|exact trivial|exact rfl|refine And.intro ?_ ?_)) ?_
  rintro k ⟨hk,hI⟩
  (repeat' ((conv=>whnf);first|refine vA ?_|((first|refine vD ?_ ?_|refine vF ?_ ?_)<;>intro hc<;>try simp only [vL] at hc)|refine vT ?_|(refine vQ ?_ fun x hx=>?_;·omega)|(refine vO ?_ ?_;·omega)|refine vX ?_|refine yD (zrF _ _) ⟨⟨rfl,rfl⟩,⟨rfl,rfl⟩,rfl⟩ rfl ?_));all_goals try conv=>whnf
  ·rw [hI,zaG hx,zfv,if_pos hc]
  ·exact ⟨k+1,[],[],⟨by (omega),by rw [hI,zaG hx,zfv,if_neg (by simpa using hc)]⟩,by (omega),by (refine ⟨rfl,rfl,rfl,?_,?_⟩;repeat' first|exact trivial|exact rfl|refine And.intro ?_ ?_)⟩
  ·rw [hI,List.drop_eq_nil_of_le (by omega)];rfl
end Go.Ab
namespace Go.Ab
open Go Go.Proofs
set_option maxRecDepth 10000
set_option maxHeartbeats 4000000
variable {T:Nat→Obj→Prop}
abbrev zC (d:List (Nat×Nat)):List (D×D):=d.map fun p=>(D.int .i64 (p.1:Int),D.int .i64 (p.2:Int))
def zab (l:List Nd) (k:Nat):List (D×D):=match l with
 | []=>[]
 | n::r=>(dNd n,.int .i64 (k:Int))::zab r (k+1)
theorem zys (a b:Nd):D.eqk (dNd a) (dNd b)=some (decide (a=b)):=by
 obtain ⟨a1,a2,a3,a4,a5,a6⟩:=a
 obtain ⟨b1,b2,b3,b4,b5,b6⟩:=b
 show some (decide (a1=b1)&&(decide (a2=b2)&&(decide (a3=b3)&&(decide (a4=b4)&&(decide (a5=b5)&&(decide (a6=b6)&&true))))))=_
 simp only [Nd.mk.injEq,Bool.decide_and,Bool.and_true]
theorem zpF (d:List (Nat×Nat)) (i:Nat):zz (zC d) (.int .i64 (i:Int))=some ((d.lookup i).map fun r=>D.int .i64 (r:Int)):=by
 induction d with
 | nil=>rfl
 | cons p d ih =>
  obtain ⟨a,b⟩:=p
  show (match some (decide ((i:Int)=(a:Int))) with
   | some true=>some (some (D.int .i64 (b:Int)))
   | some false=>zz (zC d) (.int .i64 (i:Int))
   | none=>none)=_
  by_cases h:i=a
  ·subst h;simp [List.lookup]
  ·have h1:decide ((i:Int)=(a:Int))=false:=by simp only [decide_eq_false_iff_not];omega
   have h2:(i==a)=false:=by simpa using h
   rw [h1]
   simp only [List.lookup,h2]
   exact ih
theorem zmx (x:Nd) : ∀ (l:List Nd) (k:Nat),zz (zab l k) (dNd x)=some ((l.idxOf? x).map fun r=>D.int .i64 ((k+r:Nat):Int))
 | [],k=>rfl
 | n::r,k=>by
  have ih:=zmx x r (k+1)
  show (match D.eqk (dNd x) (dNd n) with
   | some true=>some (some (D.int .i64 (k:Int)))
   | some false=>zz (zab r (k+1)) (dNd x)
   | none=>none)=_
  rw [zys]
  by_cases h:x=n
  ·subst h;simp [List.idxOf?,List.findIdx?_cons]
  ·have h2:(n==x)=false:=by simpa using fun e=>h e.symm
   simp only [h,decide_false,ih,List.idxOf?,List.findIdx?_cons,h2]
   cases r.findIdx? (· == x) with
   | none=>rfl
   | some j=>simp;omega
theorem zlF (x:Nd) : ∀ (l:List Nd) (k:Nat),zab (l++[x]) k=zab l k++[(dNd x,.int .i64 ((k+l.length:Nat):Int))]
 | [],k=>rfl
 | n::r,k=>by
  show (dNd n,D.int .i64 (k:Int))::zab (r++[x]) (k+1)=_
  rw [zlF x r (k+1),show k+1+r.length=k+(n::r).length by simp;omega]
  rfl
theorem zcK (x:Nd) (l:List Nd):zab (l++[x]) 0=zab l 0++[(dNd x,.int .i64 (((l.map dNd).length:Nat):Int))]:=by
 rw [zlF,List.length_map,Nat.zero_add]
abbrev zaI:V := .fn zj [.ptr 0 0,.ptr 1 0,.ptr 2 0,.ptr 3 0,.ptr 4 0]
abbrev zaS (f:List Nd) (out:V) (s:FSt):List Ob:=[.box [.map 5],.box [.d (dF f)],.box [zaI],.box [.map 6],.box [out],.map (zC s.done),.map (zab s.out 0)]
abbrev zaT (i:Int):List V:=[.d (.int .i64 i),.ptr 0 0,.ptr 1 0,.ptr 2 0,.ptr 3 0,.ptr 4 0]
abbrev zc1 (f:List Nd) (s:FSt):List (Option Ob):=[some (.box [.map 5]),some (.box [.d (dF f)]),some (.box [zaI]),some (.box [.map 6]),some (.box [.own 8]),some (.map (zC s.done)),some (.map (zab s.out 0)),none,some (.row 6 (s.out.map dNd))]
abbrev zd3 (f:List Nd) (s:FSt):List (Option Ob):=[some (.box [.map 5]),some (.box [.d (dF f)]),some (.box [zaI]),some (.box [.map 6]),some (.box [.own 7]),some (.map (zC s.done)),some (.map (zab s.out 0)),some (.row 6 (s.out.map dNd))]
theorem zgt {op:Int} {x y:Bool} (hx:zak op=x) (hy:zae op=y):Fn Tryz.prog T zU [.d (.int .i64 op)] [] (.d (.tup [.agg [.bool x,.bool y,.bool (z2 op),.bool (zE op),.bool (zH op),.bool (zN op),.int .i64 (zaP op)],.bool (zcx op)])) []:=by
 subst hx;subst hy
 exact zoX op
theorem zaA (d:List (Nat×Nat)) (i r:Nat):zC (d++[(i,r)])=zC d++[(.int .i64 (i:Int),.int .i64 (r:Int))]:=by simp
theorem zc9 {x:Nd} {l:List Nd} {j:Nat} (h:l.idxOf? x=some j):zz (zab l 0) (dNd x)=some (some (.int .i64 (j:Int))):=by
 rw [zmx,h];simp
theorem zb9 {x:Nd} {l:List Nd} (h:l.idxOf? x=none):zz (zab l 0) (dNd x)=some none:=by
 rw [zmx,h];rfl
theorem zw {d:List (Nat×Nat)} {i:Nat} (h:d.lookup i=none):zz (zC d) (.int .i64 (i:Int))=some none:=by
 rw [zpF,h];rfl
theorem zuT {f:List Nd} (hf:zaN f) {k:Nat} {s:FSt} (hk:k < f.length) (hd:s.done.lookup k=none) (hx:zak (f.getD k default).op=false) (hy:zae (f.getD k default).op=false) :
  fin f (k+1) k s=((put s.out (f.getD k default)).1,⟨(put s.out (f.getD k default)).2,s.done++[(k,(put s.out (f.getD k default)).1)]⟩):=by
 have hn:=zbX.1 (zgl hf hk)
 rw [fin,hd]
 simp only [hx,hy,cond_false]
 have e0:(((f.getD k default).y.toNat:Nat):Int)=(f.getD k default).y:=by rw [hn.2.2.2.2 hy];rfl
 have e1:(((f.getD k default).x.toNat:Nat):Int)=(f.getD k default).x:=by rw [hn.2.2.1 hx];rfl
 rw [e0,e1]
theorem zuU {f:List Nd} (hf:zaN f) {k:Nat} {s:FSt} (hk:k < f.length) (hd:s.done.lookup k=none) {n:Nd} (hn:f.getD k default=n) (hx:zak n.op=true) (hy:zae n.op=false) {r:Nat} {s1:FSt} (h1:fin f (n.x.toNat+1) n.x.toNat s=(r,s1)) :
  fin f (k+1) k s=((put s1.out ⟨n.op,n.i,n.e,n.g,(r:Int),n.y⟩).1,⟨(put s1.out ⟨n.op,n.i,n.e,n.g,(r:Int),n.y⟩).2,s1.done++[(k,(put s1.out ⟨n.op,n.i,n.e,n.g,(r:Int),n.y⟩).1)]⟩):=by
 subst hn
 have hn:=zbX.1 (zgl hf hk)
 have e1:=zbn hf hk hx
 rw [fin,hd]
 simp only [hx,hy,cond_false,cond_true]
 rw [ze2 hf k ((f.getD k default).x.toNat+1) _ _ (by omega) (by omega) (by omega),h1]
 have e0:(((f.getD k default).y.toNat:Nat):Int)=(f.getD k default).y:=by rw [hn.2.2.2.2 hy];rfl
 simp only [e0]
theorem zuV {f:List Nd} (hf:zaN f) {k:Nat} {s:FSt} (hk:k < f.length) (hd:s.done.lookup k=none) {n:Nd} (hn:f.getD k default=n) (hx:zak n.op=true) (hy:zae n.op=true) {r r2:Nat} {s1 s2:FSt} (h1:fin f (n.x.toNat+1) n.x.toNat s=(r,s1)) (h2:fin f (n.y.toNat+1) n.y.toNat s1=(r2,s2)) :
  fin f (k+1) k s=((put s2.out ⟨n.op,n.i,n.e,n.g,(r:Int),(r2:Int)⟩).1,⟨(put s2.out ⟨n.op,n.i,n.e,n.g,(r:Int),(r2:Int)⟩).2,s2.done++[(k,(put s2.out ⟨n.op,n.i,n.e,n.g,(r:Int),(r2:Int)⟩).1)]⟩):=by
 subst hn
 have e1:=zbn hf hk hx
 have e2:=zd6 hf hk hy
 rw [fin,hd]
 simp only [hx,hy,cond_true]
 rw [ze2 hf k ((f.getD k default).x.toNat+1) (f.getD k default).x.toNat s (by omega) (by omega) (by omega),h1]
 simp only
 rw [ze2 hf k ((f.getD k default).y.toNat+1) (f.getD k default).y.toNat s1 (by omega) (by omega) (by omega),h2]
theorem zf2 {f:List Nd} (hf:zaN f) {j k:Nat} {s:FSt} (hj:j < k) (hjf:j < f.length) (hs:ziI f s) (hd:s.done.lookup k=none):ziI f (fin f (j+1) j s).2∧(fin f (j+1) j s).2.done.lookup k=none:=by
 obtain ⟨h1,h2,h3,l,h4,h5⟩:=zgN hf (j+1) j s (by omega) hjf hs
 refine ⟨h1,?_⟩
 rw [h4]
 exact zsU fun p hp=>by
  rcases List.mem_append.1 hp with hp|hp
  ·exact zn7 hd p hp
  ·have:=h5 p hp;omega
theorem zh6 {f:List Nd} {s:FSt} (hs:ziI f s):s.out.length≤f.length:=by
 have h1:=hs.len
 have h2:=zpJ hs.keys (n:=f.length) (fun x hx=>by obtain ⟨p,hp,rfl⟩:=List.mem_map.1 hx;exact hs.rng p hp)
 rw [List.length_map] at h2
 omega
theorem zT.objsE {P:Program} {M:Nat→Option Ob} {n f:Nat} {vs lvs:List V} {obs:List Ob} {y:D} {obs':List (Option Ob)} {K:V→Upd→Nat→Prop} (js:List Nat) (hf:Fn P T f lvs obs (.d y) obs') (ha:VPasses M js [] 20 lvs vs)
  (ho:zaD M js [] obs js) (hnd:nodup js=true) (hsj:zdG js (zI M vs)=true) (hle:js.length≤obs'.length) (u:Upd) (hu:zfh js [] n obs' false=u)
  (hK:K (.d y) u (obs'.length - js.length)):zT (zcW P T) M n f vs K := .objs js hf ha ho hnd hsj hle (by rw [hu];exact hK)
end Go.Ab
namespace Go.Ab
def uni (m:Hd→Nat) (c:List Nd):Nat:=c.foldl (fun s n=>s|||m n.hd) 0
theorem zv7 (m:Hd→Nat) : ∀ (c:List Nd) (s:Nat) (i:Nat),(c.foldl (fun s n=>s|||m n.hd) s).testBit i=(s.testBit i||c.any fun n=>(m n.hd).testBit i)
 | [],s,i=>by simp
 | n::r,s,i=>by simp only [List.foldl_cons,zv7 m r,Nat.testBit_or,List.any_cons,Bool.or_assoc]
theorem zle (m:Hd→Nat) (c:List Nd) (i:Nat):(uni m c).testBit i=c.any fun n=>(m n.hd).testBit i:=by
 unfold uni;rw [zv7];simp
theorem zxA (m:Hd→Nat) {c:List Nd} {k:Nat} {n:Nd} (h:c[k]? = some n):uni m (c.take (k+1))=uni m (c.take k)|||m n.hd:=by
 unfold uni
 rw [List.take_add_one,h]
 simp
theorem zgV (m:Hd→Nat) {b:Nat} : ∀ {c:List Nd},uni m c < 2 ^ b ↔ ∀ n∈c,m n.hd < 2 ^ b:=by
 intro c
 constructor
 ·intro h n hn
  refine Nat.lt_pow_two_of_testBit _ fun i hi=>?_
  have h1:=Nat.testBit_lt_two_pow (Nat.lt_of_lt_of_le h (Nat.pow_le_pow_right (by omega) hi))
  rw [zle] at h1
  exact Bool.eq_false_iff.2 fun h2=>by
   have:(c.any fun n=>(m n.hd).testBit i)=true:=List.any_eq_true.2 ⟨n,hn,h2⟩
   rw [this] at h1;cases h1
 ·intro h
  refine Nat.lt_pow_two_of_testBit _ fun i hi=>?_
  rw [zle]
  refine List.any_eq_false.2 fun n hn=>?_
  have:=Nat.testBit_lt_two_pow (Nat.lt_of_lt_of_le (h n hn) (Nat.pow_le_pow_right (by omega) hi))
  simp [this]
theorem zio {k:IntKind} {a:Nat} (h:a < 2 ^ k.bits):(BitVec.ofInt k.bits (a:Int)).toNat=a:=by
 rw [BitVec.toNat_ofInt,Int.emod_eq_of_lt (Int.natCast_nonneg a) (show (a:Int) < ((2 ^ k.bits:Nat):Int) from Int.ofNat_lt.2 h)]
 rfl
theorem zm7 {a:Nat} (h:a < 2 ^ 63):IntKind.wrap .i64 (a:Int)=a:=zsp ⟨by omega,by omega⟩
theorem zxZ {a b:Nat} (ha:a < 2 ^ 63) (hb:b < 2 ^ 63):zaz .i64 (fun p q=>p|||q) (a:Int) (b:Int)=((a|||b:Nat):Int):=by
 unfold zaz
 rw [BitVec.toNat_or,zio (k := .i64) (by simp [IntKind.bits];omega),zio (k := .i64) (by simp [IntKind.bits];omega)]
 exact zm7 (Nat.or_lt_two_pow ha hb)
theorem zq1 {a b:Nat} (ha:a < 2 ^ 63) (hb:b < 2 ^ 63):zaz .i64 (fun p q=>p&&&q) (a:Int) (b:Int)=((a&&&b:Nat):Int):=by
 unfold zaz
 rw [BitVec.toNat_and,zio (k := .i64) (by simp [IntKind.bits];omega),zio (k := .i64) (by simp [IntKind.bits];omega)]
 exact zm7 (Nat.and_lt_two_pow _ hb)
theorem zhw {a b:Nat} (ha:a < 2 ^ 63) (hb:b < 2 ^ 63):zaz .i64 (fun p q=>p &&& ~~~q) (a:Int) (b:Int)=0 ↔ ∀ i,a.testBit i=true→b.testBit i=true:=by
 unfold zaz
 have h64 : ∀ {a:Nat},a < 2 ^ 63→a < 2 ^ 64:=fun h=>by omega
 have e:(BitVec.ofInt IntKind.i64.bits (a:Int) &&& ~~~BitVec.ofInt IntKind.i64.bits (b:Int)).toNat < 2 ^ 63:=by
  rw [BitVec.toNat_and,zio (k := .i64) (h64 ha)]
  exact Nat.lt_of_le_of_lt Nat.and_le_left ha
 rw [zm7 e]
 have e2:(((BitVec.ofInt IntKind.i64.bits (a:Int) &&& ~~~BitVec.ofInt IntKind.i64.bits (b:Int)).toNat:Nat):Int)=0↔(BitVec.ofInt IntKind.i64.bits (a:Int) &&& ~~~BitVec.ofInt IntKind.i64.bits (b:Int))=0#_:=by
  constructor
  ·intro h;exact BitVec.eq_of_toNat_eq (by simpa using (show (BitVec.ofInt IntKind.i64.bits (a:Int) &&& ~~~BitVec.ofInt IntKind.i64.bits (b:Int)).toNat=0 by omega))
  ·intro h;rw [h];simp
 rw [e2]
 have bit : ∀ {c:Nat},c < 2 ^ 63 → ∀ i,(BitVec.ofInt IntKind.i64.bits (c:Int)).getLsbD i=c.testBit i:=fun {c} hc i=>by
  rw [← BitVec.testBit_toNat,zio (k := .i64) (h64 hc)]
 constructor
 ·intro h i hi
  have h2:=congrArg (fun x=>x.getLsbD i) h
  have hlt:i < 64:=by
   refine Nat.lt_of_not_le fun hle=>?_
   have:=Nat.testBit_lt_two_pow (Nat.lt_of_lt_of_le (h64 ha) (Nat.pow_le_pow_right (by omega) hle))
   rw [this] at hi;cases hi
  simp only [BitVec.getLsbD_and,BitVec.getLsbD_not,bit ha,bit hb,hi,Bool.true_and,BitVec.getLsbD_zero] at h2
  have:decide (i < IntKind.i64.bits)=true:=decide_eq_true hlt
  rw [this] at h2
  simpa using h2
 ·intro h
  apply BitVec.eq_of_getLsbD_eq
  intro i hi
  simp only [BitVec.getLsbD_and,BitVec.getLsbD_not,bit ha,bit hb,BitVec.getLsbD_zero]
  cases ha':a.testBit i with
  | false=>simp
  | true=>simp [h i ha']
theorem zpm {a n:Nat} : (a:Int).fdiv (2 ^ n)=((a >>> n:Nat):Int):=by
 have e:((2:Int) ^ n)=((2 ^ n:Nat):Int):=by simp
 rw [e,Nat.shiftRight_eq_div_pow,Int.fdiv_eq_ediv_of_nonneg _ (Int.natCast_nonneg _)];rfl
def zbj (h:Hd):Nat:=(zaP h.op).toNat
def zdJ (h:Hd):Nat:=if z2 h.op=true then 2 ^ h.i.toNat else 0
def zbL (h:Hd):Nat:=if zE h.op=true then 2 ^ h.i.toNat else h.g.toNat
theorem zt7 (h:Hd):((zbj h:Nat):Int)=zaP h.op:=by
 unfold zbj zaP
 repeat' split
 all_goals rfl
theorem zmB (h:Hd):zbj h < 2 ^ 9:=by
 unfold zbj zaP
 repeat' split
 all_goals decide
theorem zwE {h:Hd} (hh:zjM h):zdJ h < 2 ^ 8:=by
 unfold zdJ
 split
 ·rename_i h1
  have:=hh.fact h1
  exact Nat.pow_lt_pow_right (by omega) (by omega)
 ·decide
theorem zuA {h:Hd} (hh:zjM h):zbL h < 2 ^ 4:=by
 unfold zbL
 split
 ·rename_i h1
  have:=hh.agent h1
  exact Nat.pow_lt_pow_right (by omega) (by omega)
 ·cases hg:zH h.op with
  | true=>have:=hh.group hg;omega
  | false=>have:=hh.g0 hg;omega
end Go.Ab
namespace Go.Ab
open Go Go.Proofs
set_option maxRecDepth 10000
set_option maxHeartbeats 4000000
variable {T:Nat→Obj→Prop}
theorem zza {g k:Nat} (hg:g < 2 ^ 63) (hk:k≤64):zaz .i64 (fun p q=>p&&&q) ((g:Int).fdiv (2 ^ (min ((k:Nat):Int).toNat IntKind.i64.bits))) 1=1↔g.testBit k=true:=by
 have e1:min ((k:Nat):Int).toNat IntKind.i64.bits=k:=Nat.min_eq_left (show k≤64 from hk)
 have h1:g >>> k < 2 ^ 63:=Nat.lt_of_le_of_lt (by rw [Nat.shiftRight_eq_div_pow];exact Nat.div_le_self _ _) hg
 rw [e1,zpm,show (1:Int)=((1:Nat):Int) from rfl,zq1 h1 (by decide)]
 rw [Nat.testBit,Nat.and_one_is_mod,Nat.one_and_eq_mod_two,bne_iff_ne]
 omega
def zgF (p:PM) (g:Nat) (s:BitVec 64) (k:Nat):BitVec 64:=(List.range k).foldl (fun o (a:Nat)=>if g.testBit a=true then o&&&zeN p (a:Int) s else o) (zM p.W)
def zhT (p:PM) (g:Nat) (s:BitVec 64):BitVec 64:=zgF p g s p.cell.length
theorem zhy (p:PM) (g:Nat) (s:BitVec 64) (k:Nat):zgF p g s (k+1)=if g.testBit k=true then zgF p g s k&&&zeN p (k:Int) s else zgF p g s k:=by
 rw [zgF,List.range_succ,List.foldl_append];rfl
theorem zrB (hR:zaK T) (p:PM) (hp:zaM p.rank) (hc0:zy p=0) (g:Nat) (hgl:g < 2 ^ 63) (s:BitVec 64):Fn Tryz.prog T zgI [.d (dPM p),.d (.int .i64 (g:Int)),.d (.u64 s)] [] (.d (.u64 (zhT p g s))) []:=by
 have hgd:=zB hc0
 have h1:=hgd.w1
 have h2:=hgd.w2
 have h3:=hgd.n4
 refine zd zt zmI (by show 3≤30;decide) ?_
 (repeat' ((conv=>whnf);first|refine vA ?_|refine vJ fun hg=>?_|refine vT ?_|refine yD (zf4 p h1 h2) ⟨⟨rfl,rfl⟩,rfl⟩ rfl ?_));all_goals try conv=>whnf
 refine zA (fun ((k,o):Nat×BitVec 64)=>[(1,.d (.int .i64 ((g:Int)))),(2,.d (.u64 (s))),(3,.ptr 0 0),(13,.d (.int .i64 ((p.cell.map dI).length:Int))),(7,.d (.u64 (o))),(14,.d (.int .i64 ((k:Int))))]) (fun ((k,o):Nat×BitVec 64)=>[(0,some (za1 p))]) 1 (fun ((k,o):Nat×BitVec 64)=>k≤p.cell.length∧o=zgF p g s k) (fun ((k,o):Nat×BitVec 64)=>p.cell.length - k) ((0,zM p.W)) [(0,0)] [] (⟨by simp,rfl⟩) (by (refine ⟨rfl,rfl,rfl,?_,?_⟩;repeat' first|exact trivial|exact rfl|refine And.intro ?_ ?_|refine ⟨_,rfl,?_⟩|decide)) ?_
 rintro ⟨k,o⟩ ⟨hk,hI⟩
 (repeat' ((conv=>whnf);first|refine vA ?_|(refine vF ?_ ?_<;>intro hc<;>try simp only [vL] at hc)|refine vT ?_|((first|refine vO ?_ ?_|refine vP ?_ ?_);·omega)|refine vY ?_|refine yD (zrC hR p hp h2 _ _) ⟨⟨rfl,rfl⟩,⟨rfl,rfl⟩,⟨rfl,rfl⟩,rfl⟩ rfl ?_));all_goals try conv=>whnf
 ·have hb:=(zza (k:=k) hgl (by omega)).1 hc
  refine ⟨(k+1,_),[(0,0)],[],?_,?_,by (refine ⟨rfl,rfl,rfl,?_,?_⟩;repeat' first|exact trivial|exact rfl|refine And.intro ?_ ?_|refine ⟨_,rfl,?_⟩|decide)⟩
  ·exact ⟨by (omega),by rw [zhy,if_pos hb,hI]⟩
  ·((simp only [vM] at *;omega))
 ·have hb : ¬ g.testBit k=true:=fun h=>hc ((zza (k:=k) hgl (by omega)).2 h)
  exact ⟨(k+1,o),[(0,0)],[],⟨by (omega),by rw [zhy,if_neg hb,hI]⟩,by ((simp only [vM] at *;omega)),by (refine ⟨rfl,rfl,rfl,?_,?_⟩;repeat' first|exact trivial|exact rfl|refine And.intro ?_ ?_|refine ⟨_,rfl,?_⟩|decide)⟩
 ·rw [hI,show k=p.cell.length by omega];rfl
end Go.Ab
namespace Go.Ab
open Go Go.Proofs
set_option maxRecDepth 10000
set_option maxHeartbeats 4000000
variable {T:Nat→Obj→Prop}
theorem zyE {x s:BitVec 64} : x &&& ~~~s=0#64 ↔ ∀ i,x.getLsbD i=true→s.getLsbD i=true:=by
 rw [zxC]
 constructor
 ·intro h i hi
  have h1:=h i
  rw [BitVec.getLsbD_and,BitVec.getLsbD_not,hi,Bool.true_and] at h1
  have:i < 64:=BitVec.lt_of_getLsbD hi
  simpa [this] using h1
 ·intro h i
  rw [BitVec.getLsbD_and,BitVec.getLsbD_not]
  cases hx:x.getLsbD i with
  | false=>simp
  | true=>simp [h i hx]
theorem zxS {x y:BitVec 64} (h : ∀ i,x.getLsbD i=true↔y.getLsbD i=true):x=y :=
 BitVec.eq_of_getLsbD_eq fun i _=>Bool.eq_iff_iff.2 (h i)
theorem zzq {x y:BitVec 64} (h : ∀ i,x.getLsbD i=true→y.getLsbD i=true) (hne:x≠y):x.toNat < y.toNat:=by
 have e:y&&&x=x:=zxS fun i=>by
  rw [BitVec.getLsbD_and,Bool.and_eq_true]
  exact ⟨fun h=>h.2,fun hx=>⟨h i hx,hx⟩⟩
 have h1:x.toNat≤y.toNat:=by rw [← e,BitVec.toNat_and];exact Nat.and_le_left
 have h2:x.toNat≠y.toNat:=fun e=>hne (BitVec.eq_of_toNat_eq e)
 omega
theorem ztu {n:Nat} (hn:n≤64) {f:Nat→Bool} {w:Nat} : (zF f n).getLsbD w=true↔w < n∧f w=true:=by
 rw [zes]
 simp only [Bool.and_eq_true,decide_eq_true_eq]
 exact ⟨fun h=>⟨h.1.2,h.2⟩,fun h=>⟨⟨by omega,h.1⟩,h.2⟩⟩
theorem zzn {n:Nat} (hn:n≤64) {P:Nat→Prop} [DecidablePred P] {w:Nat} : (zF (fun w=>decide (P w)) n).getLsbD w=true↔w < n∧P w:=by
 rw [ztu hn,decide_eq_true_eq]
def InC (p:PM) (a w v:Nat):Prop:=v < p.W.toNat∧at0 (za p.cell a) v=at0 (za p.cell a) w
def rkA (p:PM) (a w:Nat):Int:=at0 (za p.rank a) w
section
variable {p:PM} (hg:zwh p) (hc0:zy p=0)
include hc0
theorem zzv {a w:Nat} (ha:a < p.cell.length) (hw:w < p.W.toNat):At p a w:=⟨hc0,by omega,by omega,by omega,by omega⟩
theorem W64:p.W.toNat≤64:=by have:=(zB hc0).w2;omega
theorem zhK {i:Nat} : (zM p.W).getLsbD i=true↔i < p.W.toNat:=by
 have h1:=(zB hc0).w1
 have h2:=W64 hc0
 by_cases h:i < 64
 ·rw [zbT (by omega) h,decide_eq_true_eq];omega
 ·exact ⟨fun h'=>absurd (BitVec.lt_of_getLsbD h') h,fun h'=>by omega⟩
theorem zra {a w i:Nat} (ha:a < p.cell.length) (hw:w < p.W.toNat):(zg5 p a w).getLsbD i=true↔InC p a w i:=zuN (zzv hc0 ha hw)
theorem zkw {a:Nat} (ha:a < p.cell.length) {s:BitVec 64} {w:Nat} : (zeN p a s).getLsbD w=true↔w < p.W.toNat ∧ ∀ v,InC p a w v→s.getLsbD v=true:=by
 unfold zeN
 rw [zzn (W64 hc0)]
 refine and_congr_right fun hw=>?_
 rw [zyE]
 exact ⟨fun h v hv=>h v ((zra hc0 ha hw).2 hv),fun h v hv=>h v ((zra hc0 ha hw).1 hv)⟩
def Suc (p:PM) (g w v:Nat):Prop:=w < p.W.toNat ∧ ∃ a,a < p.cell.length∧g.testBit a=true∧InC p a w v
omit hc0 in
theorem Suc.lt {g w v:Nat} (h:Suc p g w v):v < p.W.toNat:=by obtain ⟨_,a,_,_,h⟩:=h;exact h.1
theorem znH {g:Nat} {s:BitVec 64} {w:Nat} : ∀ k,k≤p.cell.length→((zgF p g s k).getLsbD w=true↔w < p.W.toNat ∧ ∀ a,a < k→g.testBit a=true → ∀ v,InC p a w v→s.getLsbD v=true)
 | 0,_=>by
  show (zM p.W).getLsbD w=true↔_
  rw [zhK hc0]
  exact ⟨fun h=>⟨h,fun a h=>by omega⟩,fun h=>h.1⟩
 | k+1,hk=>by
  have ih:=znH (g:=g) (s:=s) (w:=w) k (by omega)
  rw [zhy]
  split
  ·rename_i hb
   rw [BitVec.getLsbD_and,Bool.and_eq_true,ih,zkw hc0 (by omega)]
   constructor
   ·rintro ⟨⟨h1,h2⟩,-,h3⟩
    refine ⟨h1,fun a ha hga v hv=>?_⟩
    by_cases e:a=k
    ·subst e;exact h3 v hv
    ·exact h2 a (by omega) hga v hv
   ·rintro ⟨h1,h2⟩
    exact ⟨⟨h1,fun a ha=>h2 a (by omega)⟩,h1,h2 k (by omega) hb⟩
  ·rename_i hb
   rw [ih]
   constructor
   ·rintro ⟨h1,h2⟩
    refine ⟨h1,fun a ha hga v hv=>?_⟩
    by_cases e:a=k
    ·subst e;exact absurd hga hb
    ·exact h2 a (by omega) hga v hv
   ·rintro ⟨h1,h2⟩
    exact ⟨h1,fun a ha=>h2 a (by omega)⟩
theorem zpz {g:Nat} {s:BitVec 64} {w:Nat} : (zhT p g s).getLsbD w=true↔w < p.W.toNat ∧ ∀ v,Suc p g w v→s.getLsbD v=true:=by
 rw [zhT,znH hc0 _ (Nat.le_refl _)]
 refine and_congr_right fun hw=>?_
 exact ⟨fun h v ⟨_,a,h1,h2,h3⟩=>h a h1 h2 v h3,fun h a h1 h2 v h3=>h v ⟨hw,a,h1,h2,h3⟩⟩
end
inductive CP (p:PM) (g:Nat) (c:BitVec 64):Nat→Nat→Prop where
 | base {w v:Nat} : Suc p g w v→c.getLsbD v=true→CP p g c w v
 | step {w u v:Nat} : CP p g c w u→Suc p g u v→c.getLsbD v=true→CP p g c w v
theorem CP.pre {p:PM} {g:Nat} {c:BitVec 64} {w u v:Nat} (h:Suc p g w u) (hu:c.getLsbD u=true) (hp:CP p g c u v):CP p g c w v:=by
 induction hp with
 | base h1 h2=>exact .step (.base h hu) h1 h2
 | step _ h1 h2 ih=>exact .step ih h1 h2
noncomputable def zeZ (p:PM) (g:Nat) (c s:BitVec 64):BitVec 64:=zF (fun w => @decide (∀ v,CP p g c w v→s.getLsbD v=true) (Classical.propDecidable _)) p.W.toNat
theorem zeE {p:PM} (hc0:zy p=0) {g:Nat} {c s:BitVec 64} {w:Nat} : (zeZ p g c s).getLsbD w=true↔w < p.W.toNat ∧ ∀ v,CP p g c w v→s.getLsbD v=true:=by
 unfold zeZ
 rw [ztu (W64 hc0),@decide_eq_true_eq _ (Classical.propDecidable _)]
def zoq (p:PM) (g:Nat) (c s out:BitVec 64):BitVec 64:=zhT p g (zM p.W &&& ~~~c|||s&&&out)
theorem zem {p:PM} (hc0:zy p=0) {g:Nat} {c s out:BitVec 64} {w:Nat} : (zoq p g c s out).getLsbD w=true↔w < p.W.toNat ∧ ∀ v,Suc p g w v→c.getLsbD v=true→s.getLsbD v=true∧out.getLsbD v=true:=by
 unfold zoq
 rw [zpz hc0]
 refine and_congr_right fun hw=>forall_congr' fun v=>?_
 constructor
 ·intro h h1 h2
  have h3:=h h1
  rw [BitVec.getLsbD_or,BitVec.getLsbD_and,BitVec.getLsbD_and,BitVec.getLsbD_not,h2] at h3
  simpa using h3
 ·intro h h1
  have hv:=h1.lt
  have h64:=W64 hc0
  rw [BitVec.getLsbD_or,BitVec.getLsbD_and,BitVec.getLsbD_and,BitVec.getLsbD_not,(zhK hc0).2 hv]
  cases hcv:c.getLsbD v with
  | false=>simp;omega
  | true=>simp [h h1 hcv]
structure Com (p:PM) (g:Nat) (c s out:BitVec 64):Prop where
 lo : ∀ w,(zeZ p g c s).getLsbD w=true→out.getLsbD w=true
 dec : ∀ w,(zoq p g c s out).getLsbD w=true→out.getLsbD w=true
 all : ∀ w,out.getLsbD w=true→w < p.W.toNat
theorem Com.start {p:PM} (hc0:zy p=0) (g:Nat) (c s:BitVec 64):Com p g c s (zM p.W) :=
 ⟨fun w h=>(zhK hc0).2 ((zeE hc0).1 h).1,fun w h=>(zhK hc0).2 ((zem hc0).1 h).1,fun w h=>(zhK hc0).1 h⟩
theorem Com.next {p:PM} (hc0:zy p=0) {g:Nat} {c s out:BitVec 64} (h:Com p g c s out):Com p g c s (zoq p g c s out) where
 lo w hw:=by
  obtain ⟨h1,h2⟩:=(zeE hc0).1 hw
  refine (zem hc0).2 ⟨h1,fun v hv hcv=>⟨h2 v (.base hv hcv),h.lo v ((zeE hc0).2 ⟨hv.lt,fun u hu=>h2 u (hu.pre hv hcv)⟩)⟩⟩
 dec w hw:=by
  obtain ⟨h1,h2⟩:=(zem hc0).1 hw
  exact (zem hc0).2 ⟨h1,fun v hv hcv=>⟨(h2 v hv hcv).1,h.dec v (h2 v hv hcv).2⟩⟩
 all w hw:=((zem hc0).1 hw).1
theorem Com.done {p:PM} (hc0:zy p=0) {g:Nat} {c s out:BitVec 64} (h:Com p g c s out) (e:zoq p g c s out=out):out=zeZ p g c s:=by
 refine zxS fun w=>⟨fun hw=>(zeE hc0).2 ⟨h.all w hw,fun v hv=>?_⟩,h.lo w⟩
 have key : ∀ v,CP p g c w v→s.getLsbD v=true∧out.getLsbD v=true:=fun v hv=>by
  induction hv with
  | base h1 h2=>rw [← e] at hw;exact ((zem hc0).1 hw).2 _ h1 h2
  | step _ h1 h2 ih =>
   have ih:=ih.2
   rw [← e] at ih
   exact ((zem hc0).1 ih).2 _ h1 h2
 exact (key v hv).1
theorem zt4 (hR:zaK T) (p:PM) (hp:zaM p.rank) (hc0:zy p=0) (g:Nat) (hgl:g < 2 ^ 63) (c s:BitVec 64):Fn Tryz.prog T zfQ [.d (dPM p),.d (.int .i64 (g:Int)),.d (.u64 c),.d (.u64 s)] [] (.d (.u64 (zeZ p g c s))) []:=by
 have hgd:=zB hc0
 have h1:=hgd.w1
 have h2:=hgd.w2
 refine zd zt zlu (by show 4≤29;decide) ?_
 (repeat' ((conv=>whnf);first|refine vT ?_|refine yD (zf4 p h1 h2) ⟨⟨rfl,rfl⟩,rfl⟩ rfl ?_));all_goals try conv=>whnf
 refine zA (fun (o:BitVec 64)=>[(1,.d (.int .i64 ((g:Int)))),(2,.d (.u64 (c))),(3,.d (.u64 (s))),(4,.ptr 0 0),(9,.d (.u64 (o)))]) (fun (o:BitVec 64)=>[(0,some (za1 p))]) 1 (fun (o:BitVec 64)=>Com p g c s o) (fun (o:BitVec 64)=>o.toNat) (zM p.W) [(0,0)] [] (Com.start hc0 g c s) (by (refine ⟨rfl,rfl,rfl,?_,?_⟩;repeat' first|exact trivial|exact rfl|refine And.intro ?_ ?_|refine ⟨_,rfl,?_⟩|decide)) ?_
 rintro o hI
 (repeat' ((conv=>whnf);first|refine vA ?_|(refine vF ?_ ?_<;>intro hc)|refine vT ?_|(refine vU ?_ ?_;·kernel_rfl)|refine vY ?_|refine yD (zf4 p h1 h2) ⟨⟨rfl,rfl⟩,rfl⟩ rfl ?_|refine yD (zrB hR p hp hc0 g hgl _) ⟨⟨rfl,rfl⟩,⟨rfl,rfl⟩,⟨rfl,rfl⟩,rfl⟩ rfl ?_));all_goals try conv=>whnf
 ·exact Com.done hc0 hI hc
 ·refine ⟨_,[(0,0)],[],?_,?_,by (refine ⟨rfl,rfl,rfl,?_,?_⟩;repeat' first|exact trivial|exact rfl|refine And.intro ?_ ?_|refine ⟨_,rfl,?_⟩|decide)⟩
  ·exact hI.next hc0
  ·exact zzq hI.dec hc
end Go.Ab
namespace Go.Ab
open Go Go.Proofs
set_option maxRecDepth 10000
set_option maxHeartbeats 4000000
variable {T:Nat→Obj→Prop}
noncomputable def zcB (p:PM) (h:Hd) (x y:BitVec 64):BitVec 64 :=
 if h.op=1 then zM p.W else if h.op=3 then p.val.getD h.i.toNat 0#64 else if h.op=4 then zM p.W &&& ~~~x else if h.op=5 then x&&&y else if h.op=6 then x|||y else if h.op=7 then zM p.W &&& ~~~x|||y else
 if h.op=8 then zM p.W &&& ~~~(x ^^^ y) else if h.op=9 then zeN p h.i x else if h.op=10 then zM p.W &&& ~~~zeN p h.i (zM p.W &&& ~~~x) else if h.op=11 then zhT p h.g.toNat x else
 if h.op=13 then zeZ p h.g.toNat x y else if h.op=14 then zpv p h.i x y else if h.op=15 then zpl p h.i x else 0#64
theorem zwN (hR:zaK T) (p:PM) (hp:zaM p.rank) (hc0:zy p=0) (op i e:Int) (g:Nat) (hgl:g < 2 ^ 63) (nx ny:Int) (x y:BitVec 64) (h3:op=3→0≤i∧i < p.val.length) (h15:op=15→0≤i∧i < p.cell.length) :
  Fn Tryz.prog T zee [.d (dPM p),.d (.agg [.int .i64 op,.int .i64 i,.int .i64 e,.int .i64 g,.int .i64 nx,.int .i64 ny]),.d (.u64 x),.d (.u64 y)] [] (.d (.u64 (zcB p ⟨op,i,e,g⟩ x y))) []:=by
 have hgd:=zB hc0
 have h1:=hgd.w1
 have h2:=hgd.w2
 refine zd zt zmK (by show 4≤105;decide) ?_
 (repeat' ((conv=>whnf);first|refine vA ?_|(refine vF ?_ ?_<;>intro hc)|refine vT ?_|(refine vS ?_ fun x hx=>?_;·omega)|(refine vU ?_ ?_;·kernel_rfl)|refine vY ?_|refine yD (zf4 p h1 h2) ⟨⟨rfl,rfl⟩,rfl⟩ rfl ?_|refine yD (zrC hR p hp h2 _ _) ⟨⟨rfl,rfl⟩,⟨rfl,rfl⟩,⟨rfl,rfl⟩,rfl⟩ rfl ?_|refine yD (zrB hR p hp hc0 g hgl _) ⟨⟨rfl,rfl⟩,⟨rfl,rfl⟩,⟨rfl,rfl⟩,rfl⟩ rfl ?_|refine yD (zt4 hR p hp hc0 g hgl _ _) (by (repeat refine ⟨⟨rfl,rfl⟩,?_⟩);rfl) rfl ?_|refine yD (zsJ hR p hp h2 _ _ _) (by (repeat refine ⟨⟨rfl,rfl⟩,?_⟩);rfl) rfl ?_|(refine yD (zu5 hR p hp hc0 _ ?_ ?_ _) ⟨⟨rfl,rfl⟩,⟨rfl,rfl⟩,⟨rfl,rfl⟩,rfl⟩ rfl ?_;(·omega);(·omega))|fail));all_goals try conv=>whnf
 all_goals (simp only [zcB, *,if_true,if_false];first|rfl|(simp [List.getD, *];done)|skip)
end Go.Ab
namespace Go.Ab
open Go Go.Proofs
set_option maxRecDepth 10000
set_option maxHeartbeats 4000000
set_option maxHeartbeats 40000000
variable {T:Nat→Obj→Prop}
theorem zyT {f:List Nd} (hL:f.length≤1000) {k:Nat} {n:Nd} (hn:f[k]? = some n) {s:FSt} (hl:s.out.length≤1000) (hfd:zz (zC (FSt.done s)) (.int .i64 (k:Int))=some none) (hu:Fn Tryz.prog T zU [.d (.int .i64 n.op)] [] (.d (.tup [.agg [.bool false,.bool false,.bool (z2 n.op),.bool (zE n.op),.bool (zH n.op),.bool (zN n.op),.int .i64 (zaP n.op)],.bool (zcx n.op)])) []) {j:Nat} (hfn:zz (zab (FSt.out s) 0) (dNd n)=some (some (.int .i64 (j:Int)))) :
  Fn Tryz.prog T zj (zaT (k:Int)) (zaS f (.own 7) s++[.row 6 (s.out.map dNd)]) (.d (.int .i64 (j:Int))) [some (.box [.map 5]),some (.box [.d (dF f)]),some (.box [zaI]),some (.box [.map 6]),some (.box [.own 8]),some (.map (zC (FSt.done s)++[(.int .i64 (k:Int),.int .i64 (j:Int))])),some (.map (zab (FSt.out s) 0)),none,some (.row 6 ((FSt.out s).map dNd))]:=by
 refine zan zt zO (by show 6≤68;decide) _ (fun e env mem n h=>h) ?_
 (repeat' ((conv=>whnf);first|refine vA ?_|refine vE ?_|refine vG ?_|refine vH ?_|refine vT ?_|refine vN ‹_› ?_|refine yD hu (by (repeat refine ⟨⟨rfl,rfl⟩,?_⟩);rfl) rfl ?_|refine zbi.mk _ ‹_› ?_));all_goals try conv=>whnf
 refine ⟨trivial,_,[(0,0),(1,1),(2,2),(3,3),(4,4),(5,5),(6,6),(8,7)],[],rfl,.inl (by (repeat' exact rfl)),⟨by rfl,by rfl,by rfl,trivial,by (repeat' first|exact trivial|exact rfl|refine And.intro ?_ ?_|refine ⟨_,rfl,?_⟩|exact of_decide_eq_true rfl)⟩,by (repeat' first|exact trivial|exact rfl|refine And.intro ?_ ?_|refine ⟨_,rfl,?_⟩)⟩
theorem zyU {f:List Nd} (hL:f.length≤1000) {k:Nat} {n:Nd} (hn:f[k]? = some n) {s:FSt} (hl:s.out.length≤1000) (hfd:zz (zC (FSt.done s)) (.int .i64 (k:Int))=some none) (hu:Fn Tryz.prog T zU [.d (.int .i64 n.op)] [] (.d (.tup [.agg [.bool false,.bool false,.bool (z2 n.op),.bool (zE n.op),.bool (zH n.op),.bool (zN n.op),.int .i64 (zaP n.op)],.bool (zcx n.op)])) []) (hfn:zz (zab (FSt.out s) 0) (dNd n)=some none) :
  Fn Tryz.prog T zj (zaT (k:Int)) (zaS f (.own 7) s++[.row 6 (s.out.map dNd)]) (.d (.int .i64 ((((FSt.out s).map dNd).length:Nat):Int))) [some (.box [.map 5]),some (.box [.d (dF f)]),some (.box [zaI]),some (.box [.map 6]),some (.box [.own 8]),some (.map (zC (FSt.done s)++[(.int .i64 (k:Int),.int .i64 ((((FSt.out s).map dNd).length:Nat):Int))])),some (.map (zab (FSt.out s) 0++[(dNd n,.int .i64 ((((FSt.out s).map dNd).length:Nat):Int))])),none,some (.row 6 ((FSt.out s).map dNd++[dNd n]))]:=by
 refine zan zt zO (by show 6≤68;decide) _ (fun e env mem n h=>h) ?_
 (repeat' ((conv=>whnf);first|refine vA ?_|refine vH ?_|refine vJ fun hg=>?_|refine vT ?_|refine vN ‹_› ?_|(refine vP ?_ ?_;·(simp only [vM] at *;omega))|refine yD hu (by (repeat refine ⟨⟨rfl,rfl⟩,?_⟩);rfl) rfl ?_|refine zbi.mk _ ‹_› ?_));all_goals try conv=>whnf
 refine ⟨trivial,_,[(0,0),(1,1),(2,2),(3,3),(4,4),(5,5),(6,6),(8,11)],[],rfl,.inl (by (repeat' exact rfl)),⟨by rfl,by rfl,by rfl,trivial,by (repeat' first|exact trivial|exact rfl|refine And.intro ?_ ?_|refine ⟨_,rfl,?_⟩|exact of_decide_eq_true rfl)⟩,by (repeat' first|exact trivial|exact rfl|refine And.intro ?_ ?_|refine ⟨_,rfl,?_⟩)⟩
end Go.Ab
namespace Go.Ab
open Go Go.Proofs
set_option maxRecDepth 10000
set_option maxHeartbeats 4000000
set_option maxHeartbeats 40000000
variable {T:Nat→Obj→Prop}
theorem zyV {f:List Nd} (hL:f.length≤1000) {k:Nat} {n:Nd} (hn:f[k]? = some n) {s:FSt} (hl:s.out.length≤1000) (hfd:zz (zC (FSt.done s)) (.int .i64 (k:Int))=some none) (hu:Fn Tryz.prog T zU [.d (.int .i64 n.op)] [] (.d (.tup [.agg [.bool true,.bool false,.bool (z2 n.op),.bool (zE n.op),.bool (zH n.op),.bool (zN n.op),.int .i64 (zaP n.op)],.bool (zcx n.op)])) []) {r1:Nat} {s1:FSt} (hl1:s1.out.length≤1000) (c1:Fn Tryz.prog T zj (zaT n.x) (zaS f (.own 7) s++[.row 6 (s.out.map dNd)]) (.d (.int .i64 (r1:Int))) (zc1 f s1)) (hfd1:zz (zC s1.done) (.int .i64 (k:Int))=some none) {j:Nat} (hfn:zz (zab s1.out 0) (dNd ⟨n.op,n.i,n.e,n.g,(r1:Int),n.y⟩)=some (some (.int .i64 (j:Int)))) :
  Fn Tryz.prog T zj (zaT (k:Int)) (zaS f (.own 7) s++[.row 6 (s.out.map dNd)]) (.d (.int .i64 (j:Int))) [some (.box [.map 5]),some (.box [.d (dF f)]),some (.box [zaI]),some (.box [.map 6]),some (.box [.own 8]),some (.map (zC s1.done++[(.int .i64 (k:Int),.int .i64 (j:Int))])),some (.map (zab s1.out 0)),none,some (.row 6 (s1.out.map dNd))]:=by
 refine zan zt zO (by show 6≤68;decide) _ (fun e env mem n h=>h) ?_
 (repeat' ((conv=>whnf);first|refine vA ?_|refine vG ?_|refine vT ?_|refine vN ‹_› ?_|refine yD hu (by (repeat refine ⟨⟨rfl,rfl⟩,?_⟩);rfl) rfl ?_|refine zbi.mk _ ‹_› ?_));all_goals try conv=>whnf
 refine zT.objsE [0,1,2,3,4,5,6,7] (c1) (by (repeat' first|exact rfl|refine And.intro ?_ ?_|refine ⟨_,rfl,?_⟩)) (by (repeat' first|exact rfl|refine And.intro ?_ ?_|refine ⟨_,rfl,?_⟩)) (by rfl) (by kernel_rfl) (by simp) [(0,some (.box [.map 5])),(1,some (.box [.d (dF f)])),(2,some (.box [zaI])),(3,some (.box [.map 6])),(4,some (.box [.own 10])),(5,some (.map (zC s1.done))),(6,some (.map (zab s1.out 0))),(7,none),(10,some (.row 6 (s1.out.map dNd)))] rfl ?_
 (repeat' ((conv=>whnf);first|refine vA ?_|refine vE ?_|refine vG ?_|refine vH ?_|refine vT ?_|refine zbi.mk _ ‹_› ?_));all_goals try conv=>whnf
 refine ⟨trivial,_,[(0,0),(1,1),(2,2),(3,3),(4,4),(5,5),(6,6),(8,10)],[],rfl,.inl (by (repeat' exact rfl)),⟨by rfl,by rfl,by rfl,trivial,by (repeat' first|exact trivial|exact rfl|refine And.intro ?_ ?_|refine ⟨_,rfl,?_⟩|exact of_decide_eq_true rfl)⟩,by (repeat' first|exact trivial|exact rfl|refine And.intro ?_ ?_|refine ⟨_,rfl,?_⟩)⟩
theorem zyW {f:List Nd} (hL:f.length≤1000) {k:Nat} {n:Nd} (hn:f[k]? = some n) {s:FSt} (hl:s.out.length≤1000) (hfd:zz (zC (FSt.done s)) (.int .i64 (k:Int))=some none) (hu:Fn Tryz.prog T zU [.d (.int .i64 n.op)] [] (.d (.tup [.agg [.bool true,.bool false,.bool (z2 n.op),.bool (zE n.op),.bool (zH n.op),.bool (zN n.op),.int .i64 (zaP n.op)],.bool (zcx n.op)])) []) {r1:Nat} {s1:FSt} (hl1:s1.out.length≤1000) (c1:Fn Tryz.prog T zj (zaT n.x) (zaS f (.own 7) s++[.row 6 (s.out.map dNd)]) (.d (.int .i64 (r1:Int))) (zc1 f s1)) (hfd1:zz (zC s1.done) (.int .i64 (k:Int))=some none) (hfn:zz (zab s1.out 0) (dNd ⟨n.op,n.i,n.e,n.g,(r1:Int),n.y⟩)=some none) :
  Fn Tryz.prog T zj (zaT (k:Int)) (zaS f (.own 7) s++[.row 6 (s.out.map dNd)]) (.d (.int .i64 (((s1.out.map dNd).length:Nat):Int))) [some (.box [.map 5]),some (.box [.d (dF f)]),some (.box [zaI]),some (.box [.map 6]),some (.box [.own 8]),some (.map (zC s1.done++[(.int .i64 (k:Int),.int .i64 (((s1.out.map dNd).length:Nat):Int))])),some (.map (zab s1.out 0++[(dNd ⟨n.op,n.i,n.e,n.g,(r1:Int),n.y⟩,.int .i64 (((s1.out.map dNd).length:Nat):Int))])),none,some (.row 6 (s1.out.map dNd++[dNd ⟨n.op,n.i,n.e,n.g,(r1:Int),n.y⟩]))]:=by
 refine zan zt zO (by show 6≤68;decide) _ (fun e env mem n h=>h) ?_
 (repeat' ((conv=>whnf);first|refine vA ?_|refine vG ?_|refine vT ?_|refine vN ‹_› ?_|refine yD hu (by (repeat refine ⟨⟨rfl,rfl⟩,?_⟩);rfl) rfl ?_|refine zbi.mk _ ‹_› ?_));all_goals try conv=>whnf
 refine zT.objsE [0,1,2,3,4,5,6,7] (c1) (by (repeat' first|exact rfl|refine And.intro ?_ ?_|refine ⟨_,rfl,?_⟩)) (by (repeat' first|exact rfl|refine And.intro ?_ ?_|refine ⟨_,rfl,?_⟩)) (by rfl) (by kernel_rfl) (by simp) [(0,some (.box [.map 5])),(1,some (.box [.d (dF f)])),(2,some (.box [zaI])),(3,some (.box [.map 6])),(4,some (.box [.own 10])),(5,some (.map (zC s1.done))),(6,some (.map (zab s1.out 0))),(7,none),(10,some (.row 6 (s1.out.map dNd)))] rfl ?_
 (repeat' ((conv=>whnf);first|refine vA ?_|refine vH ?_|refine vJ fun hg=>?_|refine vT ?_|(refine vP ?_ ?_;·(simp only [vM] at *;omega))|refine zbi.mk _ ‹_› ?_));all_goals try conv=>whnf
 refine ⟨trivial,_,[(0,0),(1,1),(2,2),(3,3),(4,4),(5,5),(6,6),(8,12)],[],rfl,.inl (by (repeat' exact rfl)),⟨by rfl,by rfl,by rfl,trivial,by (repeat' first|exact trivial|exact rfl|refine And.intro ?_ ?_|refine ⟨_,rfl,?_⟩|exact of_decide_eq_true rfl)⟩,by (repeat' first|exact trivial|exact rfl|refine And.intro ?_ ?_|refine ⟨_,rfl,?_⟩)⟩
end Go.Ab
namespace Go.Ab
open Go Go.Proofs
set_option maxRecDepth 10000
set_option maxHeartbeats 4000000
set_option maxHeartbeats 40000000
variable {T:Nat→Obj→Prop}
theorem zyX {f:List Nd} (hL:f.length≤1000) {k:Nat} {n:Nd} (hn:f[k]? = some n) {s:FSt} (hl:s.out.length≤1000) (hfd:zz (zC (FSt.done s)) (.int .i64 (k:Int))=some none) (hu:Fn Tryz.prog T zU [.d (.int .i64 n.op)] [] (.d (.tup [.agg [.bool true,.bool true,.bool (z2 n.op),.bool (zE n.op),.bool (zH n.op),.bool (zN n.op),.int .i64 (zaP n.op)],.bool (zcx n.op)])) []) {r1:Nat} {s1:FSt} (hl1:s1.out.length≤1000) (c1:Fn Tryz.prog T zj (zaT n.x) (zaS f (.own 7) s++[.row 6 (s.out.map dNd)]) (.d (.int .i64 (r1:Int))) (zc1 f s1)) (hfd1:zz (zC s1.done) (.int .i64 (k:Int))=some none) {r2:Nat} {s2:FSt} (hl2:s2.out.length≤1000) (c2:Fn Tryz.prog T zj (zaT n.y) (zaS f (.own 7) s1++[.row 6 (s1.out.map dNd)]) (.d (.int .i64 (r2:Int))) (zc1 f s2)) (hfd2:zz (zC s2.done) (.int .i64 (k:Int))=some none) {j:Nat} (hfn:zz (zab s2.out 0) (dNd ⟨n.op,n.i,n.e,n.g,(r1:Int),(r2:Int)⟩)=some (some (.int .i64 (j:Int)))) :
  Fn Tryz.prog T zj (zaT (k:Int)) (zaS f (.own 7) s++[.row 6 (s.out.map dNd)]) (.d (.int .i64 (j:Int))) [some (.box [.map 5]),some (.box [.d (dF f)]),some (.box [zaI]),some (.box [.map 6]),some (.box [.own 8]),some (.map (zC s2.done++[(.int .i64 (k:Int),.int .i64 (j:Int))])),some (.map (zab s2.out 0)),none,some (.row 6 (s2.out.map dNd))]:=by
 refine zan zt zO (by show 6≤68;decide) _ (fun e env mem n h=>h) ?_
 (repeat' ((conv=>whnf);first|refine vA ?_|refine vG ?_|refine vT ?_|refine vN ‹_› ?_|refine yD hu (by (repeat refine ⟨⟨rfl,rfl⟩,?_⟩);rfl) rfl ?_|refine zbi.mk _ ‹_› ?_));all_goals try conv=>whnf
 refine zT.objsE [0,1,2,3,4,5,6,7] (c1) (by (repeat' first|exact rfl|refine And.intro ?_ ?_|refine ⟨_,rfl,?_⟩)) (by (repeat' first|exact rfl|refine And.intro ?_ ?_|refine ⟨_,rfl,?_⟩)) (by rfl) (by kernel_rfl) (by simp) [(0,some (.box [.map 5])),(1,some (.box [.d (dF f)])),(2,some (.box [zaI])),(3,some (.box [.map 6])),(4,some (.box [.own 10])),(5,some (.map (zC s1.done))),(6,some (.map (zab s1.out 0))),(7,none),(10,some (.row 6 (s1.out.map dNd)))] rfl ?_
 (repeat' ((conv=>whnf);first|refine vA ?_|refine vG ?_|refine vT ?_));all_goals try conv=>whnf
 refine zT.objsE [0,1,2,3,4,5,6,10] (c2) (by (repeat' first|exact rfl|refine And.intro ?_ ?_|refine ⟨_,rfl,?_⟩)) (by (repeat' first|exact rfl|refine And.intro ?_ ?_|refine ⟨_,rfl,?_⟩)) (by rfl) (by kernel_rfl) (by simp) [(0,some (.box [.map 5])),(1,some (.box [.d (dF f)])),(2,some (.box [zaI])),(3,some (.box [.map 6])),(4,some (.box [.own 11])),(5,some (.map (zC s2.done))),(6,some (.map (zab s2.out 0))),(10,none),(11,some (.row 6 (s2.out.map dNd)))] rfl ?_
 (repeat' ((conv=>whnf);first|refine vA ?_|refine vE ?_|refine vG ?_|refine vT ?_|refine zbi.mk _ ‹_› ?_));all_goals try conv=>whnf
 refine ⟨trivial,_,[(0,0),(1,1),(2,2),(3,3),(4,4),(5,5),(6,6),(8,11)],[],rfl,.inl (by (repeat' exact rfl)),⟨by rfl,by rfl,by rfl,trivial,by (repeat' first|exact trivial|exact rfl|refine And.intro ?_ ?_|refine ⟨_,rfl,?_⟩|exact of_decide_eq_true rfl)⟩,by (repeat' first|exact trivial|exact rfl|refine And.intro ?_ ?_|refine ⟨_,rfl,?_⟩)⟩
theorem zyY {f:List Nd} (hL:f.length≤1000) {k:Nat} {n:Nd} (hn:f[k]? = some n) {s:FSt} (hl:s.out.length≤1000) (hfd:zz (zC (FSt.done s)) (.int .i64 (k:Int))=some none) (hu:Fn Tryz.prog T zU [.d (.int .i64 n.op)] [] (.d (.tup [.agg [.bool true,.bool true,.bool (z2 n.op),.bool (zE n.op),.bool (zH n.op),.bool (zN n.op),.int .i64 (zaP n.op)],.bool (zcx n.op)])) []) {r1:Nat} {s1:FSt} (hl1:s1.out.length≤1000) (c1:Fn Tryz.prog T zj (zaT n.x) (zaS f (.own 7) s++[.row 6 (s.out.map dNd)]) (.d (.int .i64 (r1:Int))) (zc1 f s1)) (hfd1:zz (zC s1.done) (.int .i64 (k:Int))=some none) {r2:Nat} {s2:FSt} (hl2:s2.out.length≤1000) (c2:Fn Tryz.prog T zj (zaT n.y) (zaS f (.own 7) s1++[.row 6 (s1.out.map dNd)]) (.d (.int .i64 (r2:Int))) (zc1 f s2)) (hfd2:zz (zC s2.done) (.int .i64 (k:Int))=some none) (hfn:zz (zab s2.out 0) (dNd ⟨n.op,n.i,n.e,n.g,(r1:Int),(r2:Int)⟩)=some none) :
  Fn Tryz.prog T zj (zaT (k:Int)) (zaS f (.own 7) s++[.row 6 (s.out.map dNd)]) (.d (.int .i64 (((s2.out.map dNd).length:Nat):Int))) [some (.box [.map 5]),some (.box [.d (dF f)]),some (.box [zaI]),some (.box [.map 6]),some (.box [.own 8]),some (.map (zC s2.done++[(.int .i64 (k:Int),.int .i64 (((s2.out.map dNd).length:Nat):Int))])),some (.map (zab s2.out 0++[(dNd ⟨n.op,n.i,n.e,n.g,(r1:Int),(r2:Int)⟩,.int .i64 (((s2.out.map dNd).length:Nat):Int))])),none,some (.row 6 (s2.out.map dNd++[dNd ⟨n.op,n.i,n.e,n.g,(r1:Int),(r2:Int)⟩]))]:=by
 refine zan zt zO (by show 6≤68;decide) _ (fun e env mem n h=>h) ?_
 (repeat' ((conv=>whnf);first|refine vA ?_|refine vG ?_|refine vT ?_|refine vN ‹_› ?_|refine yD hu (by (repeat refine ⟨⟨rfl,rfl⟩,?_⟩);rfl) rfl ?_|refine zbi.mk _ ‹_› ?_));all_goals try conv=>whnf
 refine zT.objsE [0,1,2,3,4,5,6,7] (c1) (by (repeat' first|exact rfl|refine And.intro ?_ ?_|refine ⟨_,rfl,?_⟩)) (by (repeat' first|exact rfl|refine And.intro ?_ ?_|refine ⟨_,rfl,?_⟩)) (by rfl) (by kernel_rfl) (by simp) [(0,some (.box [.map 5])),(1,some (.box [.d (dF f)])),(2,some (.box [zaI])),(3,some (.box [.map 6])),(4,some (.box [.own 10])),(5,some (.map (zC s1.done))),(6,some (.map (zab s1.out 0))),(7,none),(10,some (.row 6 (s1.out.map dNd)))] rfl ?_
 (repeat' ((conv=>whnf);first|refine vA ?_|refine vG ?_|refine vT ?_));all_goals try conv=>whnf
 refine zT.objsE [0,1,2,3,4,5,6,10] (c2) (by (repeat' first|exact rfl|refine And.intro ?_ ?_|refine ⟨_,rfl,?_⟩)) (by (repeat' first|exact rfl|refine And.intro ?_ ?_|refine ⟨_,rfl,?_⟩)) (by rfl) (by kernel_rfl) (by simp) [(0,some (.box [.map 5])),(1,some (.box [.d (dF f)])),(2,some (.box [zaI])),(3,some (.box [.map 6])),(4,some (.box [.own 11])),(5,some (.map (zC s2.done))),(6,some (.map (zab s2.out 0))),(10,none),(11,some (.row 6 (s2.out.map dNd)))] rfl ?_
 (repeat' ((conv=>whnf);first|refine vA ?_|refine vJ fun hg=>?_|refine vT ?_|(refine vP ?_ ?_;·(simp only [vM] at *;omega))|refine zbi.mk _ ‹_› ?_));all_goals try conv=>whnf
 refine ⟨trivial,_,[(0,0),(1,1),(2,2),(3,3),(4,4),(5,5),(6,6),(8,13)],[],rfl,.inl (by (repeat' exact rfl)),⟨by rfl,by rfl,by rfl,trivial,by (repeat' first|exact trivial|exact rfl|refine And.intro ?_ ?_|refine ⟨_,rfl,?_⟩|exact of_decide_eq_true rfl)⟩,by (repeat' first|exact trivial|exact rfl|refine And.intro ?_ ?_|refine ⟨_,rfl,?_⟩)⟩
end Go.Ab
namespace Go.Ab
open Go Go.Proofs
set_option maxRecDepth 10000
set_option maxHeartbeats 4000000
set_option maxHeartbeats 40000000
variable {T:Nat→Obj→Prop}
theorem zyZ {f:List Nd} (hL:f.length≤1000) {k:Nat} {n:Nd} (hn:f[k]? = some n) (hfd:zz (zC (FSt.done ⟨[],[]⟩)) (.int .i64 (k:Int))=some none) (hu:Fn Tryz.prog T zU [.d (.int .i64 n.op)] [] (.d (.tup [.agg [.bool false,.bool false,.bool (z2 n.op),.bool (zE n.op),.bool (zH n.op),.bool (zN n.op),.int .i64 (zaP n.op)],.bool (zcx n.op)])) []) (hfn:zz (zab (FSt.out ⟨[],[]⟩) 0) (dNd n)=some none) :
  Fn Tryz.prog T zj (zaT (k:Int)) (zaS f (.nils 6) ⟨[],[]⟩) (.d (.int .i64 ((((FSt.out ⟨[],[]⟩).map dNd).length:Nat):Int))) [some (.box [.map 5]),some (.box [.d (dF f)]),some (.box [zaI]),some (.box [.map 6]),some (.box [.own 7]),some (.map (zC (FSt.done ⟨[],[]⟩)++[(.int .i64 (k:Int),.int .i64 ((((FSt.out ⟨[],[]⟩).map dNd).length:Nat):Int))])),some (.map (zab (FSt.out ⟨[],[]⟩) 0++[(dNd n,.int .i64 ((((FSt.out ⟨[],[]⟩).map dNd).length:Nat):Int))])),some (.row 6 ((FSt.out ⟨[],[]⟩).map dNd++[dNd n]))]:=by
 refine zan zt zO (by show 6≤68;decide) _ (fun e env mem n h=>h) ?_
 (repeat' ((conv=>whnf);first|refine vA ?_|refine vH ?_|refine vT ?_|refine vN ‹_› ?_|(refine vP ?_ ?_;·(simp only [vM] at *;omega))|refine yD hu (by (repeat refine ⟨⟨rfl,rfl⟩,?_⟩);rfl) rfl ?_|refine zbi.mk _ ‹_› ?_));all_goals try conv=>whnf
 refine ⟨trivial,_,[(0,0),(1,1),(2,2),(3,3),(4,4),(5,5),(6,6),(7,10)],[],rfl,.inl (by (repeat' exact rfl)),⟨by rfl,by rfl,by rfl,trivial,by (repeat' first|exact trivial|exact rfl|refine And.intro ?_ ?_|refine ⟨_,rfl,?_⟩|exact of_decide_eq_true rfl)⟩,by (repeat' first|exact trivial|exact rfl|refine And.intro ?_ ?_|refine ⟨_,rfl,?_⟩)⟩
end Go.Ab
namespace Go.Ab
open Go Go.Proofs
set_option maxRecDepth 10000
set_option maxHeartbeats 4000000
set_option maxHeartbeats 40000000
variable {T:Nat→Obj→Prop}
theorem zy0 {f:List Nd} (hL:f.length≤1000) {k:Nat} {n:Nd} (hn:f[k]? = some n) (hfd:zz (zC (FSt.done ⟨[],[]⟩)) (.int .i64 (k:Int))=some none) (hu:Fn Tryz.prog T zU [.d (.int .i64 n.op)] [] (.d (.tup [.agg [.bool true,.bool false,.bool (z2 n.op),.bool (zE n.op),.bool (zH n.op),.bool (zN n.op),.int .i64 (zaP n.op)],.bool (zcx n.op)])) []) {r1:Nat} {s1:FSt} (hl1:s1.out.length≤1000) (c1:Fn Tryz.prog T zj (zaT n.x) (zaS f (.nils 6) ⟨[],[]⟩) (.d (.int .i64 (r1:Int))) (zd3 f s1)) (hfd1:zz (zC s1.done) (.int .i64 (k:Int))=some none) {j:Nat} (hfn:zz (zab s1.out 0) (dNd ⟨n.op,n.i,n.e,n.g,(r1:Int),n.y⟩)=some (some (.int .i64 (j:Int)))) :
  Fn Tryz.prog T zj (zaT (k:Int)) (zaS f (.nils 6) ⟨[],[]⟩) (.d (.int .i64 (j:Int))) [some (.box [.map 5]),some (.box [.d (dF f)]),some (.box [zaI]),some (.box [.map 6]),some (.box [.own 7]),some (.map (zC s1.done++[(.int .i64 (k:Int),.int .i64 (j:Int))])),some (.map (zab s1.out 0)),some (.row 6 (s1.out.map dNd))]:=by
 refine zan zt zO (by show 6≤68;decide) _ (fun e env mem n h=>h) ?_
 (repeat' ((conv=>whnf);first|refine vA ?_|refine vG ?_|refine vT ?_|refine vN ‹_› ?_|refine yD hu (by (repeat refine ⟨⟨rfl,rfl⟩,?_⟩);rfl) rfl ?_|refine zbi.mk _ ‹_› ?_));all_goals try conv=>whnf
 refine zT.objsE [0,1,2,3,4,5,6] (c1) (by (repeat' first|exact rfl|refine And.intro ?_ ?_|refine ⟨_,rfl,?_⟩)) (by (repeat' first|exact rfl|refine And.intro ?_ ?_|refine ⟨_,rfl,?_⟩)) (by rfl) (by kernel_rfl) (by simp) [(0,some (.box [.map 5])),(1,some (.box [.d (dF f)])),(2,some (.box [zaI])),(3,some (.box [.map 6])),(4,some (.box [.own 9])),(5,some (.map (zC s1.done))),(6,some (.map (zab s1.out 0))),(9,some (.row 6 (s1.out.map dNd)))] rfl ?_
 (repeat' ((conv=>whnf);first|refine vA ?_|refine vE ?_|refine vG ?_|refine vH ?_|refine vT ?_|refine zbi.mk _ ‹_› ?_));all_goals try conv=>whnf
 refine ⟨trivial,_,[(0,0),(1,1),(2,2),(3,3),(4,4),(5,5),(6,6),(7,9)],[],rfl,.inl (by (repeat' exact rfl)),⟨by rfl,by rfl,by rfl,trivial,by (repeat' first|exact trivial|exact rfl|refine And.intro ?_ ?_|refine ⟨_,rfl,?_⟩|exact of_decide_eq_true rfl)⟩,by (repeat' first|exact trivial|exact rfl|refine And.intro ?_ ?_|refine ⟨_,rfl,?_⟩)⟩
theorem zy1 {f:List Nd} (hL:f.length≤1000) {k:Nat} {n:Nd} (hn:f[k]? = some n) (hfd:zz (zC (FSt.done ⟨[],[]⟩)) (.int .i64 (k:Int))=some none) (hu:Fn Tryz.prog T zU [.d (.int .i64 n.op)] [] (.d (.tup [.agg [.bool true,.bool false,.bool (z2 n.op),.bool (zE n.op),.bool (zH n.op),.bool (zN n.op),.int .i64 (zaP n.op)],.bool (zcx n.op)])) []) {r1:Nat} {s1:FSt} (hl1:s1.out.length≤1000) (c1:Fn Tryz.prog T zj (zaT n.x) (zaS f (.nils 6) ⟨[],[]⟩) (.d (.int .i64 (r1:Int))) (zd3 f s1)) (hfd1:zz (zC s1.done) (.int .i64 (k:Int))=some none) (hfn:zz (zab s1.out 0) (dNd ⟨n.op,n.i,n.e,n.g,(r1:Int),n.y⟩)=some none) :
  Fn Tryz.prog T zj (zaT (k:Int)) (zaS f (.nils 6) ⟨[],[]⟩) (.d (.int .i64 (((s1.out.map dNd).length:Nat):Int))) [some (.box [.map 5]),some (.box [.d (dF f)]),some (.box [zaI]),some (.box [.map 6]),some (.box [.own 7]),some (.map (zC s1.done++[(.int .i64 (k:Int),.int .i64 (((s1.out.map dNd).length:Nat):Int))])),some (.map (zab s1.out 0++[(dNd ⟨n.op,n.i,n.e,n.g,(r1:Int),n.y⟩,.int .i64 (((s1.out.map dNd).length:Nat):Int))])),some (.row 6 (s1.out.map dNd++[dNd ⟨n.op,n.i,n.e,n.g,(r1:Int),n.y⟩]))]:=by
 refine zan zt zO (by show 6≤68;decide) _ (fun e env mem n h=>h) ?_
 (repeat' ((conv=>whnf);first|refine vA ?_|refine vG ?_|refine vT ?_|refine vN ‹_› ?_|refine yD hu (by (repeat refine ⟨⟨rfl,rfl⟩,?_⟩);rfl) rfl ?_|refine zbi.mk _ ‹_› ?_));all_goals try conv=>whnf
 refine zT.objsE [0,1,2,3,4,5,6] (c1) (by (repeat' first|exact rfl|refine And.intro ?_ ?_|refine ⟨_,rfl,?_⟩)) (by (repeat' first|exact rfl|refine And.intro ?_ ?_|refine ⟨_,rfl,?_⟩)) (by rfl) (by kernel_rfl) (by simp) [(0,some (.box [.map 5])),(1,some (.box [.d (dF f)])),(2,some (.box [zaI])),(3,some (.box [.map 6])),(4,some (.box [.own 9])),(5,some (.map (zC s1.done))),(6,some (.map (zab s1.out 0))),(9,some (.row 6 (s1.out.map dNd)))] rfl ?_
 (repeat' ((conv=>whnf);first|refine vA ?_|refine vH ?_|refine vJ fun hg=>?_|refine vT ?_|(refine vP ?_ ?_;·(simp only [vM] at *;omega))|refine zbi.mk _ ‹_› ?_));all_goals try conv=>whnf
 refine ⟨trivial,_,[(0,0),(1,1),(2,2),(3,3),(4,4),(5,5),(6,6),(7,11)],[],rfl,.inl (by (repeat' exact rfl)),⟨by rfl,by rfl,by rfl,trivial,by (repeat' first|exact trivial|exact rfl|refine And.intro ?_ ?_|refine ⟨_,rfl,?_⟩|exact of_decide_eq_true rfl)⟩,by (repeat' first|exact trivial|exact rfl|refine And.intro ?_ ?_|refine ⟨_,rfl,?_⟩)⟩
end Go.Ab
namespace Go.Ab
open Go Go.Proofs
set_option maxRecDepth 10000
set_option maxHeartbeats 4000000
set_option maxHeartbeats 40000000
variable {T:Nat→Obj→Prop}
theorem zy2 {f:List Nd} (hL:f.length≤1000) {k:Nat} {n:Nd} (hn:f[k]? = some n) (hfd:zz (zC (FSt.done ⟨[],[]⟩)) (.int .i64 (k:Int))=some none) (hu:Fn Tryz.prog T zU [.d (.int .i64 n.op)] [] (.d (.tup [.agg [.bool true,.bool true,.bool (z2 n.op),.bool (zE n.op),.bool (zH n.op),.bool (zN n.op),.int .i64 (zaP n.op)],.bool (zcx n.op)])) []) {r1:Nat} {s1:FSt} (hl1:s1.out.length≤1000) (c1:Fn Tryz.prog T zj (zaT n.x) (zaS f (.nils 6) ⟨[],[]⟩) (.d (.int .i64 (r1:Int))) (zd3 f s1)) (hfd1:zz (zC s1.done) (.int .i64 (k:Int))=some none) {r2:Nat} {s2:FSt} (hl2:s2.out.length≤1000) (c2:Fn Tryz.prog T zj (zaT n.y) (zaS f (.own 7) s1++[.row 6 (s1.out.map dNd)]) (.d (.int .i64 (r2:Int))) (zc1 f s2)) (hfd2:zz (zC s2.done) (.int .i64 (k:Int))=some none) {j:Nat} (hfn:zz (zab s2.out 0) (dNd ⟨n.op,n.i,n.e,n.g,(r1:Int),(r2:Int)⟩)=some (some (.int .i64 (j:Int)))) :
  Fn Tryz.prog T zj (zaT (k:Int)) (zaS f (.nils 6) ⟨[],[]⟩) (.d (.int .i64 (j:Int))) [some (.box [.map 5]),some (.box [.d (dF f)]),some (.box [zaI]),some (.box [.map 6]),some (.box [.own 7]),some (.map (zC s2.done++[(.int .i64 (k:Int),.int .i64 (j:Int))])),some (.map (zab s2.out 0)),some (.row 6 (s2.out.map dNd))]:=by
 refine zan zt zO (by show 6≤68;decide) _ (fun e env mem n h=>h) ?_
 (repeat' ((conv=>whnf);first|refine vA ?_|refine vG ?_|refine vT ?_|refine vN ‹_› ?_|refine yD hu (by (repeat refine ⟨⟨rfl,rfl⟩,?_⟩);rfl) rfl ?_|refine zbi.mk _ ‹_› ?_));all_goals try conv=>whnf
 refine zT.objsE [0,1,2,3,4,5,6] (c1) (by (repeat' first|exact rfl|refine And.intro ?_ ?_|refine ⟨_,rfl,?_⟩)) (by (repeat' first|exact rfl|refine And.intro ?_ ?_|refine ⟨_,rfl,?_⟩)) (by rfl) (by kernel_rfl) (by simp) [(0,some (.box [.map 5])),(1,some (.box [.d (dF f)])),(2,some (.box [zaI])),(3,some (.box [.map 6])),(4,some (.box [.own 9])),(5,some (.map (zC s1.done))),(6,some (.map (zab s1.out 0))),(9,some (.row 6 (s1.out.map dNd)))] rfl ?_
 (repeat' ((conv=>whnf);first|refine vA ?_|refine vG ?_|refine vT ?_));all_goals try conv=>whnf
 refine zT.objsE [0,1,2,3,4,5,6,9] (c2) (by (repeat' first|exact rfl|refine And.intro ?_ ?_|refine ⟨_,rfl,?_⟩)) (by (repeat' first|exact rfl|refine And.intro ?_ ?_|refine ⟨_,rfl,?_⟩)) (by rfl) (by kernel_rfl) (by simp) [(0,some (.box [.map 5])),(1,some (.box [.d (dF f)])),(2,some (.box [zaI])),(3,some (.box [.map 6])),(4,some (.box [.own 10])),(5,some (.map (zC s2.done))),(6,some (.map (zab s2.out 0))),(9,none),(10,some (.row 6 (s2.out.map dNd)))] rfl ?_
 (repeat' ((conv=>whnf);first|refine vA ?_|refine vE ?_|refine vG ?_|refine vT ?_|refine zbi.mk _ ‹_› ?_));all_goals try conv=>whnf
 refine ⟨trivial,_,[(0,0),(1,1),(2,2),(3,3),(4,4),(5,5),(6,6),(7,10)],[],rfl,.inl (by (repeat' exact rfl)),⟨by rfl,by rfl,by rfl,trivial,by (repeat' first|exact trivial|exact rfl|refine And.intro ?_ ?_|refine ⟨_,rfl,?_⟩|exact of_decide_eq_true rfl)⟩,by (repeat' first|exact trivial|exact rfl|refine And.intro ?_ ?_|refine ⟨_,rfl,?_⟩)⟩
theorem zy3 {f:List Nd} (hL:f.length≤1000) {k:Nat} {n:Nd} (hn:f[k]? = some n) (hfd:zz (zC (FSt.done ⟨[],[]⟩)) (.int .i64 (k:Int))=some none) (hu:Fn Tryz.prog T zU [.d (.int .i64 n.op)] [] (.d (.tup [.agg [.bool true,.bool true,.bool (z2 n.op),.bool (zE n.op),.bool (zH n.op),.bool (zN n.op),.int .i64 (zaP n.op)],.bool (zcx n.op)])) []) {r1:Nat} {s1:FSt} (hl1:s1.out.length≤1000) (c1:Fn Tryz.prog T zj (zaT n.x) (zaS f (.nils 6) ⟨[],[]⟩) (.d (.int .i64 (r1:Int))) (zd3 f s1)) (hfd1:zz (zC s1.done) (.int .i64 (k:Int))=some none) {r2:Nat} {s2:FSt} (hl2:s2.out.length≤1000) (c2:Fn Tryz.prog T zj (zaT n.y) (zaS f (.own 7) s1++[.row 6 (s1.out.map dNd)]) (.d (.int .i64 (r2:Int))) (zc1 f s2)) (hfd2:zz (zC s2.done) (.int .i64 (k:Int))=some none) (hfn:zz (zab s2.out 0) (dNd ⟨n.op,n.i,n.e,n.g,(r1:Int),(r2:Int)⟩)=some none) :
  Fn Tryz.prog T zj (zaT (k:Int)) (zaS f (.nils 6) ⟨[],[]⟩) (.d (.int .i64 (((s2.out.map dNd).length:Nat):Int))) [some (.box [.map 5]),some (.box [.d (dF f)]),some (.box [zaI]),some (.box [.map 6]),some (.box [.own 7]),some (.map (zC s2.done++[(.int .i64 (k:Int),.int .i64 (((s2.out.map dNd).length:Nat):Int))])),some (.map (zab s2.out 0++[(dNd ⟨n.op,n.i,n.e,n.g,(r1:Int),(r2:Int)⟩,.int .i64 (((s2.out.map dNd).length:Nat):Int))])),some (.row 6 (s2.out.map dNd++[dNd ⟨n.op,n.i,n.e,n.g,(r1:Int),(r2:Int)⟩]))]:=by
 refine zan zt zO (by show 6≤68;decide) _ (fun e env mem n h=>h) ?_
 (repeat' ((conv=>whnf);first|refine vA ?_|refine vG ?_|refine vT ?_|refine vN ‹_› ?_|refine yD hu (by (repeat refine ⟨⟨rfl,rfl⟩,?_⟩);rfl) rfl ?_|refine zbi.mk _ ‹_› ?_));all_goals try conv=>whnf
 refine zT.objsE [0,1,2,3,4,5,6] (c1) (by (repeat' first|exact rfl|refine And.intro ?_ ?_|refine ⟨_,rfl,?_⟩)) (by (repeat' first|exact rfl|refine And.intro ?_ ?_|refine ⟨_,rfl,?_⟩)) (by rfl) (by kernel_rfl) (by simp) [(0,some (.box [.map 5])),(1,some (.box [.d (dF f)])),(2,some (.box [zaI])),(3,some (.box [.map 6])),(4,some (.box [.own 9])),(5,some (.map (zC s1.done))),(6,some (.map (zab s1.out 0))),(9,some (.row 6 (s1.out.map dNd)))] rfl ?_
 (repeat' ((conv=>whnf);first|refine vA ?_|refine vG ?_|refine vT ?_));all_goals try conv=>whnf
 refine zT.objsE [0,1,2,3,4,5,6,9] (c2) (by (repeat' first|exact rfl|refine And.intro ?_ ?_|refine ⟨_,rfl,?_⟩)) (by (repeat' first|exact rfl|refine And.intro ?_ ?_|refine ⟨_,rfl,?_⟩)) (by rfl) (by kernel_rfl) (by simp) [(0,some (.box [.map 5])),(1,some (.box [.d (dF f)])),(2,some (.box [zaI])),(3,some (.box [.map 6])),(4,some (.box [.own 10])),(5,some (.map (zC s2.done))),(6,some (.map (zab s2.out 0))),(9,none),(10,some (.row 6 (s2.out.map dNd)))] rfl ?_
 (repeat' ((conv=>whnf);first|refine vA ?_|refine vJ fun hg=>?_|refine vT ?_|(refine vP ?_ ?_;·(simp only [vM] at *;omega))|refine zbi.mk _ ‹_› ?_));all_goals try conv=>whnf
 refine ⟨trivial,_,[(0,0),(1,1),(2,2),(3,3),(4,4),(5,5),(6,6),(7,12)],[],rfl,.inl (by (repeat' exact rfl)),⟨by rfl,by rfl,by rfl,trivial,by (repeat' first|exact trivial|exact rfl|refine And.intro ?_ ?_|refine ⟨_,rfl,?_⟩|exact of_decide_eq_true rfl)⟩,by (repeat' first|exact trivial|exact rfl|refine And.intro ?_ ?_|refine ⟨_,rfl,?_⟩)⟩
end Go.Ab
namespace Go.Ab
open Go Go.Proofs
set_option maxRecDepth 10000
set_option maxHeartbeats 4000000
variable {T:Nat→Obj→Prop}
theorem zy9 {f:List Nd} (hf:zaN f) (hL:f.length≤1000) : ∀ (m k:Nat) (i:Int) (s:FSt),k < m→i=k→k < f.length→ziI f s →
  Fn Tryz.prog T zj (zaT i) (zaS f (.own 7) s++[.row 6 (s.out.map dNd)]) (.d (.int .i64 ((fin f (k+1) k s).1:Int))) (zc1 f (fin f (k+1) k s).2):=by
 intro m
 induction m with
 | zero=>intro k i s h;omega
 | succ m ih =>
  intro k i s hk hi hkf hs
  subst hi
  have hl:s.out.length≤1000:=Nat.le_trans (zh6 hs) hL
  cases hd:s.done.lookup k with
  | some r =>
   have e:fin f (k+1) k s=(r,s):=by rw [fin,hd]
   have hfd:zz (zC s.done) (.int .i64 (k:Int))=some (some (D.int .i64 (r:Int))):=by rw [zpF,hd];rfl
   rw [e]
   refine zan zt zO (by show 6≤68;decide) _ (fun e env mem n h=>h) ?_
   (repeat' ((conv=>whnf);first|refine vA ?_|refine vG ?_|refine vT ?_|refine zbi.mk _ ‹_› ?_));all_goals try conv=>whnf
   refine ⟨trivial,_,[(0,0),(1,1),(2,2),(3,3),(4,4),(5,5),(6,6),(8,7)],[],rfl,.inl (by (repeat' exact rfl)),⟨by rfl,by rfl,by rfl,trivial,by (repeat' first|exact trivial|exact rfl|refine And.intro ?_ ?_|refine ⟨_,rfl,?_⟩|exact of_decide_eq_true rfl)⟩,by (repeat' first|exact trivial|exact rfl|refine And.intro ?_ ?_|refine ⟨_,rfl,?_⟩)⟩
  | none =>
   obtain ⟨n,hn⟩ : ∃ n,f[k]? = some n:=⟨f[k],by simp [hkf]⟩
   have hn':f.getD k default=n:=by simp [List.getD,hn]
   cases hx:zak n.op with
   | false =>
    have hy:zae n.op=false:=by
     cases hy:zae n.op with
     | true=>rw [zaQ hy] at hx;cases hx
     | false=>rfl
    have hu:=zgt (T:=T) hx hy
    have e:=zuT hf hkf hd (by rw [hn'];exact hx) (by rw [hn'];exact hy)
    rw [hn'] at e
    cases hp:s.out.idxOf? n with
    | some j =>
     rw [z8 hp] at e
     rw [e]
     simp only [zc1,zaA]
     exact zyT hL hn hl (zw hd) hu (zc9 hp)
    | none =>
     rw [zbf hp,← List.length_map (f:=dNd)] at e
     rw [e]
     simp only [zc1,zaA,zcK,List.map_append,List.map_cons,List.map_nil]
     exact zyU hL hn hl (zw hd) hu (zb9 hp)
   | true =>
    have hxk:=zbn hf hkf (by rw [hn'];exact hx)
    rw [hn'] at hxk
    obtain ⟨i1,d1⟩:=zf2 hf hxk.2 (by omega) hs hd
    have c1:=ih n.x.toNat n.x s (by omega) (by omega) (by omega) hs
    cases h1:fin f (n.x.toNat+1) n.x.toNat s with
    | mk r1 s1 =>
    rw [h1] at i1 d1 c1
    simp only at i1 d1 c1
    have l1:s1.out.length≤1000:=Nat.le_trans (zh6 i1) hL
    cases hy:zae n.op with
    | false =>
     have hu:=zgt (T:=T) hx hy
     have e:=zuU hf hkf hd hn' hx hy h1
     cases hp:s1.out.idxOf? ⟨n.op,n.i,n.e,n.g,(r1:Int),n.y⟩ with
     | some j =>
      rw [z8 hp] at e
      rw [e]
      simp only [zc1,zaA]
      exact zyV hL hn hl (zw hd) hu l1 c1 (zw d1) (zc9 hp)
     | none =>
      rw [zbf hp,← List.length_map (f:=dNd)] at e
      rw [e]
      simp only [zc1,zaA,zcK,List.map_append,List.map_cons,List.map_nil]
      exact zyW hL hn hl (zw hd) hu l1 c1 (zw d1) (zb9 hp)
    | true =>
     have hyk:=zd6 hf hkf (by rw [hn'];exact hy)
     rw [hn'] at hyk
     obtain ⟨i2,d2⟩:=zf2 hf hyk.2 (by omega) i1 d1
     have c2:=ih n.y.toNat n.y s1 (by omega) (by omega) (by omega) i1
     cases h2:fin f (n.y.toNat+1) n.y.toNat s1 with
     | mk r2 s2 =>
     rw [h2] at i2 d2 c2
     simp only at i2 d2 c2
     have l2:s2.out.length≤1000:=Nat.le_trans (zh6 i2) hL
     have hu:=zgt (T:=T) hx hy
     have e:=zuV hf hkf hd hn' hx hy h1 h2
     cases hp:s2.out.idxOf? ⟨n.op,n.i,n.e,n.g,(r1:Int),(r2:Int)⟩ with
     | some j =>
      rw [z8 hp] at e
      rw [e]
      simp only [zc1,zaA]
      exact zyX hL hn hl (zw hd) hu l1 c1 (zw d1) l2 c2 (zw d2) (zc9 hp)
     | none =>
      rw [zbf hp,← List.length_map (f:=dNd)] at e
      rw [e]
      simp only [zc1,zaA,zcK,List.map_append,List.map_cons,List.map_nil]
      exact zyY hL hn hl (zw hd) hu l1 c1 (zw d1) l2 c2 (zw d2) (zb9 hp)
theorem zx9 {f:List Nd} (hf:zaN f) (hL:f.length≤1000) : ∀ (m k:Nat) (i:Int),k < m→i=k→k < f.length →
  Fn Tryz.prog T zj (zaT i) (zaS f (.nils 6) ⟨[],[]⟩) (.d (.int .i64 ((fin f (k+1) k ⟨[],[]⟩).1:Int))) (zd3 f (fin f (k+1) k ⟨[],[]⟩).2):=by
 intro m
 induction m with
 | zero=>intro k i h;omega
 | succ m ih =>
  intro k i hk hi hkf
  subst hi
  have hs:=ztk f
  have hd:(FSt.mk [] []).done.lookup k=none:=rfl
  have hx0:True:=trivial
  cases hx0 with
  | intro =>
   obtain ⟨n,hn⟩ : ∃ n,f[k]? = some n:=⟨f[k],by simp [hkf]⟩
   have hn':f.getD k default=n:=by simp [List.getD,hn]
   cases hx:zak n.op with
   | false =>
    have hy:zae n.op=false:=by
     cases hy:zae n.op with
     | true=>rw [zaQ hy] at hx;cases hx
     | false=>rfl
    have hu:=zgt (T:=T) hx hy
    have e:=zuT hf hkf hd (by rw [hn'];exact hx) (by rw [hn'];exact hy)
    rw [hn'] at e
    have hp:([]:List Nd).idxOf? n=none:=rfl
    rw [zbf hp,← List.length_map (f:=dNd)] at e
    rw [e]
    simp only [zd3,zaA,zcK,List.map_append,List.map_cons,List.map_nil]
    exact zyZ hL hn (zw hd) hu (zb9 hp)
   | true =>
    have hxk:=zbn hf hkf (by rw [hn'];exact hx)
    rw [hn'] at hxk
    obtain ⟨i1,d1⟩:=zf2 hf hxk.2 (by omega) hs hd
    have c1:=ih n.x.toNat n.x (by omega) (by omega) (by omega)
    cases h1:fin f (n.x.toNat+1) n.x.toNat (FSt.mk [] []) with
    | mk r1 s1 =>
    rw [h1] at i1 d1 c1
    simp only at i1 d1 c1
    have l1:s1.out.length≤1000:=Nat.le_trans (zh6 i1) hL
    cases hy:zae n.op with
    | false =>
     have hu:=zgt (T:=T) hx hy
     have e:=zuU hf hkf hd hn' hx hy h1
     cases hp:s1.out.idxOf? ⟨n.op,n.i,n.e,n.g,(r1:Int),n.y⟩ with
     | some j =>
      rw [z8 hp] at e
      rw [e]
      simp only [zd3,zaA]
      exact zy0 hL hn (zw hd) hu l1 c1 (zw d1) (zc9 hp)
     | none =>
      rw [zbf hp,← List.length_map (f:=dNd)] at e
      rw [e]
      simp only [zd3,zaA,zcK,List.map_append,List.map_cons,List.map_nil]
      exact zy1 hL hn (zw hd) hu l1 c1 (zw d1) (zb9 hp)
    | true =>
     have hyk:=zd6 hf hkf (by rw [hn'];exact hy)
     rw [hn'] at hyk
     obtain ⟨i2,d2⟩:=zf2 hf hyk.2 (by omega) i1 d1
     have c2:=zy9 (T:=T) hf hL (n.y.toNat+1) n.y.toNat n.y s1 (by omega) (by omega) (by omega) i1
     cases h2:fin f (n.y.toNat+1) n.y.toNat s1 with
     | mk r2 s2 =>
     rw [h2] at i2 d2 c2
     simp only at i2 d2 c2
     have l2:s2.out.length≤1000:=Nat.le_trans (zh6 i2) hL
     have hu:=zgt (T:=T) hx hy
     have e:=zuV hf hkf hd hn' hx hy h1 h2
     cases hp:s2.out.idxOf? ⟨n.op,n.i,n.e,n.g,(r1:Int),(r2:Int)⟩ with
     | some j =>
      rw [z8 hp] at e
      rw [e]
      simp only [zd3,zaA]
      exact zy2 hL hn (zw hd) hu l1 c1 (zw d1) l2 c2 (zw d2) (zc9 hp)
     | none =>
      rw [zbf hp,← List.length_map (f:=dNd)] at e
      rw [e]
      simp only [zd3,zaA,zcK,List.map_append,List.map_cons,List.map_nil]
      exact zy3 hL hn (zw hd) hu l1 c1 (zw d1) l2 c2 (zw d2) (zb9 hp)
end Go.Ab
namespace Go.Ab
open Go Go.Proofs
set_option maxRecDepth 10000
set_option maxHeartbeats 4000000
variable {T:Nat→Obj→Prop}
theorem zt2 {f:List Nd} (hf:zaN f) (hL:f.length≤1000) {k:Nat} {i:Int} (hi:i=k) (hk:k < f.length):Fn Tryz.prog T zfT [.d (dF f),.d (.int .i64 i)] [] (.d (dF (zcu f k))) []:=by
 have c:=zx9 (T:=T) hf hL (k+1) k i (by omega) hi hk
 refine zd zt zly (by show 2≤16;decide) ?_
 (repeat' ((conv=>whnf);refine vT ?_));all_goals try conv=>whnf
 refine zT.objs [5,0,6,3,1,4,2] (c) (by (repeat' first|exact rfl|refine And.intro ?_ ?_|refine ⟨_,rfl,?_⟩)) (by (repeat' first|exact rfl|refine And.intro ?_ ?_|refine ⟨_,rfl,?_⟩)) (by rfl) (by rfl) (by simp) ?_
 (repeat' ((conv=>whnf);refine vT ?_));all_goals try conv=>whnf
 rfl
def zkS (f:List Nd) (i:Int):List Nd:=if zbh f≠0∨i < 0∨(f.length:Int)≤i then [] else zcu f i.toNat
def cL (f:List Nd):List Nd:=if zbh f≠0 then [] else zcu f (f.length - 1)
theorem zzp (f:List Nd):zkS f ((f.length:Int) - 1)=cL f:=by
 unfold zkS cL
 by_cases h:zbh f=0
 ·have:=(zdI.1 h).1
  rw [if_neg (by omega),if_neg (by omega)]
  congr 1
  omega
 ·rw [if_pos (.inl h),if_pos h]
theorem zy7 (f:List Nd) (i:Int):Fn Tryz.prog T zjs [.d (dF f),.d (.int .i64 i)] [] (.d (dF (zkS f i))) []:=by
 refine zd zt zqs (by show 2≤21;decide) ?_
 (repeat' ((conv=>whnf);first|refine vA ?_|((first|refine vD ?_ ?_|refine vF ?_ ?_)<;>intro hc<;>try simp only [vL] at hc)|refine vJ fun hg=>?_|refine vT ?_|refine yD (zhg _) ⟨⟨rfl,rfl⟩,rfl⟩ rfl ?_));all_goals try conv=>whnf
 ·have hp:zkS f i=[]:=if_pos (.inl ‹_›)
  rw [hp];rfl
 ·have hp:zkS f i=[]:=if_pos (.inr (.inl ‹_›))
  rw [hp];rfl
 ·have hp:zkS f i=[]:=if_pos (.inr (.inr (by omega)))
  rw [hp];rfl
 ·have h0:zbh f=0:=by omega
  have h1:=zdI.1 h0
  have hp:zkS f i=zcu f i.toNat:=if_neg (by omega)
  rw [hp]
  have cS:=zt2 (T:=T) (f:=f) h1.2.2 (by omega) (k:=i.toNat) (i:=i) (by omega) (by omega)
  (repeat' ((conv=>whnf);first|refine vT ?_|refine yN cS ⟨⟨rfl,rfl⟩,⟨rfl,rfl⟩,rfl⟩ ?_));all_goals try conv=>whnf
  rfl
theorem zlN (f:List Nd):Fn Tryz.prog T zfS [.d (dF f)] [] (.d (dF (cL f))) []:=by
 refine zd zt zlw (by show 1≤8;decide) ?_
 (repeat' ((conv=>whnf);first|refine vJ fun hg=>?_|refine vT ?_|(refine vO ?_ ?_;·(simp only [vM] at *;omega))|fail));all_goals try conv=>whnf
 have cC:=zy7 (T:=T) f (((f.map dNd).length:Int) - 1)
 rw [show zkS f (((f.map dNd).length:Int) - 1)=cL f by rw [List.length_map,zzp]] at cC
 (repeat' ((conv=>whnf);first|refine vT ?_|refine yN cC ⟨⟨rfl,rfl⟩,⟨rfl,rfl⟩,rfl⟩ ?_));all_goals try conv=>whnf
 rfl
theorem zeX {f:List Nd} (h:zbh f=0):zqB (zat f (f.length - 1)) (cL f)∧(cL f).length≤f.length:=by
 obtain ⟨h1,h2,h3⟩:=zdI.1 h
 unfold cL
 rw [if_neg (by omega)]
 exact ⟨zoO h3 (by omega),(zlE h3 (by omega)).2.1⟩
theorem zuL {f:List Nd} (h:zbh f≠0):cL f=[]:=if_pos h
theorem zuK (f:List Nd):(cL f).length≤200:=by
 by_cases h:zbh f=0
 ·have:=(zeX h).2
  have:=(zdI.1 h).2.1
  omega
 ·rw [zuL h];simp
theorem zs7 (f:List Nd):zaN (cL f):=by
 by_cases h:zbh f=0
 ·exact (zeX h).1.ok
 ·rw [zuL h];exact zjd
theorem ziS {f:List Nd} {n:Nd} (h:n∈cL f):zjM n.hd:=by
 obtain ⟨i,hi⟩:=List.getElem?_of_mem h
 exact (zbX.1 (zs7 f i n hi)).1
theorem zzs (m:Hd→Nat) {b:Nat} (f:List Nd) (h : ∀ n∈cL f,m n.hd < 2 ^ b) (k:Nat):uni m ((cL f).take k) < 2 ^ b :=
 (zgV m).2 fun n hn=>h n (List.mem_of_mem_take hn)
theorem zmA (f:List Nd) (g:Nat) (m:Hd→Nat) (hm : ∀ n,n∈cL f→m n.hd < 2 ^ 31∧Fn Tryz.prog T g [.d (dNd n),.d (zmr n.op)] [] (.d (.int .i64 (m n.hd:Int))) []) :
  Fn Tryz.prog T zhb [.d (dF f),.d (.fn g [])] [] (.d (.int .i64 (uni m (cL f):Int))) []:=by
 have hlen:=zuK f
 refine zd zt znZ (by show 2≤31;decide) ?_
 (repeat' ((conv=>whnf);first|refine vA ?_|refine vJ fun hg=>?_|refine vT ?_|refine yN (zlN _) ⟨⟨rfl,rfl⟩,rfl⟩ ?_));all_goals try conv=>whnf
 refine zar (fun ((k,x):Nat×Int)=>[(1,.d (.fn g [])),(11,.d (dF (cL f))),(12,.d (.int .i64 (((cL f).map dNd).length:Int))),(5,.d (.int .i64 (x))),(13,.d (.int .i64 ((k:Int))))]) (fun ((k,x):Nat×Int)=>k≤(cL f).length∧x=(uni m ((cL f).take k):Nat)) (fun ((k,x):Nat×Int)=>(cL f).length - k) ((0,0)) (⟨by simp,rfl⟩) (by (repeat' first|exact trivial|exact rfl|refine And.intro ?_ ?_)) ?_
 rintro ⟨k,x⟩ ⟨hk,hI⟩
 subst hI
 (repeat' ((conv=>whnf);first|refine vA ?_|(refine vF ?_ ?_<;>intro hc<;>try simp only [vL] at hc)|refine vT ?_|(refine vQ ?_ fun x hx=>?_;·omega)|refine vX ?_|refine yN (zoX _) ⟨⟨rfl,rfl⟩,rfl⟩ ?_));all_goals try conv=>whnf
 ·obtain ⟨h1,h2⟩:=hm _ (List.mem_of_getElem? hx)
  (repeat' ((conv=>whnf);first|refine vT ?_|(refine vO ?_ ?_;·omega)|refine yD h2 (by (repeat refine ⟨⟨rfl,rfl⟩,?_⟩);rfl) rfl ?_));all_goals try conv=>whnf
  refine ⟨(k+1,_),[],[],?_,?_,by (refine ⟨rfl,rfl,rfl,?_,?_⟩;repeat' first|exact trivial|exact rfl|refine And.intro ?_ ?_)⟩
  ·exact ⟨by (omega),by rw [zxA m hx];exact zxZ (Nat.lt_trans (zzs m f (fun n hn=>(hm n hn).1) k) (by decide)) (Nat.lt_trans h1 (by decide))⟩
  ·((simp only [vM] at *;omega))
 ·rw [show k=(cL f).length by omega,List.take_length]
theorem zp3 {i:Int} (h0:0≤i) (h7:i≤7):(-9223372036854775808≤(1:Int) * 2 ^ (min i.toNat IntKind.i64.bits)∧(1:Int) * 2 ^ (min i.toNat IntKind.i64.bits)≤9223372036854775807)∧((2 ^ i.toNat:Nat):Int)=(1:Int) * 2 ^ (min i.toNat IntKind.i64.bits):=by
 have:i=0∨i=1∨i=2∨i=3∨i=4∨i=5∨i=6∨i=7:=by omega
 rcases this with rfl|rfl|rfl|rfl|rfl|rfl|rfl|rfl<;>decide
theorem zry (f:List Nd):Fn Tryz.prog T zha [.d (dF f)] [] (.d (.int .i64 (uni zbj (cL f):Int))) []:=by
 have cU:=zmA (T:=T) f zdX zbj (fun n hn=>⟨Nat.lt_trans (zmB n.hd) (by decide),by
  refine zd zt zlx (by show 2≤7;decide) ?_
  (repeat' ((conv=>whnf);first|refine vT ?_|refine vX ?_));all_goals try conv=>whnf
  exact (zt7 n.hd).symm⟩)
 refine zd zt znY (by show 1≤5;decide) ?_
 (repeat' ((conv=>whnf);first|refine vT ?_|refine vX ?_|refine yD cU ⟨⟨rfl,rfl⟩,⟨rfl,rfl⟩,rfl⟩ rfl ?_));all_goals try conv=>whnf
 all_goals skip
theorem zwF (f:List Nd):Fn Tryz.prog T zg9 [.d (dF f)] [] (.d (.int .i64 (uni zdJ (cL f):Int))) []:=by
 have cU:=zmA (T:=T) f zdW zdJ (fun n hn=>⟨Nat.lt_trans (zwE (ziS hn)) (by decide),by
  have hh:=ziS hn
  cases hf:z2 n.op with
  | true =>
   obtain ⟨h0,h7⟩:0≤n.i∧n.i≤7:=hh.fact hf
   obtain ⟨h1,h2⟩:=zp3 h0 h7
   have e:((zdJ n.hd:Nat):Int)=1 * 2 ^ min n.i.toNat IntKind.i64.bits:=by rw [zdJ,if_pos (by exact hf)];exact h2
   rw [e,zmr,hf]
   refine zd zt zfX (by show 2≤10;decide) ?_
   (repeat' ((conv=>whnf);first|refine vA ?_|refine vG ?_|refine vT ?_|((first|refine vO ?_ ?_|refine vP ?_ ?_);·omega)|refine vX ?_));all_goals try conv=>whnf
  | false =>
   have e:zdJ n.hd=0:=by rw [zdJ,if_neg (by simp [Nd.hd,hf])]
   rw [e,zmr,hf]
   refine zd zt zfX (by show 2≤10;decide) ?_
   (repeat' ((conv=>whnf);first|refine vA ?_|refine vH ?_|refine vT ?_|refine vX ?_));all_goals try conv=>whnf
   rfl⟩)
 refine zd zt znX (by show 1≤5;decide) ?_
 (repeat' ((conv=>whnf);first|refine vT ?_|refine vX ?_|refine yD cU ⟨⟨rfl,rfl⟩,⟨rfl,rfl⟩,rfl⟩ rfl ?_));all_goals try conv=>whnf
theorem zuW (f:List Nd):Fn Tryz.prog T zgK [.d (dF f)] [] (.d (.int .i64 (uni zbL (cL f):Int))) []:=by
 have cU:=zmA (T:=T) f zdy zbL (fun n hn=>⟨Nat.lt_trans (zuA (ziS hn)) (by decide),by
  have hh:=ziS hn
  cases hf:zE n.op with
  | true =>
   obtain ⟨h0,h7⟩:0≤n.i∧n.i≤3:=hh.agent hf
   obtain ⟨h1,h2⟩:=zp3 h0 (by omega)
   have e:((zbL n.hd:Nat):Int)=1 * 2 ^ min n.i.toNat IntKind.i64.bits:=by rw [zbL,if_pos (by exact hf)];exact h2
   rw [e,zmr,hf]
   refine zd zt zfB (by show 2≤12;decide) ?_
   (repeat' ((conv=>whnf);first|refine vA ?_|refine vG ?_|refine vT ?_|((first|refine vO ?_ ?_|refine vP ?_ ?_);·omega)|refine vX ?_));all_goals try conv=>whnf
  | false =>
   have h0:0≤n.g:=by
    cases hg:zH n.op with
    | true=>have:1≤n.g∧n.g≤15:=hh.group hg;omega
    | false=>have:n.g=0:=hh.g0 hg;omega
   have e:((zbL n.hd:Nat):Int)=n.g:=by rw [zbL,if_neg (by simp [Nd.hd,hf])];exact Int.toNat_of_nonneg h0
   rw [e,zmr,hf]
   refine zd zt zfB (by show 2≤12;decide) ?_
   (repeat' ((conv=>whnf);first|refine vA ?_|refine vH ?_|refine vT ?_|refine vX ?_));all_goals try conv=>whnf⟩)
 refine zd zt zmL (by show 1≤5;decide) ?_
 (repeat' ((conv=>whnf);first|refine vT ?_|refine vX ?_|refine yD cU ⟨⟨rfl,rfl⟩,⟨rfl,rfl⟩,rfl⟩ rfl ?_));all_goals try conv=>whnf
def zeB (m:Nat) (n:Int):Bool:=decide (31≤n∨m < 2 ^ n.toNat)
theorem zwJ (m:Nat) (n:Int):Fn Tryz.prog T zef [.d (.int .i64 (m:Int)),.d (.int .i64 n)] [] (.d (.bool (zeB m n))) []:=by
 refine zd zt zmM (by show 2≤14;decide) ?_
 (repeat' ((conv=>whnf);first|refine vA ?_|(refine vF ?_ ?_<;>intro hc<;>try simp only [vL] at hc)|refine vT ?_|(refine vP ?_ ?_;·omega)|refine vZ ?_));all_goals try conv=>whnf
 ·simp [zeB, *]
 ·show decide ((m:Int).fdiv (2 ^ min (max n 0).toNat IntKind.i64.bits)=0)=_
  have e1:(max n 0).toNat=n.toNat:=by omega
  have e2:min n.toNat IntKind.i64.bits=n.toNat:=Nat.min_eq_left (show n.toNat≤64 by omega)
  rw [e1,e2,zpm,zeB,Nat.shiftRight_eq_div_pow]
  refine decide_eq_decide.2 ⟨fun h => .inr ?_,fun h=>?_⟩
  ·have h0:m / 2 ^ n.toNat=0:=by omega
   exact (Nat.div_eq_zero_iff.1 h0).resolve_left (by have:=Nat.two_pow_pos n.toNat;omega)
  ·have h0:m / 2 ^ n.toNat=0:=Nat.div_eq_zero_iff.2 (.inr (h.resolve_left (by omega)))
   rw [h0];rfl
def zdK (f:List Nd) (agents facts:Int):Bool:=decide (zbh f=0)&&zeB (uni zbL (cL f)) agents&&zeB (uni zdJ (cL f)) facts
theorem ztc (f:List Nd) (agents facts:Int):Fn Tryz.prog T zhW [.d (dF f),.d (.int .i64 agents),.d (.int .i64 facts)] [] (.d (.bool (zdK f agents facts))) []:=by
 refine zd zt zo1 (by show 3≤25;decide) ?_
 (repeat' ((conv=>whnf);first|refine vA ?_|(refine vF ?_ ?_<;>intro hc)|refine vT ?_|refine vZ ?_|refine yD (zhg _) ⟨⟨rfl,rfl⟩,rfl⟩ rfl ?_|refine yD (zuW _) ⟨⟨rfl,rfl⟩,rfl⟩ rfl ?_|refine yD (zwF _) ⟨⟨rfl,rfl⟩,rfl⟩ rfl ?_|refine yD (zwJ _ _) ⟨⟨rfl,rfl⟩,⟨rfl,rfl⟩,rfl⟩ rfl ?_));all_goals try conv=>whnf
 ·simp_all [zdK,zeB]
 ·have:zeB (uni zbL (cL f)) agents=false:=decide_eq_false ‹_›
  simp [zdK,this]
 ·simp_all [zdK]
end Go.Ab
