/- A part of the proofs of this seat: functions and their contracts. -/
import Derived.Test.YtkmhdnlmghaooaaGreatDoorMC
import Derived.Test.YtkmhdnlmghaooaaGreatDoorProg
import Derived.Lib.TrailingZeros
import Derived.Sort.AssemblyPlain
import Derived.Shelf.Strconv.Itoa0
import Derived.Sort.WalkA14
set_option linter.unusedVariables false
set_option linter.unusedSimpArgs false
set_option linter.unusedSectionVars false
namespace Go.Ab.K
open Go
abbrev t:=Arg.t
abbrev c:=Arg.c
abbrev n (x:Int):V := .d (.int .i64 x)
abbrev u (x:BitVec 64):V := .d (.u64 x)
abbrev m (x:Nat):CO := .mv (.t x)
abbrev pf (x y:Nat):CO := .pick (.t x) (.t y) (.c .bf)
abbrev pt (x y:Nat):CO := .pick (.t x) (.c .bt) (.t y)
abbrev b (o:BinOp) (x y:Nat):CO := .bin o (.t x) (.t y)
abbrev bc (o:BinOp) (x:Nat) (y:V):CO := .bin o (.t x) (.c y)
abbrev l (x:Nat):CO := .load none (.t x)
abbrev la (k x:Nat):CO := .load (some k) (.t x)
abbrev f (o x:Nat):CO := .faddr o (.t x)
abbrev ia (s x i:Nat):CO := .iaddr s (.t x) (.t i)
abbrev e (x k:Nat):CO := .ext (.t x) k
abbrev ln (x:Nat):CO := .len (.t x)
abbrev o (d:Nat) (x:CO):COp:=⟨some d,none,x⟩
abbrev w (x:CO):COp:=⟨none,none,x⟩
abbrev g (d k:Nat) (v:Bool) (x:CO):COp:=⟨some d,some (k,v),x⟩
abbrev gw (k:Nat) (v:Bool) (x:CO):COp:=⟨none,some (k,v),x⟩
abbrev i (x:Nat) (p r:CC):CC := .cond (.t x) p r
def q:List CC→CC
 | [] => .skip
 | [x]=>x
 | x::y::r => .seq x (q (y::r))
end Go.Ab.K
namespace Go.Ab
open Go K
def zht:Nat:=6
def zk4:Nat:=7
def zjb:Nat:=8
def zjf:Nat:=9
def zgG:Nat:=10
def zhr:Nat:=11
def zdK:Nat:=19
def zjj:Nat:=20
def zgn:Nat:=21
def zmy:Nat:=22
def zjC:Nat:=23
def zeh:Nat:=24
def zjX:Nat:=28
def zjg:Nat:=29
def zfl:Nat:=30
def zd6:Nat:=31
def zfz:Nat:=32
def zhV:Nat:=33
def ziG:Nat:=34
def zeN:Nat:=35
def zmA:Nat:=48
def zgk:Nat:=49
def zfn:Nat:=50
def zfA:Nat:=51
def zhW:Nat:=52
def zhX:Nat:=53
def zhO:Nat:=55
def zgj:Nat:=56
def zhP:Nat:=57
def z8:Nat:=58
def zjW:Nat:=59
def zji:Nat:=60
def zbH:Nat:=61
def zeA:Nat:=62
def zoy:Nat:=63
def za7:Nat:=64
def zjh:Nat:=65
def zgm:Nat:=66
def zff:Nat:=68
def zbi:Nat:=69
def zjd:Nat:=73
def zjY:Nat:=74
def zc1:Nat:=76
def zc2:Nat:=82
def zaE:Nat:=83
def zdI:Nat:=84
def zhS:Nat:=85
def zjZ:Nat:=86
def zcz:Nat:=87
def zj1:Nat:=88
def zhs:Nat:=89
def zmz:Nat:=90
def zlM:Nat:=91
def ziE:Nat:=92
def zlL:Nat:=93
def zjV:Nat:=94
def zeM:Nat:=95
def zbY:Nat:=96
def zdu:Nat:=97
def zb6:Nat:=98
def zmB:Nat:=99
def zdJ:Nat:=100
def zez:Nat:=101
def zb4:Nat:=105
def zeq:Nat:=107
def zhQ:Nat:=108
def zfJ:Nat:=109
def ziF:Nat:=110
def zje:Nat:=111
def zhT:Nat:=121
def zcI:Nat:=122
def zfm:Nat:=123
def zfL:Nat:=124
def zj2:Nat:=125
def zj0:Nat:=126
def zgO:Nat:=127
def zgl:Nat:=128
def zd7:Nat:=129
def zdv:Nat:=130
def zd8:Nat:=131
def zja:Nat:=132
def zcn:Nat:=133
def za4:Nat:=134
def zjc:Nat:=140
def zhU:Nat:=144
def zfI:Nat:=145
def zhR:Nat:=147
def zdH:Nat:=148
def zk:Nat:=149
def zeK:Nat:=150
def zfk:Nat:=151
def zfK:Nat:=161
def zhp:Nat:=162
def zhq:Nat:=163
def zds:Nat:=164
def zi9:Nat:=165
def zan:Nat:=181
def zaS:Nat:=182
def zW:Nat:=183
def zE:Nat:=184
def zc0:Nat:=185
def zab:Nat:=186
def zdt:Nat:=191
def zbI:Nat:=196
def zeL:Nat:=197
def zb5:Nat:=198
def zfe:Nat:=199
def za8:Nat:=205
def zml:CFn:=⟨41,[.tmp 4],(q [(.reg [o 2 (.box 3 (t 0)),o 4 (.mv (c .bf))]),
 (q [(.reg [o 6 (f 0 2),o 7 (l 6),o 8 (m 1),o 9 (b .gtr 7 8),o 10 (m 9),g 11 10 true (f 0 2),g 12 10 true (l 11),g 13 10 true (bc .leq 12 (n 64)),o 14 (pf 10 13),o 15 (m 14),g 16 15 false (f 1 2),g 17 15 false (l 16),g 18 15 false (ln 17),g 19 15 false (bc .gtr 18 (n 20)),o 20 (pt 15 19),o 21 (m 20),g 22 21 false (f 2 2),g 23 21 false (l 22),g 24 21 false (ln 23),g 25 21 false (bc .gtr 24 (n 10)),o 26 (pt 21 25)]),
 (i 26 (q [(.reg [o 4 (.mv (c .bf))]),
 .ret]) .skip)]),
 (q [(.reg [o 5 (.mv (c (n 0)))]),
 (.block 0 (.loop (q [(q [(.reg [o 27 (m 5),o 28 (f 2 2),o 29 (l 28),o 30 (ln 29),o 31 (b .lss 27 30)]),
 (i 31 .skip (.exit 0))]),
 (.block 1 (q [(.reg [o 34 (f 2 2),o 35 (l 34),o 36 (m 5),o 37 (ia 1 35 36),o 38 (l 37),o 39 (ln 38),o 40 (bc .gtr 39 (n 70))]),
 (i 40 (q [(.reg [o 4 (.mv (c .bf))]),
 .ret]) .skip)])),
 (.reg [o 32 (m 5),o 33 (bc .add 32 (n 1)),o 5 (m 33)])])))]),
 (.reg [o 4 (.mv (c .bt))]),
 .ret])⟩
def zql:CFn:=⟨23,[.tmp 4,.tmp 5],(q [(.reg [o 2 (.box 3 (t 0)),o 4 (.mv (c (u 0))),o 5 (.mv (c (n 0)))]),
 (.reg [o 9 (la 3 2),o 10 (m 1),o 11 (.call 28 [(t 9),(t 10)]),o 8 (m 11),o 12 (e 8 0),o 13 (e 8 1),o 6 (m 12),o 7 (m 13)]),
 (q [(.reg [o 14 (m 7),o 15 (bc .neq 14 (n 0))]),
 (i 15 (q [(.reg [o 16 (m 7),o 4 (.mv (c (u 0))),o 5 (m 16)]),
 .ret]) .skip)]),
 (.reg [o 17 (m 6),o 18 (m 6),o 19 (ln 18),o 20 (bc .sub 19 (n 1)),o 21 (ia 1 17 20),o 22 (l 21),o 4 (m 22),o 5 (.mv (c (n 0)))]),
 .ret])⟩
def zqq:CFn:=⟨5,[.tmp 2],(q [(.reg [o 2 (.mv (c (n 0)))]),
 (.reg [o 3 (m 0),o 4 (.call 29 [(t 3),(c (.fn zfl []))]),o 2 (m 4)]),
 .ret])⟩
def zl0:CFn:=⟨22,[.cell 2 (some 3),.tmp 3,.tmp 4],(q [(.reg [o 1 (.box 3 (t 0)),o 2 (.alloc [(n 0),(.nils 1),(.nils 1)]),o 3 (.mv (c (.nils 1))),o 4 (.mv (c (n 0)))]),
 (.reg [o 8 (la 3 1),o 9 (.call 31 [(t 8)]),o 7 (m 9),o 10 (e 7 0),o 11 (e 7 1),o 5 (m 10),o 6 (m 11)]),
 (q [(.reg [o 12 (m 6),o 13 (bc .neq 12 (n 0))]),
 (i 13 (q [(.reg [o 14 (.build [(n 0),(.nils 1),(.nils 1)] []),o 15 (m 6),w (.store 3 (t 2) (t 14)),o 3 (.mv (c (.nils 1))),o 4 (m 15)]),
 .ret]) .skip)]),
 (.reg [o 16 (la 3 1),o 17 (m 5),o 18 (.call 24 [(t 16),(t 17)]),o 19 (e 18 0),o 20 (e 18 1),o 21 (e 18 2),w (.store 3 (t 2) (t 19)),o 3 (m 20),o 4 (m 21)]),
 .ret])⟩
def zmj:CFn:=⟨62,[.cell 4 (some 3),.tmp 5,.tmp 6],(q [(.reg [o 2 (.box 3 (t 0)),o 4 (.alloc [(n 0),(.nils 1),(.nils 1)]),o 5 (.mv (c (n 0))),o 6 (.mv (c (n 0)))]),
 (q [(.reg [o 16 (la 3 2),o 17 (.call 32 [(t 16)]),o 7 (m 17)]),
 (.reg [o 18 (m 7),o 19 (bc .neq 18 (n 0))]),
 (i 19 (q [(.reg [o 20 (.build [(n 0),(.nils 1),(.nils 1)] []),o 21 (m 7),w (.store 3 (t 4) (t 20)),o 5 (.mv (c (n 0))),o 6 (m 21)]),
 .ret]) .skip)]),
 (q [(.reg [o 22 (m 1),o 23 (bc .lss 22 (n 0)),o 24 (m 23),g 25 24 false (m 1),g 26 24 false (f 0 2),g 27 24 false (l 26),g 28 24 false (b .geq 25 27),o 29 (pt 24 28)]),
 (i 29 (q [(.reg [o 30 (.build [(n 0),(.nils 1),(.nils 1)] []),w (.store 3 (t 4) (t 30)),o 5 (.mv (c (n 0))),o 6 (.mv (c (n 2)))]),
 .ret]) .skip)]),
 (.regd [o 32 (la 3 2),o 33 (m 1),o 34 (.bin .shl (c (u 1)) (t 33)),o 35 (.call 33 [(t 32),(t 34)]),o 31 (m 35),o 36 (e 31 0),o 37 (e 31 1),o 8 (m 36),o 9 (m 37)] [0,0,2,7,15,31,31,63,255]),
 (.reg [o 39 (la 3 2),o 40 (m 8),o 41 (.call 34 [(t 39),(t 40)]),o 38 (m 41),o 42 (e 38 0),o 43 (e 38 1),o 44 (e 38 2),o 10 (.alloc [(n 0),(.nils 1),(.nils 1)]),w (.store 3 (t 10) (t 42)),o 11 (m 43),o 12 (m 44)]),
 (.reg [o 46 (la 3 10),o 47 (.call 10 [(t 46)]),o 45 (m 47),o 48 (e 45 0),o 49 (e 45 1),o 50 (e 45 2),o 13 (.alloc [(n 0),(.nils 1),(.nils 1)]),w (.store 3 (t 13) (t 48)),o 14 (m 49),o 15 (m 50)]),
 (q [(.reg [o 51 (m 15),o 52 (bc .neq 51 (n 0))]),
 (i 52 (q [(.reg [o 53 (.build [(n 0),(.nils 1),(.nils 1)] []),o 54 (m 15),w (.store 3 (t 4) (t 53)),o 5 (.mv (c (n 0))),o 6 (m 54)]),
 .ret]) .skip)]),
 (.regd [o 55 (la 3 13),o 56 (m 14),o 57 (m 11),o 58 (m 1),o 59 (.call 35 [(t 57),(t 58)]),o 60 (ia 1 56 59),o 61 (l 60),w (.store 3 (t 4) (t 55)),o 5 (m 61),o 6 (.mv (c (n 0)))] [0,0,0,0,12,30,62,29,255,511]),
 .ret])⟩
def zqy:CFn:=⟨62,[.tmp 8,.tmp 9],(q [(.reg [o 4 (.box 3 (t 0)),o 6 (.box 3 (t 2)),o 8 (.mv (c .bf)),o 9 (.mv (c (n 0)))]),
 (q [(.reg [o 15 (la 3 4),o 16 (.call 32 [(t 15)]),o 10 (m 16)]),
 (.reg [o 17 (m 10),o 18 (bc .neq 17 (n 0))]),
 (i 18 (q [(.reg [o 19 (m 10),o 8 (.mv (c .bf)),o 9 (m 19)]),
 .ret]) .skip)]),
 (q [(.reg [o 20 (la 3 6),o 21 (.call 32 [(t 20)]),o 11 (m 21)]),
 (.reg [o 22 (m 11),o 23 (bc .neq 22 (n 0))]),
 (i 23 (q [(.reg [o 24 (m 11),o 8 (.mv (c .bf)),o 9 (m 24)]),
 .ret]) .skip)]),
 (q [(.reg [o 25 (f 2 4),o 26 (l 25),o 27 (ln 26),o 28 (f 2 6),o 29 (l 28),o 30 (ln 29),o 31 (b .neq 27 30),o 32 (m 31),g 33 32 false (f 1 4),g 34 32 false (l 33),g 35 32 false (ln 34),g 36 32 false (f 1 6),g 37 32 false (l 36),g 38 32 false (ln 37),g 39 32 false (b .neq 35 38),o 40 (pt 32 39)]),
 (i 40 (q [(.reg [o 8 (.mv (c .bf)),o 9 (.mv (c (n 1)))]),
 .ret]) .skip)]),
 (.reg [o 42 (la 3 4),o 43 (m 1),o 44 (.call 21 [(t 42),(t 43)]),o 41 (m 44),o 45 (e 41 0),o 46 (e 41 1),o 12 (.alloc [(n 0),(.nils 1),(.nils 1)]),w (.store 3 (t 12) (t 45)),o 13 (m 46)]),
 (q [(.reg [o 47 (m 13),o 48 (bc .neq 47 (n 0))]),
 (i 48 (q [(.reg [o 49 (m 13),o 8 (.mv (c .bf)),o 9 (m 49)]),
 .ret]) .skip)]),
 (.reg [o 51 (la 3 6),o 52 (m 3),o 53 (.call 21 [(t 51),(t 52)]),o 50 (m 53),o 54 (e 50 0),o 55 (e 50 1),o 14 (.alloc [(n 0),(.nils 1),(.nils 1)]),w (.store 3 (t 14) (t 54)),o 13 (m 55)]),
 (q [(.reg [o 56 (m 13),o 57 (bc .neq 56 (n 0))]),
 (i 57 (q [(.reg [o 58 (m 13),o 8 (.mv (c .bf)),o 9 (m 58)]),
 .ret]) .skip)]),
 (.reg [o 59 (la 3 12),o 60 (la 3 14),o 61 (.call 48 [(t 59),(t 60)]),o 8 (m 61),o 9 (.mv (c (n 0)))]),
 .ret])⟩
def zkU:CFn:=⟨31,[.cell 4 (some 3),.tmp 5],(q [(.reg [o 2 (.box 3 (t 0)),o 4 (.alloc [(n 0),(.nils 1),(.nils 1)]),o 5 (.mv (c (n 0)))]),
 (.reg [o 12 (la 3 2),o 13 (m 1),o 14 (.call 11 [(t 12),(t 13)]),o 11 (m 14),o 15 (e 11 0),o 16 (e 11 1),o 17 (e 11 2),o 6 (.alloc [(n 0),(.nils 1),(.nils 1)]),w (.store 3 (t 6) (t 15)),o 7 (m 16),o 8 (m 17)]),
 (q [(.reg [o 18 (m 8),o 19 (bc .neq 18 (n 0))]),
 (i 19 (q [(.reg [o 20 (.build [(n 0),(.nils 1),(.nils 1)] []),o 21 (m 8),w (.store 3 (t 4) (t 20)),o 5 (m 21)]),
 .ret]) .skip)]),
 (.reg [o 23 (la 3 6),o 24 (m 7),o 25 (.call 49 [(t 23),(t 24)]),o 22 (m 25),o 26 (e 22 0),o 27 (e 22 1),o 28 (e 22 2),o 9 (.alloc [(n 0),(.nils 1),(.nils 1)]),w (.store 3 (t 9) (t 26)),o 10 (m 27),o 8 (m 28)]),
 (.reg [o 29 (la 3 9),o 30 (m 8),w (.store 3 (t 4) (t 29)),o 5 (m 30)]),
 .ret])⟩
def zuk:CFn:=⟨32,[.tmp 6,.tmp 7],(q [(.reg [o 3 (.box 3 (t 0)),o 6 (.mv (c .bf)),o 7 (.mv (c (n 0)))]),
 (.reg [o 11 (la 3 3),o 12 (m 2),o 13 (.call 8 [(t 11),(t 12)]),o 10 (m 13),o 14 (e 10 0),o 15 (e 10 1),o 8 (m 14),o 9 (m 15)]),
 (q [(.reg [o 16 (m 9),o 17 (bc .neq 16 (n 0))]),
 (i 17 (q [(.reg [o 18 (m 9),o 6 (.mv (c .bf)),o 7 (m 18)]),
 .ret]) .skip)]),
 (q [(.reg [o 19 (m 1),o 20 (bc .lss 19 (n 0)),o 21 (m 20),g 22 21 false (m 1),g 23 21 false (f 0 3),g 24 21 false (l 23),g 25 21 false (b .geq 22 24),o 26 (pt 21 25)]),
 (i 26 (q [(.reg [o 6 (.mv (c .bf)),o 7 (.mv (c (n 2)))]),
 .ret]) .skip)]),
 (.reg [o 27 (m 8),o 28 (m 1),o 29 (b .shr 27 28),o 30 (bc .and 29 (u 1)),o 31 (bc .eql 30 (u 1)),o 6 (m 31),o 7 (.mv (c (n 0)))]),
 .ret])⟩
def ztC:CFn:=⟨134,[.cell 4 (some 3),.tmp 5,.tmp 6],(q [(.reg [o 2 (.box 3 (t 0)),o 4 (.alloc [(n 0),(.nils 1),(.nils 1)]),o 5 (.mv (c (.nils 1))),o 6 (.mv (c (n 0)))]),
 (q [(.reg [o 23 (la 3 2),o 24 (.call 32 [(t 23)]),o 7 (m 24)]),
 (.reg [o 25 (m 7),o 26 (bc .neq 25 (n 0))]),
 (i 26 (q [(.reg [o 27 (.build [(n 0),(.nils 1),(.nils 1)] []),o 28 (m 7),w (.store 3 (t 4) (t 27)),o 5 (.mv (c (.nils 1))),o 6 (m 28)]),
 .ret]) .skip)]),
 (q [(.reg [o 29 (m 1),o 30 (.call 50 [(t 29)]),o 8 (m 30)]),
 (.reg [o 31 (m 8),o 32 (bc .neq 31 (n 0))]),
 (i 32 (q [(.reg [o 33 (.build [(n 0),(.nils 1),(.nils 1)] []),o 34 (m 8),w (.store 3 (t 4) (t 33)),o 5 (.mv (c (.nils 1))),o 6 (m 34)]),
 .ret]) .skip)]),
 (q [(.reg [o 35 (m 1),o 36 (ln 35),o 37 (f 0 2),o 38 (l 37),o 39 (b .neq 36 38)]),
 (i 39 (q [(.reg [o 40 (.build [(n 0),(.nils 1),(.nils 1)] []),w (.store 3 (t 4) (t 40)),o 5 (.mv (c (.nils 1))),o 6 (.mv (c (n 3)))]),
 .ret]) .skip)]),
 (q [(.reg [o 41 (m 1),o 42 (ln 41),o 43 (.mv (c (n 0)))]),
 (.block 0 (.loop (q [(.reg [o 44 (b .lss 43 42)]),
 (i 44 .skip (.exit 0)),
 (.block 1 (q [(.reg [o 45 (m 43),o 46 (ia 1 41 43),o 47 (l 46),o 9 (m 45),o 10 (m 47)]),
 (.regd [o 48 (la 3 2),o 49 (m 9),o 50 (.call 51 [(t 48),(t 49)]),o 51 (la 3 2),o 52 (m 10),o 53 (.call 51 [(t 51),(t 52)]),o 54 (b .neq 50 53)] [0,0,3,0,0,31,63]),
 (i 54 (q [(.reg [o 55 (.build [(n 0),(.nils 1),(.nils 1)] []),w (.store 3 (t 4) (t 55)),o 5 (.mv (c (.nils 1))),o 6 (.mv (c (n 1)))]),
 .ret]) .skip)])),
 (.reg [o 56 (bc .add 43 (n 1)),o 43 (m 56)])])))]),
 (.reg [o 57 (m 1),o 58 (.call 52 [(t 57)]),o 11 (m 58)]),
 (.reg [o 59 (m 1),o 60 (ln 59),o 61 (.mkslice 1 8 [(n 0)] (t 60) (t 60)),o 12 (m 61)]),
 (q [(.reg [o 62 (m 1),o 63 (ln 62),o 64 (.mv (c (n 0)))]),
 (.block 2 (.loop (q [(.reg [o 65 (b .lss 64 63)]),
 (i 65 .skip (.exit 2)),
 (.block 3 (q [(.reg [o 66 (m 64),o 67 (ia 1 62 64),o 68 (l 67),o 13 (m 66),o 14 (m 68)]),
 (.reg [o 69 (m 12),o 70 (m 13),o 71 (m 11),o 72 (m 14),o 73 (.call 35 [(t 71),(t 72)]),o 74 (ia 1 69 70),w (.store 1 (t 74) (t 73))])])),
 (.reg [o 75 (bc .add 64 (n 1)),o 64 (m 75)])])))]),
 (.reg [o 76 (m 11),o 77 (ln 76),o 78 (.build [(n 0),(.nils 1),(.nils 1)] [(0,1,(t 77))]),o 15 (.alloc [(n 0),(.nils 1),(.nils 1)]),w (.store 3 (t 15) (t 78))]),
 (q [(.reg [o 79 (f 1 2),o 80 (l 79),o 81 (ln 80),o 82 (.mv (c (n 0)))]),
 (.block 4 (.loop (q [(.reg [o 83 (b .lss 82 81)]),
 (i 83 .skip (.exit 4)),
 (.block 5 (q [(.reg [o 84 (ia 1 80 82),o 85 (l 84),o 17 (m 85)]),
 (.regd [o 86 (f 1 15),o 87 (l 86),o 88 (m 17),o 89 (m 12),o 90 (.call 53 [(t 88),(t 89)]),o 91 (.bslice 1 1 [(u 0)] [(0,(t 90))]),o 92 (.app 1 8 (t 87) (t 91)),o 93 (f 1 15),w (.store 1 (t 93) (t 92))] [0,1,0,0,12,28,63,127,255])])),
 (.reg [o 94 (bc .add 82 (n 1)),o 82 (m 94)])])))]),
 (q [(.reg [o 95 (f 2 2),o 96 (l 95),o 97 (ln 96),o 98 (.mv (c (n 0)))]),
 (.block 6 (.loop (q [(.reg [o 99 (b .lss 98 97)]),
 (i 99 .skip (.exit 6)),
 (.block 7 (q [(.reg [o 100 (ia 1 96 98),o 101 (l 100),o 19 (m 101)]),
 (.reg [o 102 (m 11),o 103 (ln 102),o 104 (.mkslice 1 8 [(u 0)] (t 103) (t 103)),o 20 (m 104)]),
 (q [(.reg [o 105 (m 19),o 106 (ln 105),o 107 (.mv (c (n 0)))]),
 (.block 8 (.loop (q [(.reg [o 108 (b .lss 107 106)]),
 (i 108 .skip (.exit 8)),
 (.block 9 (q [(.reg [o 109 (m 107),o 110 (ia 1 105 107),o 111 (l 110),o 21 (m 109),o 22 (m 111)]),
 (.regd [o 112 (m 20),o 113 (m 12),o 114 (m 21),o 115 (ia 1 113 114),o 116 (l 115),o 117 (ia 1 112 116),o 118 (l 117),o 119 (m 22),o 120 (m 12),o 121 (.call 53 [(t 119),(t 120)]),o 122 (b .or 118 121),o 123 (ia 1 112 116),w (.store 1 (t 123) (t 122))] [0,0,0,6,14,31,63,0,0,384,1023,2047,4095])])),
 (.reg [o 124 (bc .add 107 (n 1)),o 107 (m 124)])])))]),
 (.reg [o 125 (f 2 15),o 126 (l 125),o 127 (m 20),o 128 (.bslice 1 1 [(.nils 1)] [(0,(t 127))]),o 129 (.app 1 24 (t 126) (t 128)),o 130 (f 2 15),w (.store 1 (t 130) (t 129))])])),
 (.reg [o 131 (bc .add 98 (n 1)),o 98 (m 131)])])))]),
 (.reg [o 132 (la 3 15),o 133 (m 12),w (.store 3 (t 4) (t 132)),o 5 (m 133),o 6 (.mv (c (n 0)))]),
 .ret])⟩
def zrM:CFn:=⟨85,[.tmp 4,.tmp 5],(q [(.reg [o 2 (.box 3 (t 0)),o 4 (.mv (c (.nils 1))),o 5 (.mv (c (n 0)))]),
 (q [(.reg [o 12 (la 3 2),o 13 (m 1),o 14 (.call 55 [(t 12),(t 13)]),o 6 (m 14)]),
 (.reg [o 15 (m 6),o 16 (bc .neq 15 (n 0))]),
 (i 16 (q [(.reg [o 17 (m 6),o 4 (.mv (c (.nils 1))),o 5 (m 17)]),
 .ret]) .skip)]),
 (.reg [o 18 (m 1),o 19 (ln 18),o 20 (.mkslice 1 8 [(u 0)] (t 19) (t 19)),o 7 (m 20)]),
 (.reg [o 21 (m 1),o 22 (ln 21),o 23 (.mkslice 1 1 [.bf] (t 22) (t 22)),o 8 (m 23)]),
 (q [(.reg [o 24 (m 1),o 25 (ln 24),o 26 (.mv (c (n 0)))]),
 (.block 0 (.loop (q [(.reg [o 27 (b .lss 26 25)]),
 (i 27 .skip (.exit 0)),
 (.block 1 (q [(.reg [o 28 (m 26),o 29 (ia 6 24 26),o 30 (la 6 29),o 10 (.alloc [(n 0),(n 0),(n 0),(n 0),(n 0),(n 0)]),o 9 (m 28),w (.store 6 (t 10) (t 30))]),
 (.reg [o 11 (.mv (c .bt))]),
 (q [(.reg [o 31 (f 0 10),o 32 (l 31),o 33 (bc .geq 32 (n 4))]),
 (i 33 (.reg [o 34 (m 8),o 35 (f 4 10),o 36 (l 35),o 37 (ia 1 34 36),o 38 (l 37),o 11 (m 38)]) .skip)]),
 (q [(.reg [o 39 (f 0 10),o 40 (l 39),o 41 (bc .geq 40 (n 5)),o 42 (m 41),g 43 42 true (f 0 10),g 44 42 true (l 43),g 45 42 true (bc .leq 44 (n 8)),o 46 (pf 42 45),o 47 (m 46),g 48 47 false (f 0 10),g 49 47 false (l 48),g 50 47 false (bc .eql 49 (n 13)),o 51 (pt 47 50)]),
 (i 51 (.reg [o 52 (m 11),o 53 (m 52),g 54 53 true (m 8),g 55 53 true (f 5 10),g 56 53 true (l 55),g 57 53 true (ia 1 54 56),g 58 53 true (l 57),o 59 (pf 53 58),o 11 (m 59)]) .skip)]),
 (.reg [o 60 (m 11)]),
 (i 60 (.regd [o 62 (m 7),o 63 (m 9),o 64 (m 8),o 65 (m 9),o 66 (la 3 2),o 67 (la 6 10),o 68 (m 7),o 69 (f 4 10),o 70 (l 69),o 71 (ia 1 68 70),o 72 (l 71),o 73 (m 7),o 74 (f 5 10),o 75 (l 74),o 76 (ia 1 73 75),o 77 (l 76),o 78 (.call 56 [(t 66),(t 67),(t 72),(t 77)]),o 61 (m 78),o 79 (e 61 0),o 80 (e 61 1),o 81 (ia 1 62 63),w (.store 1 (t 81) (t 79)),o 82 (ia 1 64 65),w (.store 1 (t 82) (t 80))] [0,0,0,0,0,0,0,0,128,448,960,0,0,4096,14336,30720,65520,131056,262128,262128,524275,1572851,4194303,8388607]) .skip)])),
 (.reg [o 83 (bc .add 26 (n 1)),o 26 (m 83)])])))]),
 (.reg [o 84 (m 7),o 4 (m 84),o 5 (.mv (c (n 0)))]),
 .ret])⟩
def zqr:CFn:=⟨31,[.tmp 4],(q [(.reg [o 4 (.mv (c (n 0)))]),
 (.reg [o 5 (.mv (c (n 0)))]),
 (q [(.reg [o 10 (m 0),o 11 (.call 57 [(t 10)]),o 12 (ln 11),o 13 (.mv (c (n 0)))]),
 (.block 0 (.loop (q [(.reg [o 14 (b .lss 13 12)]),
 (i 14 .skip (.exit 0)),
 (.block 1 (q [(.reg [o 15 (ia 6 11 13),o 16 (la 6 15),o 7 (.alloc [(n 0),(n 0),(n 0),(n 0),(n 0),(n 0)]),w (.store 6 (t 7) (t 16))]),
 (.reg [o 18 (f 0 7),o 19 (l 18),o 20 (.call 58 [(t 19)]),o 17 (m 20),o 21 (e 17 0),o 22 (e 17 1),o 8 (.alloc [.bf,.bf,.bf,.bf,.bf,.bf,(n 0)]),w (.store 7 (t 8) (t 21)),o 9 (m 22)]),
 (.reg [o 23 (m 5),o 24 (m 1),o 25 (la 6 7),o 26 (la 7 8),o 27 (.callv (t 24) [(t 25),(t 26)]),o 28 (b .or 23 27),o 5 (m 28)])])),
 (.reg [o 29 (bc .add 13 (n 1)),o 13 (m 29)])])))]),
 (.reg [o 30 (m 5),o 4 (m 30)]),
 .ret])⟩
def znY:CFn:=⟨7,[.tmp 4],(q [(.reg [o 2 (.box 6 (t 0)),o 3 (.box 7 (t 1)),o 4 (.mv (c (n 0)))]),
 (.reg [o 5 (f 6 3),o 6 (l 5),o 4 (m 6)]),
 .ret])⟩
def zo4:CFn:=⟨20,[.tmp 2,.tmp 3],(q [(.reg [o 1 (.box 3 (t 0)),o 2 (.mv (c (.nils 1))),o 3 (.mv (c (n 0)))]),
 (q [(.reg [o 7 (la 3 1),o 8 (.call 32 [(t 7)]),o 4 (m 8)]),
 (.reg [o 9 (m 4),o 10 (bc .neq 9 (n 0))]),
 (i 10 (q [(.reg [o 11 (m 4),o 2 (.mv (c (.nils 1))),o 3 (m 11)]),
 .ret]) .skip)]),
 (.reg [o 13 (la 3 1),o 14 (f 2 1),o 15 (l 14),o 16 (.call 59 [(t 13),(t 15)]),o 12 (m 16),o 17 (e 12 0),o 18 (e 12 1),o 5 (m 17),o 6 (m 18)]),
 (.reg [o 19 (m 5),o 2 (m 19),o 3 (.mv (c (n 0)))]),
 .ret])⟩
def ztz:CFn:=⟨47,[.tmp 2],(q [(.reg [o 1 (.box 3 (t 0)),o 2 (.mv (c (n 0)))]),
 (q [(.reg [o 5 (f 0 1),o 6 (l 5),o 7 (bc .lss 6 (n 1)),o 8 (m 7),g 9 8 false (f 0 1),g 10 8 false (l 9),g 11 8 false (bc .gtr 10 (n 64)),o 12 (pt 8 11)]),
 (i 12 (q [(.reg [o 2 (.mv (c (n 2)))]),
 .ret]) .skip)]),
 (q [(.reg [o 13 (f 2 1),o 14 (l 13),o 15 (ln 14),o 16 (bc .gtr 15 (n 4)),o 17 (m 16),g 18 17 false (f 1 1),g 19 17 false (l 18),g 20 17 false (ln 19),g 21 17 false (bc .gtr 20 (n 8)),o 22 (pt 17 21)]),
 (i 22 (q [(.reg [o 2 (.mv (c (n 8)))]),
 .ret]) .skip)]),
 (q [(.reg [o 23 (f 2 1),o 24 (l 23),o 25 (ln 24),o 26 (.mv (c (n 0)))]),
 (.block 0 (.loop (q [(.reg [o 27 (b .lss 26 25)]),
 (i 27 .skip (.exit 0)),
 (.block 1 (q [(.reg [o 28 (ia 1 24 26),o 29 (l 28),o 4 (m 29)]),
 (.reg [o 30 (m 4),o 31 (ln 30),o 32 (f 0 1),o 33 (l 32),o 34 (b .neq 31 33)]),
 (i 34 (q [(.reg [o 2 (.mv (c (n 3)))]),
 .ret]) .skip)])),
 (.reg [o 35 (bc .add 26 (n 1)),o 26 (m 35)])])))]),
 (q [(.reg [o 36 (f 1 1),o 37 (l 36),o 38 (f 0 1),o 39 (l 38),o 40 (.call 60 [(t 37),(t 39)]),o 41 (m 40),g 42 41 false (f 2 1),g 43 41 false (l 42),g 44 41 false (.fnew zeA [(t 1)]),g 45 41 false (.call 61 [(t 43),(t 44)]),o 46 (pt 41 45)]),
 (i 46 (q [(.reg [o 2 (.mv (c (n 2)))]),
 .ret]) .skip)]),
 (.reg [o 2 (.mv (c (n 0)))]),
 .ret])⟩
def zn4:CFn:=⟨56,[.tmp 4,.tmp 5],(q [(.reg [o 2 (.box 3 (t 0)),o 4 (.mv (c (u 0))),o 5 (.mv (c (n 0)))]),
 (q [(.reg [o 12 (la 3 2),o 13 (.call 32 [(t 12)]),o 6 (m 13)]),
 (.reg [o 14 (m 6),o 15 (bc .neq 14 (n 0))]),
 (i 15 (q [(.reg [o 16 (m 6),o 4 (.mv (c (u 0))),o 5 (m 16)]),
 .ret]) .skip)]),
 (q [(.reg [o 17 (m 1),o 18 (f 0 2),o 19 (l 18),o 20 (.call 63 [(t 19)]),o 21 (b .andNot 17 20),o 22 (bc .neq 21 (u 0))]),
 (i 22 (q [(.reg [o 4 (.mv (c (u 0))),o 5 (.mv (c (n 2)))]),
 .ret]) .skip)]),
 (.reg [o 23 (m 1),o 7 (m 23)]),
 (q [(.reg [o 24 (m 1),o 8 (m 24)]),
 (.block 0 (.loop (q [(q [(.reg [o 25 (m 8),o 26 (bc .neq 25 (u 0))]),
 (i 26 .skip (.exit 0))]),
 (.block 1 (q [(.reg [o 27 (m 8),o 28 (.call 64 [(t 27)]),o 9 (m 28)]),
 (.reg [o 29 (m 8),o 30 (m 8),o 31 (bc .sub 30 (u 1)),o 32 (b .and 29 31),o 8 (m 32)]),
 (.reg [o 33 (f 2 2),o 34 (l 33),o 35 (ln 34),o 36 (.mv (c (n 0)))]),
 (.block 2 (.loop (q [(.reg [o 37 (b .lss 36 35)]),
 (i 37 .skip (.exit 2)),
 (.block 3 (q [(.reg [o 38 (ia 1 34 36),o 39 (l 38),o 11 (m 39)]),
 (.reg [o 40 (m 8),o 41 (m 11),o 42 (m 9),o 43 (ia 1 41 42),o 44 (l 43),o 45 (m 7),o 46 (b .andNot 44 45),o 47 (b .or 40 46),o 8 (m 47)]),
 (.reg [o 48 (m 7),o 49 (m 11),o 50 (m 9),o 51 (ia 1 49 50),o 52 (l 51),o 53 (b .or 48 52),o 7 (m 53)])])),
 (.reg [o 54 (bc .add 36 (n 1)),o 36 (m 54)])])))]))])))]),
 (.reg [o 55 (m 7),o 4 (m 55),o 5 (.mv (c (n 0)))]),
 .ret])⟩
def zpc:CFn:=⟨31,[.cell 4 (some 3),.tmp 5,.tmp 6],(q [(.reg [o 2 (.box 3 (t 0)),o 4 (.alloc [(n 0),(.nils 1),(.nils 1)]),o 5 (.mv (c (.nils 1))),o 6 (.mv (c (n 0)))]),
 (q [(.reg [o 9 (la 3 2),o 10 (.call 32 [(t 9)]),o 7 (m 10)]),
 (.reg [o 11 (m 7),o 12 (bc .neq 11 (n 0))]),
 (i 12 (q [(.reg [o 13 (.build [(n 0),(.nils 1),(.nils 1)] []),o 14 (m 7),w (.store 3 (t 4) (t 13)),o 5 (.mv (c (.nils 1))),o 6 (m 14)]),
 .ret]) .skip)]),
 (q [(.reg [o 15 (m 1),o 16 (f 0 2),o 17 (l 16),o 18 (.call 63 [(t 17)]),o 19 (b .andNot 15 18),o 20 (bc .neq 19 (u 0))]),
 (i 20 (q [(.reg [o 21 (.build [(n 0),(.nils 1),(.nils 1)] []),w (.store 3 (t 4) (t 21)),o 5 (.mv (c (.nils 1))),o 6 (.mv (c (n 2)))]),
 .ret]) .skip)]),
 (q [(.reg [o 22 (m 1),o 23 (bc .eql 22 (u 0))]),
 (i 23 (q [(.reg [o 24 (.build [(n 0),(.nils 1),(.nils 1)] []),w (.store 3 (t 4) (t 24)),o 5 (.mv (c (.nils 1))),o 6 (.mv (c (n 6)))]),
 .ret]) .skip)]),
 (.reg [o 25 (m 1),o 26 (.call 65 [(t 25)]),o 8 (m 26)]),
 (.reg [o 27 (la 3 2),o 28 (m 8),o 29 (.call 66 [(t 27),(t 28)]),o 30 (m 8),w (.store 3 (t 4) (t 29)),o 5 (m 30),o 6 (.mv (c (n 0)))]),
 .ret])⟩
def ziz:CFn:=⟨19,[.tmp 4],(q [(.reg [o 4 (.mv (c (n 0)))]),
 (q [(.reg [o 6 (m 0),o 7 (ln 6),o 8 (.mv (c (n 0)))]),
 (.block 0 (.loop (q [(.reg [o 9 (b .lss 8 7)]),
 (i 9 .skip (.exit 0)),
 (.block 1 (q [(.reg [o 10 (m 8),o 5 (m 10)]),
 (.reg [o 11 (m 1),o 12 (m 0),o 13 (m 5),o 14 (ia 1 12 13),o 15 (l 14),o 16 (b .eql 11 15)]),
 (i 16 (q [(.reg [o 17 (m 5),o 4 (m 17)]),
 .ret]) .skip)])),
 (.reg [o 18 (bc .add 8 (n 1)),o 8 (m 18)])])))]),
 (.reg [o 4 (.mv (c (n (-1))))]),
 .ret])⟩
def zum:CFn:=⟨24,[.tmp 4],(q [(.reg [o 2 (.box 3 (t 0)),o 3 (.box 3 (t 1)),o 4 (.mv (c .bf))]),
 (.reg [o 5 (f 0 2),o 6 (l 5),o 7 (f 0 3),o 8 (l 7),o 9 (b .eql 6 8),o 10 (m 9),g 11 10 true (f 1 2),g 12 10 true (l 11),g 13 10 true (f 1 3),g 14 10 true (l 13),g 15 10 true (.call 82 [(t 12),(t 14)]),o 16 (pf 10 15),o 17 (m 16),g 18 17 true (f 2 2),g 19 17 true (l 18),g 20 17 true (f 2 3),g 21 17 true (l 20),g 22 17 true (.call 83 [(t 19),(t 21),(c (.fn zdI []))]),o 23 (pf 17 22),o 4 (m 23)]),
 .ret])⟩
def zkT:CFn:=⟨95,[.cell 4 (some 3),.tmp 5,.tmp 6],(q [(.reg [o 2 (.box 3 (t 0)),o 4 (.alloc [(n 0),(.nils 1),(.nils 1)]),o 5 (.mv (c (.nils 1))),o 6 (.mv (c (n 0)))]),
 (q [(.reg [o 22 (la 3 2),o 23 (.call 32 [(t 22)]),o 7 (m 23)]),
 (.reg [o 24 (m 7),o 25 (bc .neq 24 (n 0))]),
 (i 25 (q [(.reg [o 26 (.build [(n 0),(.nils 1),(.nils 1)] []),o 27 (m 7),w (.store 3 (t 4) (t 26)),o 5 (.mv (c (.nils 1))),o 6 (m 27)]),
 .ret]) .skip)]),
 (q [(.reg [o 28 (m 1),o 29 (bc .lss 28 (n 0)),o 30 (m 29),g 31 30 false (m 1),g 32 30 false (f 0 2),g 33 30 false (l 32),g 34 30 false (b .geq 31 33),o 35 (pt 30 34)]),
 (i 35 (q [(.reg [o 36 (.build [(n 0),(.nils 1),(.nils 1)] []),w (.store 3 (t 4) (t 36)),o 5 (.mv (c (.nils 1))),o 6 (.mv (c (n 2)))]),
 .ret]) .skip)]),
 (.regd [o 38 (la 3 2),o 39 (m 1),o 40 (.bin .shl (c (u 1)) (t 39)),o 41 (.call 33 [(t 38),(t 40)]),o 37 (m 41),o 42 (e 37 0),o 43 (e 37 1),o 8 (m 42),o 9 (m 43)] [0,0,2,7,15,31,31,63,255]),
 (.reg [o 45 (la 3 2),o 46 (m 8),o 47 (.call 34 [(t 45),(t 46)]),o 44 (m 47),o 48 (e 44 0),o 49 (e 44 1),o 50 (e 44 2),o 10 (.alloc [(n 0),(.nils 1),(.nils 1)]),w (.store 3 (t 10) (t 48)),o 11 (m 49),o 12 (m 50)]),
 (q [(.reg [o 52 (la 3 10),o 53 (.call 85 [(t 52),(c (n (-1)))]),o 51 (m 53),o 54 (e 51 0),o 55 (e 51 1),o 13 (m 54),o 14 (m 55)]),
 (.reg [o 56 (m 14),o 57 (f 0 10),o 58 (l 57),o 59 (b .lss 56 58)]),
 (i 59 (q [(.reg [o 60 (.build [(n 0),(.nils 1),(.nils 1)] []),w (.store 3 (t 4) (t 60)),o 5 (.mv (c (.nils 1))),o 6 (.mv (c (n 16)))]),
 .ret]) .skip)]),
 (.regd [o 62 (la 3 10),o 63 (m 11),o 64 (m 1),o 65 (.call 35 [(t 63),(t 64)]),o 66 (.call 85 [(t 62),(t 65)]),o 61 (m 66),o 67 (e 61 0),o 68 (e 61 1),o 15 (m 67),o 16 (m 68)] [0,0,0,6,15,31,63,63,127,511]),
 (.reg [o 70 (la 3 10),o 71 (m 15),o 72 (.call 86 [(t 70),(t 71)]),o 69 (m 72),o 73 (e 69 0),o 74 (e 69 1),o 17 (.alloc [(n 0),(.nils 1),(.nils 1)]),w (.store 3 (t 17) (t 73)),o 18 (m 74)]),
 (.reg [o 75 (m 15),o 76 (ln 75),o 77 (.mkslice 1 8 [(n 0)] (t 76) (t 76)),o 19 (m 77)]),
 (q [(.reg [o 78 (m 15),o 79 (ln 78),o 80 (.mv (c (n 0)))]),
 (.block 0 (.loop (q [(.reg [o 81 (b .lss 80 79)]),
 (i 81 .skip (.exit 0)),
 (.block 1 (q [(.reg [o 82 (m 80),o 83 (ia 1 78 80),o 84 (l 83),o 20 (m 82),o 21 (m 84)]),
 (.reg [o 85 (m 19),o 86 (m 21),o 87 (m 11),o 88 (m 20),o 89 (ia 1 87 88),o 90 (l 89),o 91 (ia 1 85 86),w (.store 1 (t 91) (t 90))])])),
 (.reg [o 92 (bc .add 80 (n 1)),o 80 (m 92)])])))]),
 (.reg [o 93 (la 3 17),o 94 (m 19),w (.store 3 (t 4) (t 93)),o 5 (m 94),o 6 (.mv (c (n 0)))]),
 .ret])⟩
def zn6:CFn:=⟨31,[.tmp 2],(q [(.reg [o 2 (.mv (c (n 0)))]),
 (q [(.reg [o 5 (m 0),o 6 (ln 5),o 7 (bc .gtr 6 (n 64))]),
 (i 7 (q [(.reg [o 2 (.mv (c (n 8)))]),
 .ret]) .skip)]),
 (q [(.reg [o 8 (m 0),o 9 (ln 8),o 10 (.mv (c (n 0)))]),
 (.block 0 (.loop (q [(.reg [o 11 (b .lss 10 9)]),
 (i 11 .skip (.exit 0)),
 (.block 1 (q [(.reg [o 12 (m 10),o 13 (ia 1 8 10),o 14 (l 13),o 3 (m 12),o 4 (m 14)]),
 (.reg [o 15 (m 4),o 16 (bc .lss 15 (n 0)),o 17 (m 16),g 18 17 false (m 4),g 19 17 false (m 3),g 20 17 false (b .gtr 18 19),o 21 (pt 17 20),o 22 (m 21),g 23 22 false (m 0),g 24 22 false (m 4),g 25 22 false (ia 1 23 24),g 26 22 false (l 25),g 27 22 false (m 4),g 28 22 false (b .neq 26 27),o 29 (pt 22 28)]),
 (i 29 (q [(.reg [o 2 (.mv (c (n 3)))]),
 .ret]) .skip)])),
 (.reg [o 30 (bc .add 10 (n 1)),o 10 (m 30)])])))]),
 (.reg [o 2 (.mv (c (n 0)))]),
 .ret])⟩
def ztA:CFn:=⟨40,[.tmp 4],(q [(.reg [o 2 (.box 3 (t 0)),o 4 (.mv (c (n 0)))]),
 (q [(.reg [o 8 (la 3 2),o 9 (.call 32 [(t 8)]),o 10 (bc .neq 9 (n 0)),o 11 (m 10),g 12 11 false (m 1),g 13 11 false (bc .lss 12 (n 0)),o 14 (pt 11 13),o 15 (m 14),g 16 15 false (m 1),g 17 15 false (f 0 2),g 18 15 false (l 17),g 19 15 false (b .geq 16 18),o 20 (pt 15 19)]),
 (i 20 (q [(.reg [o 4 (.mv (c (n (-1))))]),
 .ret]) .skip)]),
 (.reg [o 5 (.mv (c (n 0)))]),
 (q [(.reg [o 21 (f 1 2),o 22 (l 21),o 23 (ln 22),o 24 (.mv (c (n 0)))]),
 (.block 0 (.loop (q [(.reg [o 25 (b .lss 24 23)]),
 (i 25 .skip (.exit 0)),
 (.block 1 (q [(.reg [o 26 (m 24),o 27 (ia 1 22 24),o 28 (l 27),o 6 (m 26),o 7 (m 28)]),
 (.reg [o 29 (m 5),o 30 (m 7),o 31 (m 1),o 32 (b .shr 30 31),o 33 (bc .and 32 (u 1)),o 34 (.conv .i64 (t 33)),o 35 (m 6),o 36 (b .shl 34 35),o 37 (b .or 29 36),o 5 (m 37)])])),
 (.reg [o 38 (bc .add 24 (n 1)),o 24 (m 38)])])))]),
 (.reg [o 39 (m 5),o 4 (m 39)]),
 .ret])⟩
def zn8:CFn:=⟨10,[.tmp 2],(q [(.reg [o 2 (.mv (c (.nils 1)))]),
 (.reg [o 4 (m 0),o 5 (.call 87 [(t 4)]),o 3 (m 5)]),
 (.reg [o 6 (m 3),o 7 (.call 68 [(t 6)])]),
 (.reg [o 8 (m 3),o 9 (.call 69 [(t 8)]),o 2 (m 9)]),
 .ret])⟩
def zn9:CFn:=⟨26,[.tmp 4],(q [(.reg [o 4 (.mv (c (u 0)))]),
 (.reg [o 5 (.mv (c (u 0)))]),
 (q [(.reg [o 8 (m 1),o 9 (ln 8),o 10 (.mv (c (n 0)))]),
 (.block 0 (.loop (q [(.reg [o 11 (b .lss 10 9)]),
 (i 11 .skip (.exit 0)),
 (.block 1 (q [(.reg [o 12 (m 10),o 13 (ia 1 8 10),o 14 (l 13),o 6 (m 12),o 7 (m 14)]),
 (.reg [o 15 (m 0),o 16 (m 6),o 17 (b .shr 15 16),o 18 (bc .and 17 (u 1)),o 19 (bc .eql 18 (u 1))]),
 (i 19 (.reg [o 20 (m 5),o 21 (m 7),o 22 (.bin .shl (c (u 1)) (t 21)),o 23 (b .or 20 22),o 5 (m 23)]) .skip)])),
 (.reg [o 24 (bc .add 10 (n 1)),o 10 (m 24)])])))]),
 (.reg [o 25 (m 5),o 4 (m 25)]),
 .ret])⟩
def znV:CFn:=⟨30,[.tmp 4],(q [(.reg [o 2 (.box 3 (t 0)),o 4 (.mv (c (n 0)))]),
 (q [(.reg [o 7 (la 3 2),o 8 (.call 32 [(t 7)]),o 5 (m 8)]),
 (.reg [o 9 (m 5),o 10 (bc .neq 9 (n 0))]),
 (i 10 (q [(.reg [o 11 (m 5),o 4 (m 11)]),
 .ret]) .skip)]),
 (q [(.reg [o 12 (m 1),o 13 (.call 73 [(t 12)]),o 6 (m 13)]),
 (.reg [o 14 (m 6),o 15 (bc .neq 14 (n 0))]),
 (i 15 (q [(.reg [o 16 (m 6),o 4 (m 16)]),
 .ret]) .skip)]),
 (q [(.reg [o 17 (m 1),o 18 (.call 9 [(t 17)]),o 19 (bc .andNot 18 (n 15)),o 20 (bc .neq 19 (n 0))]),
 (i 20 (q [(.reg [o 4 (.mv (c (n 10)))]),
 .ret]) .skip)]),
 (q [(.reg [o 21 (m 1),o 22 (f 2 2),o 23 (l 22),o 24 (ln 23),o 25 (f 1 2),o 26 (l 25),o 27 (ln 26),o 28 (.call 74 [(t 21),(t 24),(t 27)]),o 29 (.un .not (t 28))]),
 (i 29 (q [(.reg [o 4 (.mv (c (n 2)))]),
 .ret]) .skip)]),
 (.reg [o 4 (.mv (c (n 0)))]),
 .ret])⟩
def zqm:CFn:=⟨129,[.tmp 8,.tmp 9],(q [(.reg [o 4 (.box 3 (t 0)),o 5 (.box 6 (t 1)),o 8 (.mv (c (u 0))),o 9 (.mv (c .bf))]),
 (.reg [o 12 (f 0 4),o 13 (l 12),o 14 (.bin .sub (c (n 64)) (t 13)),o 15 (.bin .shr (c (u 18446744073709551615)) (t 14)),o 10 (m 15)]),
 (q [(.reg [o 16 (f 0 5),o 17 (l 16)]),
 (.block 0 (q [(.reg [o 19 (bc .eql 17 (n 1)),o 18 (m 19)]),
 (i 18 (q [(.reg [o 20 (m 10),o 8 (m 20),o 9 (.mv (c .bt))]),
 .ret]) (q [(.reg [o 22 (bc .eql 17 (n 2)),o 21 (m 22)]),
 (i 21 (q [(.reg [o 8 (.mv (c (u 0))),o 9 (.mv (c .bt))]),
 .ret]) (q [(.reg [o 24 (bc .eql 17 (n 3)),o 23 (m 24)]),
 (i 23 (q [(q [(.reg [o 25 (f 1 5),o 26 (l 25),o 27 (f 1 4),o 28 (l 27),o 29 (ln 28),o 30 (b .geq 26 29)]),
 (i 30 (q [(.reg [o 8 (.mv (c (u 0))),o 9 (.mv (c .bf))]),
 .ret]) .skip)]),
 (.reg [o 31 (f 1 4),o 32 (l 31),o 33 (f 1 5),o 34 (l 33),o 35 (ia 1 32 34),o 36 (l 35),o 8 (m 36),o 9 (.mv (c .bt))]),
 .ret]) (q [(.reg [o 38 (bc .eql 17 (n 4)),o 37 (m 38)]),
 (i 37 (q [(.reg [o 39 (m 10),o 40 (m 2),o 41 (b .andNot 39 40),o 8 (m 41),o 9 (.mv (c .bt))]),
 .ret]) (q [(.reg [o 43 (bc .eql 17 (n 5)),o 42 (m 43)]),
 (i 42 (q [(.reg [o 44 (m 2),o 45 (m 3),o 46 (b .and 44 45),o 8 (m 46),o 9 (.mv (c .bt))]),
 .ret]) (q [(.reg [o 48 (bc .eql 17 (n 6)),o 47 (m 48)]),
 (i 47 (q [(.reg [o 49 (m 2),o 50 (m 3),o 51 (b .or 49 50),o 8 (m 51),o 9 (.mv (c .bt))]),
 .ret]) (q [(.reg [o 53 (bc .eql 17 (n 7)),o 52 (m 53)]),
 (i 52 (q [(.reg [o 54 (m 10),o 55 (m 2),o 56 (b .andNot 54 55),o 57 (m 3),o 58 (b .or 56 57),o 8 (m 58),o 9 (.mv (c .bt))]),
 .ret]) (q [(.reg [o 60 (bc .eql 17 (n 8)),o 59 (m 60)]),
 (i 59 (q [(.reg [o 61 (m 10),o 62 (m 2),o 63 (m 3),o 64 (b .xor 62 63),o 65 (b .andNot 61 64),o 8 (m 65),o 9 (.mv (c .bt))]),
 .ret]) (q [(q [(.reg [o 67 (bc .eql 17 (n 9)),o 66 (m 67)]),
 (i 66 .skip (.reg [o 68 (bc .eql 17 (n 10)),o 66 (m 68)]))]),
 (i 66 (q [(q [(.reg [o 69 (f 1 5),o 70 (l 69),o 71 (f 2 4),o 72 (l 71),o 73 (ln 72),o 74 (b .geq 70 73)]),
 (i 74 (q [(.reg [o 8 (.mv (c (u 0))),o 9 (.mv (c .bf))]),
 .ret]) .skip)]),
 (q [(.reg [o 75 (f 0 5),o 76 (l 75),o 77 (bc .eql 76 (n 9))]),
 (i 77 (q [(.reg [o 78 (f 2 4),o 79 (l 78),o 80 (f 1 5),o 81 (l 80),o 82 (ia 1 79 81),o 83 (l 82),o 84 (m 2),o 85 (.call 88 [(t 83),(t 84)]),o 8 (m 85),o 9 (.mv (c .bt))]),
 .ret]) .skip)]),
 (.reg [o 86 (f 2 4),o 87 (l 86),o 88 (f 1 5),o 89 (l 88),o 90 (ia 1 87 89),o 91 (l 90),o 92 (m 2),o 93 (.call 89 [(t 91),(t 92)]),o 8 (m 93),o 9 (.mv (c .bt))]),
 .ret]) (q [(q [(.reg [o 95 (bc .eql 17 (n 11)),o 94 (m 95)]),
 (i 94 .skip (q [(.reg [o 96 (bc .eql 17 (n 12)),o 94 (m 96)]),
 (i 94 .skip (.reg [o 97 (bc .eql 17 (n 13)),o 94 (m 97)]))]))]),
 (i 94 (q [(q [(.regd [o 98 (f 3 5),o 99 (l 98),o 100 (f 2 4),o 101 (l 100),o 102 (ln 101),o 103 (.bin .shl (c (n 1)) (t 102)),o 104 (b .geq 99 103)] [0,1,0,4,12,28,63]),
 (i 104 (q [(.reg [o 8 (.mv (c (u 0))),o 9 (.mv (c .bf))]),
 .ret]) .skip)]),
 (q [(.reg [o 105 (f 0 5),o 106 (l 105),o 107 (bc .eql 106 (n 12))]),
 (i 107 (q [(.reg [o 108 (la 3 4),o 109 (f 3 5),o 110 (l 109),o 111 (.call 90 [(t 108),(t 110)]),o 112 (m 2),o 113 (.call 88 [(t 111),(t 112)]),o 8 (m 113),o 9 (.mv (c .bt))]),
 .ret]) .skip)]),
 (.reg [o 114 (la 3 4),o 115 (f 3 5),o 116 (l 115),o 117 (.call 91 [(t 114),(t 116)]),o 11 (m 117)]),
 (q [(.reg [o 118 (f 0 5),o 119 (l 118),o 120 (bc .eql 119 (n 11))]),
 (i 120 (q [(.reg [o 121 (m 11),o 122 (m 2),o 123 (.call 88 [(t 121),(t 122)]),o 8 (m 123),o 9 (.mv (c .bt))]),
 .ret]) .skip)]),
 (.reg [o 124 (m 11),o 125 (m 10),o 126 (m 2),o 127 (m 3),o 128 (.call 92 [(t 124),(t 125),(t 126),(t 127)]),o 8 (m 128),o 9 (.mv (c .bt))]),
 .ret]) .skip)]))]))]))]))]))]))]))]))]))]))]),
 (.reg [o 8 (.mv (c (u 0))),o 9 (.mv (c .bf))]),
 .ret])⟩
def znW:CFn:=⟨8,[.tmp 2],(q [(.reg [o 2 (.mv (c (.nils 6)))]),
 (.reg [o 3 (m 0),o 4 (m 0),o 5 (ln 4),o 6 (bc .sub 5 (n 1)),o 7 (.call 93 [(t 3),(t 6)]),o 2 (m 7)]),
 .ret])⟩
def zrO:CFn:=⟨55,[.cell 2 (some 7),.tmp 3],(q [(.reg [o 2 (.alloc [.bf,.bf,.bf,.bf,.bf,.bf,(n 0)]),o 3 (.mv (c .bf))]),
 (q [(.reg [o 4 (m 0)]),
 (.block 0 (q [(q [(.reg [o 6 (bc .eql 4 (n 1)),o 5 (m 6)]),
 (i 5 .skip (.reg [o 7 (bc .eql 4 (n 2)),o 5 (m 7)]))]),
 (i 5 (q [(.reg [o 8 (.build [.bf,.bf,.bf,.bf,.bf,.bf,(n 0)] []),w (.store 7 (t 2) (t 8)),o 3 (.mv (c .bt))]),
 .ret]) (q [(.reg [o 10 (bc .eql 4 (n 3)),o 9 (m 10)]),
 (i 9 (q [(.reg [o 11 (.build [.bf,.bf,.bf,.bf,.bf,.bf,(n 0)] [(2,1,(c .bt))]),w (.store 7 (t 2) (t 11)),o 3 (.mv (c .bt))]),
 .ret]) (q [(.reg [o 13 (bc .eql 4 (n 4)),o 12 (m 13)]),
 (i 12 (q [(.reg [o 14 (.build [.bf,.bf,.bf,.bf,.bf,.bf,(n 0)] [(0,1,(c .bt))]),w (.store 7 (t 2) (t 14)),o 3 (.mv (c .bt))]),
 .ret]) (q [(q [(.reg [o 16 (bc .eql 4 (n 5)),o 15 (m 16)]),
 (i 15 .skip (q [(.reg [o 17 (bc .eql 4 (n 6)),o 15 (m 17)]),
 (i 15 .skip (q [(.reg [o 18 (bc .eql 4 (n 7)),o 15 (m 18)]),
 (i 15 .skip (.reg [o 19 (bc .eql 4 (n 8)),o 15 (m 19)]))]))]))]),
 (i 15 (q [(.reg [o 20 (.build [.bf,.bf,.bf,.bf,.bf,.bf,(n 0)] [(0,1,(c .bt)),(1,1,(c .bt))]),w (.store 7 (t 2) (t 20)),o 3 (.mv (c .bt))]),
 .ret]) (q [(q [(.reg [o 22 (bc .eql 4 (n 9)),o 21 (m 22)]),
 (i 21 .skip (.reg [o 23 (bc .eql 4 (n 10)),o 21 (m 23)]))]),
 (i 21 (q [(.reg [o 24 (.build [.bf,.bf,.bf,.bf,.bf,.bf,(n 0)] [(0,1,(c .bt)),(3,1,(c .bt)),(6,1,(c (n 1)))]),w (.store 7 (t 2) (t 24)),o 3 (.mv (c .bt))]),
 .ret]) (q [(.reg [o 26 (bc .eql 4 (n 11)),o 25 (m 26)]),
 (i 25 (q [(.reg [o 27 (.build [.bf,.bf,.bf,.bf,.bf,.bf,(n 0)] [(0,1,(c .bt)),(4,1,(c .bt)),(6,1,(c (n 2)))]),w (.store 7 (t 2) (t 27)),o 3 (.mv (c .bt))]),
 .ret]) (q [(.reg [o 29 (bc .eql 4 (n 12)),o 28 (m 29)]),
 (i 28 (q [(.reg [o 30 (.build [.bf,.bf,.bf,.bf,.bf,.bf,(n 0)] [(0,1,(c .bt)),(4,1,(c .bt)),(6,1,(c (n 4)))]),w (.store 7 (t 2) (t 30)),o 3 (.mv (c .bt))]),
 .ret]) (q [(.reg [o 32 (bc .eql 4 (n 13)),o 31 (m 32)]),
 (i 31 (q [(.reg [o 33 (.build [.bf,.bf,.bf,.bf,.bf,.bf,(n 0)] [(0,1,(c .bt)),(1,1,(c .bt)),(4,1,(c .bt)),(6,1,(c (n 8)))]),w (.store 7 (t 2) (t 33)),o 3 (.mv (c .bt))]),
 .ret]) (q [(.reg [o 35 (bc .eql 4 (n 14)),o 34 (m 35)]),
 (i 34 (q [(.reg [o 36 (.build [.bf,.bf,.bf,.bf,.bf,.bf,(n 0)] [(0,1,(c .bt)),(1,1,(c .bt)),(3,1,(c .bt)),(6,1,(c (n 16)))]),w (.store 7 (t 2) (t 36)),o 3 (.mv (c .bt))]),
 .ret]) (q [(.reg [o 38 (bc .eql 4 (n 15)),o 37 (m 38)]),
 (i 37 (q [(.reg [o 39 (.build [.bf,.bf,.bf,.bf,.bf,.bf,(n 0)] [(0,1,(c .bt)),(3,1,(c .bt)),(6,1,(c (n 32)))]),w (.store 7 (t 2) (t 39)),o 3 (.mv (c .bt))]),
 .ret]) (q [(.reg [o 41 (bc .eql 4 (n 16)),o 40 (m 41)]),
 (i 40 (q [(.reg [o 42 (.build [.bf,.bf,.bf,.bf,.bf,.bf,(n 0)] [(0,1,(c .bt)),(1,1,(c .bt)),(6,1,(c (n 64)))]),w (.store 7 (t 2) (t 42)),o 3 (.mv (c .bt))]),
 .ret]) (q [(.reg [o 44 (bc .eql 4 (n 17)),o 43 (m 44)]),
 (i 43 (q [(.reg [o 45 (.build [.bf,.bf,.bf,.bf,.bf,.bf,(n 0)] [(0,1,(c .bt)),(5,1,(c .bt)),(6,1,(c (n 128)))]),w (.store 7 (t 2) (t 45)),o 3 (.mv (c .bt))]),
 .ret]) (q [(q [(.reg [o 47 (bc .eql 4 (n 18)),o 46 (m 47)]),
 (i 46 .skip (.reg [o 48 (bc .eql 4 (n 20)),o 46 (m 48)]))]),
 (i 46 (q [(.reg [o 49 (.build [.bf,.bf,.bf,.bf,.bf,.bf,(n 0)] [(0,1,(c .bt)),(6,1,(c (n 256)))]),w (.store 7 (t 2) (t 49)),o 3 (.mv (c .bt))]),
 .ret]) (q [(q [(.reg [o 51 (bc .eql 4 (n 19)),o 50 (m 51)]),
 (i 50 .skip (.reg [o 52 (bc .eql 4 (n 21)),o 50 (m 52)]))]),
 (i 50 (q [(.reg [o 53 (.build [.bf,.bf,.bf,.bf,.bf,.bf,(n 0)] [(0,1,(c .bt)),(1,1,(c .bt)),(6,1,(c (n 256)))]),w (.store 7 (t 2) (t 53)),o 3 (.mv (c .bt))]),
 .ret]) .skip)]))]))]))]))]))]))]))]))]))]))]))]))]))]))]),
 (.reg [o 54 (.build [.bf,.bf,.bf,.bf,.bf,.bf,(n 0)] []),w (.store 7 (t 2) (t 54)),o 3 (.mv (c .bf))]),
 .ret])⟩
def zrL:CFn:=⟨21,[.tmp 4,.tmp 5],(q [(.reg [o 2 (.box 3 (t 0)),o 4 (.mv (c (.nils 1))),o 5 (.mv (c (n 0)))]),
 (.reg [o 6 (.alloc [(.nils 1)])]),
 (.reg [o 7 (.alloc [(n 0)]),w (.store 1 (t 7) (c (n (-1))))]),
 (q [(.reg [o 9 (la 3 2),o 10 (m 1),o 11 (.call 94 [(t 9),(t 10)])]),
 (.block 0 (.rng (t 11) [12] (.reg [o 8 (m 12)]) (.block 1 (q [(q [(.reg [o 13 (m 8),o 14 (l 6),o 15 (.call 95 [(t 13),(t 14)])]),
 (i 15 (.exit 0) .skip)]),
 (.reg [o 16 (m 8),w (.store 1 (t 6) (t 16))]),
 (.reg [o 17 (l 7),o 18 (bc .add 17 (n 1)),w (.store 1 (t 7) (t 18))])]))))]),
 (.regd [o 19 (l 6),o 20 (l 7),o 4 (m 19),o 5 (m 20)] [0,0,1,7]),
 .ret])⟩
def zqx:CFn:=⟨8,[.tmp 4],(q [(.reg [o 3 (.box 1 (t 1)),o 4 (.mv (c .bf))]),
 (.reg [o 5 (m 0),o 6 (.fnew zdu [(t 3)]),o 7 (.call 96 [(t 5),(t 6)]),o 4 (m 7)]),
 .ret])⟩
def zef:CFn:=⟨9,[.tmp 4],(q [(.reg [o 4 (.mv (c .bf))]),
 (.reg [o 5 (m 0),o 6 (m 1),o 7 (.call 98 [(t 5),(t 6)]),o 8 (bc .geq 7 (n 0)),o 4 (m 8)]),
 .ret])⟩
def zqt:CFn:=⟨8,[.tmp 3],(q [(.reg [o 3 (.mv (c .bf))]),
 (.reg [o 4 (m 0),o 5 (f 0 1),o 6 (l 5),o 7 (.call 60 [(t 4),(t 6)]),o 3 (m 7)]),
 .ret])⟩
def zvY:CFn:=⟨8,[.tmp 2],(q [(.reg [o 2 (.mv (c (u 0)))]),
 (q [(.reg [o 3 (m 0),o 4 (bc .geq 3 (n 64))]),
 (i 4 (q [(.reg [o 2 (.mv (c (u 18446744073709551615)))]),
 .ret]) .skip)]),
 (.reg [o 5 (m 0),o 6 (.bin .shl (c (u 1)) (t 5)),o 7 (bc .sub 6 (u 1)),o 2 (m 7)]),
 .ret])⟩
def zqw:CFn:=⟨16,[.tmp 2],(q [(.reg [o 2 (.mv (c (.nils 1)))]),
 (.reg [o 3 (.mv (c (.nils 1)))]),
 (.block 0 (.loop (q [(q [(.reg [o 4 (m 0),o 5 (bc .neq 4 (u 0))]),
 (i 5 .skip (.exit 0))]),
 (.block 1 (.reg [o 10 (m 3),o 11 (m 0),o 12 (.call 64 [(t 11)]),o 13 (.bslice 1 1 [(n 0)] [(0,(t 12))]),o 14 (.app 1 8 (t 10) (t 13)),o 3 (m 14)])),
 (.reg [o 6 (m 0),o 7 (m 0),o 8 (bc .sub 7 (u 1)),o 9 (b .and 6 8),o 0 (m 9)])]))),
 (.reg [o 15 (m 3),o 2 (m 15)]),
 .ret])⟩
def zqv:CFn:=⟨63,[.cell 4 (some 3)],(q [(.reg [o 2 (.box 3 (t 0)),o 4 (.alloc [(n 0),(.nils 1),(.nils 1)])]),
 (.reg [o 13 (m 1),o 14 (ln 13),o 15 (.build [(n 0),(.nils 1),(.nils 1)] [(0,1,(t 14))]),o 5 (.alloc [(n 0),(.nils 1),(.nils 1)]),w (.store 3 (t 5) (t 15))]),
 (q [(.reg [o 16 (f 1 2),o 17 (l 16),o 18 (ln 17),o 19 (.mv (c (n 0)))]),
 (.block 0 (.loop (q [(.reg [o 20 (b .lss 19 18)]),
 (i 20 .skip (.exit 0)),
 (.block 1 (q [(.reg [o 21 (ia 1 17 19),o 22 (l 21),o 7 (m 22)]),
 (.regd [o 23 (f 1 5),o 24 (l 23),o 25 (m 7),o 26 (m 1),o 27 (.call 99 [(t 25),(t 26)]),o 28 (.bslice 1 1 [(u 0)] [(0,(t 27))]),o 29 (.app 1 8 (t 24) (t 28)),o 30 (f 1 5),w (.store 1 (t 30) (t 29))] [0,1,0,0,12,28,63,127,255])])),
 (.reg [o 31 (bc .add 19 (n 1)),o 19 (m 31)])])))]),
 (q [(.reg [o 32 (f 2 2),o 33 (l 32),o 34 (ln 33),o 35 (.mv (c (n 0)))]),
 (.block 2 (.loop (q [(.reg [o 36 (b .lss 35 34)]),
 (i 36 .skip (.exit 2)),
 (.block 3 (q [(.reg [o 37 (ia 1 33 35),o 38 (l 37),o 9 (m 38)]),
 (.reg [o 10 (.mv (c (.nils 1)))]),
 (q [(.reg [o 39 (m 1),o 40 (ln 39),o 41 (.mv (c (n 0)))]),
 (.block 4 (.loop (q [(.reg [o 42 (b .lss 41 40)]),
 (i 42 .skip (.exit 4)),
 (.block 5 (q [(.reg [o 43 (ia 1 39 41),o 44 (l 43),o 12 (m 44)]),
 (.reg [o 45 (m 10),o 46 (m 9),o 47 (m 12),o 48 (ia 1 46 47),o 49 (l 48),o 50 (m 1),o 51 (.call 99 [(t 49),(t 50)]),o 52 (.bslice 1 1 [(u 0)] [(0,(t 51))]),o 53 (.app 1 8 (t 45) (t 52)),o 10 (m 53)])])),
 (.reg [o 54 (bc .add 41 (n 1)),o 41 (m 54)])])))]),
 (.reg [o 55 (f 2 5),o 56 (l 55),o 57 (m 10),o 58 (.bslice 1 1 [(.nils 1)] [(0,(t 57))]),o 59 (.app 1 24 (t 56) (t 58)),o 60 (f 2 5),w (.store 1 (t 60) (t 59))])])),
 (.reg [o 61 (bc .add 35 (n 1)),o 35 (m 61)])])))]),
 (.reg [o 62 (la 3 5),w (.store 3 (t 4) (t 62))]),
 .ret])⟩
def zi4:CFn:=⟨11,[],(q [(.reg [o 3 (m 0),o 4 (ln 3),o 2 (m 4)]),
 (.reg [o 5 (m 0),o 6 (m 2),o 7 (m 2),o 8 (.conv .u64 (t 7)),o 9 (.call 101 [(t 8)]),o 10 (.call 100 [(t 5),(c (n 0)),(t 6),(t 9)])])])⟩
def zhG:CFn:=⟨61,[.tmp 2],(q [(.reg [o 2 (.mv (c (.nils 1)))]),
 (q [(.reg [o 6 (m 0),o 7 (ln 6),o 8 (bc .lss 7 (n 2))]),
 (i 8 (q [(.reg [o 9 (m 0),o 2 (m 9)]),
 .ret]) .skip)]),
 (q [(.reg [o 3 (.mv (c (n 1)))]),
 (.block 0 (.loop (q [(q [(.reg [o 10 (m 3),o 11 (m 0),o 12 (ln 11),o 13 (b .lss 10 12)]),
 (i 13 .skip (.exit 0))]),
 (.block 1 (q [(.regd [o 16 (m 0),o 17 (m 3),o 18 (ia 1 16 17),o 19 (l 18),o 20 (m 0),o 21 (m 3),o 22 (bc .sub 21 (n 1)),o 23 (ia 1 20 22),o 24 (l 23),o 25 (b .eql 19 24)] [0,0,3,7,0,0,32,112,240,511]),
 (i 25 (q [(.reg [o 26 (m 0),o 27 (m 3),o 28 (.slice 1 (t 26) (some (t 27)) none),o 4 (m 28)]),
 (q [(.reg [o 5 (.mv (c (n 1)))]),
 (.block 2 (.loop (q [(q [(.reg [o 29 (m 5),o 30 (m 4),o 31 (ln 30),o 32 (b .lss 29 31)]),
 (i 32 .skip (.exit 2))]),
 (.block 3 (q [(.regd [o 35 (m 4),o 36 (m 5),o 37 (ia 1 35 36),o 38 (l 37),o 39 (m 4),o 40 (m 5),o 41 (bc .sub 40 (n 1)),o 42 (ia 1 39 41),o 43 (l 42),o 44 (b .neq 38 43)] [0,0,3,7,0,0,32,112,240,511]),
 (i 44 (q [(.reg [o 45 (m 0),o 46 (m 3),o 47 (m 4),o 48 (m 5),o 49 (ia 1 47 48),o 50 (l 49),o 51 (ia 1 45 46),w (.store 1 (t 51) (t 50))]),
 (.reg [o 52 (m 3),o 53 (bc .add 52 (n 1)),o 3 (m 53)])]) .skip)])),
 (.reg [o 33 (m 5),o 34 (bc .add 33 (n 1)),o 5 (m 34)])])))]),
 (.reg [o 54 (m 0),o 55 (m 3),o 56 (.slice 1 (t 54) (some (t 55)) none),w (.clear 1 [(n 0)] (t 56))]),
 (.reg [o 57 (m 0),o 58 (m 3),o 59 (.slice 1 (t 57) none (some (t 58))),o 2 (m 59)]),
 .ret]) .skip)])),
 (.reg [o 14 (m 3),o 15 (bc .add 14 (n 1)),o 3 (m 15)])])))]),
 (.reg [o 60 (m 0),o 2 (m 60)]),
 .ret])⟩
def zqo:CFn:=⟨26,[.tmp 2],(q [(.reg [o 2 (.mv (c (n 0)))]),
 (q [(.reg [o 6 (m 0),o 7 (ln 6),o 8 (bc .eql 7 (n 0))]),
 (i 8 (q [(.reg [o 2 (.mv (c (n 3)))]),
 .ret]) .skip)]),
 (q [(.reg [o 9 (m 0),o 10 (ln 9),o 11 (bc .gtr 10 (n 200))]),
 (i 11 (q [(.reg [o 2 (.mv (c (n 8)))]),
 .ret]) .skip)]),
 (q [(.reg [o 12 (m 0),o 13 (ln 12),o 14 (.mv (c (n 0)))]),
 (.block 0 (.loop (q [(.reg [o 15 (b .lss 14 13)]),
 (i 15 .skip (.exit 0)),
 (.block 1 (q [(.reg [o 16 (m 14),o 17 (ia 6 12 14),o 18 (la 6 17),o 4 (.alloc [(n 0),(n 0),(n 0),(n 0),(n 0),(n 0)]),o 3 (m 16),w (.store 6 (t 4) (t 18))]),
 (.reg [o 19 (la 6 4),o 20 (m 3),o 21 (.call 107 [(t 19),(t 20)]),o 5 (m 21)]),
 (.reg [o 22 (m 5),o 23 (bc .neq 22 (n 0))]),
 (i 23 (q [(.reg [o 24 (m 5),o 2 (m 24)]),
 .ret]) .skip)])),
 (.reg [o 25 (bc .add 14 (n 1)),o 14 (m 25)])])))]),
 (.reg [o 2 (.mv (c (n 0)))]),
 .ret])⟩
def zrN:CFn:=⟨25,[.tmp 6],(q [(.reg [o 6 (.mv (c .bf))]),
 (.reg [o 7 (.mv (c (.fn zfJ [])))]),
 (.reg [o 8 (m 0),o 9 (.call 73 [(t 8)]),o 10 (bc .eql 9 (n 0)),o 11 (m 10),g 12 11 true (m 7),g 13 11 true (m 0),g 14 11 true (.call 110 [(t 13)]),g 15 11 true (m 1),g 16 11 true (.callv (t 12) [(t 14),(t 15)]),o 17 (pf 11 16),o 18 (m 17),g 19 18 true (m 7),g 20 18 true (m 0),g 21 18 true (.call 111 [(t 20)]),g 22 18 true (m 2),g 23 18 true (.callv (t 19) [(t 21),(t 22)]),o 24 (pf 18 23),o 6 (m 24)]),
 .ret])⟩
def zgd:CFn:=⟨8,[.tmp 2],(q [(.reg [o 2 (.mv (c (.nils 1)))]),
 (q [(.reg [o 3 (m 0),o 4 (.eqN false (t 3) (c (.nils 1)))]),
 (i 4 (q [(.reg [o 2 (.mv (c (.nils 1)))]),
 .ret]) .skip)]),
 (.reg [o 5 (.bslice 1 0 [(u 0)] []),o 6 (m 0),o 7 (.app 1 8 (t 5) (t 6)),o 2 (m 7)]),
 .ret])⟩
def zge:CFn:=⟨26,[.tmp 4],(q [(.reg [o 4 (.mv (c .bf))]),
 (q [(.reg [o 6 (m 0),o 7 (ln 6),o 8 (m 1),o 9 (ln 8),o 10 (b .neq 7 9)]),
 (i 10 (q [(.reg [o 4 (.mv (c .bf))]),
 .ret]) .skip)]),
 (q [(.reg [o 11 (m 0),o 12 (ln 11),o 13 (.mv (c (n 0)))]),
 (.block 0 (.loop (q [(.reg [o 14 (b .lss 13 12)]),
 (i 14 .skip (.exit 0)),
 (.block 1 (q [(.reg [o 15 (m 13),o 5 (m 15)]),
 (.regd [o 16 (m 0),o 17 (m 5),o 18 (ia 1 16 17),o 19 (l 18),o 20 (m 1),o 21 (m 5),o 22 (ia 1 20 21),o 23 (l 22),o 24 (b .neq 19 23)] [0,0,3,7,0,0,48,112,255]),
 (i 24 (q [(.reg [o 4 (.mv (c .bf))]),
 .ret]) .skip)])),
 (.reg [o 25 (bc .add 13 (n 1)),o 13 (m 25)])])))]),
 (.reg [o 4 (.mv (c .bt))]),
 .ret])⟩
def zcc:CFn:=⟨32,[.tmp 6],(q [(.reg [o 6 (.mv (c .bf))]),
 (q [(.reg [o 10 (m 0),o 11 (ln 10),o 12 (m 1),o 13 (ln 12),o 14 (b .neq 11 13)]),
 (i 14 (q [(.reg [o 6 (.mv (c .bf))]),
 .ret]) .skip)]),
 (q [(.reg [o 15 (m 0),o 16 (ln 15),o 17 (.mv (c (n 0)))]),
 (.block 0 (.loop (q [(.reg [o 18 (b .lss 17 16)]),
 (i 18 .skip (.exit 0)),
 (.block 1 (q [(.reg [o 19 (m 17),o 20 (ia 1 15 17),o 21 (l 20),o 7 (m 19),o 8 (m 21)]),
 (.reg [o 22 (m 1),o 23 (m 7),o 24 (ia 1 22 23),o 25 (l 24),o 9 (m 25)]),
 (.reg [o 26 (m 2),o 27 (m 8),o 28 (m 9),o 29 (.callv (t 26) [(t 27),(t 28)]),o 30 (.un .not (t 29))]),
 (i 30 (q [(.reg [o 6 (.mv (c .bf))]),
 .ret]) .skip)])),
 (.reg [o 31 (bc .add 17 (n 1)),o 17 (m 31)])])))]),
 (.reg [o 6 (.mv (c .bt))]),
 .ret])⟩
def zrR:CFn:=⟨8,[.tmp 4],(q [(.reg [o 4 (.mv (c .bf))]),
 (.reg [o 5 (m 0),o 6 (m 1),o 7 (.call 82 [(t 5),(t 6)]),o 4 (m 7)]),
 .ret])⟩
def zn1:CFn:=⟨33,[.tmp 4,.tmp 5],(q [(.reg [o 2 (.box 3 (t 0)),o 4 (.mv (c (.nils 1))),o 5 (.mv (c (n 0)))]),
 (.reg [o 6 (.mv (c (.nils 1)))]),
 (q [(.reg [o 9 (f 0 2),o 10 (l 9),o 11 (.mv (c (n 0)))]),
 (.block 0 (.loop (q [(.reg [o 12 (b .lss 11 10)]),
 (i 12 .skip (.exit 0)),
 (.block 1 (q [(.reg [o 13 (m 11),o 7 (m 13)]),
 (.reg [o 8 (.mv (c (n 1)))]),
 (q [(.reg [o 14 (m 7),o 15 (m 1),o 16 (b .eql 14 15)]),
 (i 16 (.reg [o 8 (.mv (c (n 0)))]) .skip)]),
 (.reg [o 17 (m 6),o 18 (m 8),o 19 (.bslice 1 1 [(n 0)] [(0,(t 18))]),o 20 (la 3 2),o 21 (m 7),o 22 (.call 51 [(t 20),(t 21)]),o 23 (.bslice 1 1 [(n 0)] [(0,(t 22))]),o 24 (.bslice 1 2 [(.nils 1)] [(0,(t 19)),(1,(t 23))]),o 25 (.bslice 1 1 [(.nils 1)] [(0,(t 24))]),o 26 (.app 1 24 (t 17) (t 25)),o 6 (m 26)])])),
 (.reg [o 27 (bc .add 11 (n 1)),o 11 (m 27)])])))]),
 (.reg [o 28 (m 6),o 29 (.fnew zcI [(t 2)]),o 30 (.call 121 [(t 28),(t 29)]),o 31 (e 30 0),o 32 (e 30 1),o 4 (m 31),o 5 (m 32)]),
 .ret])⟩
def zrQ:CFn:=⟨61,[.cell 4 (some 3),.tmp 5],(q [(.reg [o 2 (.box 3 (t 0)),o 4 (.alloc [(n 0),(.nils 1),(.nils 1)]),o 5 (.mv (c (n 0)))]),
 (q [(.reg [o 11 (la 3 2),o 12 (.call 32 [(t 11)]),o 6 (m 12)]),
 (.reg [o 13 (m 6),o 14 (bc .neq 13 (n 0))]),
 (i 14 (q [(.reg [o 15 (.build [(n 0),(.nils 1),(.nils 1)] []),o 16 (m 6),w (.store 3 (t 4) (t 15)),o 5 (m 16)]),
 .ret]) .skip)]),
 (q [(.reg [o 17 (m 1),o 18 (ln 17),o 19 (f 0 2),o 20 (l 19),o 21 (b .neq 18 20)]),
 (i 21 (q [(.reg [o 22 (.build [(n 0),(.nils 1),(.nils 1)] []),w (.store 3 (t 4) (t 22)),o 5 (.mv (c (n 1)))]),
 .ret]) .skip)]),
 (.reg [o 23 (m 1),o 24 (ln 23),o 25 (.mkslice 1 8 [(n 0)] (t 24) (t 24)),o 7 (m 25)]),
 (.reg [o 8 (.mv (c (u 0)))]),
 (q [(.reg [o 26 (m 1),o 27 (ln 26),o 28 (.mv (c (n 0)))]),
 (.block 0 (.loop (q [(.reg [o 29 (b .lss 28 27)]),
 (i 29 .skip (.exit 0)),
 (.block 1 (q [(.reg [o 30 (m 28),o 31 (ia 1 26 28),o 32 (l 31),o 9 (m 30),o 10 (m 32)]),
 (q [(.reg [o 33 (m 10),o 34 (bc .lss 33 (n 0)),o 35 (m 34),g 36 35 false (m 10),g 37 35 false (m 1),g 38 35 false (ln 37),g 39 35 false (b .geq 36 38),o 40 (pt 35 39),o 41 (m 40),g 42 41 false (m 8),g 43 41 false (m 10),g 44 41 false (b .shr 42 43),g 45 41 false (bc .and 44 (u 1)),g 46 41 false (bc .eql 45 (u 1)),o 47 (pt 41 46)]),
 (i 47 (q [(.reg [o 48 (.build [(n 0),(.nils 1),(.nils 1)] []),w (.store 3 (t 4) (t 48)),o 5 (.mv (c (n 1)))]),
 .ret]) .skip)]),
 (.reg [o 49 (m 8),o 50 (m 10),o 51 (.bin .shl (c (u 1)) (t 50)),o 52 (b .or 49 51),o 8 (m 52)]),
 (.reg [o 53 (m 7),o 54 (m 10),o 55 (m 9),o 56 (ia 1 53 54),w (.store 1 (t 56) (t 55))])])),
 (.reg [o 57 (bc .add 28 (n 1)),o 28 (m 57)])])))]),
 (.reg [o 58 (la 3 2),o 59 (m 7),o 60 (.call 66 [(t 58),(t 59)]),w (.store 3 (t 4) (t 60)),o 5 (.mv (c (n 0)))]),
 .ret])⟩
def zix:CFn:=⟨8,[.tmp 2],(q [(.reg [o 2 (.mv (c (.nils 1)))]),
 (q [(.reg [o 3 (m 0),o 4 (.eqN false (t 3) (c (.nils 1)))]),
 (i 4 (q [(.reg [o 2 (.mv (c (.nils 1)))]),
 .ret]) .skip)]),
 (.reg [o 5 (.bslice 1 0 [(n 0)] []),o 6 (m 0),o 7 (.app 1 8 (t 5) (t 6)),o 2 (m 7)]),
 .ret])⟩
def zrT:CFn:=⟨30,[.tmp 4],(q [(.reg [o 4 (.mv (c (u 0)))]),
 (q [(.reg [o 7 (m 0),o 8 (ln 7),o 9 (m 0),o 10 (.call 124 [(t 8),(t 9)]),o 11 (bc .neq 10 (n 0))]),
 (i 11 (q [(.reg [o 4 (.mv (c (u 0)))]),
 .ret]) .skip)]),
 (.reg [o 5 (.mv (c (u 0)))]),
 (q [(.reg [o 12 (m 0),o 13 (ln 12),o 14 (.mv (c (n 0)))]),
 (.block 0 (.loop (q [(.reg [o 15 (b .lss 14 13)]),
 (i 15 .skip (.exit 0)),
 (.block 1 (q [(.reg [o 16 (m 14),o 6 (m 16)]),
 (.reg [o 17 (m 0),o 18 (m 6),o 19 (ia 1 17 18),o 20 (l 19),o 21 (m 1),o 22 (b .andNot 20 21),o 23 (bc .eql 22 (u 0))]),
 (i 23 (.reg [o 24 (m 5),o 25 (m 6),o 26 (.bin .shl (c (u 1)) (t 25)),o 27 (b .or 24 26),o 5 (m 27)]) .skip)])),
 (.reg [o 28 (bc .add 14 (n 1)),o 14 (m 28)])])))]),
 (.reg [o 29 (m 5),o 4 (m 29)]),
 .ret])⟩
def zmk:CFn:=⟨18,[.tmp 4],(q [(.reg [o 4 (.mv (c (u 0)))]),
 (q [(.reg [o 5 (m 0),o 6 (ln 5),o 7 (m 0),o 8 (.call 124 [(t 6),(t 7)]),o 9 (bc .neq 8 (n 0))]),
 (i 9 (q [(.reg [o 4 (.mv (c (u 0)))]),
 .ret]) .skip)]),
 (.reg [o 10 (m 0),o 11 (ln 10),o 12 (.call 125 [(t 11)]),o 13 (m 0),o 14 (m 1),o 15 (.un .xor (t 14)),o 16 (.call 88 [(t 13),(t 15)]),o 17 (b .andNot 12 16),o 4 (m 17)]),
 .ret])⟩
def zul:CFn:=⟨8,[.tmp 4],(q [(.reg [o 2 (.box 3 (t 0)),o 4 (.mv (c (.nils 1)))]),
 (.reg [o 5 (la 3 2),o 6 (m 1),o 7 (.call 126 [(t 5),(t 6),(c (.fn zgO []))]),o 4 (m 7)]),
 .ret])⟩
def ztB:CFn:=⟨8,[.tmp 4],(q [(.reg [o 2 (.box 3 (t 0)),o 4 (.mv (c (.nils 1)))]),
 (.reg [o 5 (la 3 2),o 6 (m 1),o 7 (.call 126 [(t 5),(t 6),(c (.fn zgl []))]),o 4 (m 7)]),
 .ret])⟩
def zo6:CFn:=⟨26,[.tmp 8],(q [(.reg [o 8 (.mv (c (u 0)))]),
 (.reg [o 11 (m 1),o 9 (m 11)]),
 (.block 0 (.loop (.block 1 (q [(.reg [o 12 (m 0),o 13 (m 1),o 14 (m 2),o 15 (b .andNot 13 14),o 16 (m 3),o 17 (m 9),o 18 (b .and 16 17),o 19 (b .or 15 18),o 20 (.call 88 [(t 12),(t 19)]),o 10 (m 20)]),
 (q [(.reg [o 21 (m 10),o 22 (m 9),o 23 (b .eql 21 22)]),
 (i 23 (q [(.reg [o 24 (m 9),o 8 (m 24)]),
 .ret]) .skip)]),
 (.reg [o 25 (m 10),o 9 (m 25)])]))))])⟩
def zty:CFn:=⟨21,[.tmp 4],(q [(.reg [o 4 (.mv (c (.nils 6)))]),
 (q [(.reg [o 5 (m 0),o 6 (.call 73 [(t 5)]),o 7 (bc .neq 6 (n 0)),o 8 (m 7),g 9 8 false (m 1),g 10 8 false (bc .lss 9 (n 0)),o 11 (pt 8 10),o 12 (m 11),g 13 12 false (m 1),g 14 12 false (m 0),g 15 12 false (ln 14),g 16 12 false (b .geq 13 15),o 17 (pt 12 16)]),
 (i 17 (q [(.reg [o 4 (.mv (c (.nils 6)))]),
 .ret]) .skip)]),
 (.reg [o 18 (m 0),o 19 (m 1),o 20 (.call 108 [(t 18),(t 19)]),o 4 (m 20)]),
 .ret])⟩
def zrK:CFn:=⟨6,[.tmp 4],(q [(.reg [o 2 (.box 3 (t 0)),o 3 (.box 1 (t 1)),o 4 (.mv (c (.d .nil)))]),
 (.reg [o 5 (.fnew zd7 [(t 2),(t 3)]),o 4 (m 5)]),
 .ret])⟩
def ziy:CFn:=⟨26,[.tmp 4],(q [(.reg [o 4 (.mv (c .bf))]),
 (q [(.reg [o 6 (m 0),o 7 (ln 6),o 8 (m 1),o 9 (ln 8),o 10 (b .neq 7 9)]),
 (i 10 (q [(.reg [o 4 (.mv (c .bf))]),
 .ret]) .skip)]),
 (q [(.reg [o 11 (m 0),o 12 (ln 11),o 13 (.mv (c (n 0)))]),
 (.block 0 (.loop (q [(.reg [o 14 (b .lss 13 12)]),
 (i 14 .skip (.exit 0)),
 (.block 1 (q [(.reg [o 15 (m 13),o 5 (m 15)]),
 (.regd [o 16 (m 0),o 17 (m 5),o 18 (ia 1 16 17),o 19 (l 18),o 20 (m 1),o 21 (m 5),o 22 (ia 1 20 21),o 23 (l 22),o 24 (b .neq 19 23)] [0,0,3,7,0,0,48,112,255]),
 (i 24 (q [(.reg [o 4 (.mv (c .bf))]),
 .ret]) .skip)])),
 (.reg [o 25 (bc .add 13 (n 1)),o 13 (m 25)])])))]),
 (.reg [o 4 (.mv (c .bt))]),
 .ret])⟩
def zeC:CFn:=⟨9,[.tmp 4],(q [(.reg [o 4 (.mv (c .bf))]),
 (.reg [o 5 (m 0),o 6 (m 1),o 7 (.call 133 [(t 5),(t 6)]),o 8 (bc .geq 7 (n 0)),o 4 (m 8)]),
 .ret])⟩
def zn5:CFn:=⟨9,[.tmp 3],(q [(.reg [o 3 (.mv (c .bf))]),
 (.reg [o 4 (m 0),o 5 (l 1),o 6 (.call 63 [(t 5)]),o 7 (b .andNot 4 6),o 8 (bc .neq 7 (u 0)),o 3 (m 8)]),
 .ret])⟩
def zeH:CFn:=⟨19,[.tmp 4],(q [(.reg [o 4 (.mv (c (n 0)))]),
 (q [(.reg [o 6 (m 0),o 7 (ln 6),o 8 (.mv (c (n 0)))]),
 (.block 0 (.loop (q [(.reg [o 9 (b .lss 8 7)]),
 (i 9 .skip (.exit 0)),
 (.block 1 (q [(.reg [o 10 (m 8),o 5 (m 10)]),
 (.reg [o 11 (m 1),o 12 (m 0),o 13 (m 5),o 14 (ia 1 12 13),o 15 (l 14),o 16 (.callv (t 11) [(t 15)])]),
 (i 16 (q [(.reg [o 17 (m 5),o 4 (m 17)]),
 .ret]) .skip)])),
 (.reg [o 18 (bc .add 8 (n 1)),o 8 (m 18)])])))]),
 (.reg [o 4 (.mv (c (n (-1))))]),
 .ret])⟩
def zun:CFn:=⟨25,[.tmp 4],(q [(.reg [o 4 (.mv (c (u 0)))]),
 (.reg [o 5 (.mv (c (u 0)))]),
 (q [(.reg [o 8 (m 1),o 9 (ln 8),o 10 (.mv (c (n 0)))]),
 (.block 0 (.loop (q [(.reg [o 11 (b .lss 10 9)]),
 (i 11 .skip (.exit 0)),
 (.block 1 (q [(.reg [o 12 (m 10),o 13 (ia 1 8 10),o 14 (l 13),o 6 (m 12),o 7 (m 14)]),
 (.reg [o 15 (m 5),o 16 (m 0),o 17 (m 7),o 18 (b .shr 16 17),o 19 (bc .and 18 (u 1)),o 20 (m 6),o 21 (b .shl 19 20),o 22 (b .or 15 21),o 5 (m 22)])])),
 (.reg [o 23 (bc .add 10 (n 1)),o 10 (m 23)])])))]),
 (.reg [o 24 (m 5),o 4 (m 24)]),
 .ret])⟩
def zgK:CFn:=⟨134,[],(q [(.reg [o 8 (.mv (c .bt))]),
 (.reg [o 9 (.mv (c .bt))]),
 (.block 0 (.loop (.block 1 (q [(.reg [o 19 (m 2),o 20 (m 1),o 21 (b .sub 19 20),o 10 (m 21)]),
 (q [(.reg [o 22 (m 10),o 23 (bc .leq 22 (n 12))]),
 (i 23 (q [(.reg [o 24 (m 0),o 25 (m 1),o 26 (m 2),o 27 (.call 134 [(t 24),(t 25),(t 26)])]),
 .ret]) .skip)]),
 (q [(.reg [o 28 (m 3),o 29 (bc .eql 28 (n 0))]),
 (i 29 (q [(.reg [o 30 (m 0),o 31 (m 1),o 32 (m 2),o 33 (.call 135 [(t 30),(t 31),(t 32)])]),
 .ret]) .skip)]),
 (q [(.reg [o 34 (m 8),o 35 (.un .not (t 34))]),
 (i 35 (q [(.reg [o 36 (m 0),o 37 (m 1),o 38 (m 2),o 39 (.call 136 [(t 36),(t 37),(t 38)])]),
 (.reg [o 40 (m 3),o 41 (bc .sub 40 (n 1)),o 3 (m 41)])]) .skip)]),
 (.reg [o 43 (m 0),o 44 (m 1),o 45 (m 2),o 46 (.call 137 [(t 43),(t 44),(t 45)]),o 42 (m 46),o 47 (e 42 0),o 48 (e 42 1),o 11 (m 47),o 12 (m 48)]),
 (q [(.reg [o 49 (m 12),o 50 (bc .eql 49 (n 2))]),
 (i 50 (q [(.reg [o 51 (m 0),o 52 (m 1),o 53 (m 2),o 54 (.call 138 [(t 51),(t 52),(t 53)])]),
 (.reg [o 55 (m 2),o 56 (bc .sub 55 (n 1)),o 57 (m 11),o 58 (m 1),o 59 (b .sub 57 58),o 60 (b .sub 56 59),o 11 (m 60)]),
 (.reg [o 12 (.mv (c (n 1)))])]) .skip)]),
 (q [(.reg [o 61 (m 8),o 62 (m 61),g 63 62 true (m 9),o 64 (pf 62 63),o 65 (m 64),g 66 65 true (m 12),g 67 65 true (bc .eql 66 (n 1)),o 68 (pf 65 67)]),
 (i 68 (q [(.reg [o 69 (m 0),o 70 (m 1),o 71 (m 2),o 72 (.call 139 [(t 69),(t 70),(t 71)])]),
 (i 72 .ret .skip)]) .skip)]),
 (q [(.regd [o 73 (m 1),o 74 (bc .gtr 73 (n 0)),o 75 (m 74),g 76 75 true (m 0),g 77 75 true (m 1),g 78 75 true (bc .sub 77 (n 1)),g 79 75 true (ia 1 76 78),g 80 75 true (l 79),g 81 75 true (m 0),g 82 75 true (m 11),g 83 75 true (ia 1 81 82),g 84 75 true (l 83),g 85 75 true (.call 140 [(t 80),(t 84)]),g 86 75 true (.un .not (t 85)),o 87 (pf 75 86)] [0,1,3,7,7,23,63,127,7,7,775,1799,4095,8191,16383]),
 (i 87 (q [(.reg [o 88 (m 0),o 89 (m 1),o 90 (m 2),o 91 (m 11),o 92 (.call 141 [(t 88),(t 89),(t 90),(t 91)]),o 13 (m 92)]),
 (.reg [o 93 (m 13),o 1 (m 93)]),
 (.exit 1)]) .skip)]),
 (.reg [o 95 (m 0),o 96 (m 1),o 97 (m 2),o 98 (m 11),o 99 (.call 142 [(t 95),(t 96),(t 97),(t 98)]),o 94 (m 99),o 100 (e 94 0),o 101 (e 94 1),o 14 (m 100),o 15 (m 101)]),
 (.reg [o 102 (m 15),o 9 (m 102)]),
 (.reg [o 103 (m 14),o 104 (m 1),o 105 (b .sub 103 104),o 106 (m 2),o 107 (m 14),o 108 (b .sub 106 107),o 16 (m 105),o 17 (m 108)]),
 (.reg [o 109 (m 10),o 110 (bc .quo 109 (n 8)),o 18 (m 110)]),
 (.reg [o 111 (m 16),o 112 (m 17),o 113 (b .lss 111 112)]),
 (i 113 (q [(.reg [o 114 (m 16),o 115 (m 18),o 116 (b .geq 114 115),o 8 (m 116)]),
 (.reg [o 117 (m 0),o 118 (m 1),o 119 (m 14),o 120 (m 3),o 121 (.call 100 [(t 117),(t 118),(t 119),(t 120)])]),
 (.reg [o 122 (m 14),o 123 (bc .add 122 (n 1)),o 1 (m 123)])]) (q [(.reg [o 124 (m 17),o 125 (m 18),o 126 (b .geq 124 125),o 8 (m 126)]),
 (.reg [o 127 (m 0),o 128 (m 14),o 129 (bc .add 128 (n 1)),o 130 (m 2),o 131 (m 3),o 132 (.call 100 [(t 127),(t 129),(t 130),(t 131)])]),
 (.reg [o 133 (m 14),o 2 (m 133)])]))]))))])⟩
def zqs:CFn:=⟨8,[.tmp 2],(q [(.reg [o 2 (.mv (c (n 0)))]),
 (.cond (c .bf) (q [(.reg [o 3 (m 0),o 4 (.conv .u32 (t 3)),o 5 (.call 143 [(t 4)]),o 2 (m 5)]),
 .ret]) .skip),
 (.reg [o 6 (m 0),o 7 (.call 144 [(t 6)]),o 2 (m 7)]),
 .ret])⟩
def zmd:CFn:=⟨20,[.tmp 4],(q [(.reg [o 4 (.mv (c (n 0)))]),
 (.reg [o 7 (m 0),o 8 (.call 145 [(t 7)]),o 5 (m 8)]),
 (.reg [o 9 (m 1),o 10 (.call 145 [(t 9)]),o 6 (m 10)]),
 (q [(.reg [o 11 (m 5)]),
 (i 11 (q [(q [(.reg [o 12 (m 6)]),
 (i 12 (q [(.reg [o 4 (.mv (c (n 0)))]),
 .ret]) .skip)]),
 (.reg [o 4 (.mv (c (n (-1))))]),
 .ret]) .skip)]),
 (q [(.reg [o 13 (m 6)]),
 (i 13 (q [(.reg [o 4 (.mv (c (n 1)))]),
 .ret]) .skip)]),
 (q [(.reg [o 14 (m 0),o 15 (m 1),o 16 (b .lss 14 15)]),
 (i 16 (q [(.reg [o 4 (.mv (c (n (-1))))]),
 .ret]) .skip)]),
 (q [(.reg [o 17 (m 0),o 18 (m 1),o 19 (b .gtr 17 18)]),
 (i 19 (q [(.reg [o 4 (.mv (c (n 1)))]),
 .ret]) .skip)]),
 (.reg [o 4 (.mv (c (n 0)))]),
 .ret])⟩
def zlY:CFn:=⟨106,[.tmp 4],(q [(.reg [o 2 (.box 6 (t 0)),o 4 (.mv (c (n 0)))]),
 (.reg [o 9 (f 0 2),o 10 (l 9),o 11 (.call 58 [(t 10)]),o 8 (m 11),o 12 (e 8 0),o 13 (e 8 1),o 5 (.alloc [.bf,.bf,.bf,.bf,.bf,.bf,(n 0)]),w (.store 7 (t 5) (t 12)),o 6 (m 13)]),
 (q [(.reg [o 14 (m 6),o 15 (.un .not (t 14))]),
 (i 15 (q [(.reg [o 4 (.mv (c (n 10)))]),
 .ret]) .skip)]),
 (q [(.reg [o 16 (f 0 5),o 17 (l 16),o 18 (f 4 2),o 19 (l 18),o 20 (m 1),o 21 (.call 147 [(t 17),(t 19),(t 20)]),o 22 (.un .not (t 21)),o 23 (m 22),g 24 23 false (f 1 5),g 25 23 false (l 24),g 26 23 false (f 5 2),g 27 23 false (l 26),g 28 23 false (m 1),g 29 23 false (.call 147 [(t 25),(t 27),(t 28)]),g 30 23 false (.un .not (t 29)),o 31 (pt 23 30)]),
 (i 31 (q [(.reg [o 4 (.mv (c (n 3)))]),
 .ret]) .skip)]),
 (q [(.reg [o 32 (f 2 5),o 33 (l 32),o 34 (m 33),g 35 34 false (f 3 5),g 36 34 false (l 35),o 37 (pt 34 36),o 38 (m 37),g 39 38 false (f 5 5),g 40 38 false (l 39),o 41 (pt 38 40),o 42 (.un .not (t 41)),o 43 (m 42),g 44 43 true (f 1 2),g 45 43 true (l 44),g 46 43 true (bc .neq 45 (n 0)),o 47 (pf 43 46),o 48 (m 47),g 49 48 false (f 5 5),g 50 48 false (l 49),g 51 48 false (.un .not (t 50)),g 52 48 false (m 51),g 53 52 true (f 2 2),g 54 52 true (l 53),g 55 52 true (bc .neq 54 (n 0)),g 56 48 false (pf 52 55),o 57 (pt 48 56),o 58 (m 57),g 59 58 false (f 4 5),g 60 58 false (l 59),g 61 58 false (.un .not (t 60)),g 62 58 false (m 61),g 63 62 true (f 3 2),g 64 62 true (l 63),g 65 62 true (bc .neq 64 (n 0)),g 66 58 false (pf 62 65),o 67 (pt 58 66)]),
 (i 67 (q [(.reg [o 4 (.mv (c (n 3)))]),
 .ret]) .skip)]),
 (.reg [o 7 (.mv (c (.fn zdH [])))]),
 (q [(.reg [o 68 (m 7),o 69 (f 2 5),o 70 (l 69),o 71 (f 1 2),o 72 (l 71),o 73 (.callv (t 68) [(t 70),(t 72),(c (n 0)),(c (n 7))]),o 74 (m 73),g 75 74 false (m 7),g 76 74 false (f 3 5),g 77 74 false (l 76),g 78 74 false (f 1 2),g 79 74 false (l 78),g 80 74 false (.callv (t 75) [(t 77),(t 79),(c (n 0)),(c (n 3))]),o 81 (pt 74 80),o 82 (m 81),g 83 82 false (m 7),g 84 82 false (f 5 5),g 85 82 false (l 84),g 86 82 false (f 1 2),g 87 82 false (l 86),g 88 82 false (.callv (t 83) [(t 85),(t 87),(c (n 0)),(c (n 7))]),o 89 (pt 82 88),o 90 (m 89),g 91 90 false (m 7),g 92 90 false (f 5 5),g 93 90 false (l 92),g 94 90 false (f 2 2),g 95 90 false (l 94),g 96 90 false (.callv (t 91) [(t 93),(t 95),(c (n 0)),(c (n 7))]),o 97 (pt 90 96),o 98 (m 97),g 99 98 false (m 7),g 100 98 false (f 4 5),g 101 98 false (l 100),g 102 98 false (f 3 2),g 103 98 false (l 102),g 104 98 false (.callv (t 99) [(t 101),(t 103),(c (n 1)),(c (n 15))]),o 105 (pt 98 104)]),
 (i 105 (q [(.reg [o 4 (.mv (c (n 2)))]),
 .ret]) .skip)]),
 (.reg [o 4 (.mv (c (n 0)))]),
 .ret])⟩
def znZ:CFn:=⟨16,[.tmp 4],(q [(.reg [o 2 (.box 1 (t 0)),o 4 (.mv (c (.nils 6)))]),
 (.reg [o 5 (.alloc [(.nils 6)])]),
 (.reg [o 9 .mkmap,o 6 (.alloc [(.d .nil)]),w (.store 1 (t 6) (t 9))]),
 (.reg [o 10 .mkmap,o 7 (.alloc [(.d .nil)]),w (.store 1 (t 7) (t 10))]),
 (.reg [o 8 (.alloc [(.d .nil)])]),
 (.reg [o 11 (.fnew zk [(t 7),(t 2),(t 8),(t 6),(t 5)]),w (.store 1 (t 8) (t 11))]),
 (.reg [o 12 (l 8),o 13 (m 1),o 14 (.callv (t 12) [(t 13)])]),
 (.reg [o 15 (l 5),o 4 (m 15)]),
 .ret])⟩
def zo9:CFn:=⟨14,[.tmp 4],(q [(.reg [o 4 (.mv (c .bf))]),
 (.reg [o 5 (m 1),o 6 (bc .geq 5 (n 31)),o 7 (m 6),g 8 7 false (m 0),g 9 7 false (m 1),g 10 7 false (.mm true (t 9) (c (n 0))),g 11 7 false (b .shr 8 10),g 12 7 false (bc .eql 11 (n 0)),o 13 (pt 7 12),o 4 (m 13)]),
 .ret])⟩
def zo8:CFn:=⟨5,[.tmp 2],(q [(.reg [o 2 (.mv (c (n 0)))]),
 (.reg [o 3 (m 0),o 4 (.call 29 [(t 3),(c (.fn zeK []))]),o 2 (m 4)]),
 .ret])⟩
def zqp:CFn:=⟨5,[.tmp 2],(q [(.reg [o 2 (.mv (c (n 0)))]),
 (.reg [o 3 (m 0),o 4 (.call 29 [(t 3),(c (.fn zfk []))]),o 2 (m 4)]),
 .ret])⟩
def zn2:CFn:=⟨45,[.tmp 4,.tmp 5],(q [(.reg [o 4 (.mv (c (.nils 1))),o 5 (.mv (c (n 0)))]),
 (.reg [o 13 (m 0),o 14 (.call 161 [(t 13)]),o 12 (m 14),o 15 (e 12 0),o 16 (e 12 1),o 6 (m 15),o 7 (m 16)]),
 (.block 0 (.loop (.block 1 (q [(.reg [o 17 (m 6),o 18 (ln 17),o 19 (.mkslice 1 24 [(.nils 1)] (t 18) (t 18)),o 8 (m 19)]),
 (q [(.reg [o 20 (m 8),o 21 (ln 20),o 22 (.mv (c (n 0)))]),
 (.block 2 (.loop (q [(.reg [o 23 (b .lss 22 21)]),
 (i 23 .skip (.exit 2)),
 (.block 3 (q [(.reg [o 24 (m 22),o 9 (m 24)]),
 (.reg [o 25 (m 8),o 26 (m 9),o 27 (m 1),o 28 (m 6),o 29 (m 9),o 30 (.callv (t 27) [(t 28),(t 29)]),o 31 (ia 1 25 26),w (.store 1 (t 31) (t 30))])])),
 (.reg [o 32 (bc .add 22 (n 1)),o 22 (m 32)])])))]),
 (.reg [o 34 (m 8),o 35 (.call 161 [(t 34)]),o 33 (m 35),o 36 (e 33 0),o 37 (e 33 1),o 10 (m 36),o 11 (m 37)]),
 (q [(.reg [o 38 (m 11),o 39 (m 7),o 40 (b .eql 38 39)]),
 (i 40 (q [(.reg [o 41 (m 6),o 42 (m 7),o 4 (m 41),o 5 (m 42)]),
 .ret]) .skip)]),
 (.reg [o 43 (m 10),o 44 (m 11),o 6 (m 43),o 7 (m 44)])]))))])⟩
def zlZ:CFn:=⟨34,[.tmp 5],(q [(.reg [o 5 (.mv (c (.nils 1)))]),
 (.reg [o 9 (m 0),o 10 (m 1),o 11 (ia 1 9 10),o 12 (l 11),o 13 (.bslice 1 1 [(n 0)] [(0,(t 12))]),o 14 (.bslice 1 1 [(.nils 1)] [(0,(t 13))]),o 6 (m 14)]),
 (q [(.reg [o 15 (f 2 2),o 16 (l 15),o 17 (ln 16),o 18 (.mv (c (n 0)))]),
 (.block 0 (.loop (q [(.reg [o 19 (b .lss 18 17)]),
 (i 19 .skip (.exit 0)),
 (.block 1 (q [(.reg [o 20 (ia 1 16 18),o 21 (l 20),o 8 (m 21)]),
 (.reg [o 22 (m 6),o 23 (m 0),o 24 (m 8),o 25 (m 1),o 26 (ia 1 24 25),o 27 (l 26),o 28 (.call 123 [(t 23),(t 27)]),o 29 (.call 69 [(t 28)]),o 30 (.bslice 1 1 [(.nils 1)] [(0,(t 29))]),o 31 (.app 1 24 (t 22) (t 30)),o 6 (m 31)])])),
 (.reg [o 32 (bc .add 18 (n 1)),o 18 (m 32)])])))]),
 (.reg [o 33 (m 6),o 5 (m 33)]),
 .ret])⟩
def zn3:CFn:=⟨26,[.tmp 4],(q [(.reg [o 4 (.mv (c (.nils 1)))]),
 (.reg [o 5 (.mv (c (.nils 1)))]),
 (q [(.reg [o 8 (m 1),o 9 (.call 162 [(t 8)]),o 10 (ln 9),o 11 (.mv (c (n 0)))]),
 (.block 0 (.loop (q [(.reg [o 12 (b .lss 11 10)]),
 (i 12 .skip (.exit 0)),
 (.block 1 (q [(.reg [o 13 (ia 1 9 11),o 14 (l 13),o 7 (m 14)]),
 (.reg [o 15 (m 5),o 16 (m 0),o 17 (m 7),o 18 (ia 1 16 17),o 19 (l 18),o 20 (.bslice 1 1 [(n 0)] [(0,(t 19))]),o 21 (.app 1 8 (t 15) (t 20)),o 5 (m 21)])])),
 (.reg [o 22 (bc .add 11 (n 1)),o 11 (m 22)])])))]),
 (.reg [o 23 (m 5),o 24 (.call 68 [(t 23)])]),
 (.reg [o 25 (m 5),o 4 (m 25)]),
 .ret])⟩
def zpd:CFn:=⟨29,[.tmp 4],(q [(.reg [o 4 (.mv (c (n 0)))]),
 (q [(.reg [o 7 (m 0),o 8 (bc .lss 7 (n 0)),o 9 (m 8),g 10 9 false (m 0),g 11 9 false (bc .gtr 10 (n 64)),o 12 (pt 9 11)]),
 (i 12 (q [(.reg [o 4 (.mv (c (n 2)))]),
 .ret]) .skip)]),
 (q [(.reg [o 13 (m 1),o 14 (ln 13),o 15 (m 0),o 16 (b .neq 14 15)]),
 (i 16 (q [(.reg [o 4 (.mv (c (n 3)))]),
 .ret]) .skip)]),
 (q [(.reg [o 17 (m 1),o 18 (ln 17),o 19 (.mv (c (n 0)))]),
 (.block 0 (.loop (q [(.reg [o 20 (b .lss 19 18)]),
 (i 20 .skip (.exit 0)),
 (.block 1 (q [(.reg [o 21 (ia 1 17 19),o 22 (l 21),o 6 (m 22)]),
 (.reg [o 23 (m 6),o 24 (m 0),o 25 (.call 125 [(t 24)]),o 26 (b .andNot 23 25),o 27 (bc .neq 26 (u 0))]),
 (i 27 (q [(.reg [o 4 (.mv (c (n 1)))]),
 .ret]) .skip)])),
 (.reg [o 28 (bc .add 19 (n 1)),o 19 (m 28)])])))]),
 (.reg [o 4 (.mv (c (n 0)))]),
 .ret])⟩
def zrU:CFn:=⟨8,[.tmp 2],(q [(.reg [o 2 (.mv (c (u 0)))]),
 (q [(.reg [o 3 (m 0),o 4 (bc .geq 3 (n 64))]),
 (i 4 (q [(.reg [o 2 (.mv (c (u 18446744073709551615)))]),
 .ret]) .skip)]),
 (.reg [o 5 (m 0),o 6 (.bin .shl (c (u 1)) (t 5)),o 7 (bc .sub 6 (u 1)),o 2 (m 7)]),
 .ret])⟩
def zrS:CFn:=⟨64,[.tmp 6],(q [(.reg [o 3 (.box 3 (t 0)),o 6 (.mv (c (.nils 1)))]),
 (q [(.reg [o 11 (la 3 3),o 12 (.call 32 [(t 11)]),o 13 (bc .neq 12 (n 0)),o 14 (m 13),g 15 14 false (m 1),g 16 14 false (bc .lss 15 (n 1)),o 17 (pt 14 16),o 18 (m 17),g 19 18 false (m 1),g 20 18 false (f 2 3),g 21 18 false (l 20),g 22 18 false (ln 21),g 23 18 false (.bin .shl (c (n 1)) (t 22)),g 24 18 false (b .geq 19 23),o 25 (pt 18 24)]),
 (i 25 (q [(.reg [o 6 (.mv (c (.nils 1)))]),
 .ret]) .skip)]),
 (.reg [o 7 (.mv (c (.nils 1)))]),
 (q [(.reg [o 26 (f 2 3),o 27 (l 26),o 28 (ln 27),o 29 (.mv (c (n 0)))]),
 (.block 0 (.loop (q [(.reg [o 30 (b .lss 29 28)]),
 (i 30 .skip (.exit 0)),
 (.block 1 (q [(.reg [o 31 (m 29),o 32 (ia 1 27 29),o 33 (l 32),o 8 (m 31),o 9 (m 33)]),
 (q [(.reg [o 34 (m 1),o 35 (m 8),o 36 (b .shr 34 35),o 37 (bc .and 36 (n 1)),o 38 (bc .eql 37 (n 0))]),
 (i 38 (.exit 1) .skip)]),
 (q [(.reg [o 39 (m 7),o 40 (.eqN false (t 39) (c (.nils 1)))]),
 (i 40 (q [(.reg [o 41 (m 9),o 42 (.call 76 [(t 41)]),o 7 (m 42)]),
 (.exit 1)]) .skip)]),
 (.reg [o 43 (m 7),o 44 (ln 43),o 45 (.mv (c (n 0)))]),
 (.block 2 (.loop (q [(.reg [o 46 (b .lss 45 44)]),
 (i 46 .skip (.exit 2)),
 (.block 3 (q [(.reg [o 47 (m 45),o 10 (m 47)]),
 (.regd [o 48 (m 7),o 49 (m 10),o 50 (m 2),o 51 (m 7),o 52 (m 10),o 53 (ia 1 51 52),o 54 (l 53),o 55 (m 9),o 56 (m 10),o 57 (ia 1 55 56),o 58 (l 57),o 59 (.callv (t 50) [(t 54),(t 58)]),o 60 (ia 1 48 49),w (.store 1 (t 60) (t 59))] [0,0,0,0,0,24,56,0,0,384,896,2044,4095,8191])])),
 (.reg [o 61 (bc .add 45 (n 1)),o 45 (m 61)])])))])),
 (.reg [o 62 (bc .add 29 (n 1)),o 29 (m 62)])])))]),
 (.reg [o 63 (m 7),o 6 (m 63)]),
 .ret])⟩
def zrP:CFn:=⟨8,[.tmp 4],(q [(.reg [o 4 (.mv (c (u 0)))]),
 (.reg [o 5 (m 0),o 6 (m 1),o 7 (b .and 5 6),o 4 (m 7)]),
 .ret])⟩
def zqu:CFn:=⟨8,[.tmp 4],(q [(.reg [o 4 (.mv (c (u 0)))]),
 (.reg [o 5 (m 0),o 6 (m 1),o 7 (b .or 5 6),o 4 (m 7)]),
 .ret])⟩
def zo5:CFn:=⟨93,[],(q [(.reg [o 15 (f 0 1),o 16 (l 15),o 17 (.mkslice 1 8 [(n 0)] (t 16) (t 16)),o 4 (m 17)]),
 (.reg [o 18 (f 0 1),o 19 (l 18),o 20 (.mkslice 1 8 [(n 0)] (t 19) (t 19)),o 5 (m 20)]),
 (q [(.reg [o 21 (m 5),o 22 (ln 21),o 23 (.mv (c (n 0)))]),
 (.block 0 (.loop (q [(.reg [o 24 (b .lss 23 22)]),
 (i 24 .skip (.exit 0)),
 (.block 1 (q [(.reg [o 25 (m 23),o 6 (m 25)]),
 (.reg [o 26 (m 5),o 27 (m 6),o 28 (la 3 1),o 29 (m 6),o 30 (.call 51 [(t 28),(t 29)]),o 31 (ia 1 26 27),w (.store 1 (t 31) (t 30))])])),
 (.reg [o 32 (bc .add 23 (n 1)),o 23 (m 32)])])))]),
 (.reg [o 34 (m 4),o 35 (m 5),o 36 (.call 130 [(t 34),(t 35)]),o 33 (m 36),o 37 (e 33 0),o 38 (e 33 1),o 4 (m 37)]),
 (.block 2 (.loop (q [(q [(.reg [o 39 (m 0),o 40 (m 4),o 41 (.callv (t 39) [(t 40)])]),
 (i 41 .skip (.exit 2))]),
 (.block 3 (q [(.reg [o 42 .mkmap,o 7 (m 42)]),
 (.reg [o 43 (f 0 1),o 44 (l 43),o 45 (.mkslice 1 8 [(n 0)] (t 44) (t 44)),o 8 (m 45)]),
 (q [(.reg [o 46 (m 8),o 47 (ln 46),o 48 (.mv (c (n 0)))]),
 (.block 4 (.loop (q [(.reg [o 49 (b .lss 48 47)]),
 (i 49 .skip (.exit 4)),
 (.block 5 (q [(.reg [o 50 (m 48),o 9 (m 50)]),
 (.reg [o 10 (.mv (c (.d (.str []))))]),
 (q [(.reg [o 51 (l 2),o 52 (ln 51),o 53 (.mv (c (n 0)))]),
 (.block 6 (.loop (q [(.reg [o 54 (b .lss 53 52)]),
 (i 54 .skip (.exit 6)),
 (.block 7 (q [(.reg [o 55 (ia 1 51 53),o 56 (l 55),o 12 (m 56)]),
 (.reg [o 57 (m 10),o 58 (m 4),o 59 (m 12),o 60 (m 9),o 61 (ia 1 59 60),o 62 (l 61),o 63 (.call 132 [(t 58),(t 62)]),o 64 (.call 131 [(t 63),(c (n 16))]),o 65 (bc .add 64 (.d (.str [32]))),o 66 (b .add 57 65),o 10 (m 66)])])),
 (.reg [o 67 (bc .add 53 (n 1)),o 53 (m 67)])])))]),
 (q [(.reg [o 69 (m 7),o 70 (m 10),o 71 (.look .str [(n 0)] (t 69) (t 70) true),o 68 (m 71),o 72 (e 68 0),o 73 (e 68 1),o 13 (m 72),o 14 (m 73)]),
 (.reg [o 74 (m 14),o 75 (.un .not (t 74))]),
 (i 75 (.reg [o 76 (m 7),o 77 (m 10),o 78 (m 7),o 79 (.lenm (t 78)),w (.mupd .str (t 76) (t 77) (t 79))]) .skip)]),
 (.reg [o 80 (m 8),o 81 (m 9),o 82 (m 7),o 83 (m 10),o 84 (.look .str [(n 0)] (t 82) (t 83) false),o 85 (ia 1 80 81),w (.store 1 (t 85) (t 84))])])),
 (.reg [o 86 (bc .add 48 (n 1)),o 48 (m 86)])])))]),
 (.reg [o 88 (m 4),o 89 (m 8),o 90 (.call 130 [(t 88),(t 89)]),o 87 (m 90),o 91 (e 87 0),o 92 (e 87 1),o 4 (m 91)])]))])))])⟩
def zn7:CFn:=⟨20,[.tmp 4,.tmp 5],(q [(.reg [o 4 (.mv (c (.nils 1))),o 5 (.mv (c (n 0)))]),
 (q [(.reg [o 7 (m 0),o 8 (.call 50 [(t 7)]),o 6 (m 8)]),
 (.reg [o 9 (m 6),o 10 (bc .neq 9 (n 0))]),
 (i 10 (q [(.reg [o 11 (m 6),o 4 (.mv (c (.nils 1))),o 5 (m 11)]),
 .ret]) .skip)]),
 (q [(.reg [o 12 (m 0),o 13 (ln 12),o 14 (m 1),o 15 (ln 14),o 16 (b .neq 13 15)]),
 (i 16 (q [(.reg [o 4 (.mv (c (.nils 1))),o 5 (.mv (c (n 3)))]),
 .ret]) .skip)]),
 (.reg [o 17 (m 0),o 18 (m 1),o 19 (.call 163 [(t 17),(t 18)]),o 4 (m 19),o 5 (.mv (c (n 0)))]),
 .ret])⟩
def zkV:CFn:=⟨8,[.tmp 4],(q [(.reg [o 4 (.mv (c (.d (.str []))))]),
 (.reg [o 5 (m 0),o 6 (m 1),o 7 (.call 164 [(t 5),(t 6)]),o 4 (m 7)]),
 .ret])⟩
def zqk:CFn:=⟨18,[.tmp 4],(q [(.reg [o 2 (.box 1 (t 0)),o 4 (.mv (c (u 0)))]),
 (.reg [o 5 (.alloc [(u 0)])]),
 (q [(.reg [o 7 (m 1),o 8 (.call 165 [(t 7)])]),
 (.block 0 (.rng (t 8) [9] (.reg [o 6 (m 9)]) (.block 1 (.regd [o 10 (l 5),o 11 (l 2),o 12 (m 6),o 13 (ia 1 11 12),o 14 (l 13),o 15 (.bin .shl (c (u 1)) (t 14)),o 16 (b .or 10 15),w (.store 1 (t 5) (t 16))] [0,0,0,6,14,30,63,127]))))]),
 (.reg [o 17 (l 5),o 4 (m 17)]),
 .ret])⟩
def zfi:CFn:=⟨19,[.tmp 4],(q [(.reg [o 4 (.mv (c (n 0)))]),
 (q [(.reg [o 6 (m 0),o 7 (ln 6),o 8 (.mv (c (n 0)))]),
 (.block 0 (.loop (q [(.reg [o 9 (b .lss 8 7)]),
 (i 9 .skip (.exit 0)),
 (.block 1 (q [(.reg [o 10 (m 8),o 5 (m 10)]),
 (.reg [o 11 (m 1),o 12 (m 0),o 13 (m 5),o 14 (ia 1 12 13),o 15 (l 14),o 16 (.callv (t 11) [(t 15)])]),
 (i 16 (q [(.reg [o 17 (m 5),o 4 (m 17)]),
 .ret]) .skip)])),
 (.reg [o 18 (bc .add 8 (n 1)),o 8 (m 18)])])))]),
 (.reg [o 4 (.mv (c (n (-1))))]),
 .ret])⟩
def zfj:CFn:=⟨49,[],(q [(.reg [o 8 (m 1),o 9 (bc .add 8 (n 1)),o 6 (m 9)]),
 (.block 0 (.loop (q [(q [(.reg [o 10 (m 6),o 11 (m 2),o 12 (b .lss 10 11)]),
 (i 12 .skip (.exit 0))]),
 (.block 1 (q [(.reg [o 15 (m 6),o 7 (m 15)]),
 (.block 2 (.loop (q [(q [(.regd [o 16 (m 7),o 17 (m 1),o 18 (b .gtr 16 17),o 19 (m 18),g 20 19 true (m 0),g 21 19 true (m 7),g 22 19 true (ia 1 20 21),g 23 19 true (l 22),g 24 19 true (m 0),g 25 19 true (m 7),g 26 19 true (bc .sub 25 (n 1)),g 27 19 true (ia 1 24 26),g 28 19 true (l 27),g 29 19 true (.call 140 [(t 23),(t 28)]),o 30 (pf 19 29)] [0,0,3,7,15,15,63,127,15,15,527,1807,3855,8191,16383]),
 (i 30 .skip (.exit 2))]),
 (.block 3 (.regd [o 33 (m 0),o 34 (m 7),o 35 (m 0),o 36 (m 7),o 37 (bc .sub 36 (n 1)),o 38 (m 0),o 39 (m 7),o 40 (bc .sub 39 (n 1)),o 41 (ia 1 38 40),o 42 (l 41),o 43 (m 0),o 44 (m 7),o 45 (ia 1 43 44),o 46 (l 45),o 47 (ia 1 33 34),w (.store 1 (t 47) (t 42)),o 48 (ia 1 35 37),w (.store 1 (t 48) (t 46))] [0,0,0,0,8,0,0,64,224,480,0,0,3072,7168,16355,32739,65535,131071])),
 (.reg [o 31 (m 7),o 32 (bc .sub 31 (n 1)),o 7 (m 32)])])))])),
 (.reg [o 13 (m 6),o 14 (bc .add 13 (n 1)),o 6 (m 14)])])))])⟩
def zqn:CFn:=⟨17,[.tmp 4],(q [(.reg [o 4 (.mv (c .bf))]),
 (.reg [o 5 (m 0),o 6 (.call 145 [(t 5)]),o 7 (m 6),g 8 7 true (m 1),g 9 7 true (.call 145 [(t 8)]),g 10 7 true (.un .not (t 9)),o 11 (pf 7 10),o 12 (m 11),g 13 12 false (m 0),g 14 12 false (m 1),g 15 12 false (b .lss 13 14),o 16 (pt 12 15),o 4 (m 16)]),
 .ret])⟩
def zo7:CFn:=⟨6,[.tmp 2],(q [(.reg [o 2 (.mv (c .bf))]),
 (.reg [o 3 (m 0),o 4 (m 0),o 5 (b .neq 3 4),o 2 (m 5)]),
 .ret])⟩
def zn0:CFn:=⟨25,[.tmp 6],(q [(.reg [o 6 (.mv (c .bf))]),
 (.reg [o 7 (m 0),o 8 (m 7),g 9 8 true (m 1),g 10 8 true (bc .geq 9 (n 0)),o 11 (pf 8 10),o 12 (m 11),g 13 12 true (m 1),g 14 12 true (m 2),g 15 12 true (b .lss 13 14),o 16 (pf 12 15),o 17 (m 16),g 18 17 false (m 0),g 19 17 false (.un .not (t 18)),g 20 17 false (m 19),g 21 20 true (m 1),g 22 20 true (bc .eql 21 (n 0)),g 23 17 false (pf 20 22),o 24 (pt 17 23),o 6 (m 24)]),
 .ret])⟩
def zjN:CFn:=⟨20,[.tmp 8],(q [(.reg [o 8 (.mv (c .bf))]),
 (.reg [o 9 (m 0),o 10 (m 9),g 11 10 true (m 1),g 12 10 true (m 2),g 13 10 true (b .lss 11 12),g 14 10 true (m 13),g 15 14 false (m 1),g 16 14 false (m 3),g 17 14 false (b .gtr 15 16),g 18 10 true (pt 14 17),o 19 (pf 10 18),o 8 (m 19)]),
 .ret])⟩
def zlX:CFn:=⟨68,[.tmp 7],(q [(.reg [o 7 (.mv (c (n 0)))]),
 (q [(.reg [o 16 (l 1),o 17 (m 0),o 18 (.look (.int .i64) [(n 0)] (t 16) (t 17) true),o 15 (m 18),o 19 (e 15 0),o 20 (e 15 1),o 8 (m 19),o 9 (m 20)]),
 (.reg [o 21 (m 9)]),
 (i 21 (q [(.reg [o 22 (m 8),o 7 (m 22)]),
 .ret]) .skip)]),
 (.reg [o 23 (l 2),o 24 (m 0),o 25 (ia 6 23 24),o 26 (la 6 25),o 10 (.alloc [(n 0),(n 0),(n 0),(n 0),(n 0),(n 0)]),w (.store 6 (t 10) (t 26))]),
 (.reg [o 28 (f 0 10),o 29 (l 28),o 30 (.call 58 [(t 29)]),o 27 (m 30),o 31 (e 27 0),o 32 (e 27 1),o 11 (.alloc [.bf,.bf,.bf,.bf,.bf,.bf,(n 0)]),w (.store 7 (t 11) (t 31)),o 12 (m 32)]),
 (q [(.reg [o 33 (f 0 11),o 34 (l 33)]),
 (i 34 (.reg [o 35 (l 3),o 36 (f 4 10),o 37 (l 36),o 38 (.callv (t 35) [(t 37)]),o 39 (f 4 10),w (.store 1 (t 39) (t 38))]) .skip)]),
 (q [(.reg [o 40 (f 1 11),o 41 (l 40)]),
 (i 41 (.reg [o 42 (l 3),o 43 (f 5 10),o 44 (l 43),o 45 (.callv (t 42) [(t 44)]),o 46 (f 5 10),w (.store 1 (t 46) (t 45))]) .skip)]),
 (.reg [o 48 (l 4),o 49 (la 6 10),o 50 (.look (.agg [(.int .i64),(.int .i64),(.int .i64),(.int .i64),(.int .i64),(.int .i64)]) [(n 0)] (t 48) (t 49) true),o 47 (m 50),o 51 (e 47 0),o 52 (e 47 1),o 13 (m 51),o 14 (m 52)]),
 (q [(.reg [o 53 (m 14),o 54 (.un .not (t 53))]),
 (i 54 (q [(.reg [o 55 (l 5),o 56 (ln 55),o 13 (m 56)]),
 (.reg [o 57 (l 5),o 58 (la 6 10),o 59 (.bslice 6 1 [(n 0),(n 0),(n 0),(n 0),(n 0),(n 0)] [(0,(t 58))]),o 60 (.app 6 48 (t 57) (t 59)),w (.store 1 (t 5) (t 60))]),
 (.reg [o 61 (l 4),o 62 (la 6 10),o 63 (m 13),w (.mupd (.agg [(.int .i64),(.int .i64),(.int .i64),(.int .i64),(.int .i64),(.int .i64)]) (t 61) (t 62) (t 63))])]) .skip)]),
 (.reg [o 64 (l 1),o 65 (m 0),o 66 (m 13),w (.mupd (.int .i64) (t 64) (t 65) (t 66))]),
 (.reg [o 67 (m 13),o 7 (m 67)]),
 .ret])⟩
def zme:CFn:=⟨12,[.tmp 4],(q [(.reg [o 2 (.box 6 (t 0)),o 3 (.box 7 (t 1)),o 4 (.mv (c (n 0)))]),
 (q [(.reg [o 5 (f 3 3),o 6 (l 5)]),
 (i 6 (q [(.reg [o 7 (f 1 2),o 8 (l 7),o 9 (.bin .shl (c (n 1)) (t 8)),o 4 (m 9)]),
 .ret]) .skip)]),
 (.reg [o 10 (f 3 2),o 11 (l 10),o 4 (m 11)]),
 .ret])⟩
def znX:CFn:=⟨10,[.tmp 4],(q [(.reg [o 2 (.box 6 (t 0)),o 3 (.box 7 (t 1)),o 4 (.mv (c (n 0)))]),
 (q [(.reg [o 5 (f 2 3),o 6 (l 5)]),
 (i 6 (q [(.reg [o 7 (f 1 2),o 8 (l 7),o 9 (.bin .shl (c (n 1)) (t 8)),o 4 (m 9)]),
 .ret]) .skip)]),
 (.reg [o 4 (.mv (c (n 0)))]),
 .ret])⟩
def zpb:CFn:=⟨37,[.tmp 2,.tmp 3],(q [(.reg [o 2 (.mv (c (.nils 1))),o 3 (.mv (c (n 0)))]),
 (.reg [o 8 (m 0),o 9 (.call 181 [(t 8)]),o 4 (m 9)]),
 (.reg [o 10 (m 4),o 11 (.call 182 [(t 10),(c (.fn zW []))])]),
 (.reg [o 12 (m 4),o 13 (.call 184 [(t 12),(c (.fn zc0 []))]),o 4 (m 13)]),
 (.reg [o 14 (m 0),o 15 (ln 14),o 16 (.mkslice 1 8 [(n 0)] (t 15) (t 15)),o 5 (m 16)]),
 (q [(.reg [o 17 (m 0),o 18 (ln 17),o 19 (.mv (c (n 0)))]),
 (.block 0 (.loop (q [(.reg [o 20 (b .lss 19 18)]),
 (i 20 .skip (.exit 0)),
 (.block 1 (q [(.reg [o 21 (m 19),o 22 (ia 1 17 19),o 23 (l 22),o 6 (m 21),o 7 (m 23)]),
 (.reg [o 25 (m 5),o 26 (m 6),o 27 (m 4),o 28 (m 7),o 29 (.call 186 [(t 27),(t 28),(c (.fn zW []))]),o 24 (m 29),o 30 (e 24 0),o 31 (e 24 1),o 32 (ia 1 25 26),w (.store 1 (t 32) (t 30))])])),
 (.reg [o 33 (bc .add 19 (n 1)),o 19 (m 33)])])))]),
 (.reg [o 34 (m 5),o 35 (m 4),o 36 (ln 35),o 2 (m 34),o 3 (m 36)]),
 .ret])⟩
def zmf:CFn:=⟨16,[.tmp 2],(q [(.reg [o 2 (.mv (c (.nils 1)))]),
 (.reg [o 3 (.mv (c (.nils 1)))]),
 (.block 0 (.loop (q [(q [(.reg [o 4 (m 0),o 5 (bc .neq 4 (u 0))]),
 (i 5 .skip (.exit 0))]),
 (.block 1 (.reg [o 10 (m 3),o 11 (m 0),o 12 (.call 64 [(t 11)]),o 13 (.bslice 1 1 [(n 0)] [(0,(t 12))]),o 14 (.app 1 8 (t 10) (t 13)),o 3 (m 14)])),
 (.reg [o 6 (m 0),o 7 (m 0),o 8 (bc .sub 7 (u 1)),o 9 (b .and 6 8),o 0 (m 9)])]))),
 (.reg [o 15 (m 3),o 2 (m 15)]),
 .ret])⟩
def zmi:CFn:=⟨48,[.tmp 4],(q [(.reg [o 4 (.mv (c (.nils 1)))]),
 (.reg [o 11 .mkmap,o 5 (m 11)]),
 (.reg [o 12 (m 0),o 13 (ln 12),o 14 (.mkslice 1 8 [(n 0)] (t 13) (t 13)),o 6 (m 14)]),
 (q [(.reg [o 15 (m 0),o 16 (ln 15),o 17 (.mv (c (n 0)))]),
 (.block 0 (.loop (q [(.reg [o 18 (b .lss 17 16)]),
 (i 18 .skip (.exit 0)),
 (.block 1 (q [(.reg [o 19 (m 17),o 7 (m 19)]),
 (.regd [o 20 (m 0),o 21 (m 7),o 22 (ia 1 20 21),o 23 (l 22),o 24 (m 1),o 25 (m 7),o 26 (ia 1 24 25),o 27 (l 26),o 28 (.build [(n 0),(n 0)] [(0,1,(t 23)),(1,1,(t 27))]),o 8 (.alloc [(n 0),(n 0)]),w (.store 2 (t 8) (t 28))] [0,0,3,7,0,0,48,112,255,0,1023]),
 (q [(.reg [o 30 (m 5),o 31 (la 2 8),o 32 (.look (.agg [(.int .i64),(.int .i64)]) [(n 0)] (t 30) (t 31) true),o 29 (m 32),o 33 (e 29 0),o 34 (e 29 1),o 9 (m 33),o 10 (m 34)]),
 (.reg [o 35 (m 10),o 36 (.un .not (t 35))]),
 (i 36 (.reg [o 37 (m 5),o 38 (la 2 8),o 39 (m 7),w (.mupd (.agg [(.int .i64),(.int .i64)]) (t 37) (t 38) (t 39))]) .skip)]),
 (.reg [o 40 (m 6),o 41 (m 7),o 42 (m 5),o 43 (la 2 8),o 44 (.look (.agg [(.int .i64),(.int .i64)]) [(n 0)] (t 42) (t 43) false),o 45 (ia 1 40 41),w (.store 1 (t 45) (t 44))])])),
 (.reg [o 46 (bc .add 17 (n 1)),o 17 (m 46)])])))]),
 (.reg [o 47 (m 6),o 4 (m 47)]),
 .ret])⟩
def zqj:CFn:=⟨4,[.tmp 2],(q [(.reg [o 1 (.box 1 (t 0)),o 2 (.mv (c (.d .nil)))]),
 (.reg [o 3 (.fnew zdt [(t 1)]),o 2 (m 3)]),
 .ret])⟩
def zcN:CFn:=⟨8,[.tmp 2],(q [(.reg [o 2 (.mv (c (.nils 1)))]),
 (q [(.reg [o 3 (m 0),o 4 (.eqN false (t 3) (c (.nils 1)))]),
 (i 4 (q [(.reg [o 2 (.mv (c (.nils 1)))]),
 .ret]) .skip)]),
 (.reg [o 5 (.bslice 1 0 [(.nils 1)] []),o 6 (m 0),o 7 (.app 1 24 (t 5) (t 6)),o 2 (m 7)]),
 .ret])⟩
def zcu:CFn:=⟨14,[],(q [(.reg [o 5 (m 0),o 6 (ln 5),o 4 (m 6)]),
 (.reg [o 7 (m 0),o 8 (m 4),o 9 (m 4),o 10 (.conv .u64 (t 9)),o 11 (.call 101 [(t 10)]),o 12 (m 1),o 13 (.call 196 [(t 7),(c (n 0)),(t 8),(t 11),(t 12)])])])⟩
def zpa:CFn:=⟨8,[.tmp 4],(q [(.reg [o 4 (.mv (c (n 0)))]),
 (.reg [o 5 (m 0),o 6 (m 1),o 7 (.call 197 [(t 5),(t 6),(c (.fn zb5 []))]),o 4 (m 7)]),
 .ret])⟩
def zck:CFn:=⟨66,[.tmp 4],(q [(.reg [o 4 (.mv (c (.nils 1)))]),
 (q [(.reg [o 8 (m 0),o 9 (ln 8),o 10 (bc .lss 9 (n 2))]),
 (i 10 (q [(.reg [o 11 (m 0),o 4 (m 11)]),
 .ret]) .skip)]),
 (q [(.reg [o 5 (.mv (c (n 1)))]),
 (.block 0 (.loop (q [(q [(.reg [o 12 (m 5),o 13 (m 0),o 14 (ln 13),o 15 (b .lss 12 14)]),
 (i 15 .skip (.exit 0))]),
 (.block 1 (q [(.regd [o 18 (m 1),o 19 (m 0),o 20 (m 5),o 21 (ia 1 19 20),o 22 (l 21),o 23 (m 0),o 24 (m 5),o 25 (bc .sub 24 (n 1)),o 26 (ia 1 23 25),o 27 (l 26),o 28 (.callv (t 18) [(t 22),(t 27)])] [0,0,0,6,14,0,0,64,224,480,1023]),
 (i 28 (q [(.reg [o 29 (m 0),o 30 (m 5),o 31 (.slice 1 (t 29) (some (t 30)) none),o 6 (m 31)]),
 (q [(.reg [o 7 (.mv (c (n 1)))]),
 (.block 2 (.loop (q [(q [(.reg [o 32 (m 7),o 33 (m 6),o 34 (ln 33),o 35 (b .lss 32 34)]),
 (i 35 .skip (.exit 2))]),
 (.block 3 (q [(.regd [o 38 (m 1),o 39 (m 6),o 40 (m 7),o 41 (ia 1 39 40),o 42 (l 41),o 43 (m 6),o 44 (m 7),o 45 (bc .sub 44 (n 1)),o 46 (ia 1 43 45),o 47 (l 46),o 48 (.callv (t 38) [(t 42),(t 47)]),o 49 (.un .not (t 48))] [0,0,0,6,14,0,0,64,224,480,1023,2047]),
 (i 49 (q [(.reg [o 50 (m 0),o 51 (m 5),o 52 (m 6),o 53 (m 7),o 54 (ia 1 52 53),o 55 (l 54),o 56 (ia 1 50 51),w (.store 1 (t 56) (t 55))]),
 (.reg [o 57 (m 5),o 58 (bc .add 57 (n 1)),o 5 (m 58)])]) .skip)])),
 (.reg [o 36 (m 7),o 37 (bc .add 36 (n 1)),o 7 (m 37)])])))]),
 (.reg [o 59 (m 0),o 60 (m 5),o 61 (.slice 1 (t 59) (some (t 60)) none),w (.clear 1 [(.nils 1)] (t 61))]),
 (.reg [o 62 (m 0),o 63 (m 5),o 64 (.slice 1 (t 62) none (some (t 63))),o 4 (m 64)]),
 .ret]) .skip)])),
 (.reg [o 16 (m 5),o 17 (bc .add 16 (n 1)),o 5 (m 17)])])))]),
 (.reg [o 65 (m 0),o 4 (m 65)]),
 .ret])⟩
def zmh:CFn:=⟨9,[.tmp 4],(q [(.reg [o 4 (.mv (c .bf))]),
 (.reg [o 5 (m 0),o 6 (m 1),o 7 (.call 183 [(t 5),(t 6)]),o 8 (bc .eql 7 (n 0)),o 4 (m 8)]),
 .ret])⟩
def zaU:CFn:=⟨49,[.tmp 6,.tmp 7],(q [(.reg [o 6 (.mv (c (n 0))),o 7 (.mv (c .bf))]),
 (.reg [o 12 (m 0),o 13 (ln 12),o 8 (m 13)]),
 (.reg [o 14 (m 8),o 9 (.mv (c (n 0))),o 10 (m 14)]),
 (.block 0 (.loop (q [(q [(.reg [o 15 (m 9),o 16 (m 10),o 17 (b .lss 15 16)]),
 (i 17 .skip (.exit 0))]),
 (.block 1 (q [(.reg [o 18 (m 9),o 19 (m 10),o 20 (b .add 18 19),o 21 (.conv .u64 (t 20)),o 22 (bc .shr 21 (u 1)),o 23 (.conv .i64 (t 22)),o 11 (m 23)]),
 (.reg [o 24 (m 2),o 25 (m 0),o 26 (m 11),o 27 (ia 1 25 26),o 28 (l 27),o 29 (m 1),o 30 (.callv (t 24) [(t 28),(t 29)]),o 31 (bc .lss 30 (n 0))]),
 (i 31 (.reg [o 32 (m 11),o 33 (bc .add 32 (n 1)),o 9 (m 33)]) (.reg [o 34 (m 11),o 10 (m 34)]))]))]))),
 (.reg [o 35 (m 9),o 36 (m 9),o 37 (m 8),o 38 (b .lss 36 37),o 39 (m 38),g 40 39 true (m 2),g 41 39 true (m 0),g 42 39 true (m 9),g 43 39 true (ia 1 41 42),g 44 39 true (l 43),g 45 39 true (m 1),g 46 39 true (.callv (t 40) [(t 44),(t 45)]),g 47 39 true (bc .eql 46 (n 0)),o 48 (pf 39 47),o 6 (m 35),o 7 (m 48)]),
 .ret])⟩
def znU:CFn:=⟨14,[],(.block 0 (.loop (q [(q [(.reg [o 3 (l 1),o 4 (bc .neq 3 (u 0))]),
 (i 4 .skip (.exit 0))]),
 (.block 1 (q [(.reg [o 9 (m 0),o 10 (l 1),o 11 (.call 64 [(t 10)]),o 12 (.callv (t 9) [(t 11)]),o 13 (.un .not (t 12))]),
 (i 13 .ret .skip)])),
 (.reg [o 5 (l 1),o 6 (l 1),o 7 (bc .sub 6 (u 1)),o 8 (b .and 5 7),w (.store 1 (t 1) (t 8))])])))⟩
def zeg:CFn:=⟨148,[],(q [(.reg [o 10 (.mv (c .bt))]),
 (.reg [o 11 (.mv (c .bt))]),
 (.block 0 (.loop (.block 1 (q [(.reg [o 21 (m 2),o 22 (m 1),o 23 (b .sub 21 22),o 12 (m 23)]),
 (q [(.reg [o 24 (m 12),o 25 (bc .leq 24 (n 12))]),
 (i 25 (q [(.reg [o 26 (m 0),o 27 (m 1),o 28 (m 2),o 29 (m 4),o 30 (.call 205 [(t 26),(t 27),(t 28),(t 29)])]),
 .ret]) .skip)]),
 (q [(.reg [o 31 (m 3),o 32 (bc .eql 31 (n 0))]),
 (i 32 (q [(.reg [o 33 (m 0),o 34 (m 1),o 35 (m 2),o 36 (m 4),o 37 (.call 206 [(t 33),(t 34),(t 35),(t 36)])]),
 .ret]) .skip)]),
 (q [(.reg [o 38 (m 10),o 39 (.un .not (t 38))]),
 (i 39 (q [(.reg [o 40 (m 0),o 41 (m 1),o 42 (m 2),o 43 (m 4),o 44 (.call 207 [(t 40),(t 41),(t 42),(t 43)])]),
 (.reg [o 45 (m 3),o 46 (bc .sub 45 (n 1)),o 3 (m 46)])]) .skip)]),
 (.reg [o 48 (m 0),o 49 (m 1),o 50 (m 2),o 51 (m 4),o 52 (.call 208 [(t 48),(t 49),(t 50),(t 51)]),o 47 (m 52),o 53 (e 47 0),o 54 (e 47 1),o 13 (m 53),o 14 (m 54)]),
 (q [(.reg [o 55 (m 14),o 56 (bc .eql 55 (n 2))]),
 (i 56 (q [(.reg [o 57 (m 0),o 58 (m 1),o 59 (m 2),o 60 (m 4),o 61 (.call 209 [(t 57),(t 58),(t 59),(t 60)])]),
 (.reg [o 62 (m 2),o 63 (bc .sub 62 (n 1)),o 64 (m 13),o 65 (m 1),o 66 (b .sub 64 65),o 67 (b .sub 63 66),o 13 (m 67)]),
 (.reg [o 14 (.mv (c (n 1)))])]) .skip)]),
 (q [(.reg [o 68 (m 10),o 69 (m 68),g 70 69 true (m 11),o 71 (pf 69 70),o 72 (m 71),g 73 72 true (m 14),g 74 72 true (bc .eql 73 (n 1)),o 75 (pf 72 74)]),
 (i 75 (q [(.reg [o 76 (m 0),o 77 (m 1),o 78 (m 2),o 79 (m 4),o 80 (.call 210 [(t 76),(t 77),(t 78),(t 79)])]),
 (i 80 .ret .skip)]) .skip)]),
 (q [(.regd [o 81 (m 1),o 82 (bc .gtr 81 (n 0)),o 83 (m 82),g 84 83 true (m 4),g 85 83 true (m 0),g 86 83 true (m 1),g 87 83 true (bc .sub 86 (n 1)),g 88 83 true (ia 1 85 87),g 89 83 true (l 88),g 90 83 true (m 0),g 91 83 true (m 13),g 92 83 true (ia 1 90 91),g 93 83 true (l 92),g 94 83 true (.callv (t 84) [(t 89),(t 93)]),g 95 83 true (bc .lss 94 (n 0)),g 96 83 true (.un .not (t 95)),o 97 (pf 83 96)] [0,1,3,7,7,7,39,119,247,7,7,1543,3591,8191,16383,32767,65535]),
 (i 97 (q [(.reg [o 98 (m 0),o 99 (m 1),o 100 (m 2),o 101 (m 13),o 102 (m 4),o 103 (.call 211 [(t 98),(t 99),(t 100),(t 101),(t 102)]),o 15 (m 103)]),
 (.reg [o 104 (m 15),o 1 (m 104)]),
 (.exit 1)]) .skip)]),
 (.reg [o 106 (m 0),o 107 (m 1),o 108 (m 2),o 109 (m 13),o 110 (m 4),o 111 (.call 212 [(t 106),(t 107),(t 108),(t 109),(t 110)]),o 105 (m 111),o 112 (e 105 0),o 113 (e 105 1),o 16 (m 112),o 17 (m 113)]),
 (.reg [o 114 (m 17),o 11 (m 114)]),
 (.reg [o 115 (m 16),o 116 (m 1),o 117 (b .sub 115 116),o 118 (m 2),o 119 (m 16),o 120 (b .sub 118 119),o 18 (m 117),o 19 (m 120)]),
 (.reg [o 121 (m 12),o 122 (bc .quo 121 (n 8)),o 20 (m 122)]),
 (.reg [o 123 (m 18),o 124 (m 19),o 125 (b .lss 123 124)]),
 (i 125 (q [(.reg [o 126 (m 18),o 127 (m 20),o 128 (b .geq 126 127),o 10 (m 128)]),
 (.reg [o 129 (m 0),o 130 (m 1),o 131 (m 16),o 132 (m 3),o 133 (m 4),o 134 (.call 196 [(t 129),(t 130),(t 131),(t 132),(t 133)])]),
 (.reg [o 135 (m 16),o 136 (bc .add 135 (n 1)),o 1 (m 136)])]) (q [(.reg [o 137 (m 19),o 138 (m 20),o 139 (b .geq 137 138),o 10 (m 139)]),
 (.reg [o 140 (m 0),o 141 (m 16),o 142 (bc .add 141 (n 1)),o 143 (m 2),o 144 (m 3),o 145 (m 4),o 146 (.call 196 [(t 140),(t 142),(t 143),(t 144),(t 145)])]),
 (.reg [o 147 (m 16),o 2 (m 147)])]))]))))])⟩
def ziw:CFn:=⟨36,[.tmp 6],(q [(.reg [o 6 (.mv (c (n 0)))]),
 (q [(.reg [o 9 (m 0),o 10 (ln 9),o 11 (m 1),o 12 (ln 11),o 13 (.mm false (t 10) (t 12)),o 14 (.mv (c (n 0)))]),
 (.block 0 (.loop (q [(.reg [o 15 (b .lss 14 13)]),
 (i 15 .skip (.exit 0)),
 (.block 1 (q [(.reg [o 16 (m 14),o 7 (m 16)]),
 (.regd [o 17 (m 2),o 18 (m 0),o 19 (m 7),o 20 (ia 1 18 19),o 21 (l 20),o 22 (m 1),o 23 (m 7),o 24 (ia 1 22 23),o 25 (l 24),o 26 (.callv (t 17) [(t 21),(t 25)]),o 8 (m 26)] [0,0,0,6,14,0,0,96,224,511,1023]),
 (.reg [o 27 (m 8),o 28 (bc .neq 27 (n 0))]),
 (i 28 (q [(.reg [o 29 (m 8),o 6 (m 29)]),
 .ret]) .skip)])),
 (.reg [o 30 (bc .add 14 (n 1)),o 14 (m 30)])])))]),
 (.reg [o 31 (m 0),o 32 (ln 31),o 33 (m 1),o 34 (ln 33),o 35 (.call 105 [(t 32),(t 34)]),o 6 (m 35)]),
 .ret])⟩
def zmg:CFn:=⟨8,[.tmp 4],(q [(.reg [o 4 (.mv (c (n 0)))]),
 (.reg [o 5 (m 0),o 6 (m 1),o 7 (.call 199 [(t 5),(t 6),(c (.fn zb4 []))]),o 4 (m 7)]),
 .ret])⟩
def zi3:CFn:=⟨36,[.tmp 6],(q [(.reg [o 6 (.mv (c (n 0)))]),
 (q [(.reg [o 9 (m 0),o 10 (ln 9),o 11 (m 1),o 12 (ln 11),o 13 (.mm false (t 10) (t 12)),o 14 (.mv (c (n 0)))]),
 (.block 0 (.loop (q [(.reg [o 15 (b .lss 14 13)]),
 (i 15 .skip (.exit 0)),
 (.block 1 (q [(.reg [o 16 (m 14),o 7 (m 16)]),
 (.regd [o 17 (m 2),o 18 (m 0),o 19 (m 7),o 20 (ia 1 18 19),o 21 (l 20),o 22 (m 1),o 23 (m 7),o 24 (ia 1 22 23),o 25 (l 24),o 26 (.callv (t 17) [(t 21),(t 25)]),o 8 (m 26)] [0,0,0,6,14,0,0,96,224,511,1023]),
 (.reg [o 27 (m 8),o 28 (bc .neq 27 (n 0))]),
 (i 28 (q [(.reg [o 29 (m 8),o 6 (m 29)]),
 .ret]) .skip)])),
 (.reg [o 30 (bc .add 14 (n 1)),o 14 (m 30)])])))]),
 (.reg [o 31 (m 0),o 32 (ln 31),o 33 (m 1),o 34 (ln 33),o 35 (.call 105 [(t 32),(t 34)]),o 6 (m 35)]),
 .ret])⟩
def zcY:CFn:=⟨53,[],(q [(.reg [o 10 (m 1),o 11 (bc .add 10 (n 1)),o 8 (m 11)]),
 (.block 0 (.loop (q [(q [(.reg [o 12 (m 8),o 13 (m 2),o 14 (b .lss 12 13)]),
 (i 14 .skip (.exit 0))]),
 (.block 1 (q [(.reg [o 17 (m 8),o 9 (m 17)]),
 (.block 2 (.loop (q [(q [(.regd [o 18 (m 9),o 19 (m 1),o 20 (b .gtr 18 19),o 21 (m 20),g 22 21 true (m 3),g 23 21 true (m 0),g 24 21 true (m 9),g 25 21 true (ia 1 23 24),g 26 21 true (l 25),g 27 21 true (m 0),g 28 21 true (m 9),g 29 21 true (bc .sub 28 (n 1)),g 30 21 true (ia 1 27 29),g 31 21 true (l 30),g 32 21 true (.callv (t 22) [(t 26),(t 31)]),g 33 21 true (bc .lss 32 (n 0)),o 34 (pf 21 33)] [0,0,3,7,15,15,15,111,239,15,15,1039,3599,7695,16383,32767,65535]),
 (i 34 .skip (.exit 2))]),
 (.block 3 (.regd [o 37 (m 0),o 38 (m 9),o 39 (m 0),o 40 (m 9),o 41 (bc .sub 40 (n 1)),o 42 (m 0),o 43 (m 9),o 44 (bc .sub 43 (n 1)),o 45 (ia 1 42 44),o 46 (l 45),o 47 (m 0),o 48 (m 9),o 49 (ia 1 47 48),o 50 (l 49),o 51 (ia 1 37 38),w (.store 1 (t 51) (t 46)),o 52 (ia 1 39 41),w (.store 1 (t 52) (t 50))] [0,0,0,0,8,0,0,64,224,480,0,0,3072,7168,16355,32739,65535,131071])),
 (.reg [o 35 (m 9),o 36 (bc .sub 35 (n 1)),o 9 (m 36)])])))])),
 (.reg [o 15 (m 8),o 16 (bc .add 15 (n 1)),o 8 (m 16)])])))])⟩
end Go.Ab
namespace Go.Ab
open Go Go.Proofs
theorem zn:Tryz.prog.follows .mixedOrders=true:=by kernel_rfl
theorem zm0:zd Tryz.prog zht=some zml:=by kernel_rfl
theorem zqZ:zd Tryz.prog zjb=some zql:=by kernel_rfl
theorem zq4:zd Tryz.prog zjf=some zqq:=by kernel_rfl
theorem zl3:zd Tryz.prog zgG=some zl0:=by kernel_rfl
theorem zmY:zd Tryz.prog zhr=some zmj:=by kernel_rfl
theorem zrc:zd Tryz.prog zjj=some zqy:=by kernel_rfl
theorem zll:zd Tryz.prog zgn=some zkU:=by kernel_rfl
theorem zu0:zd Tryz.prog zmy=some zuk:=by kernel_rfl
theorem zlS:zd Tryz.prog zeh=some ztC:=by kernel_rfl
theorem zsb:zd Tryz.prog zjX=some zrM:=by kernel_rfl
theorem zq5:zd Tryz.prog zjg=some zqr:=by kernel_rfl
theorem zoe:zd Tryz.prog zfl=some znY:=by kernel_rfl
theorem zpx:zd Tryz.prog zd6=some zo4:=by kernel_rfl
theorem ztG:zd Tryz.prog zfz=some ztz:=by kernel_rfl
theorem zok:zd Tryz.prog zhV=some zn4:=by kernel_rfl
theorem zpE:zd Tryz.prog ziG=some zpc:=by kernel_rfl
theorem ziO:zd Tryz.prog zeN=some ziz:=by kernel_rfl
theorem zu2:zd Tryz.prog zmA=some zum:=by kernel_rfl
theorem zea:zd Tryz.prog zgk=some zkT:=by kernel_rfl
theorem zom:zd Tryz.prog zfn=some zn6:=by kernel_rfl
theorem ztH:zd Tryz.prog zfA=some ztA:=by kernel_rfl
theorem zoo:zd Tryz.prog zhW=some zn8:=by kernel_rfl
theorem zop:zd Tryz.prog zhX=some zn9:=by kernel_rfl
theorem zoc:zd Tryz.prog zhO=some znV:=by kernel_rfl
theorem zq0:zd Tryz.prog zgj=some zqm:=by kernel_rfl
theorem zod:zd Tryz.prog zhP=some znW:=by kernel_rfl
theorem zkf:zd Tryz.prog z8=some zrO:=by kernel_rfl
theorem zsa:zd Tryz.prog zjW=some zrL:=by kernel_rfl
theorem zrb:zd Tryz.prog zji=some zqx:=by kernel_rfl
theorem zek:zd Tryz.prog zbH=some zef:=by kernel_rfl
theorem zq7:zd Tryz.prog zeA=some zqt:=by kernel_rfl
theorem zwn:zd Tryz.prog zoy=some zvY:=by kernel_rfl
theorem zra:zd Tryz.prog zjh=some zqw:=by kernel_rfl
theorem zq9:zd Tryz.prog zgm=some zqv:=by kernel_rfl
theorem zi6:zd Tryz.prog zff=some zi4:=by kernel_rfl
theorem zej:zd Tryz.prog zbi=some zhG:=by kernel_rfl
theorem zq2:zd Tryz.prog zjd=some zqo:=by kernel_rfl
theorem zsc:zd Tryz.prog zjY=some zrN:=by kernel_rfl
theorem zgt:zd Tryz.prog zc1=some zgd:=by kernel_rfl
theorem zgu:zd Tryz.prog zc2=some zge:=by kernel_rfl
theorem zcd:zd Tryz.prog zaE=some zcc:=by kernel_rfl
theorem zsf:zd Tryz.prog zdI=some zrR:=by kernel_rfl
theorem zoh:zd Tryz.prog zhS=some zn1:=by kernel_rfl
theorem zse:zd Tryz.prog zjZ=some zrQ:=by kernel_rfl
theorem ziM:zd Tryz.prog zcz=some zix:=by kernel_rfl
theorem zsh:zd Tryz.prog zj1=some zrT:=by kernel_rfl
theorem zmZ:zd Tryz.prog zhs=some zmk:=by kernel_rfl
theorem zu1:zd Tryz.prog zmz=some zul:=by kernel_rfl
theorem ztI:zd Tryz.prog zlM=some ztB:=by kernel_rfl
theorem zpz:zd Tryz.prog ziE=some zo6:=by kernel_rfl
theorem ztF:zd Tryz.prog zlL=some zty:=by kernel_rfl
theorem zr9:zd Tryz.prog zjV=some zrK:=by kernel_rfl
theorem ziN:zd Tryz.prog zeM=some ziy:=by kernel_rfl
theorem zeD:zd Tryz.prog zbY=some zeC:=by kernel_rfl
theorem zol:zd Tryz.prog zdu=some zn5:=by kernel_rfl
theorem zeQ:zd Tryz.prog zb6=some zeH:=by kernel_rfl
theorem zu3:zd Tryz.prog zmB=some zun:=by kernel_rfl
theorem zgS:zd Tryz.prog zdJ=some zgK:=by kernel_rfl
theorem zq6:zd Tryz.prog zez=some zqs:=by kernel_rfl
theorem zmT:zd Tryz.prog zb4=some zmd:=by kernel_rfl
theorem zl1:zd Tryz.prog zeq=some zlY:=by kernel_rfl
theorem zof:zd Tryz.prog zhQ=some znZ:=by kernel_rfl
theorem zpB:zd Tryz.prog zfJ=some zo9:=by kernel_rfl
theorem zpA:zd Tryz.prog ziF=some zo8:=by kernel_rfl
theorem zq3:zd Tryz.prog zje=some zqp:=by kernel_rfl
theorem zoi:zd Tryz.prog zhT=some zn2:=by kernel_rfl
theorem zl2:zd Tryz.prog zcI=some zlZ:=by kernel_rfl
theorem zoj:zd Tryz.prog zfm=some zn3:=by kernel_rfl
theorem zpF:zd Tryz.prog zfL=some zpd:=by kernel_rfl
theorem zsi:zd Tryz.prog zj2=some zrU:=by kernel_rfl
theorem zsg:zd Tryz.prog zj0=some zrS:=by kernel_rfl
theorem zsd:zd Tryz.prog zgO=some zrP:=by kernel_rfl
theorem zq8:zd Tryz.prog zgl=some zqu:=by kernel_rfl
theorem zpy:zd Tryz.prog zd7=some zo5:=by kernel_rfl
theorem zon:zd Tryz.prog zdv=some zn7:=by kernel_rfl
theorem zlm:zd Tryz.prog zd8=some zkV:=by kernel_rfl
theorem zqY:zd Tryz.prog zja=some zqk:=by kernel_rfl
theorem zfo:zd Tryz.prog zcn=some zfi:=by kernel_rfl
theorem zfp:zd Tryz.prog za4=some zfj:=by kernel_rfl
theorem zq1:zd Tryz.prog zjc=some zqn:=by kernel_rfl
theorem ziK:zd Tryz.prog zfI=some zo7:=by kernel_rfl
theorem zog:zd Tryz.prog zhR=some zn0:=by kernel_rfl
theorem zke:zd Tryz.prog zdH=some zjN:=by kernel_rfl
theorem zV:zd Tryz.prog zk=some zlX:=by kernel_rfl
theorem zhz:zd Tryz.prog zeK=some zme:=by kernel_rfl
theorem zhY:zd Tryz.prog zfk=some znX:=by kernel_rfl
theorem zpD:zd Tryz.prog zfK=some zpb:=by kernel_rfl
theorem zmU:zd Tryz.prog zhp=some zmf:=by kernel_rfl
theorem zmX:zd Tryz.prog zhq=some zmi:=by kernel_rfl
theorem zqX:zd Tryz.prog zi9=some zqj:=by kernel_rfl
theorem zcO:zd Tryz.prog zan=some zcN:=by kernel_rfl
theorem zcv:zd Tryz.prog zaS=some zcu:=by kernel_rfl
theorem zpC:zd Tryz.prog zW=some zpa:=by kernel_rfl
theorem zaF:zd Tryz.prog zE=some zck:=by kernel_rfl
theorem zmW:zd Tryz.prog zc0=some zmh:=by kernel_rfl
theorem zaW:zd Tryz.prog zab=some zaU:=by kernel_rfl
theorem zob:zd Tryz.prog zdt=some znU:=by kernel_rfl
theorem zel:zd Tryz.prog zbI=some zeg:=by kernel_rfl
theorem ziL:zd Tryz.prog zeL=some ziw:=by kernel_rfl
theorem zmV:zd Tryz.prog zb5=some zmg:=by kernel_rfl
theorem zi5:zd Tryz.prog zfe=some zi3:=by kernel_rfl
theorem zc5:zd Tryz.prog za8=some zcY:=by kernel_rfl
end Go.Ab
namespace Go.Ab
open Go Go.Proofs
set_option maxRecDepth 10000
set_option maxHeartbeats 4000000
variable {T:Nat→Obj→Prop}
def zbc (n:Int):BitVec 64:=if n ≥ 64 then -1 else (1#64 <<< n.toNat) - 1#64
theorem zjm (n:Int) (h:0≤n):Fn Tryz.prog T zj2 [.d (.int .i64 n)] [] (.d (.u64 (zbc n))) []:=by
 refine zb zn zsi (by show 1≤8;decide) ?_
 (repeat' ((conv=>whnf);first|refine vA ?_|(refine vF ?_ ?_<;>intro hc<;>try simp only [vL] at hc)|refine vT ?_|(refine vP ?_ ?_;·omega)|refine vY ?_));all_goals try conv=>whnf
 ·simp [zbc, *]
 ·rw [zbc,if_neg (by omega)];rfl
def bad (n:Int) (s:BitVec 64):Bool:=s &&& ~~~ (zbc n)≠0
def zAb (worlds agents:Int) (val:List (BitVec 64)):Int :=
 if worlds < 1∨64 < worlds then 2 else if 8 < val.length∨4 < agents then 8 else if val.any (bad worlds) then 3 else 0
theorem zmI (a b:List Int):Fn Tryz.prog T zeM [.d (dI a),.d (dI b)] [] (.d (.bool (a==b))) []:=by
 refine zb zn ziN (by show 2≤26;decide) ?_
 (repeat' ((conv=>whnf);first|refine vA ?_|(refine vD ?_ ?_<;>intro hc<;>try simp only [vL] at hc)|refine vJ fun hg=>?_|refine vT ?_|refine vZ ?_));all_goals try conv=>whnf
 ·have:a≠b:=fun e=>hc (by rw [e])
  simp [this]
 ·refine zal (fun (k:Nat)=>[(0,.d (dI a)),(1,.d (dI b)),(12,.d (.int .i64 ((a.map (D.int .i64)).length:Int))),(13,.d (.int .i64 ((k:Int))))]) (fun (k:Nat)=>k≤a.length∧(a==b)=(a.drop k==b.drop k)) (fun (k:Nat)=>a.length - k) (0) (⟨by simp,by simp⟩) (by (repeat' first|exact trivial|exact rfl|refine And.intro ?_ ?_)) ?_
  rintro k ⟨hk,hI⟩
  (repeat' ((conv=>whnf);first|refine vA ?_|((first|refine vD ?_ ?_|refine vF ?_ ?_)<;>intro hc<;>try simp only [vL] at hc)|refine vT ?_|(refine vQ ?_ fun x hx=>?_;·omega)|(refine vO ?_ ?_;·omega)|(refine vU ?_ ?_;·kernel_rfl)|refine vZ ?_));all_goals try conv=>whnf
  ·rw [hI,z2 ‹a[k]? = some _›,z2 ‹b[k]? = some _›];simp [hc]
  ·exact ⟨k+1,[],[],⟨by (omega),by rw [hI,z2 ‹a[k]? = some _›,z2 ‹b[k]? = some _›];simp [hc]⟩,by (omega),by (refine ⟨rfl,rfl,rfl,?_,?_⟩;repeat' first|exact trivial|exact rfl|refine And.intro ?_ ?_)⟩
  ·rw [hI,List.drop_eq_nil_of_le (by omega),List.drop_eq_nil_of_le (by omega)];rfl
theorem zmJ (a b:List (BitVec 64)):Fn Tryz.prog T zc2 [.d (dU a),.d (dU b)] [] (.d (.bool (a==b))) []:=by
 refine zb zn zgu (by show 2≤26;decide) ?_
 (repeat' ((conv=>whnf);first|refine vA ?_|(refine vD ?_ ?_<;>intro hc<;>try simp only [vL] at hc)|refine vJ fun hg=>?_|refine vT ?_|refine vZ ?_));all_goals try conv=>whnf
 ·have:a≠b:=fun e=>hc (by rw [e])
  simp [this]
 ·refine zal (fun (k:Nat)=>[(0,.d (dU a)),(1,.d (dU b)),(12,.d (.int .i64 ((a.map D.u64).length:Int))),(13,.d (.int .i64 ((k:Int))))]) (fun (k:Nat)=>k≤a.length∧(a==b)=(a.drop k==b.drop k)) (fun (k:Nat)=>a.length - k) (0) (⟨by simp,by simp⟩) (by (repeat' first|exact trivial|exact rfl|refine And.intro ?_ ?_)) ?_
  rintro k ⟨hk,hI⟩
  (repeat' ((conv=>whnf);first|refine vA ?_|((first|refine vD ?_ ?_|refine vF ?_ ?_)<;>intro hc<;>try simp only [vL] at hc)|refine vT ?_|(refine vQ ?_ fun x hx=>?_;·omega)|(refine vO ?_ ?_;·omega)|(refine vU ?_ ?_;·kernel_rfl)|refine vZ ?_));all_goals try conv=>whnf
  ·rw [hI,z2 ‹a[k]? = some _›,z2 ‹b[k]? = some _›];simp [hc]
  ·exact ⟨k+1,[],[],⟨by (omega),by rw [hI,z2 ‹a[k]? = some _›,z2 ‹b[k]? = some _›];simp [hc]⟩,by (omega),by (refine ⟨rfl,rfl,rfl,?_,?_⟩;repeat' first|exact trivial|exact rfl|refine And.intro ?_ ?_)⟩
  ·rw [hI,List.drop_eq_nil_of_le (by omega),List.drop_eq_nil_of_le (by omega)];rfl
structure PM where
 W:Int
 val:List (BitVec 64)
 cell:List (List Int)
 rank:List (List Int)
 deriving DecidableEq
theorem zcS (s:BitVec 64) (n:Nat):(s >>> n)&&&1#64=1#64↔s.getLsbD n=true:=by
 constructor
 ·intro h
  have:=congrArg (fun x=>x.getLsbD 0) h
  simpa using this
 ·intro h
  apply BitVec.eq_of_getLsbD_eq
  intro i hi
  by_cases h0:i=0
  ·subst h0;simpa using h
  ·simp [h0]
theorem zfE (s:BitVec 64) (n:Nat):(s >>> n)&&&1#64=0#64↔s.getLsbD n=false:=by
 constructor
 ·intro h
  have:=congrArg (fun x=>x.getLsbD 0) h
  simpa using this
 ·intro h
  apply BitVec.eq_of_getLsbD_eq
  intro i hi
  by_cases h0:i=0
  ·subst h0;simpa using h
  ·simp [h0]
@[irreducible] def bit (s:BitVec 64) (i:Nat):Bool:=s.getLsbD i
def at0 (l:List Int) (i:Nat):Int:=l.getD i 0
theorem zdC {l:List Int} {i:Nat} {x:Int} (h:l[i]? = some x):at0 l i=x:=by simp [at0,List.getD,h]
theorem zen {l:List Int} {i:Nat} (h:i < l.length):l[i]? = some (at0 l i):=by simp [at0,List.getD,h]
abbrev zEt (cell:List Int):Prop := ∀ w,w < cell.length→0≤at0 cell w∧at0 cell w≤w∧at0 cell (at0 cell w).toNat=at0 cell w
abbrev zDK (cell rank:List Int):Prop := ∀ w,w < cell.length→0≤at0 rank w∧(at0 rank w=0 ∨ ∃ v,v < cell.length∧at0 cell v=at0 cell w∧at0 rank v=at0 rank w - 1)
end Go.Ab
namespace Go.Ab
open Go Go.Proofs
set_option maxRecDepth 10000
set_option maxHeartbeats 4000000
variable {T:Nat→Obj→Prop}
def zaZ (f:Nat→Bool):Nat→BitVec 64
 | 0=>0#64
 | k+1=>if f k then zaZ f k|||1#64 <<< k else zaZ f k
theorem zrH (k i:Nat):(1#64 <<< k).getLsbD i=(decide (i < 64)&&decide (i=k)):=by
 rw [BitVec.getLsbD_shiftLeft]
 by_cases h:i < 64
 ·by_cases h1:i < k
  ·simp [h,h1];omega
  ·by_cases h2:i=k
   ·subst h2;simp [h]
   ·have:i - k≠0:=by omega
    simp [h,h1,h2,this]
 ·simp [h]
theorem ztl (f:Nat→Bool) : ∀ (n i:Nat),(zaZ f n).getLsbD i=(decide (i < 64)&&decide (i < n)&&f i)
 | 0,i=>by simp [zaZ]
 | n+1,i=>by
  have ih:=ztl f n i
  unfold zaZ
  split
  ·rename_i h
   rw [BitVec.getLsbD_or,ih,zrH]
   by_cases h1:i=n
   ·subst h1;simp [h]
   ·by_cases h2:i < n
    ·simp [h1,h2,show i < n+1 by omega]
    ·simp [h1,h2,show ¬ i < n+1 by omega]
  ·rename_i h
   rw [ih]
   by_cases h1:i=n
   ·subst h1;simp [h]
   ·by_cases h2:i < n
    ·simp [h2,show i < n+1 by omega]
    ·simp [h2,show ¬ i < n+1 by omega]
end Go.Ab
namespace Go.Ab
open Go Go.Proofs
set_option maxRecDepth 10000
set_option maxHeartbeats 4000000
variable {T:Nat→Obj→Prop}
def zro (l:List (List Int)) (a:Nat):List Int:=l.getD a []
abbrev zEQ (p:PM):Prop := ∀ a,a < p.cell.length→((zro p.cell a).length:Int)=p.W∧((zro p.rank a).length:Int)=p.W
abbrev zAE (p:PM):Prop := ∀ a,a < p.cell.length→zEt (zro p.cell a)
abbrev zyx (p:PM):Prop := ∀ a,a < p.cell.length→zDK (zro p.cell a) (zro p.rank a)
def zyO (p:PM):Int :=
 if zAb p.W p.cell.length p.val≠0 then zAb p.W p.cell.length p.val
 else if p.rank.length≠p.cell.length then 3
 else if ¬zEQ p then 3
 else if ¬zAE p then 1
 else if ¬zyx p then 9
 else 0
theorem zoa (n:Int) (r:List (BitVec 64)):Fn Tryz.prog T zfL [.d (.int .i64 n),.d (dU r)] [] (.d (.int .i64 (if n < 0∨64 < n then 2 else if (r.length:Int)≠n then 3 else if r.any (bad n) then 1 else 0))) []:=by
 refine zb zn zpF (by show 2≤29;decide) ?_
 (repeat' ((conv=>whnf);first|refine vA ?_|((first|refine vD ?_ ?_|refine vF ?_ ?_)<;>intro hc<;>try simp only [vL] at hc)|refine vJ fun hg=>?_|refine vT ?_|refine vX ?_));all_goals try conv=>whnf
 ·rw [if_pos (.inl hc)]
 ·rw [if_pos (.inr hc)]
 ·rw [if_neg (by omega),if_pos hc]
 refine zal (fun (k:Nat)=>[(0,.d (.int .i64 (n))),(17,.d (dU r)),(18,.d (.int .i64 ((r.map D.u64).length:Int))),(19,.d (.int .i64 ((k:Int))))]) (fun (k:Nat)=>k≤r.length∧r.any (bad n)=(r.drop k).any (bad n)) (fun (k:Nat)=>r.length - k) (0) (⟨by simp,by simp⟩) (by (repeat' first|exact trivial|exact rfl|refine And.intro ?_ ?_)) ?_
 rintro k ⟨hk,hI⟩
 (repeat' ((conv=>whnf);first|refine vA ?_|((first|refine vD ?_ ?_|refine vF ?_ ?_)<;>intro hc<;>try simp only [vL] at hc)|refine vT ?_|(refine vQ ?_ fun x hx=>?_;·omega)|(refine vO ?_ ?_;·omega)|refine vX ?_|(refine yD (zjm _ ?_) ⟨⟨rfl,rfl⟩,rfl⟩ rfl ?_;(·omega))|fail));all_goals try conv=>whnf
 ·have hb:bad n x=true:=by simpa [bad] using hc
  rw [if_neg (by omega),if_neg (by omega),hI,z2 hx];simp [hb]
 ·have hb:bad n x=false:=by simpa [bad] using hc
  exact ⟨k+1,[],[],⟨by (omega),by rw [hI,z2 hx];simp [hb]⟩,by (omega),by (refine ⟨rfl,rfl,rfl,?_,?_⟩;repeat' first|exact trivial|exact rfl|refine And.intro ?_ ?_)⟩
 ·rw [if_neg (by omega),if_neg (by omega),hI,List.drop_eq_nil_of_le (by omega)];simp
end Go.Ab
namespace Go.Ab
open Go Go.Proofs
set_option maxRecDepth 10000
set_option maxHeartbeats 4000000
variable {T:Nat→Obj→Prop}
structure At (p:PM) (a w:Int):Prop where
 ok:zyO p=0
 a0:0≤a
 a1:a < p.cell.length
 w0:0≤w
 w1:w < p.W
instance (p:PM) (a w:Int):Decidable (At p a w):=decidable_of_iff (zyO p=0∧0≤a∧a < p.cell.length∧0≤w∧w < p.W) ⟨fun ⟨a,b,c,d,e⟩=>⟨a,b,c,d,e⟩,fun ⟨a,b,c,d,e⟩=>⟨a,b,c,d,e⟩⟩
theorem zzM {k:Nat} (h:k < 18446744073709551616):(BitVec.ofInt 64 (k:Int)).toNat=k:=by
 rw [BitVec.toNat_ofInt,Int.emod_eq_of_lt (by omega) (by omega)];rfl
theorem zdV {β:Type} {g:Nat→β} {n k:Nat} (x:β):((List.range n).map g).set k x=(List.range n).map fun u=>if u=k then x else g u:=by
 refine List.ext_getElem (by simp) fun i h1 h2=>?_
 rw [List.getElem_set]
 by_cases e:k=i
 ·subst e;simp
 ·simp [e,Ne.symm e]
theorem zL {β:Type} {g h:Nat→β} {n:Nat} (e : ∀ u,u < n→g u=h u):(List.range n).map g=(List.range n).map h :=
 List.map_congr_left fun u hu=>e u (List.mem_range.1 hu)
theorem zzk {n k x:Nat} (h:(List.range n)[k]? = some x):x=k:=by
 obtain ⟨h1,rfl⟩:=List.getElem?_eq_some_iff.1 h
 simp
theorem zay {β:Type} (x:β) (n:Nat):List.replicate n x=(List.range n).map fun _=>x:=by
 refine List.ext_getElem (by simp) fun i h1 h2=>by simp
end Go.Ab
namespace Go.Ab
open Go Go.Proofs
set_option maxRecDepth 10000
set_option maxHeartbeats 4000000
variable {T:Nat→Obj→Prop}
structure KM where
 W:Int
 val:List (BitVec 64)
 rel:List (List (BitVec 64))
 deriving DecidableEq
abbrev dKM (m:KM):D := .agg [.int .i64 m.W,dU m.val,dUU m.rel]
abbrev zco (m:KM):Ob := .box [.d (.int .i64 m.W),.d (dU m.val),.d (dUU m.rel)]
abbrev dKI (x:KM×Int):D := .tup [dKM x.1,.int .i64 x.2]
end Go.Ab
namespace Go.Ab
open Go Go.Proofs
set_option maxRecDepth 10000
set_option maxHeartbeats 4000000
variable {T:Nat→Obj→Prop}
theorem zfD {n:Int} {i:Nat} (h1:0≤n) (hi:i < 64):(zbc n).getLsbD i=decide ((i:Int) < n):=by
 unfold zbc
 split
 ·rename_i h
  rw [show ((-1:BitVec 64))=BitVec.allOnes 64 from rfl,BitVec.getLsbD_allOnes]
  simp [hi];omega
 ·rename_i h
  obtain ⟨m,rfl⟩:=Int.eq_ofNat_of_zero_le h1
  have hm:m < 64:=by omega
  rw [show (1#64 <<< (m:Int).toNat - 1#64)=BitVec.setWidth 64 (BitVec.allOnes m) from ?_]
  ·rw [BitVec.getLsbD_setWidth,BitVec.getLsbD_allOnes];simp [hi]
  ·apply BitVec.eq_of_toNat_eq
   have h2:2 ^ m < 2 ^ 64:=Nat.pow_lt_pow_right (by omega) hm
   have h3:0 < 2 ^ m:=Nat.two_pow_pos m
   rw [BitVec.toNat_sub,BitVec.toNat_shiftLeft,BitVec.toNat_setWidth,BitVec.toNat_allOnes]
   simp only [Int.toNat_natCast,Nat.shiftLeft_eq]
   rw [show (1#64).toNat=1 from rfl,Nat.one_mul,Nat.mod_eq_of_lt h2,Nat.mod_eq_of_lt (show 2 ^ m - 1 < 2 ^ 64 by omega)]
   omega
end Go.Ab
namespace Go.Ab
open Go Go.Proofs
set_option maxRecDepth 10000
set_option maxHeartbeats 4000000
variable {T:Nat→Obj→Prop}
def zB (s:BitVec 64):List Nat:=(List.range 64).filter fun i=>s.getLsbD i
theorem zmE {p:Nat→Bool} {k:Nat} (hk:p k=true) (hlow : ∀ i,i < k→p i=false) : ∀ n,k < n→(List.range n).filter p=k::(List.range n).filter fun i=>p i&&i != k
 | 0,h=>by omega
 | n+1,h=>by
  rw [List.range_succ,List.filter_append,List.filter_append]
  by_cases e:k=n
  ·subst e
   have h1:(List.range k).filter p=[]:=by
    rw [List.filter_eq_nil_iff];intro i hi;rw [hlow i (List.mem_range.1 hi)];simp
   have h2:((List.range k).filter fun i=>p i&&i != k)=[]:=by
    rw [List.filter_eq_nil_iff];intro i hi;rw [hlow i (List.mem_range.1 hi)];simp
   rw [h1,h2]
   simp [hk]
  ·rw [zmE hk hlow n (by omega)]
   have:(n != k)=true:=by simp;omega
   have:List.filter (fun i=>p i&&i != k) [n]=List.filter p [n]:=by
    simp only [List.filter,this,Bool.and_true]
   rw [this];rfl
theorem zwW (s:BitVec 64) (h:s≠0#64):Lib.ctz 64 s.toNat < 64∧s.getLsbD (Lib.ctz 64 s.toNat)=true∧(∀ i,i < Lib.ctz 64 s.toNat→s.getLsbD i=false) ∧
  ∀ i,(s&&&(s - 1#64)).getLsbD i=(s.getLsbD i&&i != Lib.ctz 64 s.toNat):=by
 have h0:s.toNat≠0:=fun e=>h (BitVec.eq_of_toNat_eq (by simpa using e))
 have hc:Lib.ctz 64 s.toNat=Lib.ctzFrom 64 s.toNat:=by rw [Lib.ctz,if_neg h0]
 rw [hc]
 obtain ⟨m,hm,hlt⟩:=Lib.ctzFrom_spec 64 s.toNat (by omega) s.isLt
 generalize Lib.ctzFrom 64 s.toNat=k at hm hlt
 have hp:0 < 2 ^ k:=Nat.two_pow_pos k
 have hs:s.toNat=2 ^ k * (2 * m+1)+0:=hm
 have hbit : ∀ i,s.getLsbD i=if i < k then false else (2 * m+1).testBit (i - k):=fun i=>by
  rw [BitVec.getLsbD,hs,Nat.testBit_two_pow_mul_add _ hp]
  simp
 have hsub:(s - 1#64).toNat=2 ^ k * (2 * m)+(2 ^ k - 1):=by
  rw [BitVec.toNat_sub]
  have hlt':=s.isLt
  rw [hm] at hlt' ⊢
  rw [show (1#64).toNat=1 from rfl,Nat.mul_add,Nat.mul_one]
  rw [Nat.mul_add,Nat.mul_one] at hlt'
  omega
 have hbit' : ∀ i,(s - 1#64).getLsbD i=if i < k then (2 ^ k - 1).testBit i else (2 * m).testBit (i - k):=fun i=>by
  rw [BitVec.getLsbD,hsub,Nat.testBit_two_pow_mul_add _ (by omega)]
 refine ⟨hlt,?_,fun i hi=>?_,fun i=>?_⟩
 ·rw [hbit,if_neg (by omega),Nat.sub_self,Nat.testBit_zero];simp
 ·rw [hbit,if_pos hi]
 ·rw [BitVec.getLsbD_and,hbit,hbit']
  by_cases h1:i < k
  ·simp [h1]
  ·simp only [h1,if_false]
   by_cases h2:i=k
   ·subst h2;simp [Nat.testBit_zero]
   ·obtain ⟨j,hj⟩ : ∃ j,i - k=j+1:=⟨i - k - 1,by omega⟩
    rw [hj,Nat.testBit_succ,Nat.testBit_succ]
    have e1:(2 * m+1) / 2=m:=by omega
    have e2:2 * m / 2=m:=by omega
    rw [e1,e2]
    simp [h2]
theorem zg8 (s:BitVec 64) (h:s≠0#64):zB s=Lib.ctz 64 s.toNat::zB (s&&&(s - 1#64)):=by
 obtain ⟨h1,h2,h3,h4⟩:=zwW s h
 rw [zB,zmE h2 h3 64 h1,zB]
 congr 1
 exact List.filter_congr fun i _=>(h4 i).symm
theorem zfs:zB 0#64=[]:=by decide
abbrev zkY (s:BitVec 64):List (List D):=(zB s).map fun (i:Nat)=>[D.int .i64 (i:Int)]
def zdf (T:Nat→Obj→Prop):Prop := ∀ x:BitVec 64,Fn Tryz.prog T za7 [.d (.u64 x)] [] (.d (.int .i64 (Lib.ctz 64 x.toNat))) []
theorem zyS {s:BitVec 64} {i:Nat} {x:List D} (h:(zkY s)[i]? = some x) : ∃ w:Nat,(zB s)[i]? = some w∧x=[.int .i64 (w:Int)]∧s.getLsbD w=true∧w < 64:=by
 rw [List.getElem?_map,Option.map_eq_some_iff] at h
 obtain ⟨w,hw,rfl⟩:=h
 have:=List.mem_filter.1 (List.mem_of_getElem? hw)
 exact ⟨w,hw,rfl,this.2,List.mem_range.1 this.1⟩
def rb (r:List (BitVec 64)) (w v:Nat):Bool:=(r.getD w 0#64).getLsbD v
theorem ztV {r:List (BitVec 64)} {w:Nat} {s:BitVec 64} (h:r[w]? = some s) (v:Nat):rb r w v=s.getLsbD v:=by simp [rb,List.getD,h]
theorem zzV {r:List (BitVec 64)} {w v:Nat} (h:r.length≤w):rb r w v=false:=by simp [rb,List.getD,h]
def zl5 (r:List (BitVec 64)):Prop := ∀ w v,rb r w v=true→v < r.length
theorem zln {s:BitVec 64} {v:Nat} : v∈zB s↔s.getLsbD v=true:=by
 rw [zB,List.mem_filter,List.mem_range]
 constructor
 ·exact fun h=>h.2
 ·exact fun h=>⟨BitVec.lt_of_getLsbD h,h⟩
theorem zvk (s:BitVec 64):(zB s).Nodup:=List.nodup_range.filter _
def zfB {α:Type} (p:α→Bool) (l:List α):Int:=if l.findIdx p < l.length then (l.findIdx p:Int) else -1
theorem zhv {α:Type} {p:α→Bool} {l:List α} {k:Nat} {x:α} (h:l[k]? = some x) (hp:p x=true) (hI : ∀ i y,i < k→l[i]? = some y→p y=false):zfB p l=k:=by
 obtain ⟨hk,rfl⟩:=List.getElem?_eq_some_iff.1 h
 have:l.findIdx p=k:=by
  rw [List.findIdx_eq hk]
  exact ⟨hp,fun j hj=>by simpa using hI j l[j] hj (List.getElem?_eq_getElem (by omega))⟩
 rw [zfB,this,if_pos hk]
theorem zk7 {α:Type} {p:α→Bool} {l:List α} (hI : ∀ i y,i < l.length→l[i]? = some y→p y=false):zfB p l = -1:=by
 rw [zfB,if_neg]
 intro h
 have h1:=List.findIdx_getElem (p:=p) (xs:=l) (w:=h)
 rw [hI _ _ h (List.getElem?_eq_getElem h)] at h1;cases h1
theorem zuG {α:Type} {p:α→Bool} {l:List α} : 0≤zfB p l ↔ ∃ x∈l,p x=true:=by
 rw [zfB,← List.findIdx_lt_length]
 split<;>omega
theorem ziI (l:List Int) (x:Int):Fn Tryz.prog T zeN [.d (dI l),.d (.int .i64 x)] [] (.d (.int .i64 (zfB (fun y=>x==y) l))) []:=by
 refine zb zn ziO (by show 2≤19;decide) ?_
 (repeat' ((conv=>whnf);first|refine vA ?_|refine vJ fun hg=>?_|refine vT ?_));all_goals try conv=>whnf
 refine zal (fun (k:Nat)=>[(0,.d (dI l)),(1,.d (.int .i64 (x))),(7,.d (.int .i64 ((l.map (D.int .i64)).length:Int))),(8,.d (.int .i64 ((k:Int))))]) (fun (k:Nat)=>k≤l.length ∧ ∀ i y,i < k→l[i]? = some y→(x==y)=false) (fun (k:Nat)=>l.length - k) (0) (⟨by simp,by simp⟩) (by (repeat' first|exact trivial|exact rfl|refine And.intro ?_ ?_)) ?_
 rintro k ⟨hk,hI⟩
 (repeat' ((conv=>whnf);first|refine vA ?_|(refine vF ?_ ?_<;>intro hc<;>try simp only [vL] at hc)|refine vT ?_|(refine vQ ?_ fun x hx=>?_;·omega)|(refine vO ?_ ?_;·omega)|refine vX ?_));all_goals try conv=>whnf
 ·exact (zhv hx (by simpa using hc) hI).symm
 ·have hne:=hc
  exact ⟨k+1,[],[],⟨by (omega),fun i y hi hy=>by
   by_cases e:i=k
   ·subst e;rw [hx] at hy;cases hy;simpa using hne
   ·exact hI i y (by omega) hy⟩,by (omega),by (refine ⟨rfl,rfl,rfl,?_,?_⟩;repeat' first|exact trivial|exact rfl|refine And.intro ?_ ?_)⟩
 ·exact (zk7 fun i y hi hy=>hI i y (by omega) hy).symm
def zas (r:List (BitVec 64)):Int:=if 64 < r.length then 2 else if r.any (bad r.length) then 1 else 0
theorem zoH (r:List (BitVec 64)):Fn Tryz.prog T zfL [.d (.int .i64 ((r.map D.u64).length:Int)),.d (dU r)] [] (.d (.int .i64 (zas r))) []:=by
 have h:=zoa (T:=T) (r.length:Int) r
 have e:zas r=if (r.length:Int) < 0∨(64:Int) < (r.length:Int) then 2 else if (r.length:Int)≠(r.length:Int) then 3 else if r.any (bad (r.length:Int)) then 1 else 0:=by
  unfold zas
  by_cases h1:64 < r.length
  ·rw [if_pos h1,if_pos (.inr (Int.ofNat_lt.2 h1))]
  ·rw [if_neg h1,if_neg (show ¬((r.length:Int) < 0∨(64:Int) < (r.length:Int)) by omega),if_neg (show ¬((r.length:Int)≠(r.length:Int)) by simp)]
 rw [List.length_map,e];exact h
theorem zmb {n:Int} {s:BitVec 64} (h:0≤n):bad n s=false ↔ ∀ i,s.getLsbD i=true→(i:Int) < n:=by
 rw [bad,decide_eq_false_iff_not,Classical.not_not]
 constructor
 ·intro e i hi
  have hlt:=BitVec.lt_of_getLsbD hi
  have:=congrArg (fun x=>x.getLsbD i) e
  simp only [BitVec.getLsbD_and,BitVec.getLsbD_not,hlt,decide_true,Bool.true_and,hi,zfD h hlt] at this
  simpa using this
 ·intro hs
  apply BitVec.eq_of_getLsbD_eq
  intro i hi
  rw [BitVec.getLsbD_and,BitVec.getLsbD_not,zfD h hi]
  cases hb:s.getLsbD i with
  | false=>simp
  | true=>have:=hs i hb;simp [hi,this]
theorem zb1 {r:List (BitVec 64)} : zas r=0↔r.length≤64∧zl5 r:=by
 unfold zas
 by_cases h1:64 < r.length
 ·rw [if_pos h1];simp;omega
 ·rw [if_neg h1]
  have:(r.any (bad r.length)=false)↔zl5 r:=by
   rw [List.any_eq_false]
   constructor
   ·intro h w v hv
    by_cases hw:w < r.length
    ·have:=(zmb (n:=(r.length:Int)) (by omega)).1 (by simpa using h r[w] (List.getElem_mem hw)) v (by rw [← ztV (List.getElem?_eq_getElem hw)];exact hv)
     omega
    ·rw [zzV (by omega)] at hv;cases hv
   ·intro h s hs
    obtain ⟨w,hw⟩:=List.getElem?_of_mem hs
    rw [(zmb (n:=(r.length:Int)) (by omega)).2 (fun i hi=>by have:=h w i (by rw [ztV hw];exact hi);omega)]
    simp
  cases hb:r.any (bad r.length) with
  | true =>
   rw [if_pos rfl]
   have : ¬ zl5 r:=fun h=>by have:=this.2 h;rw [hb] at this;cases this
   simp [this]
  | false =>
   simp only [Bool.false_eq_true,if_false,true_iff]
   exact ⟨by omega,this.1 hb⟩
theorem zvW {x y:BitVec 64} : x &&& ~~~y=0#64 ↔ ∀ i,x.getLsbD i=true→y.getLsbD i=true:=by
 constructor
 ·intro e i hi
  have hlt:=BitVec.lt_of_getLsbD hi
  have:=congrArg (fun x=>x.getLsbD i) e
  simp only [BitVec.getLsbD_and,BitVec.getLsbD_not,hlt,decide_true,Bool.true_and,hi] at this
  simpa using this
 ·intro h
  apply BitVec.eq_of_getLsbD_eq
  intro i hi
  rw [BitVec.getLsbD_and,BitVec.getLsbD_not]
  cases hb:x.getLsbD i with
  | false=>simp
  | true=>simp [hi,h i hb]
end Go.Ab
namespace Go.Ab
open Go Go.Proofs
set_option maxRecDepth 10000
set_option maxHeartbeats 4000000
variable {T:Nat→Obj→Prop}
theorem zK.objs {P:Program} {M:Nat→Option Ob} {n f:Nat} {vs lvs:List V} {obs:List Ob} {lv:V} {obs':List (Option Ob)} {K:V→Upd→Nat→Prop} (js:List Nat) (hf:Fn P T f lvs obs lv obs') (ha:VPasses M js [] 20 lvs vs)
  (ho:zaJ M js [] obs js) (hnd:nodup js=true) (hsj:ze4 js (zO M vs)=true) (hle:js.length≤obs'.length)
  (hK:K (zly js n 20 lv) (zg9 js [] n obs' false) (obs'.length - js.length)):zK (zcF P T) M n f vs K :=
 ⟨⟨_,_,_,⟨js,[],false,lvs,obs,lv,obs',hf,ha,ho,hnd,by simp [zd3],hsj,by simp [ze4],hle,nofun,rfl,rfl,rfl⟩,hK⟩⟩
section
variable {α:Type} [Inhabited α]
theorem zcf {d:Array α} {i:Nat} (h:i < d.size):d.toList[i]? = some d[i]! := by
 simp [h]
theorem zbo {d:Array α} {i:Nat} {x:α} (h:d.toList[i]? = some x):d[i]! = x∧i < d.size:=by
 obtain ⟨h1,h2⟩:=List.getElem?_eq_some_iff.1 h
 rw [Array.length_toList] at h1
 exact ⟨by simp [h1];simpa using h2,h1⟩
theorem zxk {enc:α→D} {d:Array α} {i j:Nat} {x y:α} (hi:d.toList[i]? = some x) (hj:d.toList[j]? = some y):((d.toList.map enc).set i (enc y)).set j (enc x)=(Sort.swp d i j).toList.map enc:=by
 obtain ⟨e1,_⟩:=zbo hi
 obtain ⟨e2,_⟩:=zbo hj
 simp [Sort.swp,e1,e2,List.map_set]
theorem zhj {d:Array α} {i:Int} {x:α} (k:Nat) (h:d.toList[i.toNat]? = some x) (hk:i=k):d.toList[k]? = some x:=by subst hk;exact h
theorem zvQ (d:Array α) (i j:Nat):(Sort.swp d i j).size=d.size:=by simp [Sort.swp]
variable {lt:α→α→Bool}
theorem zlR {a j:Nat} {d:Array α} (h : ¬(a < j∧lt d[j]! d[j - 1]! = true)):Sort.insInner lt a j d=d:=by
 cases j with
 | zero=>rfl
 | succ j =>
  unfold Sort.insInner
  rw [if_neg]
  simpa using h
theorem zlQ {a j:Nat} {d:Array α} (h1:a < j) (h2:lt d[j]! d[j - 1]! = true):Sort.insInner lt a j d=Sort.insInner lt a (j - 1) (Sort.swp d j (j - 1)):=by
 cases j with
 | zero=>omega
 | succ j =>
  rw [Sort.insInner,if_pos]
  ·simp
  ·simp at h2 ⊢;exact ⟨by omega,h2⟩
end
end Go.Ab
namespace Go.Ab
open Go
def zac (e:Nat→Nat→Bool) (w:Nat):Nat:=((List.range w).find? fun v=>e v w).getD w
theorem zkl (e:Nat→Nat→Bool) (w:Nat):(zac e w < w∧e (zac e w) w=true∨zac e w=w) ∧ ∀ v,v < zac e w→e v w=false:=by
 unfold zac
 cases h:(List.range w).find? fun v=>e v w with
 | none =>
  refine ⟨.inr rfl,fun v hv=>?_⟩
  have:=List.find?_eq_none.1 h v (List.mem_range.2 hv)
  simpa using this
 | some u =>
  obtain ⟨h1,l1,l2,h2,h3⟩:=List.find?_eq_some_iff_append.1 h
  have hu:u∈List.range w:=by rw [h2];simp
  have hlen:l1.length=u:=by
   have h4:(List.range w)[l1.length]? = some u:=by rw [h2];simp
   rw [List.getElem?_range (by
    have:l1.length < (List.range w).length:=by rw [h2];simp
    simpa using this)] at h4
   exact Option.some.inj h4
  refine ⟨.inl ⟨List.mem_range.1 hu,h1⟩,fun v hv=>?_⟩
  have hv:v < u:=hv
  have hm:v∈l1:=by
   have h4:(List.range w)[v]? = some v:=List.getElem?_range (by have:=List.mem_range.1 hu;omega)
   rw [h2,List.getElem?_append_left (by omega)] at h4
   exact List.mem_of_getElem? h4
  simpa using h3 v hm
theorem zx7 (e:Nat→Nat→Bool) (w:Nat):zac e w≤w:=by
 rcases (zkl e w).1 with h|h<;>omega
theorem zvb {e:Nat→Nat→Bool} {w v:Nat} (h:v < zac e w):e v w=false:=(zkl e w).2 v h
structure Eqv (e:Nat→Nat→Bool):Prop where
 refl : ∀ v,e v v=true
 symm : ∀ v w,e v w=true→e w v=true
 trans : ∀ u v w,e u v=true→e v w=true→e u w=true
section
variable {e:Nat→Nat→Bool} (he:Eqv e)
include he
theorem zpG (w:Nat):e (zac e w) w=true:=by
 rcases (zkl e w).1 with h|h
 ·exact h.2
 ·rw [h];exact he.refl w
theorem zkk {v w:Nat} : zac e v=zac e w↔e v w=true:=by
 constructor
 ·intro h
  have h1:=zpG he v
  rw [h] at h1
  exact he.trans _ _ _ (he.symm _ _ h1) (zpG he w)
 ·intro h
  have a : ∀ {v w},e v w=true→zac e w≤zac e v:=by
   intro v w h
   rcases Nat.lt_or_ge (zac e v) (zac e w) with hl|hl
   ·have:=zvb hl
    rw [he.trans _ _ _ (zpG he v) h] at this;cases this
   ·exact hl
  have:=a h;have:=a (he.symm _ _ h);omega
theorem zEK (w:Nat):zac e (zac e w)=zac e w:=(zkk he).2 (zpG he w)
end
theorem ziP {e e':Nat→Nat→Bool} {w:Nat} (h : ∀ v,v≤w→e v w=e' v w):zac e w=zac e' w:=by
 have a : ∀ {e e':Nat→Nat→Bool},(∀ v,v≤w→e v w=e' v w)→zac e w≤zac e' w:=by
  intro e e' h
  rcases Nat.lt_or_ge (zac e' w) (zac e w) with hl|hl
  ·have h1:=zvb hl
   have hle:=zx7 e w
   rcases (zkl e' w).1 with h2|h2
   ·rw [h _ (by omega),h2.2] at h1;cases h1
   ·omega
  ·exact hl
 have:=a h;have:=a fun v hv=>(h v hv).symm;omega
structure za2 (n:Nat) (q:Nat→Nat):Prop where
 le : ∀ w,w < n→q w≤w
 idem : ∀ w,w < n→q (q w)=q w
theorem zeS {e:Nat→Nat→Bool} (he:Eqv e) (n:Nat):za2 n (zac e):=⟨fun w _=>zx7 e w,fun w _=>zEK he w⟩
def zbB {α:Type} [DecidableEq α] (k:Nat→α) (v w:Nat):Bool:=decide (k v=k w)
theorem zcm {α:Type} [DecidableEq α] (k:Nat→α):Eqv (zbB k) :=
 ⟨fun v=>by simp [zbB],fun v w h=>by simp only [zbB,decide_eq_true_eq] at h ⊢;exact h.symm,fun u v w h h'=>by simp only [zbB,decide_eq_true_eq] at h h' ⊢;exact h.trans h'⟩
theorem zkW {n:Nat} {q:Nat→Nat} (h:za2 n q) {w:Nat} (hw:w < n):zac (zbB q) w=q w:=by
 have h1:=h.le w hw
 have h2:=h.idem w hw
 have h3:zac (zbB q) w≤q w:=by
  rcases Nat.lt_or_ge (q w) (zac (zbB q) w) with hl|hl
  ·have:=zvb hl
   simp [zbB,h2] at this
  ·exact hl
 have h4:=zpG (zcm q) w
 simp only [zbB,decide_eq_true_eq] at h4
 have h5:=h.le (zac (zbB q) w) (by omega)
 omega
def zaY (q:Nat→Nat) (s:BitVec 64) (k:Nat):BitVec 64:=(List.range k).foldl (fun o w=>if s.getLsbD w=true then o|||1#64 <<< q w else o) 0#64
theorem zhl (q:Nat→Nat) (s:BitVec 64) (k:Nat):zaY q s (k+1)=if s.getLsbD k=true then zaY q s k|||1#64 <<< q k else zaY q s k:=by
 unfold zaY;rw [List.range_succ,List.foldl_append];rfl
def zgD (n:Nat) (rels:List (Nat→BitVec 64)) (q:Nat→Nat) (v w:Nat):Bool:=decide (q v=q w)&&rels.all fun r=>decide (zaY q (r v) n=zaY q (r w) n)
theorem zjv (n:Nat) (rels:List (Nat→BitVec 64)) (q:Nat→Nat):Eqv (zgD n rels q):=by
 refine ⟨fun v=>by simp [zgD],fun v w h=>?_,fun u v w h h'=>?_⟩
 ·simp only [zgD,Bool.and_eq_true,decide_eq_true_eq,List.all_eq_true] at h ⊢
  exact ⟨h.1.symm,fun r hr=>(h.2 r hr).symm⟩
 ·simp only [zgD,Bool.and_eq_true,decide_eq_true_eq,List.all_eq_true] at h h' ⊢
  exact ⟨h.1.trans h'.1,fun r hr=>(h.2 r hr).trans (h'.2 r hr)⟩
def zbM (n:Nat) (rels:List (Nat→BitVec 64)) (q:Nat→Nat):Nat→Nat:=zac (zgD n rels q)
theorem zoU (n:Nat) (rels:List (Nat→BitVec 64)) (q:Nat→Nat) (m:Nat):za2 m (zbM n rels q):=zeS (zjv n rels q) m
theorem zkQ {q q':Nat→Nat} {s:BitVec 64} {n:Nat} (h : ∀ w,w < n→q w=q' w) : ∀ k,k≤n→zaY q s k=zaY q' s k
 | 0,_=>rfl
 | k+1,hk=>by rw [zhl,zhl,zkQ h k (by omega),h k (by omega)]
theorem zww {n:Nat} {rels:List (Nat→BitVec 64)} {q q':Nat→Nat} (h : ∀ w,w < n→q w=q' w) {w:Nat} (hw:w < n):zbM n rels q w=zbM n rels q' w:=by
 refine ziP fun v hv=>?_
 unfold zgD
 rw [h v (by omega),h w hw]
 congr 1
 refine congrArg (fun f=>rels.all f) (funext fun r=>?_)
 rw [zkQ h n (Nat.le_refl _),zkQ h n (Nat.le_refl _)]
section
variable {n:Nat} {rels:List (Nat→BitVec 64)} {q:Nat→Nat} (hq:za2 n q)
include hq
theorem zsz {w:Nat} (hw:w < n):q (zbM n rels q w)=q w:=by
 have:=zpG (zjv n rels q) w
 simp only [zgD,Bool.and_eq_true,decide_eq_true_eq] at this
 exact this.1
theorem zAw {w:Nat} (hw:w < n) (h:q w=w):zbM n rels q w=w:=by
 have h1:=zx7 (zgD n rels q) w
 have h2:=zsz (rels:=rels) hq hw
 have h3:=hq.le (zbM n rels q w) (by unfold zbM;omega)
 unfold zbM at *;omega
theorem zyt (h : ∀ w,w < n→zbM n rels q w=w→q w=w) {w:Nat} (hw:w < n):zbM n rels q w=q w:=by
 have hc:=zoU n rels q n
 have h1:=h (zbM n rels q w) (by have:=hc.le w hw;omega) (hc.idem w hw)
 rw [← h1,zsz hq hw]
end
def zC (n:Nat) (q:Nat→Nat):Nat:=((List.range n).filter fun w=>decide (q w=w)).length
theorem zf0 {p p':Nat→Bool} (hi : ∀ w,p w=true→p' w=true) : ∀ l:List Nat,(l.filter p).length≤(l.filter p').length∧((∃ w∈l,p w=false∧p' w=true)→(l.filter p).length < (l.filter p').length)
 | []=>⟨Nat.le_refl _,fun ⟨w,h,_⟩=>by cases h⟩
 | x::l=>by
  obtain ⟨h1,h2⟩:=zf0 hi l
  cases hp:p x with
  | true =>
   rw [List.filter_cons_of_pos hp,List.filter_cons_of_pos (hi x hp)]
   refine ⟨by simpa using h1,fun ⟨w,hw,h3,h4⟩=>?_⟩
   rcases List.mem_cons.1 hw with rfl|hw
   ·rw [hp] at h3;cases h3
   ·have:=h2 ⟨w,hw,h3,h4⟩;simpa using this
  | false =>
   rw [List.filter_cons_of_neg (by simp [hp])]
   cases hp':p' x with
   | true =>
    rw [List.filter_cons_of_pos hp',List.length_cons]
    exact ⟨by omega,fun _=>by omega⟩
   | false =>
    rw [List.filter_cons_of_neg (by simp [hp'])]
    refine ⟨h1,fun ⟨w,hw,h3,h4⟩=>?_⟩
    rcases List.mem_cons.1 hw with rfl|hw
    ·rw [hp'] at h4;cases h4
    ·exact h2 ⟨w,hw,h3,h4⟩
theorem zdE (n:Nat) (q:Nat→Nat):zC n q≤n:=by
 unfold zC
 have:=List.length_filter_le (fun w=>decide (q w=w)) (List.range n)
 simpa using this
theorem zCM {n:Nat} {rels:List (Nat→BitVec 64)} {q:Nat→Nat} (hq:za2 n q) (h : ∃ w,w < n∧zbM n rels q w≠q w):zC n q < zC n (zbM n rels q):=by
 unfold zC
 have e1:(List.range n).filter (fun w=>decide (q w=w))=(List.range n).filter fun w=>decide (w < n∧q w=w):=by
  refine List.filter_congr fun w hw=>?_
  have:=List.mem_range.1 hw
  simp [this]
 have e2:(List.range n).filter (fun w=>decide (zbM n rels q w=w))=(List.range n).filter fun w=>decide (w < n∧zbM n rels q w=w):=by
  refine List.filter_congr fun w hw=>?_
  have:=List.mem_range.1 hw
  simp [this]
 rw [e1,e2]
 refine (zf0 (fun w hw=>?_) _).2 ?_
 ·simp only [decide_eq_true_eq] at hw ⊢
  exact ⟨hw.1,zAw hq hw.1 hw.2⟩
 ·obtain ⟨w,hw,hne⟩:=h
  by_cases hall : ∀ w,w < n→zbM n rels q w=w→q w=w
  ·exact absurd (zyt hq hall hw) hne
  ·simp only [Classical.not_forall] at hall
   obtain ⟨u,hu,h1,h2⟩:=hall
   exact ⟨u,List.mem_range.2 hu,by simp [h2],by simp [hu,h1]⟩
def zbZ (n:Nat) (rels:List (Nat→BitVec 64)) (q0:Nat→Nat):Nat→Nat→Nat
 | 0=>q0
 | k+1=>zbM n rels (zbZ n rels q0 k)
section
variable {n:Nat} {rels:List (Nat→BitVec 64)} {q0:Nat→Nat} (hq:za2 n q0)
include hq
theorem zoM : ∀ k,za2 n (zbZ n rels q0 k)
 | 0=>hq
 | k+1=>zoU _ _ _ _
theorem zlj {k:Nat} (h : ∀ w,w < n→zbZ n rels q0 (k+1) w=zbZ n rels q0 k w) : ∀ j,k≤j → ∀ w,w < n→zbZ n rels q0 j w=zbZ n rels q0 k w:=by
 intro j hj
 induction j with
 | zero=>intro w hw;rw [show k=0 by omega]
 | succ j ih =>
  intro w hw
  by_cases e:k=j+1
  ·rw [e]
  ·have ih:=ih (by omega)
   rw [← h w hw]
   exact zww ih hw
theorem zli {k:Nat} (h : ∀ j,j < k → ∃ w,w < n∧zbZ n rels q0 (j+1) w≠zbZ n rels q0 j w) : ∀ j,j≤k→zC n q0+j≤zC n (zbZ n rels q0 j)
 | 0,_=>Nat.le_refl _
 | j+1,hj=>by
  have h1:=zli h j (by omega)
  have h2:=zCM (zoM hq j) (h j (by omega))
  show zC n q0+(j+1)≤zC n (zbM n rels (zbZ n rels q0 j))
  omega
theorem zzx {j:Nat} (hn:0 < n) (hj:n≤j) {w:Nat} (hw:w < n):zbZ n rels q0 j w=zbZ n rels q0 n w:=by
 by_cases hall : ∀ i,i < n → ∃ w,w < n∧zbZ n rels q0 (i+1) w≠zbZ n rels q0 i w
 ·have h1:=zli hq hall n (Nat.le_refl _)
  have h2:=zdE n (zbZ n rels q0 n)
  have h3:0 < zC n q0:=by
   unfold zC
   have h0:q0 0=0:=by have:=hq.le 0 hn;omega
   exact List.length_pos_of_mem (List.mem_filter.2 ⟨List.mem_range.2 hn,by simp [h0]⟩)
  omega
 ·simp only [Classical.not_forall] at hall
  obtain ⟨i,hi,hs⟩:=hall
  have hst : ∀ w,w < n→zbZ n rels q0 (i+1) w=zbZ n rels q0 i w:=fun w hw=>by
   by_cases e:zbZ n rels q0 (i+1) w=zbZ n rels q0 i w
   ·exact e
   ·exact absurd ⟨w,hw,e⟩ hs
  rw [zlj hq hst j (by omega) w hw,zlj hq hst n (by omega) w hw]
end
end Go.Ab
namespace Go.Ab
open Go Go.Proofs
set_option maxRecDepth 10000
set_option maxHeartbeats 4000000
variable {T:Nat→Obj→Prop}
theorem zwR {α:Type} {l:List α} {i:Nat} {x d:α} (h:l[i]? = some x):l.getD i d=x:=by simp [List.getD,h]
def za (m:KM):Int :=
 if m.W < 1∨64 < m.W then 2 else if 4 < m.rel.length∨8 < m.val.length then 8 else if m.rel.any (fun r=>decide ((r.length:Int)≠m.W)) then 3 else if m.val.any (bad m.W) then 2 else if m.rel.any (fun r=>r.any (bad m.W)) then 2 else 0
structure zdX (m:KM):Prop where
 w1:1≤m.W
 w2:m.W≤64
 n4:m.rel.length≤4
 v8:m.val.length≤8
 len : ∀ r∈m.rel,(r.length:Int)=m.W
 val : ∀ s∈m.val,bad m.W s=false
 rel : ∀ r∈m.rel,∀ s∈r,bad m.W s=false
theorem zx {m:KM} (h:za m=0):zdX m:=by
 unfold za at h
 split at h
 ·cases h
 ·split at h
  ·cases h
  ·split at h
   ·cases h
   ·split at h
    ·cases h
    ·split at h
     ·cases h
     ·rename_i h1 h2 h3 h4 h5
      refine ⟨by omega,by omega,by omega,by omega,fun r hr=>?_,fun s hs=>?_,fun r hr s hs=>?_⟩
      ·simp only [List.any_eq_true,not_exists,not_and] at h3;simpa using h3 r hr
      ·simp only [List.any_eq_true,not_exists,not_and] at h4;simpa using h4 s hs
      ·simp only [List.any_eq_true,not_exists,not_and] at h5;simpa using h5 r hr s hs
theorem zkq {k:IntKind} {a:Nat} (h:a < 2 ^ k.bits):(BitVec.ofInt k.bits (a:Int)).toNat=a:=by
 rw [BitVec.toNat_ofInt,Int.emod_eq_of_lt (Int.natCast_nonneg a) (show (a:Int) < ((2 ^ k.bits:Nat):Int) from Int.ofNat_lt.2 h)]
 rfl
theorem zp1 {a:Nat} (h:a < 2 ^ 63):IntKind.wrap .i64 (a:Int)=a:=zvU ⟨by omega,by omega⟩
theorem zrI {a b:Nat} (ha:a < 2 ^ 63) (hb:b < 2 ^ 63):zbx .i64 (fun p q=>p|||q) (a:Int) (b:Int)=((a|||b:Nat):Int):=by
 unfold zbx
 rw [BitVec.toNat_or,zkq (k := .i64) (by simp [IntKind.bits];omega),zkq (k := .i64) (by simp [IntKind.bits];omega)]
 exact zp1 (Nat.or_lt_two_pow ha hb)
theorem zlu {x:BitVec 64} {k i:Nat} (hk:k < 64):(x|||1#64 <<< k).getLsbD i=true↔x.getLsbD i=true∨i=k:=by
 rw [BitVec.getLsbD_or,Bool.or_eq_true,zrH]
 constructor
 ·rintro (h|h)
  ·exact .inl h
  ·simp at h;exact .inr h.2
 ·rintro (h|rfl)
  ·exact .inl h
  ·exact .inr (by simp [hk])
def zaT (l:List (BitVec 64)) (w:Nat):Nat→Nat
 | 0=>0
 | k+1=>zaT l w k+if (l.getD k 0#64).getLsbD w=true then 2 ^ k else 0
theorem zpm (l:List (BitVec 64)) (w:Nat) : ∀ k,zaT l w k < 2 ^ k
 | 0=>by simp [zaT]
 | k+1=>by
  have:=zpm l w k
  have h2:=Nat.two_pow_pos k
  rw [zaT,Nat.pow_succ]
  split<;>omega
theorem zhu (l:List (BitVec 64)) (w:Nat) {i:Nat} : ∀ k,(zaT l w k).testBit i=true↔i < k∧(l.getD i 0#64).getLsbD w=true
 | 0=>by simp [zaT]
 | k+1=>by
  have hlt:=zpm l w k
  have ih:=zhu l w (i:=i) k
  have e:zaT l w (k+1)=2 ^ k * (if (l.getD k 0#64).getLsbD w=true then 1 else 0)+zaT l w k:=by
   rw [zaT];split<;>omega
  rw [e,Nat.testBit_two_pow_mul_add _ hlt]
  by_cases h:i < k
  ·rw [if_pos h,ih]
   exact ⟨fun ⟨a,b⟩=>⟨by omega,b⟩,fun ⟨a,b⟩=>⟨h,b⟩⟩
  ·rw [if_neg h]
   by_cases h2:i=k
   ·subst h2
    rw [Nat.sub_self]
    split
    ·rename_i hb;exact ⟨fun _=>⟨by omega,hb⟩,fun _=>by decide⟩
    ·rename_i hb;exact ⟨fun h=>by simp at h,fun h=>absurd h.2 hb⟩
   ·constructor
    ·intro h3
     exfalso
     obtain ⟨m,hm⟩ : ∃ m,i - k=m+1:=⟨i - k - 1,by omega⟩
     rw [hm,Nat.testBit_succ] at h3
     split at h3<;>simp at h3
    ·rintro ⟨a,-⟩;omega
theorem zDj {x k:Nat} (h:x < 2 ^ k):x|||2 ^ k=x+2 ^ k:=by
 have:=Nat.two_pow_add_eq_or_of_lt (i:=k) h 1
 rw [Nat.or_comm,show 2 ^ k=2 ^ k * 1 by omega,← this];omega
theorem zBc {l:List (BitVec 64)} {w k:Nat} {s:BitVec 64} (hs:l[k]? = some s) (hk:k < 8) :
  zbx .i64 (fun p q=>p|||q) (zaT l w k:Int) ((((s >>> w&&&1#64).toNat:Int)) * 2 ^ (min k IntKind.i64.bits))=(zaT l w (k+1):Int):=by
 have h1:=zpm l w k
 have hp:2 ^ k≤2 ^ 7:=Nat.pow_le_pow_right (by decide) (by omega)
 have hb:min k IntKind.i64.bits=k:=by show min k 64=k;omega
 rw [hb,zaT,show l.getD k 0#64=s by rw [List.getD,hs];rfl]
 by_cases h:s.getLsbD w=true
 ·have e:s >>> w&&&1#64=1#64:=(zcS s w).2 h
  rw [e,if_pos h]
  have:=zrI (a:=zaT l w k) (b:=2 ^ k) (by omega) (by omega)
  rw [show ((1#64).toNat:Int) * 2 ^ k=((2 ^ k:Nat):Int) by simp,this,zDj h1]
 ·have e:s >>> w&&&1#64=0#64:=(zfE s w).2 (by simpa using h)
  rw [e,if_neg h]
  have:=zrI (a:=zaT l w k) (b:=0) (by omega) (by omega)
  rw [show ((0#64).toNat:Int) * 2 ^ k=((0:Nat):Int) by simp,this];simp
theorem zyH (s:BitVec 64) (w:Nat):(s >>> w&&&1#64).toNat≤1:=by
 cases h:s.getLsbD w with
 | true=>rw [(zcS s w).2 h];decide
 | false=>rw [(zfE s w).2 h];decide
theorem zAd {x k:Nat} (hx:x≤1) (hk:k < 8):0≤(x:Int) * 2 ^ (min (k:Int).toNat IntKind.i64.bits)∧(x:Int) * 2 ^ (min (k:Int).toNat IntKind.i64.bits)≤9223372036854775807:=by
 have hp:2 ^ k≤2 ^ 7:=Nat.pow_le_pow_right (by decide) (by omega)
 have hb:min (k:Int).toNat IntKind.i64.bits=k:=by show min k 64=k;omega
 rw [hb]
 match x,hx with
 | 0,_=>simp
 | 1,_ =>
  rw [show ((1:Nat):Int) * 2 ^ k=((2 ^ k:Nat):Int) by simp]
  have h7:(2:Nat) ^ 7=128:=rfl
  exact ⟨Int.natCast_nonneg _,Int.ofNat_le.2 (show 2 ^ k≤9223372036854775807 by omega)⟩
theorem ztf {i:Int} (h0:0≤i) (h7:i≤7):(-9223372036854775808≤(1:Int) * 2 ^ (min i.toNat IntKind.i64.bits)∧(1:Int) * 2 ^ (min i.toNat IntKind.i64.bits)≤9223372036854775807)∧((2 ^ i.toNat:Nat):Int)=(1:Int) * 2 ^ (min i.toNat IntKind.i64.bits):=by
 have:i=0∨i=1∨i=2∨i=3∨i=4∨i=5∨i=6∨i=7:=by omega
 rcases this with rfl|rfl|rfl|rfl|rfl|rfl|rfl|rfl<;>decide
def ptL (n:Nat) (q:Nat→Nat):List Int:=(List.range n).map fun w=>((q w:Nat):Int)
theorem zbp {n:Nat} {q:Nat→Nat} {w:Nat} (hw:w < n):(ptL n q)[w]? = some ((q w:Nat):Int):=by simp [ptL,hw]
theorem zbU {n:Nat} {q:Nat→Nat} : (ptL n q).length=n:=by simp [ptL]
theorem zju {n:Nat} {q q':Nat→Nat} (h : ∀ w,w < n→q w=q' w):ptL n q=ptL n q':=List.map_congr_left fun w hw=>by rw [h w (List.mem_range.1 hw)]
theorem zDk {n:Nat} {q q':Nat→Nat} (h:ptL n q=ptL n q') {w:Nat} (hw:w < n):q w=q' w:=by
 have:=zbp (q:=q) hw
 rw [h,zbp hw] at this
 have:=Option.some.inj this
 omega
end Go.Ab
namespace Go.Ab
def zao {α:Type} (c:α→α→Int):List α→List α→Int
 | [],[]=>0
 | [],_::_ => -1
 | _::_,[]=>1
 | x::r,y::s=>if c x y=0 then zao c r s else c x y
structure znq {α:Type} (c:α→α→Int):Prop where
 zero : ∀ {x y},c x y=0↔x=y
 anti : ∀ x y,c y x = - c x y
 tr : ∀ {x y z},c x y < 0→c y z < 0→c x z < 0
theorem znq.refl {α:Type} {c:α→α→Int} (h:znq c) (x:α):c x x=0:=h.zero.2 rfl
theorem zwH {α:Type} {c:α→α→Int} (h:znq c):znq (zao c) where
 zero:=by
  intro x
  induction x with
  | nil=>intro y;cases y<;>simp [zao]
  | cons a r ih =>
   intro y
   cases y with
   | nil=>simp [zao]
   | cons b s =>
    unfold zao
    by_cases e:c a b=0
    ·rw [if_pos e,ih,h.zero.1 e];simp
    ·rw [if_neg e]
     constructor
     ·intro h';exact absurd h' e
     ·intro h';cases h';exact absurd (h.refl _) e
 anti:=by
  intro x
  induction x with
  | nil=>intro y;cases y<;>simp [zao]
  | cons a r ih =>
   intro y
   cases y with
   | nil=>simp [zao]
   | cons b s =>
    unfold zao
    have:=h.anti a b
    by_cases e:c a b=0
    ·rw [if_pos e,if_pos (by omega),ih]
    ·rw [if_neg e,if_neg (by omega),this]
 tr:=by
  intro x
  induction x with
  | nil =>
   intro y z h1 h2
   cases y with
   | nil=>simp [zao] at h1
   | cons b s=>cases z with
    | nil=>simp [zao] at h2
    | cons d t=>simp [zao]
  | cons a r ih =>
   intro y z h1 h2
   cases y with
   | nil=>simp [zao] at h1
   | cons b s=>cases z with
    | nil=>simp [zao] at h2
    | cons d t =>
     unfold zao at h1 h2 ⊢
     by_cases e1:c a b=0
     ·obtain rfl:=h.zero.1 e1
      rw [if_pos e1] at h1
      by_cases e2:c a d=0
      ·rw [if_pos e2] at h2 ⊢;exact ih h1 h2
      ·rw [if_neg e2] at h2 ⊢;exact h2
     ·rw [if_neg e1] at h1
      by_cases e2:c b d=0
      ·obtain rfl:=h.zero.1 e2
       rw [if_neg e1];exact h1
      ·rw [if_neg e2] at h2
       have h3:=h.tr h1 h2
       rw [if_neg (by omega)];exact h3
def zbv (x y:Int):Int:=if x < y then -1 else if y < x then 1 else 0
theorem zCL:znq zbv where
 zero:=by
  intro x y;unfold zbv
  by_cases h1:x < y
  ·rw [if_pos h1];omega
  ·rw [if_neg h1]
   by_cases h2:y < x
   ·rw [if_pos h2];omega
   ·rw [if_neg h2];omega
 anti:=by
  intro x y;unfold zbv
  by_cases h1:x < y
  ·rw [if_pos h1,if_neg (by omega),if_pos h1];rfl
  ·rw [if_neg h1]
   by_cases h2:y < x
   ·rw [if_pos h2,if_neg h1,if_pos h2]
   ·rw [if_neg h2,if_neg h1,if_neg h2];rfl
 tr:=by
  intro x y z;unfold zbv
  by_cases h1:x < y
  ·rw [if_pos h1]
   by_cases h2:y < z
   ·rw [if_pos h2,if_pos (by omega)];simp
   ·rw [if_neg h2]
    by_cases h3:z < y
    ·rw [if_pos h3];intro _ h;omega
    ·rw [if_neg h3];intro _ h;omega
  ·rw [if_neg h1]
   by_cases h2:y < x
   ·rw [if_pos h2];intro h;omega
   ·rw [if_neg h2];intro h;omega
abbrev Tup:=List (List Int)
def zbe:Tup→Tup→Int:=zao (zao zbv)
theorem zaB:znq zbe:=zwH (zwH zCL)
def ddT {α:Type} [DecidableEq α]:List α→List α
 | []=>[]
 | x::r=>if x∈r then ddT r else x::ddT r
theorem zaH {α:Type} [DecidableEq α] {x:α} : ∀ {l:List α},x∈ddT l↔x∈l
 | []=>Iff.rfl
 | y::r=>by
  unfold ddT
  have ih:=zaH (x:=x) (l:=r)
  by_cases h:y∈r
  ·rw [if_pos h,ih,List.mem_cons]
   exact ⟨.inr,fun h'=>h'.elim (fun e=>e▸h) id⟩
  ·rw [if_neg h,List.mem_cons,List.mem_cons,ih]
theorem zc8 {α:Type} [DecidableEq α] : ∀ l:List α,(ddT l).Nodup
 | []=>List.nodup_nil
 | y::r=>by
  unfold ddT
  by_cases h:y∈r
  ·rw [if_pos h];exact zc8 r
  ·rw [if_neg h];exact List.nodup_cons.2 ⟨fun h'=>h (zaH.1 h'),zc8 r⟩
def rkN (ts:List Tup) (t:Tup):Nat:=((ddT ts).filter fun s=>decide (zbe s t < 0)).length
def cnN (ts:List Tup):Nat:=(ddT ts).length
theorem zgz {α:Type} [DecidableEq α] {l l':List α} (h:l.Nodup) (h':l'.Nodup) (hm : ∀ x,x∈l↔x∈l'):l.Perm l':=by
 rw [List.perm_iff_count]
 intro a
 have c : ∀ l:List α,l.Nodup→l.count a=if a∈l then 1 else 0:=fun l hl=>by
  by_cases ha:a∈l
  ·rw [if_pos ha]
   have h1:=List.nodup_iff_count.1 hl a
   have h2:=List.count_pos_iff.2 ha
   omega
  ·rw [if_neg ha];exact List.count_eq_zero.2 ha
 rw [c l h,c l' h']
 by_cases ha:a∈l
 ·rw [if_pos ha,if_pos ((hm a).1 ha)]
 ·rw [if_neg ha,if_neg (fun h=>ha ((hm a).2 h))]
theorem zCA {ts S:List Tup} (hn:S.Nodup) (hm : ∀ x,x∈S↔x∈ts) (t:Tup):(S.filter fun s=>decide (zbe s t < 0)).length=rkN ts t :=
 ((zgz hn (zc8 _) fun x=>by rw [hm,zaH]).filter _).length_eq
theorem zCq {ts S:List Tup} (hn:S.Nodup) (hm : ∀ x,x∈S↔x∈ts):S.length=cnN ts :=
 (zgz hn (zc8 _) fun x=>by rw [hm,zaH]).length_eq
theorem zBV {ts ts':List Tup} (hm : ∀ x,x∈ts↔x∈ts') (t:Tup):rkN ts t=rkN ts' t :=
 zCA (zc8 _) (fun x=>by rw [zaH];exact hm x) t
theorem zA0 {ts ts':List Tup} (hm : ∀ x,x∈ts↔x∈ts'):cnN ts=cnN ts' :=
 zCq (zc8 _) (fun x=>by rw [zaH];exact hm x)
theorem znd {ts:List Tup} {s t:Tup} (hs:s∈ts) (ht:t∈ts):rkN ts s < rkN ts t↔zbe s t < 0:=by
 have key : ∀ {s t:Tup},s∈ts→zbe s t < 0→rkN ts s < rkN ts t:=by
  intro s t hs h
  unfold rkN
  have h1 : ∀ x,decide (zbe x s < 0)=true→decide (zbe x t < 0)=true:=fun x hx=>decide_eq_true (zaB.tr (of_decide_eq_true hx) h)
  have h2:s∈(ddT ts):=zaH.2 hs
  generalize (ddT ts)=l at h2
  induction l with
  | nil=>cases h2
  | cons a r ih =>
   have hle:(r.filter fun x=>decide (zbe x s < 0)).length≤(r.filter fun x=>decide (zbe x t < 0)).length:=by
    clear ih h2
    induction r with
    | nil=>simp
    | cons b r ih =>
     simp only [List.filter_cons]
     by_cases hb:decide (zbe b s < 0)=true
     ·rw [if_pos hb,if_pos (h1 b hb)];simpa using ih
     ·rw [if_neg hb]
      split
      ·rw [List.length_cons];omega
      ·exact ih
   simp only [List.filter_cons]
   by_cases hb:decide (zbe a s < 0)=true
   ·rw [if_pos hb,if_pos (h1 a hb)]
    rcases List.mem_cons.1 h2 with rfl|h2
    ·have:=zaB.refl s;have:=of_decide_eq_true hb;omega
    ·simpa using ih h2
   ·rw [if_neg hb]
    rcases List.mem_cons.1 h2 with rfl|h2
    ·rw [if_pos (decide_eq_true h)];simp;omega
    ·have:=ih h2
     split
     ·rw [List.length_cons];omega
     ·exact this
 refine ⟨fun h=>?_,key hs⟩
 have ha:=zaB.anti s t
 rcases Int.lt_trichotomy (zbe s t) 0 with h'|h'|h'
 ·exact h'
 ·rw [zaB.zero.1 h'] at h;omega
 ·have:=key (s:=t) (t:=s) ht (by omega);omega
theorem zvC {ts:List Tup} {s t:Tup} (hs:s∈ts) (ht:t∈ts) (h:rkN ts s=rkN ts t):s=t:=by
 have h1:=znd hs ht
 have h2:=znd ht hs
 have h3:=zaB.anti s t
 exact zaB.zero.1 (by omega)
theorem zvD {ts:List Tup} {t:Tup} (ht:t∈ts):rkN ts t < cnN ts:=by
 unfold rkN cnN
 have h2:t∈(ddT ts):=zaH.2 ht
 refine Nat.lt_of_le_of_ne (List.length_filter_le _ _) fun h=>?_
 have:=List.length_filter_eq_length_iff.1 h t h2
 have h3:=zaB.refl t
 have:=of_decide_eq_true this
 omega
end Go.Ab
namespace Go.Ab
theorem zb9 {α:Type} [DecidableEq α] : ∀ {l l':List α},l.Nodup→(∀ x∈l,x∈l')→l.length≤l'.length
 | [],_,_,_=>Nat.zero_le _
 | x::t,l',h,hs=>by
  obtain ⟨h1,h2⟩:=List.nodup_cons.1 h
  have:=zb9 (l:=t) (l':=l'.erase x) h2 fun y hy=>by
   have hne:y≠x:=fun e=>h1 (e▸hy)
   exact (List.mem_erase_of_ne hne).2 (hs y (List.mem_cons_of_mem _ hy))
  have hx:=hs x (by simp)
  rw [List.length_erase_of_mem hx] at this
  have:=List.length_pos_of_mem hx
  rw [List.length_cons];omega
def dcN (n:Nat) (q:Nat→Nat):Nat:=(ddT ((List.range n).map q)).length
theorem ziB (n:Nat) (q:Nat→Nat):dcN n q≤n:=by
 have:=zb9 (zc8 ((List.range n).map q)) (l':=(List.range n).map q) fun x hx=>zaH.1 hx
 rwa [List.length_map,List.length_range] at this
theorem znx {α β:Type} [DecidableEq α] [DecidableEq β] {n:Nat} {f:Nat→α} {g:Nat→β} (h : ∀ v w,v < n→w < n→f v=f w→g v=g w):(ddT ((List.range n).map g)).length≤(ddT ((List.range n).map f)).length:=by
 classical
 by_cases h0:n=0
 ·subst h0;exact Nat.le_refl _
 let pick:α→β:=fun a=>g (((List.range n).find? fun w=>decide (f w=a)).getD 0)
 have:=zb9 (zc8 ((List.range n).map g)) (l':=(ddT ((List.range n).map f)).map pick) fun x hx=>by
  obtain ⟨w,hw,rfl⟩:=List.mem_map.1 (zaH.1 hx)
  have hw':=List.mem_range.1 hw
  refine List.mem_map.2 ⟨f w,zaH.2 (List.mem_map.2 ⟨w,hw,rfl⟩),?_⟩
  show g (((List.range n).find? fun u=>decide (f u=f w)).getD 0)=g w
  cases hf:(List.range n).find? fun u=>decide (f u=f w) with
  | none =>
   have:=List.find?_eq_none.1 hf w hw
   simp at this
  | some u =>
   have h1:=List.find?_some hf
   have h2:=List.mem_range.1 (List.mem_of_find?_eq_some hf)
   exact h u w h2 hw' (of_decide_eq_true h1)
 rwa [List.length_map] at this
section
variable (n:Nat) (next:(Nat→Nat)→Nat→Tup)
def rfT (q:Nat→Nat):List Tup:=(List.range n).map (next q)
def zeZ (q:Nat→Nat):Nat→Nat:=fun w=>rkN (rfT n next q) (next q w)
def zb2 (q:Nat→Nat):Nat:=cnN (rfT n next q)
def zbK:Nat→(Nat→Nat)→Nat→(Nat→Nat)×Nat
 | 0,q,k=>(q,k)
 | f+1,q,k=>if zb2 n next q=k then (q,k) else zbK f (zeZ n next q) (zb2 n next q)
end
section
variable {n:Nat} {next:(Nat→Nat)→Nat→Tup} (hF : ∀ q v w,v < n→w < n→next q v=next q w→q v=q w)
theorem zst {q:Nat→Nat} {w:Nat} (hw:w < n):next q w∈rfT n next q:=List.mem_map.2 ⟨w,List.mem_range.2 hw,rfl⟩
theorem zlE {q:Nat→Nat} {v w:Nat} (hv:v < n) (hw:w < n):zeZ n next q v=zeZ n next q w↔next q v=next q w :=
 ⟨fun h=>zvC (zst hv) (zst hw) h,fun h=>by unfold zeZ;rw [h]⟩
theorem ze3 (q:Nat→Nat):dcN n (zeZ n next q)=zb2 n next q:=by
 have h1:=znx (n:=n) (f:=next q) (g:=zeZ n next q) fun v w hv hw h=>(zlE hv hw).2 h
 have h2:=znx (n:=n) (f:=zeZ n next q) (g:=next q) fun v w hv hw h=>(zlE hv hw).1 h
 exact Nat.le_antisymm h1 h2
theorem zyQ (q:Nat→Nat):zb2 n next q≤n:=by rw [← ze3];exact ziB _ _
include hF
theorem zuq (q:Nat→Nat):dcN n q≤zb2 n next q:=znx fun v w hv hw h=>hF q v w hv hw h
theorem zw9 : ∀ (f g:Nat) (q:Nat→Nat),n < f+dcN n q→n < g+dcN n q→zbK n next f q (dcN n q)=zbK n next g q (dcN n q)
 | 0,g,q,h,_=>by have:=ziB n q;omega
 | f+1,0,q,_,h=>by have:=ziB n q;omega
 | f+1,g+1,q,h1,h2=>by
  unfold zbK
  by_cases h:zb2 n next q=dcN n q
  ·rw [if_pos h,if_pos h]
  ·rw [if_neg h,if_neg h]
   have h3:=zuq hF q
   have h4:=zw9 f g (zeZ n next q) (by rw [ze3];omega) (by rw [ze3];omega)
   rwa [ze3] at h4
theorem zti : ∀ (f:Nat) (q:Nat→Nat),n < f+dcN n q → ∃ q',zbK n next f q (dcN n q)=(q',dcN n q')∧zb2 n next q'=dcN n q'∧(∀ v w,v < n→w < n→q' v=q' w→q v=q w)
 | 0,q,h=>by have:=ziB n q;omega
 | f+1,q,h=>by
  unfold zbK
  by_cases he:zb2 n next q=dcN n q
  ·rw [if_pos he];exact ⟨q,rfl,he,fun v w _ _ h=>h⟩
  ·rw [if_neg he]
   have h3:=zuq hF q
   obtain ⟨q',h4,h5,h6⟩:=zti f (zeZ n next q) (by rw [ze3];omega)
   rw [ze3] at h4
   exact ⟨q',h4,h5,fun v w hv hw e=>hF q v w hv hw ((zlE hv hw).1 (h6 v w hv hw e))⟩
end
theorem zwL {α β:Type} [DecidableEq α] [DecidableEq β] {n:Nat} {f:Nat→α} {g:Nat→β} (h : ∀ v w,v < n→w < n→f v=f w→g v=g w) (he:(ddT ((List.range n).map g)).length=(ddT ((List.range n).map f)).length) :
  ∀ v w,v < n→w < n→g v=g w→f v=f w:=by
 classical
 intro v w hv hw hg
 refine Classical.byContradiction fun hne=>?_
 have h1:=znx (n:=n) (f:=f) (g:=fun u=>(g u,decide (f u=f v))) fun a b ha hb e=>by rw [h a b ha hb e,e]
 have h2:(ddT ((List.range n).map g)).length+1≤(ddT ((List.range n).map fun u=>(g u,decide (f u=f v)))).length:=by
  have:=zb9 (l:=(g v,false)::(ddT ((List.range n).map g)).map fun y=>(y,decide (∃ u,u < n∧g u=y∧f u=f v) )) (l':=ddT ((List.range n).map fun u=>(g u,decide (f u=f v)))) ?_ ?_
  ·simpa using this
  ·refine List.nodup_cons.2 ⟨fun hm=>?_,?_⟩
   ·obtain ⟨y,hy,e⟩:=List.mem_map.1 hm
    simp only [Prod.mk.injEq] at e
    obtain ⟨rfl,e⟩:=e
    exact absurd (of_decide_eq_false e) (not_not_intro ⟨v,hv,rfl,rfl⟩)
   ·exact List.Pairwise.map _ (fun a b hab e=>hab (by simp only [Prod.mk.injEq] at e;exact e.1)) (zc8 _)
  ·intro x hx
   refine zaH.2 (List.mem_map.2 ?_)
   rcases List.mem_cons.1 hx with rfl|hx
   ·exact ⟨w,List.mem_range.2 hw,by simp only [Prod.mk.injEq];exact ⟨hg.symm,decide_eq_false fun e=>hne e.symm⟩⟩
   ·obtain ⟨y,hy,rfl⟩:=List.mem_map.1 hx
    obtain ⟨u,hu,rfl⟩:=List.mem_map.1 (zaH.1 hy)
    by_cases hex : ∃ u',u' < n∧g u'=g u∧f u'=f v
    ·obtain ⟨u',h1,h2,h3⟩:=hex
     exact ⟨u',List.mem_range.2 h1,by simp only [Prod.mk.injEq];exact ⟨h2,by rw [decide_eq_true h3,decide_eq_true ⟨u',h1,h2,h3⟩]⟩⟩
    ·exact ⟨u,hu,by simp only [Prod.mk.injEq];exact ⟨trivial,by rw [decide_eq_false hex,decide_eq_false fun e=>hex ⟨u,List.mem_range.1 hu,rfl,e⟩]⟩⟩
 omega
end Go.Ab
namespace Go.Ab
structure Ren (n:Nat) (f:Nat→Nat):Prop where
 lt : ∀ w,w < n→f w < n
 inj : ∀ v w,v < n→w < n→f v=f w→v=w
theorem Ren.surj {n:Nat} {f:Nat→Nat} (h:Ren n f) {x:Nat} (hx:x < n) : ∃ w,w < n∧f w=x:=by
 refine Classical.byContradiction fun hn=>?_
 have:=zb9 (l:=x::(List.range n).map f) (l':=List.range n) (List.nodup_cons.2 ⟨fun hm=>?_,?_⟩) fun y hy=>?_
 ·simp at this
  omega
 ·obtain ⟨w,hw,e⟩:=List.mem_map.1 hm
  exact hn ⟨w,List.mem_range.1 hw,e⟩
 ·rw [List.Nodup,List.pairwise_map]
  exact List.Pairwise.imp_of_mem (fun {a b} ha hb hab e=>hab (h.inj a b (List.mem_range.1 ha) (List.mem_range.1 hb) e)) List.nodup_range
 ·rcases List.mem_cons.1 hy with rfl|hy
  ·exact List.mem_range.2 hx
  ·obtain ⟨w,hw,rfl⟩:=List.mem_map.1 hy
   exact List.mem_range.2 (h.lt w (List.mem_range.1 hw))
section
variable {n:Nat} {f:Nat→Nat} (hf:Ren n f) {t t':Nat→Tup} (ht : ∀ w,w < n→t' (f w)=t w)
include hf ht
theorem zw6 (x:Tup):x∈(List.range n).map t'↔x∈(List.range n).map t:=by
 constructor
 ·intro h
  obtain ⟨y,hy,rfl⟩:=List.mem_map.1 h
  obtain ⟨w,hw,rfl⟩:=hf.surj (List.mem_range.1 hy)
  exact List.mem_map.2 ⟨w,List.mem_range.2 hw,(ht w hw).symm⟩
 ·intro h
  obtain ⟨w,hw,rfl⟩:=List.mem_map.1 h
  exact List.mem_map.2 ⟨f w,List.mem_range.2 (hf.lt w (List.mem_range.1 hw)),ht w (List.mem_range.1 hw)⟩
theorem zzY {w:Nat} (hw:w < n):rkN ((List.range n).map t') (t' (f w))=rkN ((List.range n).map t) (t w):=by
 rw [ht w hw];exact zBV (zw6 hf ht) _
theorem zzX:cnN ((List.range n).map t')=cnN ((List.range n).map t):=zA0 (zw6 hf ht)
end
theorem zvB {n:Nat} {f:Nat→Nat} (hf:Ren n f) {next next':(Nat→Nat)→Nat→Tup} (hn : ∀ q q',(∀ w,w < n→q' (f w)=q w) → ∀ w,w < n→next' q' (f w)=next q w) :
  ∀ (k:Nat) (q q':Nat→Nat) (c:Nat),(∀ w,w < n→q' (f w)=q w)→(∀ w,w < n→(zbK n next' k q' c).1 (f w)=(zbK n next k q c).1 w)∧(zbK n next' k q' c).2=(zbK n next k q c).2
 | 0,q,q',c,h=>⟨h,rfl⟩
 | k+1,q,q',c,h=>by
  have ht:=hn q q' h
  have hc:zb2 n next' q'=zb2 n next q:=zzX hf ht
  unfold zbK
  rw [hc]
  by_cases he:zb2 n next q=c
  ·rw [if_pos he,if_pos he];exact ⟨h,rfl⟩
  ·rw [if_neg he,if_neg he]
   exact zvB hf hn k _ _ _ fun w hw=>zzY hf ht hw
def leI (x y:Int):Bool:=decide (x≤y)
theorem zEe (a b c:Int) (h1:leI a b=true) (h2:leI b c=true):leI a c=true:=by simp [leI] at *;omega
theorem zC9 (a b:Int):(leI a b||leI b a)=true:=by simp [leI];omega
def zbW (l:List Int):List Int:=l.mergeSort leI
theorem zcE (l:List Int):(zbW l).Perm l:=List.mergeSort_perm l leI
theorem zfc (l:List Int):(zbW l).Pairwise (· ≤ ·):=(List.pairwise_mergeSort zEe zC9 l).imp fun h=>by simpa [leI] using h
theorem zem : ∀ {l l':List Int},l.Pairwise (· ≤ ·)→l'.Pairwise (· ≤ ·)→l.Perm l'→l=l'
 | [],l',_,_,h=>(List.nil_perm.1 h).symm
 | a::r,[],_,_,h=>by cases List.perm_nil.1 h
 | a::r,b::s,h1,h2,h=>by
  obtain ⟨h3,h4⟩:=List.pairwise_cons.1 h1
  obtain ⟨h5,h6⟩:=List.pairwise_cons.1 h2
  have e:a=b:=by
   have hb:b∈a::r:=h.mem_iff.2 (by simp)
   have ha:a∈b::s:=h.mem_iff.1 (by simp)
   rcases List.mem_cons.1 hb with e|hb
   ·exact e.symm
   ·rcases List.mem_cons.1 ha with e|ha
    ·exact e
    ·have:=h3 b hb;have:=h5 a ha;omega
  subst e
  rw [zem h4 h6 ((List.perm_cons a).1 h)]
theorem ztr {l l':List Int} (h:l.Perm l'):zbW l=zbW l':=zem (zfc l) (zfc l') (((zcE l).trans h).trans (zcE l').symm)
theorem zEm {l s:List Int} (hs:s.Pairwise (· ≤ ·)) (hp:s.Perm l):s=zbW l:=zem hs (zfc l) (hp.trans (zcE l).symm)
def zfS (l:List Int):List Int:=zbW (ddT l)
theorem zA8 {α:Type} [DecidableEq α] {l l':List α} (h : ∀ x,x∈l↔x∈l'):(ddT l).Perm (ddT l'):=by
 rw [List.perm_iff_count]
 intro a
 have c : ∀ l:List α,(ddT l).count a=if a∈l then 1 else 0:=fun l=>by
  by_cases ha:a∈l
  ·rw [if_pos ha]
   have h1:=List.nodup_iff_count.1 (zc8 l) a
   have h2:=List.count_pos_iff.2 (zaH.2 ha)
   omega
  ·rw [if_neg ha];exact List.count_eq_zero.2 (fun h=>ha (zaH.1 h))
 rw [c,c]
 by_cases ha:a∈l
 ·rw [if_pos ha,if_pos ((h a).1 ha)]
 ·rw [if_neg ha,if_neg (fun h'=>ha ((h a).2 h'))]
theorem zrv {l l':List Int} (h : ∀ x,x∈l↔x∈l'):zfS l=zfS l':=ztr (zA8 h)
abbrev zD:=List (Nat→Nat→Bool)
def zdR (n:Nat) (r:Nat→Nat→Bool) (q:Nat→Nat) (w:Nat):List Int:=((List.range n).filter fun v=>r w v).map fun v=>(q v:Int)
def zjs (n:Nat) (R:zD) (q:Nat→Nat) (w:Nat):Tup:=[(q w:Int)]::R.map fun r=>zbW (zdR n r q w)
def zaf (n:Nat) (R:zD) (q:Nat→Nat) (w:Nat):Tup:=[(q w:Int)]::R.map fun r=>zfS (zdR n r q w)
theorem zgy {n:Nat} {R:zD} (q:Nat→Nat) (v w:Nat) (_:v < n) (_:w < n) (h:zaf n R q v=zaf n R q w):q v=q w:=by
 unfold zaf at h
 have:=(List.cons.inj h).1
 simp at this;omega
structure zir (n:Nat) (f:Nat→Nat) (R R':zD):Prop where
 len:R'.length=R.length
 rel : ∀ (i:Nat) (r r':Nat→Nat→Bool),R[i]? = some r→R'[i]? = some r' → ∀ v w,v < n→w < n→r' (f v) (f w)=r v w
theorem zB2 {n:Nat} {f:Nat→Nat} (hf:Ren n f) {r r':Nat→Nat→Bool} (h : ∀ v w,v < n→w < n→r' (f v) (f w)=r v w) {q q':Nat→Nat} (hq : ∀ w,w < n→q' (f w)=q w) {w:Nat} (hw:w < n):(zdR n r' q' (f w)).Perm (zdR n r q w):=by
 have h1:((List.range n).filter fun v=>r' (f w) v).Perm (((List.range n).filter fun v=>r w v).map f):=by
  refine zgz (List.Nodup.sublist List.filter_sublist List.nodup_range) ?_ fun x=>?_
  ·rw [List.Nodup,List.pairwise_map]
   refine List.Pairwise.imp_of_mem (fun {a b} ha hb hab e=>hab (hf.inj a b ?_ ?_ e)) (List.Nodup.sublist List.filter_sublist List.nodup_range)
   ·exact List.mem_range.1 (List.mem_filter.1 ha).1
   ·exact List.mem_range.1 (List.mem_filter.1 hb).1
  ·constructor
   ·intro hx
    obtain ⟨h1,h2⟩:=List.mem_filter.1 hx
    obtain ⟨v,hv,rfl⟩:=hf.surj (List.mem_range.1 h1)
    exact List.mem_map.2 ⟨v,List.mem_filter.2 ⟨List.mem_range.2 hv,by rw [← h w v hw hv];exact h2⟩,rfl⟩
   ·intro hx
    obtain ⟨v,hv,rfl⟩:=List.mem_map.1 hx
    obtain ⟨h1,h2⟩:=List.mem_filter.1 hv
    have h1:=List.mem_range.1 h1
    exact List.mem_filter.2 ⟨List.mem_range.2 (hf.lt v h1),by rw [h w v hw h1];exact h2⟩
 unfold zdR
 refine (h1.map _).trans ?_
 rw [List.map_map]
 refine List.Perm.of_eq (List.map_congr_left fun v hv=>?_)
 have:=List.mem_range.1 (List.mem_filter.1 hv).1
 show ((q' (f v):Nat):Int)=_
 rw [hq v this]
theorem zvj {n:Nat} {f:Nat→Nat} (hf:Ren n f) {R R':zD} (hR:zir n f R R') {q q':Nat→Nat} (hq : ∀ w,w < n→q' (f w)=q w) {w:Nat} (hw:w < n):zjs n R' q' (f w)=zjs n R q w∧zaf n R' q' (f w)=zaf n R q w:=by
 have key : ∀ (g:List Int→List Int),(∀ l l':List Int,l.Perm l'→g l=g l')→(R'.map fun r=>g (zdR n r q' (f w)))=R.map fun r=>g (zdR n r q w):=by
  intro g hg
  refine List.ext_getElem? fun i=>?_
  rw [List.getElem?_map,List.getElem?_map]
  by_cases hi:i < R.length
  ·obtain ⟨r,hr⟩ : ∃ r,R[i]? = some r:=⟨_,List.getElem?_eq_getElem hi⟩
   obtain ⟨r',hr'⟩ : ∃ r',R'[i]? = some r':=⟨_,List.getElem?_eq_getElem (by rw [hR.len];exact hi)⟩
   rw [hr,hr']
   exact congrArg some (hg _ _ (zB2 hf (hR.rel i r r' hr hr') hq hw))
  ·rw [List.getElem?_eq_none (by rw [hR.len];omega),List.getElem?_eq_none (by omega)];rfl
 exact ⟨by unfold zjs;rw [hq w hw,key zbW fun l l' h=>ztr h],by unfold zaf;rw [hq w hw,key zfS fun l l' h=>zrv fun x=>h.mem_iff]⟩
def zvw (n:Nat) (R:zD) (first:Nat→Tup):(Nat→Nat)×Nat:=zbK n (zjs n R) (n+1) (fun w=>rkN ((List.range n).map first) (first w)) (cnN ((List.range n).map first))
def zcP (n:Nat) (R:zD) (first:Nat→Tup):(Nat→Nat)×Nat:=zbK n (zaf n R) (n+1) (fun w=>rkN ((List.range n).map first) (first w)) (cnN ((List.range n).map first))
theorem znL {n:Nat} {f:Nat→Nat} (hf:Ren n f) {R R':zD} (hR:zir n f R R') {first first':Nat→Tup} (h1 : ∀ w,w < n→first' (f w)=first w) :
  (∀ w,w < n→(zvw n R' first').1 (f w)=(zvw n R first).1 w)∧(zvw n R' first').2=(zvw n R first).2∧(∀ w,w < n→(zcP n R' first').1 (f w)=(zcP n R first).1 w)∧(zcP n R' first').2=(zcP n R first).2:=by
 have hc:=zzX hf h1
 have hr : ∀ w,w < n→(fun w=>rkN ((List.range n).map first') (first' w)) (f w)=(fun w=>rkN ((List.range n).map first) (first w)) w:=fun w hw=>zzY hf h1 hw
 have ha:=zvB hf (next:=zjs n R) (next':=zjs n R') (fun q q' hq w hw=>(zvj hf hR hq hw).1) (n+1) (fun w=>rkN ((List.range n).map first) (first w)) (fun w=>rkN ((List.range n).map first') (first' w)) (cnN ((List.range n).map first)) hr
 have ho:=zvB hf (next:=zaf n R) (next':=zaf n R') (fun q q' hq w hw=>(zvj hf hR hq hw).2) (n+1) (fun w=>rkN ((List.range n).map first) (first w)) (fun w=>rkN ((List.range n).map first') (first' w)) (cnN ((List.range n).map first)) hr
 unfold zvw zcP
 rw [hc]
 exact ⟨ha.1,ha.2,ho.1,ho.2⟩
end Go.Ab
namespace Go.Ab
structure zdz (n:Nat) (fa fb:Nat→Int) (R R':zD) (f:Nat→Nat):Prop where
 ren:Ren n f
 fac : ∀ w,w < n→fb (f w)=fa w
 rel:zir n f R R'
def zqb (R:zD):zD:=R.map fun r=>fun v w=>r w v
theorem zir.back {n:Nat} {f:Nat→Nat} {R R':zD} (h:zir n f R R'):zir n f (R++zqb R) (R'++zqb R'):=by
 refine ⟨by simp [zqb,h.len],fun i r r' h1 h2 v w hv hw=>?_⟩
 by_cases hi:i < R.length
 ·rw [List.getElem?_append_left hi] at h1
  rw [List.getElem?_append_left (by rw [h.len];exact hi)] at h2
  exact h.rel i r r' h1 h2 v w hv hw
 ·rw [List.getElem?_append_right (by omega),zqb,List.getElem?_map,Option.map_eq_some_iff] at h1
  rw [List.getElem?_append_right (by rw [h.len];omega),zqb,List.getElem?_map,Option.map_eq_some_iff] at h2
  obtain ⟨s,hs,rfl⟩:=h1
  obtain ⟨s',hs',rfl⟩:=h2
  exact h.rel _ s s' hs (by rw [← h.len];exact hs') w v hw hv
end Go.Ab
namespace Go.Ab
def zcB (n:Nat) (f:Nat→Nat) (x:Nat):Nat:=((List.range n).find? fun w=>decide (f w=x)).getD 0
theorem zh6 {n:Nat} {f:Nat→Nat} (hf:Ren n f) {w:Nat} (hw:w < n):zcB n f (f w)=w:=by
 unfold zcB
 cases h:(List.range n).find? fun u=>decide (f u=f w) with
 | none=>have:=List.find?_eq_none.1 h w (List.mem_range.2 hw);simp at this
 | some u =>
  have h1:=List.find?_some h
  exact hf.inj u w (List.mem_range.1 (List.mem_of_find?_eq_some h)) hw (of_decide_eq_true h1)
theorem zey {n:Nat} {f:Nat→Nat} (hf:Ren n f) {x:Nat} (hx:x < n):zcB n f x < n∧f (zcB n f x)=x:=by
 obtain ⟨w,hw,rfl⟩:=hf.surj hx
 rw [zh6 hf hw];exact ⟨hw,rfl⟩
theorem Ren.inv {n:Nat} {f:Nat→Nat} (hf:Ren n f):Ren n (zcB n f) :=
 ⟨fun x hx=>(zey hf hx).1,fun x y hx hy e=>by rw [← (zey hf hx).2,← (zey hf hy).2,e]⟩
theorem zir.inv {n:Nat} {f:Nat→Nat} {R R':zD} (hf:Ren n f) (h:zir n f R R'):zir n (zcB n f) R' R :=
 ⟨h.len.symm,fun i r r' h1 h2 v w hv hw=>by
  have e:=h.rel i r' r h2 h1 (zcB n f v) (zcB n f w) (zey hf hv).1 (zey hf hw).1
  rw [(zey hf hv).2,(zey hf hw).2] at e
  exact e.symm⟩
theorem zdz.inv {n:Nat} {fa fb:Nat→Int} {R R':zD} {f:Nat→Nat} (h:zdz n fa fb R R' f):zdz n fb fa R' R (zcB n f) :=
 ⟨h.ren.inv,fun x hx=>by rw [← h.fac _ (zey h.ren hx).1,(zey h.ren hx).2],h.rel.inv h.ren⟩
end Go.Ab
namespace Go.Ab
def zns (n:Nat) (R:zD) (q:Nat→Nat):Prop := ∀ v w,v < n→w < n→q v=q w→zaf n R q v=zaf n R q w
theorem zlo {l:List Int} {x:Int} : x∈zfS l↔x∈l:=by
 unfold zfS;rw [(zcE _).mem_iff];exact zaH
theorem zsm {n:Nat} {r:Nat→Nat→Bool} {q:Nat→Nat} {w:Nat} {x:Int} : x∈zdR n r q w ↔ ∃ v,v < n∧r w v=true∧(q v:Int)=x:=by
 unfold zdR
 rw [List.mem_map]
 constructor
 ·rintro ⟨v,hv,e⟩
  obtain ⟨h1,h2⟩:=List.mem_filter.1 hv
  exact ⟨v,List.mem_range.1 h1,h2,e⟩
 ·rintro ⟨v,h1,h2,e⟩
  exact ⟨v,List.mem_filter.2 ⟨List.mem_range.2 h1,h2⟩,e⟩
theorem zdU {n:Nat} {R:zD} {q:Nat→Nat} {v w:Nat} : zaf n R q v=zaf n R q w↔q v=q w ∧ ∀ r∈R,∀ x:Nat,(∃ u,u < n∧r v u=true∧q u=x) ↔ ∃ u,u < n∧r w u=true∧q u=x:=by
 have cast : ∀ (r:Nat→Nat→Bool) (a:Nat) (x:Nat),((x:Int)∈zdR n r q a) ↔ ∃ u,u < n∧r a u=true∧q u=x:=fun r a x=>by
  rw [zsm]
  exact ⟨fun ⟨u,h1,h2,h3⟩=>⟨u,h1,h2,by omega⟩,fun ⟨u,h1,h2,h3⟩=>⟨u,h1,h2,by omega⟩⟩
 constructor
 ·intro h
  obtain ⟨h1,h2⟩:=List.cons.inj h
  refine ⟨by simp at h1;omega,fun r hr x=>?_⟩
  rw [← cast,← cast,← zlo,← zlo (l:=zdR n r q w)]
  have:=(List.map_inj_left.1 h2) r hr
  rw [this]
 ·rintro ⟨h1,h2⟩
  unfold zaf
  rw [h1]
  congr 1
  refine List.map_congr_left fun r hr=>zrv fun x=>?_
  constructor
  ·intro hx
   obtain ⟨u,a,b,rfl⟩:=zsm.1 hx
   exact (cast r w (q u)).2 ((h2 r hr (q u)).1 ⟨u,a,b,rfl⟩)
  ·intro hx
   obtain ⟨u,a,b,rfl⟩:=zsm.1 hx
   exact (cast r v (q u)).2 ((h2 r hr (q u)).2 ⟨u,a,b,rfl⟩)
theorem zrw {n:Nat} {R:zD} {q:Nat→Nat} (hs:zns n R q) {p:Nat→Nat} (hp : ∀ v w,v < n→w < n→q v=q w→p v=p w) : ∀ v w,v < n→w < n→q v=q w→zaf n R p v=zaf n R p w:=by
 intro v w hv hw h
 obtain ⟨-,h2⟩:=zdU.1 (hs v w hv hw h)
 refine zdU.2 ⟨hp v w hv hw h,fun r hr x=>?_⟩
 constructor
 ·rintro ⟨u,a,b,rfl⟩
  obtain ⟨u',a',b',e⟩:=(h2 r hr (q u)).1 ⟨u,a,b,rfl⟩
  exact ⟨u',a',b',hp u' u a' a e⟩
 ·rintro ⟨u,a,b,rfl⟩
  obtain ⟨u',a',b',e⟩:=(h2 r hr (q u)).2 ⟨u,a,b,rfl⟩
  exact ⟨u',a',b',hp u' u a' a e⟩
theorem zsy {n:Nat} {R:zD} {q:Nat→Nat} (hs:zns n R q) : ∀ (k:Nat) (p:Nat→Nat) (c:Nat),(∀ v w,v < n→w < n→q v=q w→p v=p w) → ∀ v w,v < n→w < n→q v=q w→(zbK n (zaf n R) k p c).1 v=(zbK n (zaf n R) k p c).1 w
 | 0,p,c,hp=>hp
 | k+1,p,c,hp=>by
  unfold zbK
  by_cases h:zb2 n (zaf n R) p=c
  ·rw [if_pos h];exact hp
  ·rw [if_neg h]
   refine zsy hs k _ _ fun v w hv hw e=>?_
   exact (zlE hv hw).2 (zrw hs hp v w hv hw e)
theorem zna {n:Nat} {R:zD} {first:Nat→Tup} : ∃ q,zcP n R first=(q,dcN n q)∧zns n R q∧(∀ v w,v < n→w < n→q v=q w→first v=first w):=by
 have hd:dcN n (fun w=>rkN ((List.range n).map first) (first w))=cnN ((List.range n).map first):=by
  have hm : ∀ w,w < n→first w∈(List.range n).map first:=fun w hw=>List.mem_map.2 ⟨w,List.mem_range.2 hw,rfl⟩
  exact Nat.le_antisymm (znx (f:=first) fun v w _ _ h=>by rw [h]) (znx (g:=first) fun v w hv hw h=>zvC (hm v hv) (hm w hw) h)
 obtain ⟨q,h1,h2,h3⟩:=zti (next:=zaf n R) (fun q v w hv hw h=>zgy q v w hv hw h) (n+1) (fun w=>rkN ((List.range n).map first) (first w)) (by omega)
 rw [hd] at h1
 refine ⟨q,h1,zwL (fun v w hv hw h=>zgy q v w hv hw h) h2.symm,fun v w hv hw h=>?_⟩
 exact zvC (List.mem_map.2 ⟨v,List.mem_range.2 hv,rfl⟩) (List.mem_map.2 ⟨w,List.mem_range.2 hw,rfl⟩) (h3 v w hv hw h)
theorem zrY {n:Nat} {q:Nat→Nat} : dcN n q=n ↔ ∀ v w,v < n→w < n→q v=q w→v=w:=by
 constructor
 ·intro h
  refine zwL (f:=fun w=>w) (g:=q) (fun v w _ _ e=>by rw [e]) ?_
  have:(ddT ((List.range n).map fun w=>w)).length=n:=by
   have h1:=zb9 (l:=(List.range n).map fun w=>w) (l':=ddT ((List.range n).map fun w=>w)) (by simpa using List.nodup_range) fun x hx=>zaH.2 hx
   have h2:=ziB n fun w=>w
   unfold dcN at h2
   rw [List.length_map,List.length_range] at h1
   omega
  rw [this];exact h
 ·intro h
  have h1:=zb9 (l:=(List.range n).map q) (l':=ddT ((List.range n).map q)) (by
   rw [List.Nodup,List.pairwise_map]
   exact List.Pairwise.imp_of_mem (fun {a b} ha hb hab e=>hab (h a b (List.mem_range.1 ha) (List.mem_range.1 hb) e)) List.nodup_range) fun x hx=>zaH.2 hx
  have h2:=ziB n q
  rw [List.length_map,List.length_range] at h1
  unfold dcN at h2 ⊢
  omega
theorem zyg {n:Nat} {R:zD} {f g:Nat→Tup} (h : ∀ v w,v < n→w < n→f v=f w→g v=g w) : ∀ v w,v < n→w < n→(zcP n R f).1 v=(zcP n R f).1 w→(zcP n R g).1 v=(zcP n R g).1 w:=by
 obtain ⟨q,h1,h2,h3⟩:=zna (n:=n) (R:=R) (first:=f)
 rw [h1]
 intro v w hv hw e
 exact zsy h2 (n+1) _ _ (fun v w hv hw e=>by rw [h v w hv hw (h3 v w hv hw e)]) v w hv hw e
theorem zpQ {n:Nat} {R:zD} {first:Nat→Tup} : (zcP n R first).2=dcN n (zcP n R first).1:=by
 obtain ⟨q,h1,-⟩:=zna (n:=n) (R:=R) (first:=first)
 rw [h1]
theorem zth {n:Nat} {R:zD} {f g:Nat→Tup} (h : ∀ v w,v < n→w < n→f v=f w→g v=g w) (hg:(zcP n R g).2=n):(zcP n R f).2=n∧Ren n (zcP n R f).1:=by
 have h1 : ∀ v w,v < n→w < n→(zcP n R f).1 v=(zcP n R f).1 w→v=w:=fun v w hv hw e=>by
  rw [zpQ] at hg
  exact zrY.1 hg v w hv hw (zyg h v w hv hw e)
 refine ⟨by rw [zpQ];exact zrY.2 h1,⟨fun w hw=>?_,h1⟩⟩
 have key : ∀ (k:Nat) (q:Nat→Nat) (c:Nat),(∀ w,w < n→q w < n) → ∀ w,w < n→(zbK n (zaf n R) k q c).1 w < n:=by
  intro k
  induction k with
  | zero=>intro q c hq;exact hq
  | succ k ih =>
   intro q c hq
   unfold zbK
   by_cases e:zb2 n (zaf n R) q=c
   ·rw [if_pos e];exact hq
   ·rw [if_neg e]
    refine ih _ _ fun w hw=>?_
    have:=zvD (zst (next:=zaf n R) (q:=q) hw)
    have h2:=zyQ (n:=n) (next:=zaf n R) q
    exact Nat.lt_of_lt_of_le this h2
 refine key (n+1) _ _ (fun w hw=>?_) w hw
 have h2:=zvD (ts:=(List.range n).map f) (t:=f w) (List.mem_map.2 ⟨w,List.mem_range.2 hw,rfl⟩)
 have h3:cnN ((List.range n).map f)≤n:=by
  have:=zb9 (zc8 ((List.range n).map f)) (l':=(List.range n).map f) fun x hx=>zaH.1 hx
  rwa [List.length_map,List.length_range] at this
 exact Nat.lt_of_lt_of_le h2 h3
theorem zDp {ts:List Tup} {t:Tup} (h : ∀ s∈ts,0≤zbe s t):rkN ts t=0:=by
 unfold rkN
 rw [List.length_eq_zero_iff,List.filter_eq_nil_iff]
 intro s hs
 have:=h s (zaH.1 hs)
 simp;omega
theorem zqB {a b:Int} {x y:Tup} (h:a < b):zbe ([a]::x) ([b]::y) = -1:=by
 have e:zao zbv [a] [b] = -1:=by simp [zao,zbv,h]
 show (if zao zbv [a] [b]=0 then _ else zao zbv [a] [b]) = -1
 rw [e];rfl
theorem zz4 {n:Nat} {R:zD} {root:Nat} (hr:root < n) {x:Nat→Tup} : let q:=(zcP n R fun w=>[if w=root then (0:Int) else 1]::x w).1;q root=0 ∧ ∀ w,w < n→w≠root→0 < q w:=by
 have step : ∀ (t:Nat→Tup) (a:Nat→Int) (y:Nat→Tup),(∀ w,t w=[a w]::y w)→(∀ w,w < n→w≠root→a root < a w)→rkN ((List.range n).map t) (t root)=0 ∧ ∀ w,w < n→w≠root→0 < rkN ((List.range n).map t) (t w):=by
  intro t a y ht ha
  have hz:rkN ((List.range n).map t) (t root)=0:=zDp fun s hs=>by
   obtain ⟨w,hw,rfl⟩:=List.mem_map.1 hs
   by_cases e:w=root
   ·rw [e,zaB.refl];omega
   ·have:=zaB.anti (t root) (t w)
    rw [this,ht,ht,zqB (ha w (List.mem_range.1 hw) e)];decide
  refine ⟨hz,fun w hw hne=>?_⟩
  have:=(znd (ts:=(List.range n).map t) (s:=t root) (t:=t w) (List.mem_map.2 ⟨root,List.mem_range.2 hr,rfl⟩) (List.mem_map.2 ⟨w,List.mem_range.2 hw,rfl⟩)).2 (by
   rw [ht root,ht w,zqB (ha w hw hne)];decide)
  omega
 have key : ∀ (k:Nat) (q:Nat→Nat) (c:Nat),q root=0→(∀ w,w < n→w≠root→0 < q w)→(zbK n (zaf n R) k q c).1 root=0 ∧ ∀ w,w < n→w≠root→0 < (zbK n (zaf n R) k q c).1 w:=by
  intro k
  induction k with
  | zero=>intro q c h1 h2;exact ⟨h1,h2⟩
  | succ k ih =>
   intro q c h1 h2
   unfold zbK
   by_cases e:zb2 n (zaf n R) q=c
   ·rw [if_pos e];exact ⟨h1,h2⟩
   ·rw [if_neg e]
    have:=step (zaf n R q) (fun w=>(q w:Int)) (fun w=>R.map fun r=>zfS (zdR n r q w)) (fun w=>rfl) (fun w hw hne=>by have:=h2 w hw hne;omega)
    exact ih _ _ this.1 this.2
 have h0:=step (fun w=>[if w=root then (0:Int) else 1]::x w) (fun w=>if w=root then 0 else 1) x (fun w=>rfl) (fun w hw hne=>by simp [hne])
 exact key (n+1) _ _ h0.1 h0.2
end Go.Ab
namespace Go.Ab
def zeu (n:Nat) (R:zD) (p:Nat→Nat):Nat→Nat:=zac (zbB (zaf n R p))
theorem zgV {n:Nat} {R:zD} {p:Nat→Nat} {v w:Nat} : zeu n R p v=zeu n R p w↔zaf n R p v=zaf n R p w:=by
 unfold zeu;rw [zkk (zcm _)];simp [zbB]
theorem zgw (n:Nat) (R:zD) (p:Nat→Nat) (m:Nat):za2 m (zeu n R p):=zeS (zcm _) m
def zjq (n:Nat) (R:zD):Nat→(Nat→Nat)→Nat→Nat
 | 0,p=>p
 | k+1,p=>if (List.range n).map (zeu n R p)=(List.range n).map p then p else zjq n R k (zeu n R p)
theorem zlU {n:Nat} {p q:Nat→Nat} : (List.range n).map p=(List.range n).map q ↔ ∀ w,w < n→p w=q w:=by
 rw [List.map_inj_left]
 exact ⟨fun h w hw=>h w (List.mem_range.2 hw),fun h w hw=>h w (List.mem_range.1 hw)⟩
theorem zzC {n:Nat} {R:zD} {p:Nat→Nat} (hp:za2 n p) (h : ∃ w,w < n∧zeu n R p w≠p w):zC n p < zC n (zeu n R p):=by
 have fine : ∀ v w,v < n→w < n→zeu n R p v=zeu n R p w→p v=p w:=fun v w hv hw e=>zgy p v w hv hw (zgV.1 e)
 have rep : ∀ w,w < n→p w=w→zeu n R p w=w:=fun w hw e=>by
  have h1:=(zgw n R p n).le w hw
  have h2:=(zgw n R p n).idem w hw
  have h3:=fine (zeu n R p w) w (by omega) hw h2
  have h4:=hp.le (zeu n R p w) (by omega)
  omega
 unfold zC
 have e1 : ∀ f:Nat→Nat,(List.range n).filter (fun w=>decide (f w=w))=(List.range n).filter fun w=>decide (w < n∧f w=w):=fun f=>List.filter_congr fun w hw=>by
  have:=List.mem_range.1 hw
  simp [this]
 rw [e1,e1]
 refine (zf0 (fun w hw=>?_) _).2 ?_
 ·simp only [decide_eq_true_eq] at hw ⊢
  exact ⟨hw.1,rep w hw.1 hw.2⟩
 ·obtain ⟨w,hw,hne⟩:=h
  refine Classical.byContradiction fun hn=>hne ?_
  have hall : ∀ u,u < n→zeu n R p u=u→p u=u:=fun u hu e=>Classical.byContradiction fun h=>hn ⟨u,List.mem_range.2 hu,by simp [h],by simp [hu,e]⟩
  have h1:=(zgw n R p n).le w hw
  have h2:=(zgw n R p n).idem w hw
  have h3:=hall _ (by omega) h2
  rw [← h3]
  exact fine _ w (by omega) hw h2
theorem zpI {n:Nat} {R:zD} : ∀ (k:Nat) (p:Nat→Nat),za2 n p→n < k+zC n p → ∃ q,zjq n R k p=q∧za2 n q∧(∀ w,w < n→zeu n R q w=q w)∧(∀ v w,v < n→w < n→q v=q w→p v=p w) ∧
  ∀ Q:Nat→Nat,zns n R Q→(∀ v w,v < n→w < n→Q v=Q w→p v=p w) → ∀ v w,v < n→w < n→Q v=Q w→q v=q w
 | 0,p,hp,h=>by have:=zdE n p;omega
 | k+1,p,hp,h=>by
  unfold zjq
  by_cases he:(List.range n).map (zeu n R p)=(List.range n).map p
  ·rw [if_pos he]
   exact ⟨p,rfl,hp,zlU.1 he,fun _ _ _ _ h=>h,fun Q _ h=>h⟩
  ·rw [if_neg he]
   have hne : ∃ w,w < n∧zeu n R p w≠p w:=Classical.byContradiction fun hn=>he (zlU.2 fun w hw=>Classical.byContradiction fun h=>hn ⟨w,hw,h⟩)
   have hg:=zzC hp hne
   obtain ⟨q,h1,h2,h3,h4,h5⟩:=zpI k (zeu n R p) (zgw n R p n) (by omega)
   exact ⟨q,h1,h2,h3,fun v w hv hw e=>zgy p v w hv hw (zgV.1 (h4 v w hv hw e)),fun Q hQ hQp=>h5 Q hQ fun v w hv hw e=>zgV.2 (zrw hQ hQp v w hv hw e)⟩
theorem zvf {n:Nat} {R:zD} {fa:Nat→Int} {first:Nat→Tup} (hfst : ∀ v w,v < n→w < n→(first v=first w↔fa v=fa w)):zC n (zjq n R (n+1) (zac (zbB fa)))=n↔(zcP n R first).2=n:=by
 obtain ⟨q,h1,h2,h3,h4,h5⟩:=zpI (R:=R) (n+1) (zac (zbB fa)) (zeS (zcm fa) n) (by omega)
 rw [h1]
 have hfa : ∀ v w,zac (zbB fa) v=zac (zbB fa) w↔fa v=fa w:=fun v w=>by rw [zkk (zcm fa)];simp [zbB]
 have hq:zns n R q:=fun v w hv hw e=>zgV.1 (by rw [h3 v hv,h3 w hw,e])
 obtain ⟨Q,g1,g2,g3⟩:=zna (n:=n) (R:=R) (first:=first)
 have hQq:=h5 Q g2 fun v w hv hw e=>(hfa v w).2 ((hfst v w hv hw).1 (g3 v w hv hw e))
 have hqQ : ∀ v w,v < n→w < n→q v=q w→Q v=Q w:=by
  have:=zsy hq (n+1) (fun w=>rkN ((List.range n).map first) (first w)) (cnN ((List.range n).map first)) fun v w hv hw e=>by
   rw [(hfst v w hv hw).2 ((hfa v w).1 (h4 v w hv hw e))]
  intro v w hv hw e
  have h:=this v w hv hw e
  have e1:(zbK n (zaf n R) (n+1) (fun w=>rkN ((List.range n).map first) (first w)) (cnN ((List.range n).map first))).1=Q:=by
   have:=congrArg Prod.fst g1
   exact this
  rw [e1] at h
  exact h
 rw [g1]
 show zC n q=n↔dcN n Q=n
 rw [zrY]
 have hc:zC n q=n ↔ ∀ w,w < n→q w=w:=by
  unfold zC
  constructor
  ·intro h w hw
   have:=List.length_filter_eq_length_iff.1 (h.trans List.length_range.symm) w (List.mem_range.2 hw)
   exact of_decide_eq_true this
  ·intro h
   exact (List.length_filter_eq_length_iff.2 fun w hw=>decide_eq_true (h w (List.mem_range.1 hw))).trans List.length_range
 rw [hc]
 constructor
 ·intro h v w hv hw e
  have:=hQq v w hv hw e
  rw [h v hv,h w hw] at this
  exact this
 ·intro h w hw
  have h6:=h2.le w hw
  exact h _ w (by omega) hw (hqQ _ w (by omega) hw (h2.idem w hw))
end Go.Ab
namespace Go.Ab
structure zcL (n n':Nat) (R R':zD) (fa fb:Nat→Int) (Z:Nat→Nat→Prop):Prop where
 len:R'.length=R.length
 lt : ∀ {v v'},Z v v'→v < n∧v' < n'
 fac : ∀ {v v'},Z v v'→fa v=fb v'
 forth : ∀ {i:Nat} {r r':Nat→Nat→Bool},R[i]? = some r→R'[i]? = some r' → ∀ {v v' u},Z v v'→u < n→r v u=true → ∃ u',u' < n'∧r' v' u'=true∧Z u u'
 back : ∀ {i:Nat} {r r':Nat→Nat→Bool},R[i]? = some r→R'[i]? = some r' → ∀ {v v' u'},Z v v'→u' < n'→r' v' u'=true → ∃ u,u < n∧r v u=true∧Z u u'
theorem zcL.symm {n n':Nat} {R R':zD} {fa fb:Nat→Int} {Z:Nat→Nat→Prop} (B:zcL n n' R R' fa fb Z):zcL n' n R' R fb fa fun v' v=>Z v v' where
 len:=B.len.symm
 lt h:=⟨(B.lt h).2,(B.lt h).1⟩
 fac h:=(B.fac h).symm
 forth h1 h2:=fun {v v' u} hz hu hr=>by obtain ⟨u,a,b,c⟩:=B.back h2 h1 hz hu hr;exact ⟨u,a,b,c⟩
 back h1 h2:=fun {v v' u} hz hu hr=>by obtain ⟨u,a,b,c⟩:=B.forth h2 h1 hz hu hr;exact ⟨u,a,b,c⟩
theorem zf4 {R R':zD} (h:R'.length=R.length) {i:Nat} {r:Nat→Nat→Bool} (hr:R[i]? = some r) : ∃ r',R'[i]? = some r' :=
 ⟨_,List.getElem?_eq_getElem (by have:=(List.getElem?_eq_some_iff.1 hr).1;omega)⟩
theorem zcL.trans {n n' n2:Nat} {R R' R2:zD} {fa fb fc:Nat→Int} {Z Z':Nat→Nat→Prop} (B:zcL n n' R R' fa fb Z) (B':zcL n' n2 R' R2 fb fc Z'):zcL n n2 R R2 fa fc fun v w => ∃ u,Z v u∧Z' u w where
 len:=B'.len.trans B.len
 lt:=fun ⟨u,h,h'⟩=>⟨(B.lt h).1,(B'.lt h').2⟩
 fac:=fun ⟨u,h,h'⟩=>(B.fac h).trans (B'.fac h')
 forth h1 h2:=fun ⟨x,h,h'⟩ hu hr=>by
  obtain ⟨r',hr'⟩:=zf4 B.len h1
  obtain ⟨a,a1,a2,a3⟩:=B.forth h1 hr' h hu hr
  obtain ⟨b,b1,b2,b3⟩:=B'.forth hr' h2 h' a1 a2
  exact ⟨b,b1,b2,a,a3,b3⟩
 back h1 h2:=fun ⟨x,h,h'⟩ hu hr=>by
  obtain ⟨r',hr'⟩:=zf4 B.len h1
  obtain ⟨a,a1,a2,a3⟩:=B'.back hr' h2 h' hu hr
  obtain ⟨b,b1,b2,b3⟩:=B.back h1 hr' h a1 a2
  exact ⟨b,b1,b2,a,b3,a3⟩
theorem zwY {n:Nat} {R:zD} {fa:Nat→Int} {Z:Nat→Nat→Prop} (B:zcL n n R R fa fa Z) : ∀ (k:Nat) (p:Nat→Nat),(∀ v w,Z v w→p v=p w) → ∀ v w,Z v w→zjq n R k p v=zjq n R k p w
 | 0,p,hp=>hp
 | k+1,p,hp=>by
  unfold zjq
  split
  ·exact hp
  ·refine zwY B k _ fun v w hz=>zgV.2 (zdU.2 ⟨hp v w hz,fun r hr x=>?_⟩)
   obtain ⟨i,hi⟩:=List.mem_iff_getElem?.1 hr
   constructor
   ·rintro ⟨u,a,b,rfl⟩
    obtain ⟨u',c,d,e⟩:=B.forth hi hi hz a b
    exact ⟨u',c,d,(hp u u' e).symm⟩
   ·rintro ⟨u,a,b,rfl⟩
    obtain ⟨u',c,d,e⟩:=B.back hi hi hz a b
    exact ⟨u',c,d,hp u' u e⟩
def coa (n:Nat) (R:zD) (fa:Nat→Int):Nat→Nat:=zjq n R (n+1) (zac (zbB fa))
theorem zr3 {fa:Nat→Int} {v w:Nat} : zac (zbB fa) v=zac (zbB fa) w↔fa v=fa w:=by rw [zkk (zcm fa)];simp [zbB]
structure zkK (n:Nat) (R:zD) (fa:Nat→Int) (q:Nat→Nat):Prop where
 canon:za2 n q
 stab:zns n R q
 fac : ∀ v w,v < n→w < n→q v=q w→fa v=fa w
theorem zd1 (n:Nat) (R:zD) (fa:Nat→Int):zkK n R fa (coa n R fa):=by
 obtain ⟨q,h1,h2,h3,h4,h5⟩:=zpI (R:=R) (n+1) (zac (zbB fa)) (zeS (zcm fa) n) (by omega)
 unfold coa
 rw [h1]
 exact ⟨h2,fun v w hv hw e=>zgV.1 (by rw [h3 v hv,h3 w hw,e]),fun v w hv hw e=>zr3.1 (h4 v w hv hw e)⟩
theorem zjP {n:Nat} {R:zD} {fa:Nat→Int} {Z:Nat→Nat→Prop} (B:zcL n n R R fa fa Z) {v w:Nat} (h:Z v w):coa n R fa v=coa n R fa w :=
 zwY B (n+1) _ (fun v w hz=>zr3.2 (B.fac hz)) v w h
theorem zkK.bis {n:Nat} {R:zD} {fa:Nat→Int} {q:Nat→Nat} (S:zkK n R fa q):zcL n n R R fa fa fun v w=>v < n∧w < n∧q v=q w where
 len:=rfl
 lt h:=⟨h.1,h.2.1⟩
 fac h:=S.fac _ _ h.1 h.2.1 h.2.2
 forth h1 h2:=fun {v v' u} hz hu hr=>by
  rw [h1] at h2;cases h2
  obtain ⟨u',a,b,c⟩:=((zdU.1 (S.stab _ _ hz.1 hz.2.1 hz.2.2)).2 _ (List.mem_of_getElem? h1) (q u)).1 ⟨u,hu,hr,rfl⟩
  exact ⟨u',a,b,hu,a,c.symm⟩
 back h1 h2:=fun {v v' u} hz hu hr=>by
  rw [h1] at h2;cases h2
  obtain ⟨u',a,b,c⟩:=((zdU.1 (S.stab _ _ hz.1 hz.2.1 hz.2.2)).2 _ (List.mem_of_getElem? h1) (q u)).2 ⟨u,hu,hr,rfl⟩
  exact ⟨u',a,b,a,hu,c⟩
def zbg (n:Nat) (q:Nat→Nat):List Nat:=(List.range n).filter fun w=>decide (q w=w)
def zX (q:Nat→Nat) (w:Nat):Nat:=zC (q w) q
theorem zz0 {q:Nat→Nat} {u:Nat} (hu:q u=u) : ∀ n,u < n→(zbg n q)[zC u q]? = some u
 | 0,h=>by omega
 | n+1,h=>by
  unfold zbg
  rw [List.range_succ,List.filter_append]
  by_cases e:u=n
  ·subst e
   rw [List.getElem?_append_right (by show _≤zC u q;exact Nat.le_refl _)]
   show (List.filter _ [u])[zC u q - zC u q]? = _
   rw [Nat.sub_self]
   simp [hu]
  ·have ih:=zz0 hu n (by omega)
   have hlt:=(List.getElem?_eq_some_iff.1 ih).1
   rw [List.getElem?_append_left (by exact hlt)]
   exact ih
section
variable {n:Nat} {q:Nat→Nat} (hq:za2 n q)
include hq
theorem zgZ {w:Nat} (hw:w < n):(zbg n q)[zX q w]? = some (q w):=zz0 (hq.idem w hw) n (by have:=hq.le w hw;omega)
theorem zg0 {w:Nat} (hw:w < n):zX q w < zC n q:=(List.getElem?_eq_some_iff.1 (zgZ hq hw)).1
theorem zpK {v w:Nat} (hv:v < n) (hw:w < n):zX q v=zX q w↔q v=q w:=by
 constructor
 ·intro h
  have h1:=zgZ hq hv
  rw [h,zgZ hq hw] at h1
  exact (Option.some.inj h1).symm
 ·intro h;unfold zX;rw [h]
theorem zlr {i:Nat} (hi:i < zC n q) : ∃ u,(zbg n q)[i]? = some u∧u < n∧q u=u∧zX q u=i:=by
 obtain ⟨u,h⟩ : ∃ u,(zbg n q)[i]? = some u:=⟨_,List.getElem?_eq_getElem hi⟩
 have h0:=List.mem_filter.1 (List.mem_of_getElem? h)
 have h1:=List.mem_range.1 h0.1
 have h2:=of_decide_eq_true h0.2
 refine ⟨u,h,h1,h2,?_⟩
 have h3:=zgZ hq h1
 rw [h2] at h3
 have hnd:(zbg n q).Pairwise (· ≠ ·):=List.Pairwise.filter _ List.nodup_range
 obtain ⟨hi,ei⟩:=List.getElem?_eq_some_iff.1 h
 obtain ⟨hj,ej⟩:=List.getElem?_eq_some_iff.1 h3
 rw [List.pairwise_iff_getElem] at hnd
 rcases Nat.lt_trichotomy (zX q u) i with hl|hl|hl
 ·exact absurd (ej.trans ei.symm) (hnd _ _ hj hi hl)
 ·exact hl
 ·exact absurd (ei.trans ej.symm) (hnd _ _ hi hj hl)
end
def zdQ (n:Nat) (q:Nat→Nat) (r:Nat→Nat→Bool) (i j:Nat):Bool:=(List.range n).any fun v=>(List.range n).any fun w=>zX q v==i&&(zX q w==j&&r v w)
theorem ziT {n:Nat} {q:Nat→Nat} {r:Nat→Nat→Bool} {i j:Nat} : zdQ n q r i j=true ↔ ∃ v w,v < n∧w < n∧zX q v=i∧zX q w=j∧r v w=true:=by
 unfold zdQ
 simp only [List.any_eq_true,List.mem_range,Bool.and_eq_true,beq_iff_eq]
 exact ⟨fun ⟨v,hv,w,hw,a,b,c⟩=>⟨v,w,hv,hw,a,b,c⟩,fun ⟨v,w,hv,hw,a,b,c⟩=>⟨v,hv,w,hw,a,b,c⟩⟩
def ziS (n:Nat) (q:Nat→Nat) (fa:Nat→Int) (i:Nat):Int:=fa ((zbg n q).getD i 0)
theorem zkK.quo {n:Nat} {R:zD} {fa:Nat→Int} {q:Nat→Nat} (S:zkK n R fa q):zcL n (zC n q) R (R.map (zdQ n q)) fa (ziS n q fa) fun w i=>w < n∧i=zX q w where
 len:=by simp
 lt:=fun {w i} h=>⟨h.1,by rw [h.2];exact zg0 S.canon h.1⟩
 fac:=fun {w i} h=>by
  rw [h.2];unfold ziS
  rw [List.getD,zgZ S.canon h.1]
  have h1:=S.canon.le w h.1
  exact S.fac _ _ h.1 (by simp;omega) (S.canon.idem w h.1).symm
 forth h1 h2:=fun {v v' u} hz hu hr=>by
  rw [List.getElem?_map,h1] at h2;cases h2
  exact ⟨zX q u,zg0 S.canon hu,ziT.2 ⟨v,u,hz.1,hu,hz.2.symm,rfl,hr⟩,hu,rfl⟩
 back h1 h2:=fun {v v' u'} hz hu hr=>by
  rw [List.getElem?_map,h1] at h2;cases h2
  obtain ⟨a,b,ha,hb,e1,e2,e3⟩:=ziT.1 hr
  have e:=(zpK S.canon ha hz.1).1 (e1.trans hz.2)
  obtain ⟨u,h3,h4,h5⟩:=((zdU.1 (S.stab a v ha hz.1 e)).2 _ (List.mem_of_getElem? h1) (q b)).1 ⟨b,hb,e3,rfl⟩
  exact ⟨u,h3,h4,h3,by rw [← e2];exact ((zpK S.canon h3 hb).2 h5).symm⟩
theorem zzT {n:Nat} {R:zD} {fa:Nat→Int} : let q:=coa n R fa; ∀ i,i < zC n q→coa (zC n q) (R.map (zdQ n q)) (ziS n q fa) i=i:=by
 intro q
 have S:zkK n R fa q:=zd1 n R fa
 have S':=zd1 (zC n q) (R.map (zdQ n q)) (ziS n q fa)
 have B:=(S.quo.trans S'.bis).trans S.quo.symm
 have key : ∀ i j,i < zC n q→j < zC n q→coa (zC n q) (R.map (zdQ n q)) (ziS n q fa) i=coa (zC n q) (R.map (zdQ n q)) (ziS n q fa) j→i=j:=by
  intro i j hi hj he
  obtain ⟨u,-,u1,u2,u3⟩:=zlr S.canon hi
  obtain ⟨w,-,w1,w2,w3⟩:=zlr S.canon hj
  have:=zjP B (v:=u) (w:=w) ⟨j,⟨i,⟨u1,u3.symm⟩,hi,hj,he⟩,w1,w3.symm⟩
  rw [← u3,← w3]
  exact (zpK S.canon u1 w1).2 this
 intro i hi
 have h1:=S'.canon.le i hi
 exact key _ _ (by omega) hi (S'.canon.idem i hi)
end Go.Ab
namespace Go.Ab
def ziq (n:Nat) (R:zD) (fa:Nat→Int):Prop := ∀ i,i < n→coa n R fa i=i
theorem ziq.eq {n:Nat} {R:zD} {fa:Nat→Int} (h:ziq n R fa) {Z:Nat→Nat→Prop} (B:zcL n n R R fa fa Z) {v w:Nat} (hz:Z v w):v=w:=by
 have:=zjP B hz
 rwa [h v (B.lt hz).1,h w (B.lt hz).2] at this
theorem zBa {n n':Nat} {R R':zD} {fa fb:Nat→Int} {Z:Nat→Nat→Prop} (hd:ziq n R fa) (hd':ziq n' R' fb) (B:zcL n n' R R' fa fb Z) (ht : ∀ v,v < n → ∃ v',Z v v') (hs : ∀ v',v' < n' → ∃ v,Z v v'):n'=n ∧ ∃ f,zdz n fa fb R R' f ∧ ∀ v,v < n→Z v (f v):=by
 classical
 have inj : ∀ {v w v'},Z v v'→Z w v'→v=w:=fun {v w v'} h1 h2=>hd.eq (B.trans B.symm) ⟨v',h1,h2⟩
 have fn : ∀ {v v' w'},Z v v'→Z v w'→v'=w':=fun {v v' w'} h1 h2=>hd'.eq (B.symm.trans B) ⟨v,h1,h2⟩
 let f:Nat→Nat:=fun v=>if h:v < n then Classical.choose (ht v h) else 0
 have hf : ∀ v,v < n→Z v (f v):=fun v hv=>by
  have:f v=Classical.choose (ht v hv):=dif_pos hv
  rw [this];exact Classical.choose_spec (ht v hv)
 have hinj : ∀ v w,v < n→w < n→f v=f w→v=w:=fun v w hv hw e=>inj (hf v hv) (e▸hf w hw)
 have hn:n'=n:=by
  refine Nat.le_antisymm ?_ ?_
  ·have:=zb9 (l:=List.range n') (l':=(List.range n).map f) List.nodup_range fun x hx=>by
    obtain ⟨v,hv⟩:=hs x (List.mem_range.1 hx)
    have hvn:=(B.lt hv).1
    exact List.mem_map.2 ⟨v,List.mem_range.2 hvn,fn (hf v hvn) hv⟩
   simpa using this
  ·have:=zb9 (l:=(List.range n).map f) (l':=List.range n') (by
    rw [List.Nodup,List.pairwise_map]
    exact List.Pairwise.imp_of_mem (fun {a b} ha hb hab e=>hab (hinj a b (List.mem_range.1 ha) (List.mem_range.1 hb) e)) List.nodup_range) fun x hx=>by
    obtain ⟨v,hv,rfl⟩:=List.mem_map.1 hx
    exact List.mem_range.2 (B.lt (hf v (List.mem_range.1 hv))).2
   simpa using this
 subst hn
 refine ⟨rfl,f,⟨⟨fun v hv=>(B.lt (hf v hv)).2,hinj⟩,fun v hv=>(B.fac (hf v hv)).symm,B.len,fun i r r' h1 h2 v w hv hw=>?_⟩,hf⟩
 rw [Bool.eq_iff_iff]
 constructor
 ·intro h
  obtain ⟨u,a,b,c⟩:=B.back h1 h2 (hf v hv) (B.lt (hf w hw)).2 h
  rwa [inj c (hf w hw)] at b
 ·intro h
  obtain ⟨u,a,b,c⟩:=B.forth h1 h2 (hf v hv) hw h
  rwa [fn c (hf w hw)] at b
theorem zdz.bis {n:Nat} {fa fb:Nat→Int} {R R':zD} {f:Nat→Nat} (h:zdz n fa fb R R' f):zcL n n R R' fa fb fun v v'=>v < n∧v'=f v where
 len:=h.rel.len
 lt:=fun {v v'} hz=>⟨hz.1,by rw [hz.2];exact h.ren.lt v hz.1⟩
 fac:=fun {v v'} hz=>by rw [hz.2];exact (h.fac v hz.1).symm
 forth h1 h2:=fun {v v' u} hz hu hr=>⟨f u,h.ren.lt u hu,by rw [hz.2,h.rel.rel _ _ _ h1 h2 v u hz.1 hu];exact hr,hu,rfl⟩
 back h1 h2:=fun {v v' u'} hz hu hr=>by
  obtain ⟨u,h3,rfl⟩:=h.ren.surj hu
  exact ⟨u,h3,by rw [← h.rel.rel _ _ _ h1 h2 v u hz.1 h3,← hz.2];exact hr,h3,rfl⟩
end Go.Ab
namespace Go.Ab
def zM (l:List Nat) (R:zD):zD:=R.map fun r=>fun i j=>r (l.getD i 0) (l.getD j 0)
def zat (l:List Nat) (fa:Nat→Int):Nat→Int:=fun i=>fa (l.getD i 0)
def ze8 (l:List Nat) (fa:Nat→Int) (root:Nat) (i:Nat):Tup:=[if l.getD i 0=root then (0:Int) else 1]::[[zat l fa i]]
def zbT (l:List Nat) (R:zD) (fa:Nat→Int) (root:Nat):(Nat→Nat)×Nat:=zcP l.length (zM l R) (ze8 l fa root)
def zaa (l:List Nat) (R:zD) (fa:Nat→Int) (root:Nat):List Nat:=(List.range l.length).map fun k=>l.getD (zcB l.length (zbT l R fa root).1 k) 0
theorem zaq {l:List Nat} {i:Nat} (h:i < l.length):l.getD i 0∈l:=by
 rw [List.getD,List.getElem?_eq_getElem h];exact List.getElem_mem h
theorem zfN {l:List Nat} (hn:l.Nodup) {i j:Nat} (hi:i < l.length) (hj:j < l.length) (h:l.getD i 0=l.getD j 0):i=j:=by
 rw [List.getD,List.getD,List.getElem?_eq_getElem hi,List.getElem?_eq_getElem hj] at h
 have h:l[i]=l[j]:=by simpa using h
 rcases Nat.lt_trichotomy i j with hlt|e|hlt
 ·exact absurd h (List.pairwise_iff_getElem.1 hn i j hi hj hlt)
 ·exact e
 ·exact absurd h.symm (List.pairwise_iff_getElem.1 hn j i hj hi hlt)
theorem zgX {l:List Nat} {x:Nat} (h:x∈l) : ∃ i,i < l.length∧l.getD i 0=x:=by
 obtain ⟨i,hi,rfl⟩:=List.mem_iff_getElem.1 h
 exact ⟨i,hi,by simp [List.getD,hi]⟩
theorem zw0 {l l2:List Nat} {R R2:zD} {fa fb:Nat→Int} {root root2:Nat} {f:Nat→Nat} (hn:l.Nodup) (hn2:l2.Nodup) (hm : ∀ x,x∈l2 ↔ ∃ y,y∈l∧f y=x) (hinj : ∀ x y,x∈l→y∈l→f x=f y→x=y)
  (hfa : ∀ x,x∈l→fb (f x)=fa x) (hl:R2.length=R.length) (hR : ∀ (i:Nat) (r r':Nat→Nat→Bool),R[i]? = some r→R2[i]? = some r' → ∀ x y,x∈l→y∈l→r' (f x) (f y)=r x y) (hroot:root∈l) (hr2:f root=root2) :
  l2.length=l.length ∧ ∃ g,Ren l.length g∧(∀ i,i < l.length→l2.getD (g i) 0=f (l.getD i 0))∧(∀ i,i < l.length→(zbT l2 R2 fb root2).1 (g i)=(zbT l R fa root).1 i)∧(zbT l2 R2 fb root2).2=(zbT l R fa root).2:=by
 have hlen:l2.length=l.length:=by
  have h1:=zb9 (l:=l2) (l':=l.map f) hn2 fun x hx=>by
   obtain ⟨y,hy,rfl⟩:=(hm x).1 hx
   exact List.mem_map.2 ⟨y,hy,rfl⟩
  have h2:=zb9 (l:=l.map f) (l':=l2) (by
   rw [List.Nodup,List.pairwise_map]
   exact List.Pairwise.imp_of_mem (fun {a b} ha hb hab e=>hab (hinj a b ha hb e)) hn) fun x hx=>by
   obtain ⟨y,hy,rfl⟩:=List.mem_map.1 hx
   exact (hm _).2 ⟨y,hy,rfl⟩
  rw [List.length_map] at h1 h2
  omega
 have hex : ∀ i,i < l.length → ∃ j,j < l2.length∧l2.getD j 0=f (l.getD i 0):=fun i hi=>zgX ((hm _).2 ⟨_,zaq hi,rfl⟩)
 let g:Nat→Nat:=fun i=>if h:i < l.length then Classical.choose (hex i h) else 0
 have hg : ∀ i,i < l.length→g i < l2.length∧l2.getD (g i) 0=f (l.getD i 0):=fun i hi=>by
  have:g i=Classical.choose (hex i hi):=dif_pos hi
  rw [this];exact Classical.choose_spec (hex i hi)
 have hren:Ren l.length g:=⟨fun i hi=>by have:=(hg i hi).1;omega,fun i j hi hj e=>by
  have h1:=(hg i hi).2
  rw [e,(hg j hj).2] at h1
  exact zfN hn hi hj (hinj _ _ (zaq hj) (zaq hi) h1).symm⟩
 refine ⟨hlen,g,hren,fun i hi=>(hg i hi).2,?_⟩
 have hRR:zir l.length g (zM l R) (zM l2 R2):=by
  refine ⟨by simp [zM,hl],fun i r r' h1 h2 v w hv hw=>?_⟩
  unfold zM at h1 h2
  rw [List.getElem?_map,Option.map_eq_some_iff] at h1 h2
  obtain ⟨s,hs,rfl⟩:=h1
  obtain ⟨s',hs',rfl⟩:=h2
  show s' (l2.getD (g v) 0) (l2.getD (g w) 0)=_
  rw [(hg v hv).2,(hg w hw).2]
  exact hR i s s' hs hs' _ _ (zaq hv) (zaq hw)
 have hfirst : ∀ i,i < l.length→ze8 l2 fb root2 (g i)=ze8 l fa root i:=fun i hi=>by
  unfold ze8 zat
  rw [(hg i hi).2,hfa _ (zaq hi)]
  by_cases e:l.getD i 0=root
  ·rw [if_pos e,if_pos (by rw [e,hr2])]
  ·rw [if_neg e,if_neg (fun e'=>e (hinj _ _ (zaq hi) hroot (by rw [e',hr2])))]
 have:=znL hren hRR (first:=ze8 l fa root) (first':=ze8 l2 fb root2) hfirst
 unfold zbT
 rw [hlen]
 exact ⟨this.2.2.1,this.2.2.2⟩
theorem zwF {l l2:List Nat} {R R2:zD} {fa fb:Nat→Int} {root root2:Nat} {f:Nat→Nat} (hn:l.Nodup) (hn2:l2.Nodup) (hm : ∀ x,x∈l2 ↔ ∃ y,y∈l∧f y=x) (hinj : ∀ x y,x∈l→y∈l→f x=f y→x=y)
  (hfa : ∀ x,x∈l→fb (f x)=fa x) (hl:R2.length=R.length) (hR : ∀ (i:Nat) (r r':Nat→Nat→Bool),R[i]? = some r→R2[i]? = some r' → ∀ x y,x∈l→y∈l→r' (f x) (f y)=r x y) (hroot:root∈l) (hr2:f root=root2)
  (hc:Ren l.length (zbT l R fa root).1):zaa l2 R2 fb root2=(zaa l R fa root).map f:=by
 obtain ⟨hlen,g,h1,h2,h3,-⟩:=zw0 hn hn2 hm hinj hfa hl hR hroot hr2
 have hc2:Ren l.length (zbT l2 R2 fb root2).1:=⟨fun i hi=>by
   obtain ⟨j,hj,rfl⟩:=h1.surj hi
   rw [h3 j hj];exact hc.lt j hj,fun i j hi hj e=>by
   obtain ⟨a,ha,rfl⟩:=h1.surj hi
   obtain ⟨b,hb,rfl⟩:=h1.surj hj
   rw [h3 a ha,h3 b hb] at e
   rw [hc.inj a b ha hb e]⟩
 unfold zaa
 rw [hlen,List.map_map]
 refine List.map_congr_left fun k hk=>?_
 have hk:=List.mem_range.1 hk
 obtain ⟨a,ha,rfl⟩:=hc.surj hk
 show l2.getD (zcB l.length (zbT l2 R2 fb root2).1 _) 0=f (l.getD (zcB l.length (zbT l R fa root).1 _) 0)
 rw [zh6 hc ha,← h3 a ha,zh6 hc2 (h1.lt a ha),h2 a ha]
theorem zyM {l:List Nat} {R:zD} {fa:Nat→Int} {root:Nat} (hn:l.Nodup) (hroot:root∈l) (hc:Ren l.length (zbT l R fa root).1) :
  (zaa l R fa root).length=l.length∧(zaa l R fa root).Nodup∧(∀ x,x∈zaa l R fa root↔x∈l)∧(∀ i,i < l.length→(zbT (zaa l R fa root) R fa root).1 i=i)∧zaa (zaa l R fa root) R fa root=zaa l R fa root∧(zaa l R fa root).getD 0 0=root:=by
 have hlen:(zaa l R fa root).length=l.length:=by simp [zaa]
 have hget : ∀ i,i < l.length→(zaa l R fa root).getD ((zbT l R fa root).1 i) 0=l.getD i 0:=fun i hi=>by
  unfold zaa
  rw [List.getD,List.getElem?_map,List.getElem?_range (hc.lt i hi)]
  show l.getD (zcB l.length (zbT l R fa root).1 _) 0=_
  rw [zh6 hc hi]
 have hmem : ∀ x,x∈zaa l R fa root↔x∈l:=fun x=>by
  constructor
  ·intro h
   obtain ⟨k,hk,rfl⟩:=List.mem_map.1 h
   exact zaq (zey hc (List.mem_range.1 hk)).1
  ·intro h
   obtain ⟨i,hi,rfl⟩:=zgX h
   rw [← hget i hi]
   exact zaq (by rw [hlen];exact hc.lt i hi)
 have hnd:(zaa l R fa root).Nodup:=by
  unfold zaa
  rw [List.Nodup,List.pairwise_map]
  refine List.Pairwise.imp_of_mem (fun {a b} ha hb hab e=>hab ?_) List.nodup_range
  have ha:=zey hc (List.mem_range.1 ha)
  have hb:=zey hc (List.mem_range.1 hb)
  rw [← ha.2,← hb.2,zfN hn ha.1 hb.1 e]
 obtain ⟨-,g,h1,h2,h3,-⟩:=zw0 (f:=fun x=>x) (R:=R) (R2:=R) (fa:=fa) (fb:=fa) (root:=root) (root2:=root) hn hnd (fun x=>by rw [hmem];exact ⟨fun h=>⟨x,h,rfl⟩,fun ⟨y,h,e⟩=>e▸h⟩) (fun x y _ _ e=>e) (fun x _=>rfl) rfl (fun i r r' h1 h2 x y _ _=>by rw [h1] at h2;cases h2;rfl) hroot rfl
 have hgc : ∀ i,i < l.length→g i=(zbT l R fa root).1 i:=fun i hi=>by
  refine zfN hnd (by rw [hlen];exact h1.lt i hi) (by rw [hlen];exact hc.lt i hi) ?_
  rw [h2 i hi,hget i hi]
 have hid : ∀ i,i < l.length→(zbT (zaa l R fa root) R fa root).1 i=i:=fun i hi=>by
  obtain ⟨a,ha,rfl⟩:=h1.surj hi
  rw [h3 a ha,hgc a ha]
 refine ⟨hlen,hnd,hmem,hid,?_,?_⟩
 ·have e : ∀ k,k < l.length→zcB l.length (zbT (zaa l R fa root) R fa root).1 k=k:=fun k hk=>by
   have hr:Ren l.length (zbT (zaa l R fa root) R fa root).1:=⟨fun i hi=>by rw [hid i hi];exact hi,fun i j hi hj e=>by rwa [hid i hi,hid j hj] at e⟩
   have:=zh6 hr hk
   rwa [hid k hk] at this
  have h4:zaa (zaa l R fa root) R fa root=(List.range l.length).map fun k=>(zaa l R fa root).getD k 0:=by
   show (List.range (zaa l R fa root).length).map (fun k=>(zaa l R fa root).getD (zcB (zaa l R fa root).length (zbT (zaa l R fa root) R fa root).1 k) 0)=_
   rw [hlen]
   exact List.map_congr_left fun k hk=>by rw [e k (List.mem_range.1 hk)]
  rw [h4]
  refine List.ext_getElem? fun i=>?_
  rw [List.getElem?_map]
  by_cases hi:i < l.length
  ·rw [List.getElem?_range hi,List.getElem?_eq_getElem (by rw [hlen];exact hi)]
   simp [List.getD,show i < (zaa l R fa root).length by rw [hlen];exact hi]
  ·rw [List.getElem?_eq_none (by simp;omega),List.getElem?_eq_none (by rw [hlen];omega)];rfl
 ·obtain ⟨i,hi,e⟩:=zgX hroot
  have hz:(zbT l R fa root).1 i=0:=by
   have hm : ∀ w,w < l.length→ze8 l fa root w=[if w=i then (0:Int) else 1]::[[zat l fa w]]:=fun w hw=>by
    unfold ze8
    by_cases h:w=i
    ·rw [if_pos h,h,e,if_pos rfl]
    ·rw [if_neg h,if_neg fun h'=>h (zfN hn hw hi (h'.trans e.symm))]
   have h5:=zz4 (R:=zM l R) hi (x:=fun w=>[[zat l fa w]])
   have h6:=(znL (n:=l.length) (f:=fun w=>w) ⟨fun _ h=>h,fun _ _ _ _ h=>h⟩ (R:=zM l R) (R':=zM l R) ⟨rfl,fun i r r' h1 h2 v w _ _=>by rw [h1] at h2;cases h2;rfl⟩ (first:=fun w=>[if w=i then (0:Int) else 1]::[[zat l fa w]]) (first':=ze8 l fa root) hm).2.2.1 i hi
   have h7:(zbT l R fa root).1 i=_:=h6
   rw [h7];exact h5.1
  have:=hget i hi
  rw [hz] at this
  rw [this,e]
end Go.Ab
namespace Go.Ab
inductive Rch (n:Nat) (R:zD) (S:Nat→Prop):Nat→Prop where
 | base {v:Nat} : v < n→S v→Rch n R S v
 | step {v u:Nat} : Rch n R S v→u < n→(∃ r,r∈R∧r v u=true)→Rch n R S u
theorem Rch.lt {n:Nat} {R:zD} {S:Nat→Prop} {v:Nat} (h:Rch n R S v):v < n:=by cases h<;>assumption
theorem Rch.iso {n:Nat} {fa fb:Nat→Int} {R R':zD} {f:Nat→Nat} (hi:zdz n fa fb R R' f) {S S':Nat→Prop} (hS : ∀ v,v < n→S v→S' (f v)) {v:Nat} (h:Rch n R S v):Rch n R' S' (f v):=by
 induction h with
 | base hv hs=>exact .base (hi.ren.lt _ hv) (hS _ hv hs)
 | step h1 hu hr ih =>
  obtain ⟨r,hr,he⟩:=hr
  obtain ⟨i,hir⟩:=List.mem_iff_getElem?.1 hr
  obtain ⟨r',hr'⟩:=zf4 hi.rel.len hir
  exact .step ih (hi.ren.lt _ hu) ⟨r',List.mem_of_getElem? hr',by rw [hi.rel.rel _ _ _ hir hr' _ _ h1.lt hu];exact he⟩
noncomputable def zI (n:Nat) (R:zD) (root:Nat):List Nat:=(List.range n).filter fun w => @decide (Rch n R (· = root) w) (Classical.propDecidable _)
theorem zf1 {n:Nat} {R:zD} {root w:Nat} : w∈zI n R root↔Rch n R (· = root) w:=by
 unfold zI
 rw [List.mem_filter,List.mem_range,@decide_eq_true_eq _ (Classical.propDecidable _)]
 exact ⟨fun h=>h.2,fun h=>⟨h.lt,h⟩⟩
theorem zjn (n:Nat) (R:zD) (root:Nat):(zI n R root).Nodup:=List.Nodup.sublist List.filter_sublist List.nodup_range
theorem zfM {n:Nat} {R:zD} {root:Nat} (h:root < n):root∈zI n R root:=zf1.2 (.base h rfl)
theorem zlv {n:Nat} {R:zD} {fa:Nat→Int} {l:List Nat} (hl : ∀ x,x∈l→x < n) (hc : ∀ r,r∈R → ∀ v u,v∈l→u < n→r v u=true→u∈l):zcL n l.length R (zM l R) fa (zat l fa) fun v i=>i < l.length∧l.getD i 0=v where
 len:=by simp [zM]
 lt:=fun {v i} h=>⟨by rw [← h.2];exact hl _ (zaq h.1),h.1⟩
 fac:=fun {v i} h=>by unfold zat;rw [h.2]
 forth h1 h2:=fun {v v' u} hz hu hr=>by
  rw [zM,List.getElem?_map,h1] at h2;cases h2
  obtain ⟨hz1,rfl⟩:=hz
  obtain ⟨j,hj,rfl⟩:=zgX (hc _ (List.mem_of_getElem? h1) _ u (zaq hz1) hu hr)
  exact ⟨j,hj,hr,hj,rfl⟩
 back h1 h2:=fun {v v' u'} hz hu hr=>by
  rw [zM,List.getElem?_map,h1] at h2;cases h2
  obtain ⟨hz1,rfl⟩:=hz
  exact ⟨l.getD u' 0,hl _ (zaq hu),hr,hu,rfl⟩
theorem zqQ {n:Nat} {R:zD} {root:Nat} : ∀ r,r∈R → ∀ v u,v∈zI n R root→u < n→r v u=true→u∈zI n R root:=fun r hr v u hv hu h=>zf1.2 (.step (zf1.1 hv) hu ⟨r,hr,h⟩)
end Go.Ab
namespace Go.Ab
structure Ptd where
 n:Nat
 R:zD
 fa:Nat→Int
 root:Nat
noncomputable def Ptd.min (m:Ptd):Ptd :=
 let l:=zI m.n m.R m.root
 let q:=coa l.length (zM l m.R) (zat l m.fa)
 ⟨zC l.length q,(zM l m.R).map (zdQ l.length q),ziS l.length q (zat l m.fa),zX q (l.idxOf m.root)⟩
theorem zle {l:List Nat} {x:Nat} (h:x∈l):l.idxOf x < l.length∧l.getD (l.idxOf x) 0=x:=by
 have h1:=List.idxOf_lt_length_of_mem h
 exact ⟨h1,by simp [List.getD,h1]⟩
def zfC (m m':Ptd):Prop := ∃ Z,zcL m.n m'.n m.R m'.R m.fa m'.fa Z∧Z m.root m'.root
theorem zfC.symm {m m':Ptd} (h:zfC m m'):zfC m' m:=let ⟨Z,B,hz⟩:=h; ⟨_,B.symm,hz⟩
theorem zfC.trans {m m' m2:Ptd} (h:zfC m m') (h':zfC m' m2):zfC m m2:=let ⟨Z,B,hz⟩:=h;let ⟨Z',B',hz'⟩:=h'; ⟨_,B.trans B',_,hz,hz'⟩
theorem zlp {m:Ptd} (h:m.root < m.n):zfC m m.min:=by
 have S:=zd1 (zI m.n m.R m.root).length (zM (zI m.n m.R m.root) m.R) (zat (zI m.n m.R m.root) m.fa)
 have B:=zlv (fa:=m.fa) (fun x hx=>(zf1.1 hx).lt) (zqQ (n:=m.n) (R:=m.R) (root:=m.root))
 obtain ⟨h1,h2⟩:=zle (zfM (R:=m.R) h)
 exact ⟨_,B.trans S.quo,_,⟨h1,h2⟩,h1,rfl⟩
theorem zeb (m:Ptd):ziq m.min.n m.min.R m.min.fa:=fun i hi=>zzT i hi
theorem zss {n n':Nat} {R R':zD} {fa fb:Nat→Int} {Z:Nat→Nat→Prop} (B:zcL n n' R R' fa fb Z) {S S':Nat→Prop} (hS : ∀ v,S v→v < n → ∃ v',Z v v'∧S' v') {v:Nat} (h:Rch n R S v) : ∃ v',Z v v'∧Rch n' R' S' v':=by
 induction h with
 | base hv hs=>obtain ⟨v',h1,h2⟩:=hS _ hs hv;exact ⟨v',h1,.base (B.lt h1).2 h2⟩
 | step h1 hu hr ih =>
  obtain ⟨v',h2,h3⟩:=ih
  obtain ⟨r,hr,he⟩:=hr
  obtain ⟨i,hir⟩:=List.mem_iff_getElem?.1 hr
  obtain ⟨r',hr'⟩:=zf4 B.len hir
  obtain ⟨u',h4,h5,h6⟩:=B.forth hir hr' h2 hu he
  exact ⟨u',h6,.step h3 h4 ⟨r',List.mem_of_getElem? hr',h5⟩⟩
theorem zfP {m:Ptd} (h:m.root < m.n):m.min.root < m.min.n:=by
 obtain ⟨Z,B,hz⟩:=zlp h
 exact (B.lt hz).2
theorem zm2 {m:Ptd} (h:m.root < m.n) : ∀ i,i < m.min.n→Rch m.min.n m.min.R (· = m.min.root) i:=by
 intro i hi
 have S:=zd1 (zI m.n m.R m.root).length (zM (zI m.n m.R m.root) m.R) (zat (zI m.n m.R m.root) m.fa)
 have B:=zlv (fa:=m.fa) (fun x hx=>(zf1.1 hx).lt) (zqQ (n:=m.n) (R:=m.R) (root:=m.root))
 obtain ⟨u,-,u1,-,u3⟩:=zlr S.canon hi
 have hr:=zf1.1 (zaq u1)
 obtain ⟨j,⟨k,⟨hk1,hk2⟩,hk3,hk4⟩,h2⟩:=zss (B.trans S.quo) (S:=(· = m.root)) (S':=(· = m.min.root)) (fun v e hv=>by
  subst e
  obtain ⟨h1,h2⟩:=zle (zfM (R:=m.R) h)
  exact ⟨_,⟨_,⟨h1,h2⟩,h1,rfl⟩,rfl⟩) hr
 have:k=u:=zfN (zjn m.n m.R m.root) hk1 u1 hk2
 rw [← u3,← this,← hk4]
 exact h2
theorem zDb {m m':Ptd} (h:m.root < m.n) (h':m'.root < m'.n) (hb:zfC m m'):m'.min.n=m.min.n ∧ ∃ f,zdz m.min.n m.min.fa m'.min.fa m.min.R m'.min.R f∧f m.min.root=m'.min.root:=by
 obtain ⟨Z,B,hz⟩:=((zlp h).symm.trans hb).trans (zlp h')
 have tot : ∀ v,v < m.min.n → ∃ v',Z v v':=fun v hv=>by
  obtain ⟨v',h1,-⟩:=zss B (S:=(· = m.min.root)) (S':=(· = m'.min.root)) (fun x e _=>by subst e;exact ⟨_,hz,rfl⟩) (zm2 h v hv)
  exact ⟨v',h1⟩
 have sur : ∀ v',v' < m'.min.n → ∃ v,Z v v':=fun v hv=>by
  obtain ⟨v',h1,-⟩:=zss B.symm (S:=(· = m'.min.root)) (S':=(· = m.min.root)) (fun x e _=>by subst e;exact ⟨_,hz,rfl⟩) (zm2 h' v hv)
  exact ⟨v',h1⟩
 obtain ⟨h1,f,h2,h3⟩:=zBa (zeb m) (zeb m') B tot sur
 refine ⟨h1,f,h2,?_⟩
 exact (zeb m').eq (B.symm.trans B) ⟨_,h3 _ (zfP h),hz⟩
noncomputable def Ptd.can (m:Ptd):Ptd:=⟨m.min.n,zM (zaa (List.range m.min.n) m.min.R m.min.fa m.min.root) m.min.R,zat (zaa (List.range m.min.n) m.min.R m.min.fa m.min.root) m.min.fa,0⟩
theorem zk1 {n:Nat} {R:zD} {fa:Nat→Int} (hd:ziq n R fa) (root:Nat):Ren (List.range n).length (zbT (List.range n) R fa root).1:=by
 have hpr:zM (List.range n) R=zM (List.range n) R:=rfl
 refine (zth (g:=fun i=>[[zat (List.range n) fa i]]) (fun v w hv hw e=>?_) ?_).2
 ·unfold ze8 at e
  have:=(List.cons.inj e).2
  exact this
 ·rw [← zvf (fa:=zat (List.range n) fa) (fun v w _ _=>by simp)]
  show zC _ (coa (List.range n).length (zM (List.range n) R) (zat (List.range n) fa))=_
  have hB:zcL (List.range n).length n (zM (List.range n) R) R (zat (List.range n) fa) fa fun i v=>i < (List.range n).length∧(List.range n).getD i 0=v :=
   (zlv (R:=R) (fa:=fa) (l:=List.range n) (fun x hx=>List.mem_range.1 hx) (fun r _ v u _ hu _=>List.mem_range.2 hu)).symm
  have S:=zd1 (List.range n).length (zM (List.range n) R) (zat (List.range n) fa)
  unfold zC
  refine (List.length_filter_eq_length_iff.2 fun w hw=>decide_eq_true ?_).trans List.length_range
  have hw:=List.mem_range.1 hw
  have hle:=S.canon.le w hw
  have:=hd.eq ((hB.symm.trans S.bis).trans hB) (v:=(List.range n).getD (coa (List.range n).length (zM (List.range n) R) (zat (List.range n) fa) w) 0) (w:=(List.range n).getD w 0) ⟨w,⟨_,⟨by omega,rfl⟩,by omega,hw,S.canon.idem w hw⟩,hw,rfl⟩
  exact zfN List.nodup_range (by omega) hw this
end Go.Ab
namespace Go.Ab
theorem zpe {n:Nat} {R:zD} {fa:Nat→Int} {root:Nat} (hr:root < n) (hd:ziq n R fa):(zaa (List.range n) R fa root).length=n∧(zaa (List.range n) R fa root).Nodup∧(∀ x,x∈zaa (List.range n) R fa root↔x < n)∧(zaa (List.range n) R fa root).getD 0 0=root:=by
 obtain ⟨h1,h2,h3,-,-,h6⟩:=zyM (R:=R) (fa:=fa) List.nodup_range (List.mem_range.2 hr) (zk1 hd root)
 exact ⟨by rw [h1,List.length_range],h2,fun x=>by rw [h3,List.mem_range],h6⟩
theorem zpf {m:Ptd} (h:m.root < m.n):zfC m m.can:=by
 obtain ⟨h1,h2,h3,h4⟩:=zpe (zfP h) (zeb m)
 have B:=zlv (R:=m.min.R) (fa:=m.min.fa) (l:=zaa (List.range m.min.n) m.min.R m.min.fa m.min.root) (n:=m.min.n) (fun x hx=>(h3 x).1 hx) (fun r _ v u _ hu _=>(h3 u).2 hu)
 rw [h1] at B
 have hpos:=zfP h
 exact (zlp h).trans ⟨_,B,by show 0 < m.min.n;omega,h4⟩
structure zxl (m m':Ptd):Prop where
 n:m'.can.n=m.can.n
 fa : ∀ k,k < m.can.n→m'.can.fa k=m.can.fa k
 len:m'.can.R.length=m.can.R.length
 rel : ∀ (i:Nat) (r r':Nat→Nat→Bool),m.can.R[i]? = some r→m'.can.R[i]? = some r' → ∀ a b,a < m.can.n→b < m.can.n→r' a b=r a b
theorem zxl.pbis {m m':Ptd} (h:zxl m m') (hn:0 < m.can.n):zfC m.can m'.can:=by
 refine ⟨fun v v'=>v < m.can.n∧v'=v,⟨h.len,fun {v v'} hz=>⟨hz.1,by rw [hz.2,h.n];exact hz.1⟩,fun {v v'} hz=>by rw [hz.2];exact (h.fa v hz.1).symm,fun {i r r'} h1 h2 {v v' u} hz hu hr=>?_,fun {i r r'} h1 h2 {v v' u'} hz hu hr=>?_⟩,hn,rfl⟩
 ·obtain ⟨hv,rfl⟩:=hz
  exact ⟨u,by rw [h.n];exact hu,by rw [h.rel i r r' h1 h2 _ _ hv hu];exact hr,hu,rfl⟩
 ·obtain ⟨hv,rfl⟩:=hz
  rw [h.n] at hu
  exact ⟨u',hu,by rw [← h.rel i r r' h1 h2 _ _ hv hu];exact hr,hu,rfl⟩
theorem zv0 {m m':Ptd} (h:m.root < m.n) (h':m'.root < m'.n):zxl m m'↔zfC m m':=by
 constructor
 ·intro hc
  have:=zfP h
  exact ((zpf h).trans (hc.pbis (by show 0 < m.min.n;omega))).trans (zpf h').symm
 ·intro hb
  obtain ⟨hn,f,hi,hr⟩:=zDb h h' hb
  have hl:=zpe (zfP h) (zeb m)
  have hm : ∀ x,x∈List.range m'.min.n ↔ ∃ y,y∈List.range m.min.n∧f y=x:=fun x=>by
   rw [List.mem_range,hn]
   constructor
   ·intro hx
    obtain ⟨y,hy,e⟩:=hi.ren.surj hx
    exact ⟨y,List.mem_range.2 hy,e⟩
   ·rintro ⟨y,hy,rfl⟩
    exact hi.ren.lt y (List.mem_range.1 hy)
  have hw:zaa (List.range m'.min.n) m'.min.R m'.min.fa m'.min.root=(zaa (List.range m.min.n) m.min.R m.min.fa m.min.root).map f :=
   zwF List.nodup_range List.nodup_range hm (fun x y hx hy e=>hi.ren.inj x y (List.mem_range.1 hx) (List.mem_range.1 hy) e) (fun x hx=>hi.fac x (List.mem_range.1 hx)) hi.rel.len
    (fun i r r' h1 h2 x y hx hy=>hi.rel.rel i r r' h1 h2 x y (List.mem_range.1 hx) (List.mem_range.1 hy)) (List.mem_range.2 (zfP h)) hr (zk1 (zeb m) m.min.root)
  generalize hcw:zaa (List.range m.min.n) m.min.R m.min.fa m.min.root=cw at hw hl
  have hget : ∀ k,k < m.min.n→(zaa (List.range m'.min.n) m'.min.R m'.min.fa m'.min.root).getD k 0=f (cw.getD k 0)∧cw.getD k 0 < m.min.n:=fun k hk=>by
   rw [hw]
   have hk':k < cw.length:=by rw [hl.1];exact hk
   exact ⟨by simp [List.getD,hk'],(hl.2.2.1 _).1 (zaq hk')⟩
  refine ⟨hn,fun k hk=>?_,?_,fun i r r' h1 h2 a b ha hb=>?_⟩
  ·show m'.min.fa ((zaa (List.range m'.min.n) m'.min.R m'.min.fa m'.min.root).getD k 0)=m.min.fa ((zaa (List.range m.min.n) m.min.R m.min.fa m.min.root).getD k 0)
   rw [hcw,(hget k hk).1,hi.fac _ (hget k hk).2]
  ·show (zM _ m'.min.R).length=(zM _ m.min.R).length
   unfold zM
   rw [List.length_map,List.length_map,hi.rel.len]
  ·have h1:(zM (zaa (List.range m.min.n) m.min.R m.min.fa m.min.root) m.min.R)[i]? = some r:=h1
   have h2:(zM (zaa (List.range m'.min.n) m'.min.R m'.min.fa m'.min.root) m'.min.R)[i]? = some r':=h2
   unfold zM at h1 h2
   rw [List.getElem?_map,Option.map_eq_some_iff] at h1 h2
   obtain ⟨s,hs,rfl⟩:=h1
   obtain ⟨s',hs',rfl⟩:=h2
   show s' ((zaa (List.range m'.min.n) m'.min.R m'.min.fa m'.min.root).getD a 0) ((zaa (List.range m'.min.n) m'.min.R m'.min.fa m'.min.root).getD b 0)=s ((zaa (List.range m.min.n) m.min.R m.min.fa m.min.root).getD a 0) ((zaa (List.range m.min.n) m.min.R m.min.fa m.min.root).getD b 0)
   rw [hcw,(hget a ha).1,(hget b hb).1,hi.rel.rel i s s' hs hs' _ _ (hget a ha).2 (hget b hb).2]
end Go.Ab
namespace Go.Ab
theorem zcb {n:Nat} (hn:n≤64) {f:Nat→Bool} {w:Nat} : (zaZ f n).getLsbD w=true↔w < n∧f w=true:=by
 rw [ztl];simp only [Bool.and_eq_true,decide_eq_true_eq]
 exact ⟨fun h=>⟨h.1.2,h.2⟩,fun h=>⟨⟨by omega,h.1⟩,h.2⟩⟩
theorem zoT {f g:Nat→Bool} : ∀ {n:Nat},(∀ i,i < n→f i=g i)→zaZ f n=zaZ g n
 | 0,_=>rfl
 | n+1,h=>by rw [zaZ,zaZ,h n (by omega),zoT fun i hi=>h i (by omega)]
def zi (m:KM):zD:=m.rel.map fun r=>fun v w=>rb r v w
def zF (m:KM) (w:Nat):Int:=(zaT m.val w m.val.length:Int)
def zaN (s:BitVec 64) (l:List Nat):BitVec 64:=zaZ (fun i=>s.getLsbD (l.getD i 0)) l.length
def zS (m:KM) (l:List Nat):KM:=⟨l.length,m.val.map fun s=>zaN s l,m.rel.map fun r=>l.map fun w=>zaN (r.getD w 0#64) l⟩
theorem zlx {s:BitVec 64} {l:List Nat} (hl:l.length≤64) {i:Nat} : (zaN s l).getLsbD i=true↔i < l.length∧s.getLsbD (l.getD i 0)=true:=zcb hl
theorem zfV {n:Int} {s:BitVec 64} (h:0≤n):bad n s=false ↔ ∀ i,s.getLsbD i=true→i < n.toNat:=by
 rw [zmb h]
 exact ⟨fun k i hi=>by have:=k i hi;omega,fun k i hi=>by have:=k i hi;omega⟩
theorem zqS {m:KM} (h:zdX m):za m=0:=by
 obtain ⟨h1,h2,h3,h4,h5,h6,h7⟩:=h
 unfold za
 rw [if_neg (by omega),if_neg (by omega),if_neg,if_neg,if_neg]
 ·simp only [List.any_eq_true,not_exists,not_and]
  intro r hr s hs e
  rw [h7 r hr s hs] at e;cases e
 ·simp only [List.any_eq_true,not_exists,not_and]
  intro s hs e
  rw [h6 s hs] at e;cases e
 ·simp only [List.any_eq_true,not_exists,not_and,decide_eq_true_eq]
  intro r hr e
  exact e (h5 r hr)
theorem zAR {m:KM} (hm:zdX m) {l:List Nat} (h1:1≤l.length) (h2:l.length≤64):zdX (zS m l) where
 w1:=by show (1:Int)≤(l.length:Int);omega
 w2:=by show (l.length:Int)≤64;omega
 n4:=by have:=hm.n4;simpa [zS] using this
 v8:=by have:=hm.v8;simpa [zS] using this
 len:=fun r hr=>by
  obtain ⟨r',-,rfl⟩:=List.mem_map.1 hr
  simp [zS]
 val:=fun s hs=>by
  obtain ⟨s',-,rfl⟩:=List.mem_map.1 hs
  rw [zfV (by show (0:Int)≤(l.length:Int);omega)]
  intro i hi
  exact ((zlx h2).1 hi).1
 rel:=fun r hr s hs=>by
  obtain ⟨r',-,rfl⟩:=List.mem_map.1 hr
  obtain ⟨w,-,rfl⟩:=List.mem_map.1 hs
  rw [zfV (by show (0:Int)≤(l.length:Int);omega)]
  intro i hi
  exact ((zlx h2).1 hi).1
theorem zqa {m:KM} (hc:za m=0) {l:List Nat} (h1:1≤l.length) (h2:l.length≤64):za (zS m l)=0:=zqS (zAR (zx hc) h1 h2)
theorem zBT (m:KM):(zi m).length=m.rel.length:=by simp [zi]
theorem zrF {m:KM} {l:List Nat} (h2:l.length≤64) {i:Nat} {r r':Nat→Nat→Bool} (h:(zi (zS m l))[i]? = some r) (h':(zM l (zi m))[i]? = some r') {v w:Nat} (hv:v < l.length) (hw:w < l.length):r v w=r' v w:=by
 unfold zi zS at h
 unfold zM zi at h'
 rw [List.map_map,List.getElem?_map,Option.map_eq_some_iff] at h
 rw [List.map_map,List.getElem?_map,Option.map_eq_some_iff] at h'
 obtain ⟨a,ha,rfl⟩:=h
 obtain ⟨b,hb,rfl⟩:=h'
 rw [ha] at hb;cases hb
 show rb (l.map fun w=>zaN (a.getD w 0#64) l) v w=rb a (l.getD v 0) (l.getD w 0)
 unfold rb
 rw [show (l.map fun w=>zaN (a.getD w 0#64) l).getD v 0#64=zaN (a.getD (l.getD v 0) 0#64) l by
  simp [List.getD,List.getElem?_map,List.getElem?_eq_getElem hv]]
 rw [Bool.eq_iff_iff,zlx h2]
 exact ⟨fun h=>h.2,fun h=>⟨hw,h⟩⟩
theorem zub {m:KM} {l:List Nat} (h2:l.length≤64):zir l.length (fun w=>w) (zM l (zi m)) (zi (zS m l)) :=
 ⟨by simp [zM,zi,zS],fun i r r' h1 h2' v w hv hw=>zrF h2 h2' h1 hv hw⟩
theorem zqJ (vl:List (BitVec 64)) {l:List Nat} (h2:l.length≤64) {i:Nat} (hi:i < l.length) : ∀ k,zaT (vl.map fun s=>zaN s l) i k=zaT vl (l.getD i 0) k
 | 0=>rfl
 | k+1=>by
  rw [zaT,zaT,zqJ vl h2 hi k]
  have e:((vl.map fun s=>zaN s l).getD k 0#64).getLsbD i=(vl.getD k 0#64).getLsbD (l.getD i 0):=by
   simp only [List.getD,List.getElem?_map]
   cases hk:vl[k]? with
   | none=>simp
   | some s =>
    show (zaN s l).getLsbD i=s.getLsbD (l.getD i 0)
    rw [Bool.eq_iff_iff,zlx h2]
    exact ⟨fun h=>h.2,fun h=>⟨hi,h⟩⟩
  rw [e]
theorem znu {m:KM} {l:List Nat} (h2:l.length≤64) {i:Nat} (hi:i < l.length):zF (zS m l) i=zat l (zF m) i:=by
 unfold zF zat zS
 rw [List.length_map,zqJ _ h2 hi]
theorem zBo {l:List (BitVec 64)} {W:Int} (hW:0≤W) (h : ∀ s∈l,bad W s=false) (i w:Nat) (hw:(l.getD i 0#64).getLsbD w=true):w < W.toNat:=by
 cases hi:l[i]? with
 | none=>rw [List.getD,hi] at hw;simp at hw
 | some s =>
  rw [List.getD,hi] at hw
  exact (zfV hW).1 (h s (List.mem_of_getElem? hi)) w hw
theorem zf2 {α:Type} {l:List α} {i:Nat} {d:α} (h:i < l.length):l[i]? = some (l.getD i d):=by simp [List.getD,h]
theorem zlT {α:Type} {a b:List α} {d:α} (hl:a.length=b.length) (h : ∀ i,i < a.length→a.getD i d=b.getD i d):a=b:=by
 refine List.ext_getElem hl fun i h1 h2=>?_
 have:=h i h1
 rw [List.getD,List.getD,List.getElem?_eq_getElem h1,List.getElem?_eq_getElem h2] at this
 exact this
def zdN (to:List Int) (n:Nat):Bool:=decide (to.length=n∧(∀ x∈to,0≤x∧x < n)∧to.Nodup)
def zeP (to:List Int) (n:Nat):List Nat:=(List.range n).map fun (i:Nat)=>to.idxOf (i:Int)
def zbD:KM:=⟨0,[],[]⟩
def zpR (m:KM) (to:List Int):KM×Int:=if za m≠0 then (zbD,za m) else if zdN to m.W.toNat=true then (zS m (zeP to m.W.toNat),0) else (zbD,1)
theorem zeX {to:List Int} {n:Nat} : zdN to n=true↔to.length=n∧(∀ x∈to,0≤x∧x < n)∧to.Nodup:=by simp only [zdN,decide_eq_true_eq]
theorem zBO {to:List Int} {n:Nat} (h:zdN to n=true) {i:Nat} (hi:i < n):(i:Int)∈to:=by
 obtain ⟨h1,h2,h3⟩:=zeX.1 h
 have key : ∀ x∈to,x∈(List.range n).map fun (i:Nat)=>(i:Int):=fun x hx=>List.mem_map.2 ⟨x.toNat,List.mem_range.2 (by have:=h2 x hx;omega),by have:=h2 x hx;omega⟩
 apply Classical.byContradiction
 intro hn
 have:=zb9 (l:=(i:Int)::to) (l':=(List.range n).map fun (i:Nat)=>(i:Int)) (List.nodup_cons.2 ⟨hn,h3⟩) fun x hx=>by
  rcases List.mem_cons.1 hx with rfl|hx
  ·exact List.mem_map.2 ⟨i,List.mem_range.2 hi,rfl⟩
  ·exact key x hx
 simp at this;omega
abbrev toF (to:List Int) (w:Nat):Nat:=(at0 to w).toNat
theorem zvt {to:List Int} {n:Nat} (h:zdN to n=true):Ren n (toF to):=by
 obtain ⟨h1,h2,h3⟩:=zeX.1 h
 refine ⟨fun w hw=>?_,fun v w hv hw e=>?_⟩
 ·have:=h2 (at0 to w) (List.mem_of_getElem? (zen (by omega)))
  unfold toF;omega
 ·have a1:=h2 (at0 to v) (List.mem_of_getElem? (zen (by omega)))
  have a2:=h2 (at0 to w) (List.mem_of_getElem? (zen (by omega)))
  have e':at0 to v=at0 to w:=by unfold toF at e;omega
  have g1:=zen (l:=to) (i:=v) (by omega)
  have g2:=zen (l:=to) (i:=w) (by omega)
  rw [e'] at g1
  obtain ⟨p1,q1⟩:=List.getElem?_eq_some_iff.1 g1
  obtain ⟨p2,q2⟩:=List.getElem?_eq_some_iff.1 g2
  exact (List.getElem_inj h3).1 (q1.trans q2.symm)
theorem zEb {to:List Int} {n:Nat} (h:zdN to n=true) {w:Nat} (hw:w < n):to.idxOf ((toF to w:Nat):Int)=w:=by
 obtain ⟨h1,h2,h3⟩:=zeX.1 h
 have g:=zen (l:=to) (i:=w) (by omega)
 have a:=h2 (at0 to w) (List.mem_of_getElem? g)
 rw [show ((toF to w:Nat):Int)=at0 to w by unfold toF;omega]
 obtain ⟨p,q⟩:=List.getElem?_eq_some_iff.1 g
 rw [← q]
 exact h3.idxOf_getElem w p
theorem zr8 (to:List Int) (n:Nat):(zeP to n).length=n:=by simp [zeP]
theorem zBu {to:List Int} {n i:Nat} (hi:i < n):(zeP to n).getD i 0=to.idxOf (i:Int):=by simp [zeP,List.getD,hi]
theorem zzr {to:List Int} {n:Nat} (h:zdN to n=true) {w:Nat} (hw:w < n):(zeP to n).getD (toF to w) 0=w:=by
 rw [zBu ((zvt h).lt w hw),zEb h hw]
theorem zzs {to:List Int} {n:Nat} (h:zdN to n=true) {i:Nat} (hi:i < n):(zeP to n).getD i 0 < n:=by
 obtain ⟨w,hw,rfl⟩:=(zvt h).surj hi
 rw [zzr h hw];exact hw
end Go.Ab
namespace Go.Ab
noncomputable def zhH (m:KM) (s:BitVec 64):BitVec 64:=zaZ (fun w => @decide (Rch m.W.toNat (zi m) (fun v=>s.getLsbD v=true) w) (Classical.propDecidable _)) 64
theorem zid {m:KM} (hc:za m=0) {s:BitVec 64} {w:Nat} : (zhH m s).getLsbD w=true↔Rch m.W.toNat (zi m) (fun v=>s.getLsbD v=true) w:=by
 have w2:=(zx hc).w2
 unfold zhH
 rw [zcb (Nat.le_refl _),@decide_eq_true_eq _ (Classical.propDecidable _)]
 exact ⟨fun h=>h.2,fun h=>⟨by have:=h.lt;omega,h⟩⟩
def Clo (m:KM) (s:BitVec 64):Prop := ∀ v,s.getLsbD v=true → ∀ r∈m.rel,∀ u,rb r v u=true→s.getLsbD u=true
structure zt4 (m:KM) (f s:BitVec 64):Prop where
 sub : ∀ v,f.getLsbD v=true→s.getLsbD v=true
 inn : ∀ v,s.getLsbD v=true→Rch m.W.toNat (zi m) (fun v=>f.getLsbD v=true) v
theorem zCy {m:KM} (hc:za m=0) {r:List (BitVec 64)} (hr:r∈m.rel) {v u:Nat} (h:rb r v u=true):v < m.W.toNat∧u < m.W.toNat:=by
 have hg:=zx hc
 have w1:=hg.w1
 refine ⟨?_,zBo (by omega) (hg.rel r hr) v u h⟩
 apply Classical.byContradiction
 intro hn
 have:=hg.len r hr
 rw [zzV (by omega)] at h;cases h
theorem zvv {m:KM} (hc:za m=0) {S:Nat→Prop} {v u:Nat} (h:Rch m.W.toNat (zi m) S v) {r:List (BitVec 64)} (hr:r∈m.rel) (e:rb r v u=true):Rch m.W.toNat (zi m) S u :=
 .step h (zCy hc hr e).2 ⟨fun v w=>rb r v w,List.mem_map.2 ⟨r,hr,rfl⟩,e⟩
theorem zt4.done {m:KM} (hc:za m=0) {f s:BitVec 64} (h:zt4 m f s) (hcl:Clo m s):s=zhH m f:=by
 have hin : ∀ v,Rch m.W.toNat (zi m) (fun v=>f.getLsbD v=true) v→s.getLsbD v=true:=fun v hv=>by
  induction hv with
  | base _ h1=>exact h.sub _ h1
  | step _ hu hr ih =>
   obtain ⟨r',hr',e⟩:=hr
   obtain ⟨r,hr,rfl⟩:=List.mem_map.1 hr'
   exact hcl _ ih r hr _ e
 refine BitVec.eq_of_getLsbD_eq fun i _=>?_
 rw [Bool.eq_iff_iff,zid hc]
 exact ⟨h.inn i,hin i⟩
structure zrC (m:KM) (f out todo:BitVec 64):Prop where
 gs:zt4 m f out
 tod : ∀ v,todo.getLsbD v=true→out.getLsbD v=true
 clo : ∀ v,out.getLsbD v=true→todo.getLsbD v=false → ∀ r∈m.rel,∀ u,rb r v u=true→out.getLsbD u=true
theorem zx2 {m:KM} {f:BitVec 64} (hf : ∀ v,f.getLsbD v=true→v < m.W.toNat):zrC m f f f :=
 ⟨⟨fun _ h=>h,fun v h => .base (hf v h) h⟩,fun _ h=>h,fun v h h'=>by rw [h] at h';cases h'⟩
theorem zrC.done {m:KM} (hc:za m=0) {f out:BitVec 64} (h:zrC m f out 0#64):out=zhH m f :=
 h.gs.done hc fun v hv=>h.clo v hv (by simp)
def zmo (a b:BitVec 64):Nat:=((List.range 64).filter fun v=>a.getLsbD v && !b.getLsbD v).length
theorem zCN (a b:BitVec 64):zmo a b≤64:=by
 have:=List.length_filter_le (fun v=>a.getLsbD v && !b.getLsbD v) (List.range 64)
 simpa [zmo] using this
theorem zDO {s:BitVec 64} {w:Nat} (h:s.getLsbD w=true):w < 64:=by
 apply Classical.byContradiction
 intro hn
 rw [BitVec.getLsbD_of_ge _ _ (by omega)] at h;cases h
structure zoX (m:KM) (out todo:BitVec 64) (w k:Nat) (o t:BitVec 64):Prop where
 o : ∀ v,o.getLsbD v=true↔out.getLsbD v=true ∨ ∃ r∈m.rel.take k,rb r w v=true
 t : ∀ v,t.getLsbD v=true↔(todo.getLsbD v=true∧v≠w)∨(out.getLsbD v=false ∧ ∃ r∈m.rel.take k,rb r w v=true)
theorem zx3 {m:KM} {out todo t:BitVec 64} {w:Nat} (ht : ∀ v,t.getLsbD v=(todo.getLsbD v&&v != w)):zoX m out todo w 0 out t :=
 ⟨fun v=>by simp,fun v=>by rw [ht];simp⟩
theorem zhK {α:Type} {l:List α} {k:Nat} {x:α} (h:l[k]? = some x) (p:α→Prop):(∃ r∈l.take (k+1),p r)↔(∃ r∈l.take k,p r)∨p x:=by
 rw [List.take_add_one,h]
 simp only [Option.toList_some,List.mem_append,List.mem_singleton]
 constructor
 ·rintro ⟨r,h1|rfl,h2⟩
  ·exact .inl ⟨r,h1,h2⟩
  ·exact .inr h2
 ·rintro (⟨r,h1,h2⟩|h2)
  ·exact ⟨r,.inl h1,h2⟩
  ·exact ⟨x,.inr rfl,h2⟩
theorem zoX.next {m:KM} {out todo:BitVec 64} {w k:Nat} {o t:BitVec 64} (h:zoX m out todo w k o t) {r:List (BitVec 64)} {x:BitVec 64} (hr:m.rel[k]? = some r) (hx:r[w]? = some x):zoX m out todo w (k+1) (o|||x) (t|||(x &&& ~~~o)):=by
 have e : ∀ v,rb r w v=x.getLsbD v:=fun v=>ztV hx v
 refine ⟨fun v=>?_,fun v=>?_⟩
 ·rw [zhK hr,BitVec.getLsbD_or,Bool.or_eq_true,h.o v,e]
  simp only [or_assoc]
 ·rw [zhK hr,BitVec.getLsbD_or,Bool.or_eq_true,h.t v,BitVec.getLsbD_and,Bool.and_eq_true,BitVec.getLsbD_not,e]
  have ho:=h.o v
  by_cases hv:v < 64
  ·simp only [hv,decide_true,Bool.true_and,Bool.not_eq_true']
   by_cases h1:out.getLsbD v=true
   ·have:o.getLsbD v=true:=ho.2 (.inl h1)
    simp [h1,this]
   ·simp only [Bool.not_eq_true] at h1
    by_cases h2 : ∃ r∈m.rel.take k,rb r w v=true
    ·have:o.getLsbD v=true:=ho.2 (.inr h2)
     simp [h1,h2,this]
    ·have:o.getLsbD v=false:=by rw [← Bool.not_eq_true];intro h3;rcases ho.1 h3 with h3|h3; (rw [h1] at h3;cases h3);exact h2 h3
     simp [h1,h2,this]
  ·have:x.getLsbD v=false:=BitVec.getLsbD_of_ge _ _ (by omega)
   simp [hv,this]
theorem zoX.end' {m:KM} (hc:za m=0) {f out todo:BitVec 64} {w:Nat} {o t:BitVec 64} (h:zrC m f out todo) (hw:todo.getLsbD w=true) (hK:zoX m out todo w m.rel.length o t):zrC m f o t∧zmo out todo < zmo o t:=by
 have ho:=hK.o;have ht:=hK.t
 simp only [List.take_length] at ho ht
 have how:=h.tod w hw
 have hr : ∀ {r v},r∈m.rel→rb r w v=true→o.getLsbD v=true:=fun h1 h2=>(ho _).2 (.inr ⟨_,h1,h2⟩)
 refine ⟨⟨⟨fun v hv=>(ho v).2 (.inl (h.gs.sub v hv)),fun v hv=>?_⟩,fun v hv=>?_,fun v hv hv' r hr' u hu=>?_⟩,?_⟩
 ·rcases (ho v).1 hv with h1|⟨r,h1,h2⟩
  ·exact h.gs.inn v h1
  ·exact zvv hc (h.gs.inn w how) h1 h2
 ·rcases (ht v).1 hv with ⟨h1,-⟩|⟨-,h2⟩
  ·exact (ho v).2 (.inl (h.tod v h1))
  ·exact (ho v).2 (.inr h2)
 ·by_cases e:v=w
  ·subst e;exact hr hr' hu
  ·have h1:out.getLsbD v=true:=by
    rcases (ho v).1 hv with h1|h1
    ·exact h1
    ·cases h2:out.getLsbD v with
     | true=>rfl
     | false=>rw [(ht v).2 (.inr ⟨h2,h1⟩)] at hv';cases hv'
   have h2:todo.getLsbD v=false:=by
    rw [← Bool.not_eq_true];intro h2
    rw [(ht v).2 (.inl ⟨h2,e⟩)] at hv';cases hv'
   exact (ho u).2 (.inl (h.clo v h1 h2 r hr' u hu))
 ·unfold zmo
  refine (zf0 (fun v hv=>?_) _).2 ⟨w,List.mem_range.2 (zDO hw),by rw [hw];simp,?_⟩
  ·simp only [Bool.and_eq_true,Bool.not_eq_true'] at hv ⊢
   refine ⟨(ho v).2 (.inl hv.1),?_⟩
   rw [← Bool.not_eq_true];intro h1
   rcases (ht v).1 h1 with ⟨h2,-⟩|⟨h2,-⟩
   ·rw [h2] at hv;cases hv.2
   ·rw [h2] at hv;cases hv.1
  ·rw [(ho w).2 (.inl how)]
   simp only [Bool.true_and,Bool.not_eq_true']
   rw [← Bool.not_eq_true];intro h1
   rcases (ht w).1 h1 with ⟨-,h2⟩|⟨h2,-⟩
   ·exact h2 rfl
   ·rw [how] at h2;cases h2
def zrW (s:BitVec 64):Nat:=(zB s).length
theorem zwI {n:Nat} {s:BitVec 64} (h : ∀ v,s.getLsbD v=true→v < n):zrW s≤n:=by
 have:=zb9 (zvk s) (l':=List.range n) fun v hv=>List.mem_range.2 (h v (zln.1 hv))
 simpa [zrW] using this
theorem zCO {s t:BitVec 64} (h : ∀ v,s.getLsbD v=true→t.getLsbD v=true) (hne:t≠s):zrW s < zrW t:=by
 unfold zrW zB
 refine (zf0 (fun v hv=>h v hv) _).2 ?_
 apply Classical.byContradiction
 intro hn
 refine hne (BitVec.eq_of_getLsbD_eq fun i hi=>?_)
 rw [Bool.eq_iff_iff]
 refine ⟨fun h1=>?_,h i⟩
 rw [← Bool.not_eq_false];intro h2
 exact hn ⟨i,List.mem_range.2 hi,h2,h1⟩
structure zrD (m:KM) (f s0:BitVec 64) (w:Nat) (s:BitVec 64):Prop where
 gs:zt4 m f s
 sub : ∀ v,s0.getLsbD v=true→s.getLsbD v=true
 clo : ∀ v,v < w→s0.getLsbD v=true → ∀ r∈m.rel,∀ u,rb r v u=true→s.getLsbD u=true
theorem zrD.skip {m:KM} {f s0 s:BitVec 64} {w:Nat} (h:zrD m f s0 w s) (hw:s.getLsbD w=false):zrD m f s0 (w+1) s :=
 ⟨h.gs,h.sub,fun v hv h1=>by
  by_cases e:v=w
  ·subst e;rw [h.sub _ h1] at hw;cases hw
  ·exact h.clo v (by omega) h1⟩
structure zt2 (m:KM) (f s0:BitVec 64) (w k:Nat) (s:BitVec 64):Prop where
 gw:zrD m f s0 w s
 has:s.getLsbD w=true
 clo : ∀ r∈m.rel.take k,∀ u,rb r w u=true→s.getLsbD u=true
theorem zt2.next {m:KM} (hc:za m=0) {f s0 s:BitVec 64} {w k:Nat} (h:zt2 m f s0 w k s) {r:List (BitVec 64)} {x:BitVec 64} (hr:m.rel[k]? = some r) (hx:r[w]? = some x):zt2 m f s0 w (k+1) (s|||x):=by
 have e : ∀ v,rb r w v=x.getLsbD v:=fun v=>ztV hx v
 have up : ∀ v,s.getLsbD v=true→(s|||x).getLsbD v=true:=fun v hv=>by rw [BitVec.getLsbD_or,hv];rfl
 refine ⟨⟨⟨fun v hv=>up v (h.gw.gs.sub v hv),fun v hv=>?_⟩,fun v hv=>up v (h.gw.sub v hv),fun v h1 h2 r' h3 u h4=>up u (h.gw.clo v h1 h2 r' h3 u h4)⟩,up w h.has,fun r' hr' u hu=>?_⟩
 ·rw [BitVec.getLsbD_or,Bool.or_eq_true] at hv
  rcases hv with hv|hv
  ·exact h.gw.gs.inn v hv
  ·exact zvv hc (h.gw.gs.inn w h.has) (List.mem_of_getElem? hr) (by rw [e];exact hv)
 ·rcases (zhK hr (· = r')).1 ⟨r',hr',rfl⟩ with ⟨q,h1,rfl⟩|rfl
  ·exact up u (h.clo q h1 u hu)
  ·rw [BitVec.getLsbD_or,← e,hu];simp
theorem zt2.end' {m:KM} {f s0 s:BitVec 64} {w:Nat} (h:zt2 m f s0 w m.rel.length s):zrD m f s0 (w+1) s :=
 ⟨h.gw.gs,h.gw.sub,fun v hv h1 r hr u hu=>by
  by_cases e:v=w
  ·subst e;exact h.clo r (by rw [List.take_length];exact hr) u hu
  ·exact h.gw.clo v (by omega) h1 r hr u hu⟩
structure zt3 (m:KM) (f:BitVec 64) (i:Nat) (s:BitVec 64):Prop where
 gs:zt4 m f s
 more:Clo m s∨i < zrW s
theorem zt3.next {m:KM} (hc:za m=0) {f s0 s:BitVec 64} {i:Nat} (h:zt3 m f i s0) (hW:zrD m f s0 m.W.toNat s):zt3 m f (i+1) s:=by
 refine ⟨hW.gs,?_⟩
 have hlt : ∀ v,s0.getLsbD v=true→v < m.W.toNat:=fun v hv=>(h.gs.inn v hv).lt
 by_cases e:s=s0
 ·subst e
  exact .inl fun v hv r hr u hu=>hW.clo v (hlt v hv) hv r hr u hu
 ·have hl:=zCO hW.sub e
  rcases h.more with h1|h1
  ·refine absurd ?_ e
   have a:=h.gs.done hc h1
   refine BitVec.eq_of_getLsbD_eq fun v _=>?_
   rw [Bool.eq_iff_iff]
   refine ⟨fun hv=>?_,hW.sub v⟩
   rw [a];exact (zid hc).2 (hW.gs.inn v hv)
  ·exact .inr (by omega)
theorem zt3.done {m:KM} (hc:za m=0) {f s:BitVec 64} (h:zt3 m f m.W.toNat s):s=zhH m f:=by
 refine h.gs.done hc ?_
 rcases h.more with h1|h1
 ·exact h1
 ·have:=zwI (n:=m.W.toNat) fun v hv=>(h.gs.inn v hv).lt
  omega
theorem znJ {w v:Nat} (hw:w < 64):(1#64 <<< w).getLsbD v=true↔v=w:=by
 rw [zrH];simp only [Bool.and_eq_true,decide_eq_true_eq];omega
theorem ztg {n:Nat} {R:zD} {S S':Nat→Prop} (h : ∀ v,S v→S' v) {v:Nat} (hv:Rch n R S v):Rch n R S' v:=by
 induction hv with
 | base h1 h2=>exact .base h1 (h _ h2)
 | step _ h2 h3 ih=>exact .step ih h2 h3
theorem zgp {p:Nat→Bool} {n:Nat} (h : ∀ v,p v=true→v < n) : ∀ k,n≤k→(List.range k).filter p=(List.range n).filter p
 | 0,hk=>by rw [show n=0 by omega]
 | k+1,hk=>by
  by_cases e:n=k+1
  ·rw [e]
  ·rw [List.range_succ,List.filter_append,zgp h k (by omega)]
   have:p k=false:=by rw [← Bool.not_eq_true];intro hp;have:=h k hp;omega
   simp [this]
theorem zuW {m:KM} (hc:za m=0) {w:Nat} (hw:w < m.W.toNat):zB (zhH m (1#64 <<< w))=zI m.W.toNat (zi m) w:=by
 have w2:=(zx hc).w2
 unfold zB zI
 have key : ∀ v,(zhH m (1#64 <<< w)).getLsbD v = @decide (Rch m.W.toNat (zi m) (· = w) v) (Classical.propDecidable _):=fun v=>by
  rw [Bool.eq_iff_iff,zid hc,@decide_eq_true_eq _ (Classical.propDecidable _)]
  exact ⟨fun h=>ztg (fun v hv=>(znJ (by omega)).1 hv) h,fun h=>ztg (fun v hv=>(znJ (by omega)).2 hv) h⟩
 rw [zgp (n:=m.W.toNat) (fun v hv=>((zid hc).1 hv).lt) 64 (by omega)]
 exact List.filter_congr fun v _=>key v
end Go.Ab
namespace Go.Ab
open Go Go.Proofs
set_option maxRecDepth 10000
set_option maxHeartbeats 4000000
variable {T:Nat→Obj→Prop}
theorem zr5 (n:Int) (h:0≤n):Fn Tryz.prog T zoy [.d (.int .i64 n)] [] (.d (.u64 (zbc n))) []:=by
 refine zb zn zwn (by show 1≤8;decide) ?_
 (repeat' ((conv=>whnf);first|refine vA ?_|(refine vF ?_ ?_<;>intro hc<;>try simp only [vL] at hc)|refine vT ?_|(refine vP ?_ ?_;·omega)|refine vY ?_));all_goals try conv=>whnf
 ·simp [zbc, *]
 ·rw [zbc,if_neg (by omega)];rfl
theorem zC0 (l:List (BitVec 64)) (g:Nat) (y:D) (p:BitVec 64→Bool) (hF : ∀ x,Fn Tryz.prog T g [.d (.u64 x),.d y] [] (.d (.bool (p x))) []):Fn Tryz.prog T zcn [.d (dU l),.d (.fn g [y])] [] (.d (.int .i64 (zfB p l))) []:=by
 refine zb zn zfo (by show 2≤19;decide) ?_
 (repeat' ((conv=>whnf);first|refine vA ?_|refine vJ fun hg=>?_|refine vT ?_));all_goals try conv=>whnf
 refine zal (fun (k:Nat)=>[(0,.d (dU l)),(1,.d (.fn g [y])),(7,.d (.int .i64 ((l.map D.u64).length:Int))),(8,.d (.int .i64 ((k:Int))))]) (fun (k:Nat)=>k≤l.length ∧ ∀ (i:Nat) x,i < k→l[i]? = some x→p x=false) (fun (k:Nat)=>l.length - k) (0) (⟨by simp,fun i x h=>by omega⟩) (by (repeat' first|exact trivial|exact rfl|refine And.intro ?_ ?_)) ?_
 rintro k ⟨hk,hI⟩
 (repeat' ((conv=>whnf);first|refine vA ?_|((first|refine vF ?_ ?_|refine vI ?_ ?_)<;>intro hc<;>try simp only [vL] at hc)|refine vT ?_|(refine vQ ?_ fun x hx=>?_;·omega)|(refine vO ?_ ?_;·omega)|refine vX ?_|refine yD (hF _) (by (repeat refine ⟨⟨rfl,rfl⟩,?_⟩);rfl) rfl ?_));all_goals try conv=>whnf
 ·rw [zhv hx ‹_› hI]
 ·exact ⟨k+1,[],[],⟨by (omega),fun i z hi hz=>by
   by_cases e:i=k
   ·subst e;rw [hx] at hz;cases hz;assumption
   ·exact hI i z (by omega) hz⟩,by (omega),by (refine ⟨rfl,rfl,rfl,?_,?_⟩;repeat' first|exact trivial|exact rfl|refine And.intro ?_ ?_)⟩
 ·rw [zk7 fun i x hi hx=>hI i x (by omega) hx]
theorem zBh (l:List (List (BitVec 64))) (g:Nat) (y:D) (p:List (BitVec 64)→Bool) (hF : ∀ x,Fn Tryz.prog T g [.d (dU x),.d y] [] (.d (.bool (p x))) []):Fn Tryz.prog T zb6 [.d (dUU l),.d (.fn g [y])] [] (.d (.int .i64 (zfB p l))) []:=by
 refine zb zn zeQ (by show 2≤19;decide) ?_
 (repeat' ((conv=>whnf);first|refine vA ?_|refine vJ fun hg=>?_|refine vT ?_));all_goals try conv=>whnf
 refine zal (fun (k:Nat)=>[(0,.d (dUU l)),(1,.d (.fn g [y])),(7,.d (.int .i64 ((l.map dU).length:Int))),(8,.d (.int .i64 ((k:Int))))]) (fun (k:Nat)=>k≤l.length ∧ ∀ (i:Nat) x,i < k→l[i]? = some x→p x=false) (fun (k:Nat)=>l.length - k) (0) (⟨by simp,fun i x h=>by omega⟩) (by (repeat' first|exact trivial|exact rfl|refine And.intro ?_ ?_)) ?_
 rintro k ⟨hk,hI⟩
 (repeat' ((conv=>whnf);first|refine vA ?_|((first|refine vF ?_ ?_|refine vI ?_ ?_)<;>intro hc<;>try simp only [vL] at hc)|refine vT ?_|(refine vQ ?_ fun x hx=>?_;·omega)|(refine vO ?_ ?_;·omega)|refine vX ?_|refine yD (hF _) (by (repeat refine ⟨⟨rfl,rfl⟩,?_⟩);rfl) rfl ?_));all_goals try conv=>whnf
 ·rw [zhv hx ‹_› hI]
 ·exact ⟨k+1,[],[],⟨by (omega),fun i z hi hz=>by
   by_cases e:i=k
   ·subst e;rw [hx] at hz;cases hz;assumption
   ·exact hI i z (by omega) hz⟩,by (omega),by (refine ⟨rfl,rfl,rfl,?_,?_⟩;repeat' first|exact trivial|exact rfl|refine And.intro ?_ ?_)⟩
 ·rw [zk7 fun i x hi hx=>hI i x (by omega) hx]
theorem zsR {α:Type} {p:α→Bool} {l:List α} : decide (0≤zfB p l)=l.any p:=by
 rw [Bool.eq_iff_iff,decide_eq_true_eq,zuG,List.any_eq_true]
theorem zwk (n:Int) (h:0≤n) (s:BitVec 64):Fn Tryz.prog T zdu [.d (.u64 s),.d (.box [.int .i64 n])] [] (.d (.bool (bad n s))) []:=by
 refine zb zn zol (by show 2≤9;decide) ?_
 (repeat' ((conv=>whnf);first|refine vT ?_|refine vZ ?_|refine yD (zr5 n h) ⟨⟨rfl,rfl⟩,rfl⟩ rfl ?_));all_goals try conv=>whnf
 rfl
theorem zoF (l:List (BitVec 64)) (n:Int) (h:0≤n):Fn Tryz.prog T zji [.d (dU l),.d (.int .i64 n)] [] (.d (.bool (l.any (bad n)))) []:=by
 have c1:Fn Tryz.prog T zbY [.d (dU l),.d (.fn zdu [.box [.int .i64 n]])] [] (.d (.bool (l.any (bad n)))) []:=by
  refine zb zn zeD (by show 2≤9;decide) ?_
  (repeat' ((conv=>whnf);first|refine vT ?_|refine vZ ?_|refine yD (zC0 l _ _ (bad n) (zwk n h)) ⟨⟨rfl,rfl⟩,⟨rfl,rfl⟩,rfl⟩ rfl ?_));all_goals try conv=>whnf
  exact zsR
 refine zb zn zrb (by show 2≤8;decide) ?_
 (repeat' ((conv=>whnf);first|refine vT ?_|refine vZ ?_|refine yD c1 (by (repeat refine ⟨⟨rfl,rfl⟩,?_⟩);rfl) rfl ?_));all_goals try conv=>whnf
abbrev bKM (m:KM):D := .box [.int .i64 m.W,dU m.val,dUU m.rel]
theorem zaI (m:KM):Fn Tryz.prog T zfz [.d (dKM m)] [] (.d (.int .i64 (za m))) []:=by
 have c1:0≤m.W → ∀ x:List (BitVec 64),Fn Tryz.prog T zeA [.d (dU x),.d (bKM m)] [] (.d (.bool (x.any (bad m.W)))) []:=fun h x=>by
  refine zb zn zq7 (by show 2≤8;decide) ?_
  (repeat' ((conv=>whnf);first|refine vT ?_|refine vZ ?_|refine yD (zoF x m.W h) ⟨⟨rfl,rfl⟩,⟨rfl,rfl⟩,rfl⟩ rfl ?_));all_goals try conv=>whnf
 have c2:0≤m.W→Fn Tryz.prog T zbH [.d (dUU m.rel),.d (.fn zeA [bKM m])] [] (.d (.bool (m.rel.any fun x=>x.any (bad m.W)))) []:=fun h=>by
  refine zb zn zek (by show 2≤9;decide) ?_
  (repeat' ((conv=>whnf);first|refine vT ?_|refine vZ ?_|refine yD (zBh m.rel _ _ (fun x=>x.any (bad m.W)) (c1 h)) ⟨⟨rfl,rfl⟩,⟨rfl,rfl⟩,rfl⟩ rfl ?_));all_goals try conv=>whnf
  exact zsR
 refine zb zn ztG (by show 1≤47;decide) ?_
 (repeat' ((conv=>whnf);first|refine vA ?_|(refine vF ?_ ?_<;>intro hc<;>try simp only [vL] at hc)|refine vJ fun hg=>?_|refine vT ?_|refine vX ?_));all_goals try conv=>whnf
 ·rw [za,if_pos (by omega)]
 ·rw [za,if_pos (by omega)]
 ·rw [za,if_neg (by omega),if_pos (by omega)]
 ·rw [za,if_neg (by omega),if_pos (by omega)]
 ·have e0:za m=if m.rel.any (fun r=>decide ((r.length:Int)≠m.W)) then 3 else if m.val.any (bad m.W) then 2 else if m.rel.any (fun r=>r.any (bad m.W)) then 2 else 0:=by rw [za,if_neg (by omega),if_neg (by omega)]
  refine zy (fun (k:Nat)=>[(1,.ptr 0 0),(24,.d (dUU m.rel)),(25,.d (.int .i64 ((m.rel.map dU).length:Int))),(26,.d (.int .i64 ((k:Int))))]) (fun (k:Nat)=>[(0,some (zco m))]) 1 (fun (k:Nat)=>k≤m.rel.length∧m.rel.any (fun r=>decide ((r.length:Int)≠m.W))=(m.rel.drop k).any (fun r=>decide ((r.length:Int)≠m.W))) (fun (k:Nat)=>m.rel.length - k) (0) [(0,0)] [] (⟨by simp,rfl⟩) (by (refine ⟨rfl,rfl,rfl,?_,?_⟩;repeat' first|exact trivial|exact rfl|refine And.intro ?_ ?_|refine ⟨_,rfl,?_⟩|decide)) ?_
  rintro k ⟨hk,hI⟩
  (repeat' ((conv=>whnf);first|refine vA ?_|((first|refine vD ?_ ?_|refine vF ?_ ?_)<;>intro hc<;>try simp only [vL] at hc)|refine vJ fun hg=>?_|refine vT ?_|(refine vQ ?_ fun x hx=>?_;·omega)|(refine vO ?_ ?_;·omega)|refine vX ?_));all_goals try conv=>whnf
  ·rw [e0,if_pos (by rw [hI,z2 hx,List.any_cons,decide_eq_true (by simpa using ‹_›)];rfl)]
  ·exact ⟨k+1,[(0,0)],[],⟨by (omega),by rw [hI,z2 hx,List.any_cons,decide_eq_false (by simpa using ‹_›)];rfl⟩,by (omega),by (refine ⟨rfl,rfl,rfl,?_,?_⟩;repeat' first|exact trivial|exact rfl|refine And.intro ?_ ?_|refine ⟨_,rfl,?_⟩|decide)⟩
  ·have h1:m.rel.any (fun r=>decide ((r.length:Int)≠m.W))=false:=by rw [hI,List.drop_eq_nil_of_le (by omega)];rfl
   rw [h1,if_neg (by decide)] at e0
   have co:=zoF (T:=T) m.val m.W (by omega)
   have c2:=c2 (by omega)
   (repeat' ((conv=>whnf);first|(refine vI ?_ ?_<;>intro hc)|refine vT ?_|refine vX ?_|refine yD co ⟨⟨rfl,rfl⟩,⟨rfl,rfl⟩,rfl⟩ rfl ?_|refine yD c2 (by (repeat refine ⟨⟨rfl,rfl⟩,?_⟩);rfl) rfl ?_));all_goals try conv=>whnf
   ·rw [e0,if_pos ‹_›]
   ·rw [e0,if_neg (by simp [‹m.val.any (bad m.W)=false›]),if_pos ‹_›]
   ·rw [e0,if_neg (by simp [‹m.val.any (bad m.W)=false›]),if_neg (by simp [‹(m.rel.any fun x=>x.any (bad m.W))=false›])]
def zmC (m:KM) (w:Int):Int:=if za m≠0∨w < 0∨m.W≤w then -1 else zF m w.toNat
theorem zr2 {m:KM} (hc:za m=0) {w:Nat} (hw:w < m.W.toNat):zmC m (w:Int)=zF m w:=by
 unfold zmC;rw [if_neg (by omega)];rfl
theorem zhw (m:KM) (w:Int):Fn Tryz.prog T zfA [.d (dKM m),.d (.int .i64 w)] [] (.d (.int .i64 (zmC m w))) []:=by
 refine zb zn ztH (by show 2≤40;decide) ?_
 (repeat' ((conv=>whnf);first|refine vA ?_|((first|refine vD ?_ ?_|refine vF ?_ ?_)<;>intro hc<;>try simp only [vL] at hc)|refine vJ fun hg=>?_|refine vT ?_|refine vX ?_|refine yD (zaI m) ⟨⟨rfl,rfl⟩,rfl⟩ rfl ?_));all_goals try conv=>whnf
 ·rw [zmC,if_pos (by omega)]
 ·rw [zmC,if_pos (by omega)]
 ·rw [zmC,if_pos (by omega)]
 ·have hc0:za m=0:=by omega
  have hg0:=zx hc0
  have w2:=hg0.w2
  have v8:=hg0.v8
  refine zy (fun ((k,f):Nat×Int)=>[(1,.d (.int .i64 (w))),(5,.d (.int .i64 (f))),(22,.d (dU m.val)),(23,.d (.int .i64 ((m.val.map D.u64).length:Int))),(24,.d (.int .i64 ((k:Int))))]) (fun ((k,f):Nat×Int)=>[(0,some (zco m))]) 1 (fun ((k,f):Nat×Int)=>k≤m.val.length∧f=(zaT m.val w.toNat k:Int)) (fun ((k,f):Nat×Int)=>m.val.length - k) ((0,0)) [(0,0)] [] (⟨by simp,rfl⟩) (by (refine ⟨rfl,rfl,rfl,?_,?_⟩;repeat' first|exact trivial|exact rfl|refine And.intro ?_ ?_|refine ⟨_,rfl,?_⟩|decide)) ?_
  rintro ⟨k,f⟩ ⟨hk,hI⟩
  subst hI
  by_cases hkl:k < m.val.length
  ·obtain ⟨s,hs⟩ : ∃ s,m.val[k]? = some s:=⟨_,List.getElem?_eq_getElem hkl⟩
   have hw:w=((w.toNat:Nat):Int):=by omega
   have bs:(s >>> w.toNat&&&(1:BitVec 64)).toNat≤1:=zyH s _
   have hor:=zBc (w:=w.toNat) hs (by omega)
   have hsh:0≤(((s >>> w.toNat&&&(1:BitVec 64)).toNat:Int)) * 2 ^ (min (k:Int).toNat IntKind.i64.bits)∧(((s >>> w.toNat&&&(1:BitVec 64)).toNat:Int)) * 2 ^ (min (k:Int).toNat IntKind.i64.bits)≤9223372036854775807:=zAd bs (by omega)
   (repeat' ((conv=>whnf);first|refine vA ?_|(refine vF ?_ ?_<;>intro hc<;>try simp only [vL] at hc)|refine vT ?_|refine vN ‹_› ?_|((first|refine vO ?_ ?_|refine vP ?_ ?_);·omega)|refine vX ?_));all_goals try conv=>whnf
   ·refine ⟨(k+1,_),[(0,0)],[],?_,?_,by (refine ⟨rfl,rfl,rfl,?_,?_⟩;repeat' first|exact trivial|exact rfl|refine And.intro ?_ ?_|refine ⟨_,rfl,?_⟩|decide)⟩
    ·exact ⟨by (omega),hor⟩
    ·((simp only [vM] at *;omega))
   all_goals omega
  ·(repeat' ((conv=>whnf);first|refine vA ?_|(refine vF ?_ ?_<;>intro hc<;>try simp only [vL] at hc)|refine vT ?_|(refine vQ ?_ fun x hx=>?_;·omega)|((first|refine vO ?_ ?_|refine vP ?_ ?_);·omega)|refine vX ?_));all_goals try conv=>whnf
   ·omega
   ·unfold zmC
    rw [if_neg (by omega),show k=m.val.length by omega];rfl
abbrev dN (l:List Nat):D:=dI (l.map fun (x:Nat)=>(x:Int))
theorem zwi (hT:zdf T) (s:BitVec 64):Fn Tryz.prog T zjh [.d (.u64 s)] [] (.d (dN (zB s))) []:=by
 refine zb zn zra (by show 1≤16;decide) ?_
 (repeat' ((conv=>whnf);first|refine vA ?_|refine vT ?_));all_goals try conv=>whnf
 refine zy (fun ((r,zs):BitVec 64×List D)=>[(0,.d (.u64 (r))),(3,.own 0)]) (fun ((r,zs):BitVec 64×List D)=>[(0,some (.row 1 zs))]) 1 (fun ((r,zs):BitVec 64×List D) => ∃ l:List Nat,zs=l.map (fun (x:Nat)=>D.int .i64 (x:Int))∧zB s=l++zB r) (fun ((r,zs):BitVec 64×List D)=>(zB r).length) ((s,[])) []   [0] (⟨[],rfl,rfl⟩) (by (refine ⟨rfl,rfl,rfl,?_,?_⟩;repeat' first|exact trivial|exact rfl|exact ⟨_,rfl⟩|refine And.intro ?_ ?_|decide)) ?_
 rintro ⟨r,zs⟩ ⟨l,rfl,hI⟩
 by_cases hr:r=0#64
 ·subst hr
  (repeat' ((conv=>whnf);first|refine vA ?_|refine vH ?_|refine vT ?_));all_goals try conv=>whnf
  rw [hI,zfs,List.append_nil]
  show some (D.arr 1 _)=some (D.arr 1 _)
  rw [List.map_map];rfl
 ·have hb:=zg8 r hr
  have hl:=congrArg List.length hI
  have hlen:(zB s).length≤64:=by unfold zB;have:=List.length_filter_le (fun i=>s.getLsbD i) (List.range 64);simpa using this
  rw [List.length_append] at hl
  (repeat' ((conv=>whnf);first|refine vA ?_|(refine vD ?_ ?_<;>intro hc)|refine vT ?_|(refine vP ?_ ?_;·(simp only [vM] at *;omega))|refine yD (hT r) (by (repeat refine ⟨⟨rfl,rfl⟩,?_⟩);rfl) rfl ?_));all_goals try conv=>whnf
  ·refine ⟨(r&&&(r - 1#64),_),[(0,2)],[],?_,?_,by (refine ⟨rfl,rfl,rfl,?_,?_⟩;repeat' first|exact trivial|exact rfl|refine And.intro ?_ ?_|refine ⟨_,rfl,?_⟩|decide)⟩
   ·exact ⟨l++[Lib.ctz 64 r.toNat],by simp,by rw [hI,hb];simp⟩
   ·show (zB (r&&&(r - 1#64))).length < (zB r).length
    rw [hb];simp
  ·exact absurd ‹r=0› hr
theorem zuS (s:BitVec 64) (l:List Nat) (hl:l.length≤64):Fn Tryz.prog T zmB [.d (.u64 s),.d (dN l)] [] (.d (.u64 (zaN s l))) []:=by
 refine zb zn zu3 (by show 2≤25;decide) ?_
 (repeat' ((conv=>whnf);first|refine vA ?_|refine vJ fun hg=>?_|refine vT ?_));all_goals try conv=>whnf
 refine zal (fun ((k,o):Nat×BitVec 64)=>[(0,.d (.u64 (s))),(5,.d (.u64 (o))),(8,.d (dN l)),(9,.d (.int .i64 (((l.map fun (x:Nat)=>(x:Int)).map (D.int .i64)).length:Int))),(10,.d (.int .i64 ((k:Int))))]) (fun ((k,o):Nat×BitVec 64)=>k≤l.length∧o=zaZ (fun i=>s.getLsbD (l.getD i 0)) k) (fun ((k,o):Nat×BitVec 64)=>l.length - k) ((0,0#64)) (⟨by simp,rfl⟩) (by (repeat' first|exact trivial|exact rfl|refine And.intro ?_ ?_)) ?_
 rintro ⟨k,o⟩ ⟨hk,hI⟩
 by_cases hkl:k < l.length
 ·have e1:(l.map fun (x:Nat)=>(x:Int))[k]? = some ((l.getD k 0:Nat):Int):=by simp [hkl]
  (repeat' ((conv=>whnf);first|refine vA ?_|(refine vF ?_ ?_<;>intro hc<;>try simp only [vL] at hc)|refine vT ?_|refine vN ‹_› ?_|((first|refine vO ?_ ?_|refine vP ?_ ?_);·omega)|refine vY ?_));all_goals try conv=>whnf
  ·refine ⟨(k+1,_),[],[],?_,?_,by (refine ⟨rfl,rfl,rfl,?_,?_⟩;repeat' first|exact trivial|exact rfl|refine And.intro ?_ ?_)⟩
   ·refine ⟨by omega,?_⟩
    rw [zaZ,hI]
    show _|||(s >>> (l.getD k 0)&&&1#64) <<< k=_
    by_cases hb:s.getLsbD (l.getD k 0)=true
    ·rw [(zcS _ _).2 hb,if_pos hb]
    ·rw [(zfE _ _).2 (by simpa using hb),if_neg hb,BitVec.zero_shiftLeft,BitVec.or_zero]
   ·((simp only [vM] at *;omega))
  ·omega
 ·(repeat' ((conv=>whnf);first|refine vA ?_|(refine vF ?_ ?_<;>intro hc<;>try simp only [vL] at hc)|refine vT ?_|(refine vQ ?_ fun x hx=>?_;·omega)|((first|refine vO ?_ ?_|refine vP ?_ ?_);·omega)|refine vY ?_));all_goals try conv=>whnf
  ·omega
  ·rw [hI,show k=l.length by omega];rfl
theorem znK {l:List Nat} {k:Nat} (h:k < l.length):(l.map fun (x:Nat)=>(x:Int))[k]? = some ((l.getD k 0:Nat):Int):=by simp [h]
abbrev zgU (l:List Nat):Nat:=((l.map fun (x:Nat)=>(x:Int)).map (D.int .i64)).length
theorem zsj (l:List Nat):zgU l=l.length:=by simp [zgU]
theorem zxP (m:KM) (l:List Nat) (hl:l.length≤64) (hr : ∀ r∈m.rel,∀ w∈l,w < r.length) (hv:m.val.length≤8) (hrl:m.rel.length≤4):Fn Tryz.prog T zgm [.d (dKM m),.d (dN l)] [] (.d (dKM (zS m l))) []:=by
 refine zb zn zq9 (by show 2≤63;decide) ?_
 (repeat' ((conv=>whnf);first|refine vA ?_|refine vJ fun hg=>?_|refine vT ?_));all_goals try conv=>whnf
 refine zy (fun ((k,zs):Nat×List D)=>[(1,.d (dN l)),(2,.ptr 0 0),(4,.ptr 1 0),(5,.ptr 2 0),(17,.d (dU m.val)),(18,.d (.int .i64 ((m.val.map D.u64).length:Int))),(19,.d (.int .i64 ((k:Int))))]) (fun ((k,zs):Nat×List D)=>[(0,some (zco m)),(1,some (.box [.d (.int .i64 0),.nils 1,.nils 1])),(2,some (.box [.d (.int .i64 (zgU l:Int)),.own 3,.nils 1])),(3,some (.row 1 zs))]) 4 (fun ((k,zs):Nat×List D)=>k≤m.val.length∧zs=(m.val.take k).map fun s=>D.u64 (zaN s l)) (fun ((k,zs):Nat×List D)=>m.val.length - k) ((0,[])) [(0,0),(1,1),(2,2)]   [3] (⟨by simp,by simp⟩) (by (refine ⟨rfl,rfl,rfl,?_,?_⟩;repeat' first|exact trivial|exact rfl|exact ⟨_,rfl⟩|refine And.intro ?_ ?_|refine ⟨_,rfl,?_⟩|decide)) ?_
 rintro ⟨k,zs⟩ ⟨hk,hz⟩
 have hzl:zs.length≤8:=by rw [hz];simp;omega
 by_cases hkl:k < m.val.length
 ·obtain ⟨s,hs⟩ : ∃ s,m.val[k]? = some s:=⟨_,List.getElem?_eq_getElem hkl⟩
  (repeat' ((conv=>whnf);first|refine vA ?_|(refine vF ?_ ?_<;>intro hc<;>try simp only [vL] at hc)|refine vJ fun hg=>?_|refine vT ?_|refine vN ‹_› ?_|((first|refine vO ?_ ?_|refine vP ?_ ?_);·first|omega|(simp only [vM] at *;omega))|(refine vU ?_ ?_;·kernel_rfl)|refine yD (zuS s l hl) ⟨⟨rfl,rfl⟩,⟨rfl,rfl⟩,rfl⟩ rfl ?_));all_goals try conv=>whnf
  ·refine ⟨(k+1,_),[(0,0),(1,1),(2,2),(3,5)],[],?_,?_,by (refine ⟨rfl,rfl,rfl,?_,?_⟩;repeat' first|exact trivial|exact rfl|refine And.intro ?_ ?_|refine ⟨_,rfl,?_⟩|decide)⟩
   ·exact ⟨by omega,by rw [List.take_add_one,hs,hz];simp⟩
   ·((simp only [vM] at *;omega))
  all_goals omega
 ·have hzz:zs=m.val.map fun s=>D.u64 (zaN s l):=by rw [hz,List.take_of_length_le (by omega)]
  clear hz
  subst hzz
  (repeat' ((conv=>whnf);first|refine vA ?_|(refine vF ?_ ?_<;>intro hc<;>try simp only [vL] at hc)|refine vJ fun hg=>?_|refine vT ?_|(refine vQ ?_ fun x hx=>?_;·omega)|fail));all_goals try conv=>whnf
  ·omega
  refine zy (fun ((k,zs):Nat×List D)=>[(1,.d (dN l)),(4,.ptr 1 0),(5,.ptr 2 0),(33,.d (dUU m.rel)),(34,.d (.int .i64 ((m.rel.map dU).length:Int))),(35,.d (.int .i64 ((k:Int))))]) (fun ((k,zs):Nat×List D)=>[(1,some (.box [.d (.int .i64 0),.nils 1,.nils 1])),(2,some (.box [.d (.int .i64 (zgU l:Int)),.own 3,.own 4])),(3,some (.row 1 (m.val.map fun s=>D.u64 (zaN s l)))),(4,some (.row 1 zs))]) 5 (fun ((k,zs):Nat×List D)=>k≤m.rel.length∧zs=(m.rel.take k).map fun r=>dU (l.map fun w=>zaN (r.getD w 0#64) l)) (fun ((k,zs):Nat×List D)=>m.rel.length - k) ((0,[])) [(1,1),(2,2),(3,3)]   [4] (⟨by simp,by simp⟩) (by (refine ⟨rfl,rfl,rfl,?_,?_⟩;repeat' first|exact trivial|exact rfl|exact ⟨_,rfl⟩|refine And.intro ?_ ?_|refine ⟨_,rfl,?_⟩|decide)) ?_
  rintro ⟨k,zs⟩ ⟨hk,hz⟩
  have hzl:zs.length≤4:=by rw [hz];simp;omega
  by_cases hkl:k < m.rel.length
  ·obtain ⟨r,hrr⟩ : ∃ r,m.rel[k]? = some r:=⟨_,List.getElem?_eq_getElem hkl⟩
   have hrw:=hr r (List.mem_of_getElem? hrr)
   (repeat' ((conv=>whnf);first|refine vA ?_|(refine vF ?_ ?_<;>intro hc<;>try simp only [vL] at hc)|refine vJ fun hg=>?_|refine vT ?_|refine vN ‹_› ?_));all_goals try conv=>whnf
   ·refine zy (fun ((j,ys):Nat×List D)=>[(1,.d (dN l)),(4,.ptr 1 0),(5,.ptr 2 0),(9,.d (dU r)),(10,.own 5),(33,.d (dUU m.rel)),(34,.d (.int .i64 ((m.rel.map dU).length:Int))),(35,.d (.int .i64 ((k:Int)))),(39,.d (dN l)),(40,.d (.int .i64 (((l.map fun (x:Nat)=>(x:Int)).map (D.int .i64)).length:Int))),(41,.d (.int .i64 ((j:Int))))]) (fun ((j,ys):Nat×List D)=>[(1,some (.box [.d (.int .i64 0),.nils 1,.nils 1])),(2,some (.box [.d (.int .i64 (zgU l:Int)),.own 3,.own 4])),(3,some (.row 1 (m.val.map fun s=>D.u64 (zaN s l)))),(4,some (.row 1 zs)),(5,some (.row 1 ys))]) 6 (fun ((j,ys):Nat×List D)=>j≤l.length∧ys=(l.take j).map fun w=>D.u64 (zaN (r.getD w 0#64) l)) (fun ((j,ys):Nat×List D)=>l.length - j) ((0,[])) [(1,1),(2,2),(3,3),(4,4)]   [5] (⟨by simp,by simp⟩) (by (refine ⟨rfl,rfl,rfl,?_,?_⟩;repeat' first|exact trivial|exact rfl|exact ⟨_,rfl⟩|refine And.intro ?_ ?_|refine ⟨_,rfl,?_⟩|decide)) ?_
    rintro ⟨j,ys⟩ ⟨hj,hy⟩
    have hyl:ys.length≤64:=by rw [hy];simp;omega
    by_cases hjl:j < l.length
    ·have e1:=znK hjl
     have e2:=hrw _ (zaq hjl)
     have e3:r[l.getD j 0]? = some (r.getD (l.getD j 0) 0#64):=zf2 e2
     (repeat' ((conv=>whnf);first|refine vA ?_|(refine vF ?_ ?_<;>intro hc<;>try simp only [vL] at hc)|refine vT ?_|refine vN ‹_› ?_|((first|refine vO ?_ ?_|refine vP ?_ ?_);·first|omega|(simp only [vM] at *;omega))|refine yD (zuS (r.getD (l.getD j 0) 0#64) l hl) ⟨⟨rfl,rfl⟩,⟨rfl,rfl⟩,rfl⟩ rfl ?_));all_goals try conv=>whnf
     ·refine ⟨(j+1,_),[(1,1),(2,2),(3,3),(4,4),(5,7)],[],?_,?_,by (refine ⟨rfl,rfl,rfl,?_,?_⟩;repeat' first|exact trivial|exact rfl|refine And.intro ?_ ?_|refine ⟨_,rfl,?_⟩|decide)⟩
      ·exact ⟨by omega,by rw [List.take_add_one,hy,zf2 (d:=0) hjl];simp⟩
      ·((simp only [vM] at *;omega))
     ·omega
    ·(repeat' ((conv=>whnf);first|refine vA ?_|(refine vF ?_ ?_<;>intro hc<;>try simp only [vL] at hc)|refine vT ?_|(refine vQ ?_ fun x hx=>?_;·omega)|((first|refine vO ?_ ?_|refine vS ?_ fun x hx=>?_|refine vP ?_ ?_);·first|omega|(simp only [vM] at *;omega))|fail));all_goals try conv=>whnf
     ·omega
     ·have hyy:ys=l.map fun w=>D.u64 (zaN (r.getD w 0#64) l):=by rw [hy,List.take_of_length_le (by omega)]
      refine ⟨(k+1,_),[(1,1),(2,2),(3,3),(4,7)],[],?_,?_,by (refine ⟨rfl,rfl,rfl,?_,?_⟩;repeat' first|exact trivial|exact rfl|refine And.intro ?_ ?_|refine ⟨_,rfl,?_⟩|decide)⟩
      ·refine ⟨by omega,?_⟩
       rw [List.take_add_one,hrr,hz,hyy];simp
      ·((simp only [vM] at *;omega))
   all_goals omega
  ·(repeat' ((conv=>whnf);first|refine vA ?_|(refine vF ?_ ?_<;>intro hc<;>try simp only [vL] at hc)|refine vJ fun hg=>?_|refine vT ?_|(refine vQ ?_ fun x hx=>?_;·omega)|fail));all_goals try conv=>whnf
   ·omega
   ·have hzz:zs=m.rel.map fun r=>dU (l.map fun w=>zaN (r.getD w 0#64) l):=by rw [hz,List.take_of_length_le (by omega)]
    subst hzz
    refine congrArg some (show D.agg [.int .i64 (zgU l:Int),.arr 1 (m.val.map fun s=>D.u64 (zaN s l)),.arr 1 (m.rel.map fun r=>dU (l.map fun w=>zaN (r.getD w 0#64) l))]=dKM (zS m l) from ?_)
    rw [zsj]
    simp [zS,Function.comp_def]
theorem zBq {m:KM} (hc:za m=0) {l:List Nat} (h : ∀ w∈l,w < m.W.toNat) : ∀ r∈m.rel,∀ w∈l,w < r.length:=fun r hr w hw=>by
 have hg:=zx hc
 have:=hg.len r hr
 have:=h w hw
 have:=hg.w1
 omega
theorem zoE {m:KM} (hc:za m=0) {l:List Nat} (hl:l.length≤64) (h : ∀ w∈l,w < m.W.toNat):Fn Tryz.prog T zgm [.d (dKM m),.d (dN l)] [] (.d (dKM (zS m l))) [] :=
 zxP m l hl (zBq hc h) (zx hc).v8 (zx hc).n4
theorem zqe (s:BitVec 64):(zB s).length≤64:=by
 unfold zB;have:=List.length_filter_le (fun i=>s.getLsbD i) (List.range 64);simpa using this
theorem zzq {m:KM} (hc:za m=0) {s:BitVec 64} (hs : ∀ v,s.getLsbD v=true→v < m.W.toNat):s &&& ~~~(zbc m.W)=0#64:=by
 have w1:=(zx hc).w1
 have:=(zfV (n:=m.W) (s:=s) (by omega)).2 hs
 simpa [bad] using this
theorem zmM (hT:zdf T) {m:KM} (hk0:za m=0) {s:BitVec 64} (h0:s≠0#64) (hs : ∀ v,s.getLsbD v=true→v < m.W.toNat):Fn Tryz.prog T ziG [.d (dKM m),.d (.u64 s)] [] (.d (.tup [dKM (zS m (zB s)),dN (zB s),.int .i64 0])) []:=by
 have w1:=(zx hk0).w1
 have h1:=zzq hk0 hs
 have cc:=zaI (T:=T) m
 rw [hk0] at cc
 refine zb zn zpE (by show 2≤31;decide) ?_
 (repeat' ((conv=>whnf);first|refine vA ?_|refine vH ?_|((first|refine vD ?_ ?_|refine vF ?_ ?_)<;>intro hc)|refine vT ?_|refine yD cc ⟨⟨rfl,rfl⟩,rfl⟩ rfl ?_|refine yD (zr5 m.W (by omega)) ⟨⟨rfl,rfl⟩,rfl⟩ rfl ?_|refine yN (zwi hT s) ⟨⟨rfl,rfl⟩,rfl⟩ ?_|refine yN (zoE hk0 (zqe s) (fun w hw=>hs w (zln.1 hw))) (by (repeat refine ⟨⟨rfl,rfl⟩,?_⟩);rfl) ?_));all_goals try conv=>whnf
 ·exact absurd h1 ‹_›
 ·exact absurd ‹s=0› h0
 ·rfl
theorem zlO (hT:zdf T) {m:KM} (hk0:za m=0) {f:BitVec 64} (hf : ∀ v,f.getLsbD v=true→v < m.W.toNat):Fn Tryz.prog T zhV [.d (dKM m),.d (.u64 f)] [] (.d (.tup [.u64 (zhH m f),.int .i64 0])) []:=by
 have hg0:=zx hk0
 have w1:=hg0.w1
 have w2:=hg0.w2
 have n4:=hg0.n4
 have h1:=zzq hk0 hf
 have cc:=zaI (T:=T) m
 rw [hk0] at cc
 refine zb zn zok (by show 2≤56;decide) ?_
 (repeat' ((conv=>whnf);first|refine vA ?_|refine vH ?_|(refine vD ?_ ?_<;>intro hc)|refine vT ?_|refine yD cc ⟨⟨rfl,rfl⟩,rfl⟩ rfl ?_|refine yD (zr5 m.W (by omega)) ⟨⟨rfl,rfl⟩,rfl⟩ rfl ?_));all_goals try conv=>whnf
 ·exact absurd h1 ‹_›
 refine zy (fun ((o,t):BitVec 64×BitVec 64)=>[(2,.ptr 0 0),(7,.d (.u64 (o))),(8,.d (.u64 (t)))]) (fun ((o,t):BitVec 64×BitVec 64)=>[(0,some (zco m))]) 1 (fun ((o,t):BitVec 64×BitVec 64)=>zrC m f o t) (fun ((o,t):BitVec 64×BitVec 64)=>64 - zmo o t) ((f,f)) [(0,0)] [] (zx2 hf) (by (refine ⟨rfl,rfl,rfl,?_,?_⟩;repeat' first|exact trivial|exact rfl|refine And.intro ?_ ?_|refine ⟨_,rfl,?_⟩|decide)) ?_
 rintro ⟨o,t⟩ hI
 by_cases ht:t=0#64
 ·subst ht
  (repeat' ((conv=>whnf);first|refine vA ?_|refine vH ?_|refine vT ?_));all_goals try conv=>whnf
  rw [hI.done hk0];rfl
 ·obtain ⟨l1,l2,l3,l4⟩:=zwW t ht
  have hwo:=hI.tod _ l2
  have hwn:=(hI.gs.inn _ hwo).lt
  have cz:=hT t
  generalize Lib.ctz 64 t.toNat=w at l1 l2 l3 l4 hwo hwn cz
  (repeat' ((conv=>whnf);first|refine vA ?_|(refine vD ?_ ?_<;>intro hc)|refine vJ fun hg=>?_|refine vT ?_|refine yD cz (by (repeat refine ⟨⟨rfl,rfl⟩,?_⟩);rfl) rfl ?_));all_goals try conv=>whnf
  ·refine zy (fun ((k,o2,t2):Nat×BitVec 64×BitVec 64)=>[(2,.ptr 0 0),(7,.d (.u64 (o2))),(8,.d (.u64 (t2))),(9,.d (.int .i64 ((w:Int)))),(34,.d (dUU m.rel)),(35,.d (.int .i64 ((m.rel.map dU).length:Int))),(36,.d (.int .i64 ((k:Int))))]) (fun ((k,o2,t2):Nat×BitVec 64×BitVec 64)=>[(0,some (zco m))]) 1 (fun ((k,o2,t2):Nat×BitVec 64×BitVec 64)=>k≤m.rel.length∧zoX m o t w k o2 t2) (fun ((k,o2,t2):Nat×BitVec 64×BitVec 64)=>m.rel.length - k) ((0,o,t&&&t - 1#64)) [(0,0)] [] (⟨by simp,zx3 l4⟩) (by (refine ⟨rfl,rfl,rfl,?_,?_⟩;repeat' first|exact trivial|exact rfl|refine And.intro ?_ ?_|refine ⟨_,rfl,?_⟩|decide)) ?_
   rintro ⟨k,o2,t2⟩ ⟨hk,hK⟩
   by_cases hkl:k < m.rel.length
   ·obtain ⟨r,hr⟩ : ∃ r,m.rel[k]? = some r:=⟨_,List.getElem?_eq_getElem hkl⟩
    have hrl:=hg0.len r (List.mem_of_getElem? hr)
    obtain ⟨x,hx⟩ : ∃ x,r[w]? = some x:=⟨_,List.getElem?_eq_getElem (by omega)⟩
    (repeat' ((conv=>whnf);first|refine vA ?_|(refine vF ?_ ?_<;>intro hc<;>try simp only [vL] at hc)|refine vT ?_|refine vN ‹_› ?_|(refine vO ?_ ?_;·omega)|fail));all_goals try conv=>whnf
    ·refine ⟨(k+1,_,_),[(0,0)],[],?_,?_,by (refine ⟨rfl,rfl,rfl,?_,?_⟩;repeat' first|exact trivial|exact rfl|refine And.intro ?_ ?_|refine ⟨_,rfl,?_⟩|decide)⟩
     ·exact ⟨by omega,hK.next hr hx⟩
     ·((simp only [vM] at *;omega))
    ·omega
   ·(repeat' ((conv=>whnf);first|refine vA ?_|(refine vF ?_ ?_<;>intro hc<;>try simp only [vL] at hc)|refine vT ?_|refine vN ‹_› ?_|(refine vQ ?_ fun x hx=>?_;·omega)|(refine vO ?_ ?_;·omega)|fail));all_goals try conv=>whnf
    ·omega
    ·have e0:k=m.rel.length:=by omega
     subst e0
     have hE:=hK.end' hk0 hI l2
     have hb:=zCN o2 t2
     refine ⟨(_,_),[(0,0)],[],?_,?_,by (refine ⟨rfl,rfl,rfl,?_,?_⟩;repeat' first|exact trivial|exact rfl|refine And.intro ?_ ?_|refine ⟨_,rfl,?_⟩|decide)⟩
     ·exact hE.1
     ·have:=hE.2
      show 64 - zmo o2 t2 < 64 - zmo o t
      omega
  ·exact absurd ‹t=0› ht
theorem zx4 {to:List Int} {k:Nat} (hk:k < to.length) (hn:at0 to k ∉ to.take k):to.idxOf (at0 to k)=k:=by
 have e:to=to.take k++at0 to k::to.drop (k+1):=by
  rw [← z2 (zen hk),List.take_append_drop]
 have hl:(to.take k).length=k:=by simp;omega
 generalize at0 to k=x at e hn
 generalize to.take k=a at e hn hl
 rw [e,List.idxOf_append,if_neg hn,List.idxOf_cons_self,hl];simp
structure zl8 (to:List Int) (k:Nat) (s:BitVec 64) (zs:List D):Prop where
 le:k≤to.length
 rng : ∀ x∈to.take k,0≤x∧x < to.length
 nd:(to.take k).Nodup
 bit : ∀ x:Nat,x < 64→(s.getLsbD x=true↔(x:Int)∈to.take k)
 row:zs=(List.range to.length).map fun (x:Nat)=>D.int .i64 (if (x:Int)∈to.take k then (to.idxOf (x:Int):Int) else 0)
theorem zl8.next {to:List Int} (h64:to.length≤64) {k:Nat} {s:BitVec 64} {zs:List D} (h:zl8 to k s zs) (hk:k < to.length) {x:Nat} (hx:to[k]? = some (x:Int)) (hx1:x < to.length) (hx2:s.getLsbD x=false) :
  zl8 to (k+1) (s|||1#64 <<< x) (zs.set x (.int .i64 (k:Int))):=by
 have e0:at0 to k=(x:Int):=zdC hx
 have hn:(x:Int) ∉ to.take k:=fun hm=>by rw [(h.bit x (by omega)).2 hm] at hx2;cases hx2
 have hi:to.idxOf (x:Int)=k:=by rw [← e0];exact zx4 hk (by rw [e0];exact hn)
 have ht:to.take (k+1)=to.take k++[(x:Int)]:=by rw [List.take_add_one,hx];rfl
 refine ⟨by omega,fun y hy=>?_,?_,fun y hy=>?_,?_⟩
 ·rw [ht] at hy
  rcases List.mem_append.1 hy with hy|hy
  ·exact h.rng y hy
  ·simp only [List.mem_singleton] at hy;omega
 ·rw [ht]
  refine List.nodup_append.2 ⟨h.nd,by simp,fun a ha b hb e=>?_⟩
  simp only [List.mem_singleton] at hb
  subst hb;subst e;exact hn ha
 ·rw [ht,zlu (by omega),h.bit y hy,List.mem_append,List.mem_singleton]
  exact ⟨fun h=>h.elim .inl fun e => .inr (by omega),fun h=>h.elim .inl fun e => .inr (by omega)⟩
 ·rw [h.row]
  refine (zdV _).trans (zL fun u hu=>?_)
  rw [ht]
  by_cases e:u=x
  ·subst e;rw [if_pos rfl,if_pos (by simp),hi]
  ·rw [if_neg e]
   have:((u:Int)∈to.take k++[(x:Int)])↔(u:Int)∈to.take k:=by
    rw [List.mem_append,List.mem_singleton]
    exact ⟨fun h=>h.elim id fun e'=>absurd (by omega) e,.inl⟩
   by_cases h2:(u:Int)∈to.take k
   ·rw [if_pos h2,if_pos (this.2 h2)]
   ·rw [if_neg h2,if_neg (fun h=>h2 (this.1 h))]
theorem zl8.done {to:List Int} {s:BitVec 64} {zs:List D} (h:zl8 to to.length s zs):zdN to to.length=true∧zs=(zeP to to.length).map fun (x:Nat)=>D.int .i64 (x:Int):=by
 have h1:=h.rng;have h2:=h.nd;have h3:=h.row
 rw [List.take_length] at h1 h2 h3
 have hp:zdN to to.length=true:=zeX.2 ⟨rfl,h1,h2⟩
 refine ⟨hp,?_⟩
 rw [h3]
 unfold zeP
 rw [List.map_map]
 exact zL fun u hu=>by rw [if_pos (zBO hp hu)];rfl
theorem zl8.bad {to:List Int} {k:Nat} {s:BitVec 64} {zs:List D} (h:zl8 to k s zs) (h64:to.length≤64) {x:Int} (hx:to[k]? = some x) (hb:x < 0∨(to.length:Int)≤x∨s.getLsbD x.toNat=true):zdN to to.length=false:=by
 rw [← Bool.not_eq_true]
 intro hp
 obtain ⟨h1,h2,h3⟩:=zeX.1 hp
 have hr:=h2 x (List.mem_of_getElem? hx)
 rcases hb with hb|hb|hb
 ·omega
 ·omega
 ·have hm:=(h.bit x.toNat (by omega)).1 hb
  rw [show ((x.toNat:Nat):Int)=x by omega] at hm
  obtain ⟨j,hj⟩:=List.getElem?_of_mem hm
  rw [List.getElem?_take] at hj
  split at hj
  ·rename_i hlt
   obtain ⟨a,a'⟩:=List.getElem?_eq_some_iff.1 hj
   obtain ⟨c,c'⟩:=List.getElem?_eq_some_iff.1 hx
   have:=(List.getElem_inj h3).1 (a'.trans c'.symm)
   omega
  ·cases hj
theorem zxV (m:KM) (to:List Int):Fn Tryz.prog T zjZ [.d (dKM m),.d (dI to)] [] (.d (dKI (zpR m to))) []:=by
 have cc:=zaI (T:=T) m
 refine zb zn zse (by show 2≤61;decide) ?_
 (repeat' ((conv=>whnf);first|refine vA ?_|(refine vD ?_ ?_<;>intro hc<;>try simp only [vL] at hc)|refine vJ fun hg=>?_|refine vT ?_|(refine vP ?_ ?_;·omega)|refine yD cc ⟨⟨rfl,rfl⟩,rfl⟩ rfl ?_));all_goals try conv=>whnf
 ·rw [zpR,if_pos (by omega)];rfl
 ·have hk0:za m=0:=by omega
  have w1:=(zx hk0).w1
  rw [zpR,if_neg (by omega),if_neg (fun h=>by have:=(zeX.1 h).1;omega)];rfl
 ·have hk0:za m=0:=by omega
  have hg0:=zx hk0
  have w1:=hg0.w1
  have w2:=hg0.w2
  have h64:to.length≤64:=by omega
  have hW:m.W.toNat=to.length:=by omega
  (repeat' ((conv=>whnf);first|refine vA ?_|refine vJ fun hg=>?_|refine vT ?_|(refine vP ?_ ?_;·(simp only [vM] at *;omega))|fail));all_goals try conv=>whnf
  refine zy (fun ((k,s,zs):Nat×BitVec 64×List D)=>[(1,.d (dI to)),(2,.ptr 0 0),(4,.ptr 1 0),(7,.own 2),(8,.d (.u64 (s))),(26,.d (dI to)),(27,.d (.int .i64 ((to.map (D.int .i64)).length:Int))),(28,.d (.int .i64 ((k:Int))))]) (fun ((k,s,zs):Nat×BitVec 64×List D)=>[(0,some (zco m)),(1,some (.box [.d (.int .i64 0),.nils 1,.nils 1])),(2,some (.row 1 zs))]) 3 (fun ((k,s,zs):Nat×BitVec 64×List D)=>zl8 to k s zs) (fun ((k,s,zs):Nat×BitVec 64×List D)=>to.length - k) ((0,0#64,List.replicate (((to.map (D.int .i64)).length:Int)).toNat (D.int .i64 0))) [(0,0),(1,1),(2,2)] [] (⟨by simp,by simp,by simp,by simp,by rw [List.length_map,Int.toNat_natCast,zay];simp⟩) (by (refine ⟨rfl,rfl,rfl,?_,?_⟩;repeat' first|exact trivial|exact rfl|refine And.intro ?_ ?_|refine ⟨_,rfl,?_⟩|decide)) ?_
  rintro ⟨k,s,zs⟩ hI
  have hle:=hI.le
  have hzl:zs.length=to.length:=by rw [hI.row];simp
  by_cases hkl:k < to.length
  ·obtain ⟨x,hx⟩ : ∃ x,to[k]? = some x:=⟨_,List.getElem?_eq_getElem hkl⟩
   have hb:(x < 0∨(to.length:Int)≤x∨s.getLsbD x.toNat=true)→(zbD,(1:Int))=zpR m to:=fun h=>by
    have:=hI.bad h64 hx h
    rw [zpR,if_neg (by omega),if_neg (by rw [hW,this];decide)]
   (repeat' ((conv=>whnf);first|refine vA ?_|(refine vF ?_ ?_<;>intro hc<;>try simp only [vL] at hc)|refine vJ fun hg=>?_|refine vT ?_|refine vN ‹_› ?_|((first|refine vO ?_ ?_|refine vP ?_ ?_);·omega)|fail));all_goals try conv=>whnf
   ·rw [← hb (.inl ‹_›)];rfl
   ·rw [← hb (.inr (.inl ‹_›))];rfl
   ·rw [← hb (.inr (.inr ((zcS _ _).1 ‹_›)))];rfl
   ·obtain ⟨y,rfl⟩ : ∃ y:Nat,x=(y:Int):=⟨x.toNat,by omega⟩
    refine ⟨(k+1,_,_),[(0,0),(1,1),(2,2)],[],?_,?_,by (refine ⟨rfl,rfl,rfl,?_,?_⟩;repeat' first|exact trivial|exact rfl|refine And.intro ?_ ?_|refine ⟨_,rfl,?_⟩|decide)⟩
    ·exact hI.next h64 hkl hx (by omega) (by rw [← Bool.not_eq_true];exact fun h=>absurd ((zcS _ _).2 h) ‹¬_=(1:BitVec 64)›)
    ·((simp only [vM] at *;omega))
   ·omega
  ·have e0:k=to.length:=by omega
   subst e0
   obtain ⟨d1,d2⟩:=hI.done
   have ca:=zoE (T:=T) hk0 (l:=zeP to to.length) (by rw [zr8];omega) (fun w hw=>by
    obtain ⟨i,hi,rfl⟩:=zgX hw
    rw [zr8] at hi
    have:=zzs d1 hi;omega)
   have hz:zs=((zeP to to.length).map fun (x:Nat)=>(x:Int)).map (D.int .i64):=by rw [d2,List.map_map];rfl
   clear d2 hI
   subst hz
   (repeat' ((conv=>whnf);first|refine vA ?_|(refine vF ?_ ?_<;>intro hc<;>try simp only [vL] at hc)|refine vJ fun hg=>?_|refine vT ?_|(refine vQ ?_ fun x hx=>?_;·omega)|((first|refine vO ?_ ?_|refine vP ?_ ?_);·omega)|refine yN ca ⟨⟨rfl,rfl⟩,⟨rfl,rfl⟩,rfl⟩ ?_));all_goals try conv=>whnf
   all_goals try (exfalso;omega)
   rw [zpR,if_neg (by omega),if_pos (by rw [hW];exact d1),hW];rfl
theorem zxN (a b:List (List (BitVec 64))):Fn Tryz.prog T zaE [.d (dUU a),.d (dUU b),.d (.fn zdI [])] [] (.d (.bool (a==b))) []:=by
 have c1 : ∀ x y:List (BitVec 64),Fn Tryz.prog T zdI [.d (dU x),.d (dU y)] [] (.d (.bool (x==y))) []:=fun x y=>by
  refine zb zn zsf (by show 2≤8;decide) ?_
  (repeat' ((conv=>whnf);first|refine vT ?_|refine vZ ?_|refine yD (zmJ _ _) ⟨⟨rfl,rfl⟩,⟨rfl,rfl⟩,rfl⟩ rfl ?_));all_goals try conv=>whnf
 refine zb zn zcd (by show 3≤32;decide) ?_
 (repeat' ((conv=>whnf);first|refine vA ?_|(refine vD ?_ ?_<;>intro hc<;>try simp only [vL] at hc)|refine vJ fun hg=>?_|refine vT ?_|refine vZ ?_));all_goals try conv=>whnf
 ·have:a≠b:=fun e=>hc (by rw [e])
  simp [this]
 ·refine zal (fun (k:Nat)=>[(1,.d (dUU b)),(2,.d (.fn zdI [])),(15,.d (dUU a)),(16,.d (.int .i64 ((a.map dU).length:Int))),(17,.d (.int .i64 ((k:Int))))]) (fun (k:Nat)=>k≤a.length∧(a==b)=(a.drop k==b.drop k)) (fun (k:Nat)=>a.length - k) (0) (⟨by simp,by simp⟩) (by (repeat' first|exact trivial|exact rfl|refine And.intro ?_ ?_)) ?_
  rintro k ⟨hk,hI⟩
  (repeat' ((conv=>whnf);first|refine vA ?_|refine vE ?_|((first|refine vF ?_ ?_|refine vI ?_ ?_)<;>intro hc<;>try simp only [vL] at hc)|refine vT ?_|(refine vQ ?_ fun x hx=>?_;·omega)|(refine vO ?_ ?_;·omega)|refine vZ ?_|refine yD (c1 _ _) (by (repeat refine ⟨⟨rfl,rfl⟩,?_⟩);rfl) rfl ?_));all_goals try conv=>whnf
  ·exact ⟨k+1,[],[],⟨by (omega),by rw [hI,z2 ‹a[k]? = some _›,z2 ‹b[k]? = some _›];simp_all⟩,by (omega),by (refine ⟨rfl,rfl,rfl,?_,?_⟩;repeat' first|exact trivial|exact rfl|refine And.intro ?_ ?_)⟩
  ·rw [hI,z2 ‹a[k]? = some _›,z2 ‹b[k]? = some _›];simp_all
  ·rw [hI,List.drop_eq_nil_of_le (by omega),List.drop_eq_nil_of_le (by omega)];rfl
theorem zBm (a b:KM):Fn Tryz.prog T zmA [.d (dKM a),.d (dKM b)] [] (.d (.bool (decide (a=b)))) []:=by
 have key:(decide (a.W=b.W)&&((a.val==b.val)&&(a.rel==b.rel)))=decide (a=b):=by
  rw [Bool.eq_iff_iff]
  simp only [Bool.and_eq_true,decide_eq_true_eq,beq_iff_eq]
  exact ⟨fun ⟨h1,h2,h3⟩=>by cases a;cases b;simp only at h1 h2 h3;subst h1 h2 h3;rfl,fun h=>by subst h;exact ⟨rfl,rfl,rfl⟩⟩
 refine zb zn zu2 (by show 2≤24;decide) ?_
 (repeat' ((conv=>whnf);first|refine vA ?_|((first|refine vF ?_ ?_|refine vI ?_ ?_)<;>intro hc)|refine vT ?_|refine vZ ?_|refine yD (zmJ _ _) ⟨⟨rfl,rfl⟩,⟨rfl,rfl⟩,rfl⟩ rfl ?_|refine yD (zxN _ _) ⟨⟨rfl,rfl⟩,⟨rfl,rfl⟩,⟨rfl,rfl⟩,rfl⟩ rfl ?_));all_goals try conv=>whnf
 all_goals rw [← key];simp_all
end Go.Ab
namespace Go.Ab
open Go Go.Proofs
set_option maxRecDepth 10000
set_option maxHeartbeats 4000000
variable {T:Nat→Obj→Prop}
def zuE (m:KM) (n:Int):Bool:=decide (¬(n < m.W∧m.W≤64)∧m.val.length≤20∧m.rel.length≤10 ∧ ∀ r∈m.rel,r.length≤70)
theorem zE5 (m:KM) (n:Int):Fn Tryz.prog T zht [.d (dKM m),.d (.int .i64 n)] [] (.d (.bool (zuE m n))) []:=by
 have no:(n < m.W∧m.W≤64∨20 < m.val.length∨10 < m.rel.length)→false=zuE m n:=fun h=>by
  rw [zuE,decide_eq_false];rintro ⟨a,b,c,-⟩;omega
 refine zb zn zm0 (by show 2≤41;decide) ?_
 (repeat' ((conv=>whnf);first|refine vA ?_|(refine vF ?_ ?_<;>intro hc<;>try simp only [vL] at hc)|refine vJ fun hg=>?_|refine vT ?_|refine vZ ?_));all_goals try conv=>whnf
 iterate 3 exact no (by omega)
 rotate_left
 iterate 2 exact no (by omega)
 all_goals
  have h1 : ¬(n < m.W∧m.W≤64):=by omega
  refine zy (fun (k:Nat)=>[(2,.ptr 0 0),(5,.d (.int .i64 ((k:Int))))]) (fun (k:Nat)=>[(0,some (zco m))]) 1 (fun (k:Nat)=>k≤m.rel.length ∧ ∀ (i:Nat) r,i < k→m.rel[i]? = some r→r.length≤70) (fun (k:Nat)=>m.rel.length - k) (0) [(0,0)] [] (⟨by simp,fun i r hi=>by omega⟩) (by (refine ⟨rfl,rfl,rfl,?_,?_⟩;repeat' first|exact trivial|exact rfl|refine And.intro ?_ ?_|refine ⟨_,rfl,?_⟩|decide)) ?_
  rintro k ⟨hk,hI⟩
  (repeat' ((conv=>whnf);first|refine vA ?_|(refine vF ?_ ?_<;>intro hc<;>try simp only [vL] at hc)|refine vJ fun hg=>?_|refine vT ?_|(refine vQ ?_ fun x hx=>?_;·omega)|(refine vO ?_ ?_;·omega)|refine vZ ?_));all_goals try conv=>whnf
  ·rw [zuE,decide_eq_false]
   rintro ⟨-,-,-,h⟩
   have:=h _ (List.mem_of_getElem? hx);omega
  ·exact ⟨k+1,[(0,0)],[],⟨by (omega),fun i r hi hr=>by
    by_cases e:i=k
    ·subst e;rw [hx] at hr;cases hr;omega
    ·exact hI i r (by omega) hr⟩,by (omega),by (refine ⟨rfl,rfl,rfl,?_,?_⟩;repeat' first|exact trivial|exact rfl|refine And.intro ?_ ?_|refine ⟨_,rfl,?_⟩|decide)⟩
  ·rw [zuE,decide_eq_true]
   refine ⟨h1,by omega,by omega,fun r hr=>?_⟩
   obtain ⟨i,hi⟩:=List.getElem?_of_mem hr
   have:=(List.getElem?_eq_some_iff.1 hi).1
   exact hI i r (by omega) hi
end Go.Ab
namespace Go.Ab
def mkT (p:KM) (root:Int) (i:Nat):Tup:=[[if (i:Int)=root then (0:Int) else 1],[zF p i]]
def zeV (p:KM) (root:Int):(Nat→Nat)×Nat:=zcP p.W.toNat (zi p) (mkT p root)
theorem zCF {m:KM} {l k:List Nat} (hl:l.length≤64) (hk:k.length≤64) (h : ∀ x∈k,x < l.length):zS (zS m l) k=zS m (k.map fun i=>l.getD i 0):=by
 have key : ∀ s,zaN (zaN s l) k=zaN s (k.map fun i=>l.getD i 0):=fun s=>by
  unfold zaN
  rw [List.length_map]
  refine zoT fun i hi=>?_
  have hm:k.getD i 0∈k:=zaq hi
  rw [show (k.map fun i=>l.getD i 0).getD i 0=l.getD (k.getD i 0) 0 by simp [List.getD,List.getElem?_map,List.getElem?_eq_getElem hi]]
  rw [Bool.eq_iff_iff,zcb hl]
  exact ⟨fun h=>h.2,fun h'=>⟨h _ hm,h'⟩⟩
 unfold zS
 simp only [List.length_map,List.map_map]
 congr 1
 ·exact List.map_congr_left fun s _=>key s
 ·refine List.map_congr_left fun r _=>?_
  show List.map _ k=List.map _ k
  refine List.map_congr_left fun w hw=>?_
  have hw:=h w hw
  show zaN ((l.map fun w=>zaN (r.getD w 0#64) l).getD w 0#64) k=zaN (r.getD (l.getD w 0) 0#64) (k.map fun i=>l.getD i 0)
  rw [← key,show (l.map fun w=>zaN (r.getD w 0#64) l).getD w 0#64=zaN (r.getD (l.getD w 0) 0#64) l by
   simp [List.getD,List.getElem?_map,List.getElem?_eq_getElem hw]]
theorem zDd {m:KM} {l:List Nat} (hn:l.Nodup) (h2:l.length≤64) {w:Nat} (hw:w∈l) {i:Nat} (hi:i < l.length):mkT (zS m l) (l.idxOf w:Int) i=ze8 l (zF m) w i:=by
 unfold mkT ze8
 rw [znu h2 hi]
 have h1:=zle hw
 by_cases e:i=l.idxOf w
 ·rw [if_pos (by omega),if_pos (by rw [e];exact h1.2)]
 ·rw [if_neg (by omega),if_neg (fun e'=>e (zfN hn hi h1.1 (by rw [h1.2,e'])))]
theorem zBH {m:KM} {l:List Nat} (hn:l.Nodup) (h2:l.length≤64) {w:Nat} (hw:w∈l):(∀ i,i < l.length→(zeV (zS m l) (l.idxOf w:Int)).1 i=(zbT l (zi m) (zF m) w).1 i)∧(zeV (zS m l) (l.idxOf w:Int)).2=(zbT l (zi m) (zF m) w).2:=by
 have hid:Ren l.length fun w=>w:=⟨fun _ h=>h,fun _ _ _ _ h=>h⟩
 have:=znL hid (zub h2 (m:=m)) (first:=ze8 l (zF m) w) (first':=mkT (zS m l) (l.idxOf w:Int)) fun i hi=>zDd hn h2 hw hi
 unfold zeV zbT
 rw [show (zS m l).W.toNat=l.length from Int.toNat_natCast _]
 exact this.2.2
def zjF (p:KM):Bool:=decide ((zeV p (-1)).2=p.W.toNat)
theorem zEg {p:KM} (root:Int):(zeV p root).2≤p.W.toNat:=by
 unfold zeV;rw [zpQ];exact ziB _ _
theorem zDc {p:KM} (h:zjF p=true) (root:Int):Ren p.W.toNat (zeV p root).1:=by
 refine (zth (g:=mkT p (-1)) (fun v w _ _ e=>?_) (of_decide_eq_true h)).2
 unfold mkT at e ⊢
 have e2:zF p v=zF p w:=by
  simp only [List.cons.injEq,and_true] at e;exact e.2
 rw [e2,if_neg (by omega),if_neg (by omega)]
noncomputable def zd0 (m:KM) (w:Nat):List Nat:=zaa (zI m.W.toNat (zi m) w) (zi m) (zF m) w
noncomputable def zgL (m:KM) (w:Int):KM×List Int×Int :=
 if za m≠0 then (zbD,[],za m) else if w < 0∨m.W≤w then (zbD,[],2) else
 if zjF (zS m (zI m.W.toNat (zi m) w.toNat))=false then (zbD,[],16) else (zS m (zd0 m w.toNat),(zd0 m w.toNat).map fun (x:Nat)=>(x:Int),0)
theorem zj9 {n:Nat} {R:zD} {w:Nat} : (zI n R w).length≤n:=by
 have:=zb9 (zjn n R w) (l':=List.range n) fun x hx=>List.mem_range.2 (zf1.1 hx).lt
 simpa using this
theorem zsq {n:Nat} {q:Nat→Nat} (h:Ren n q):zdN (ptL n q) n=true:=by
 rw [zeX]
 refine ⟨zbU,fun x hx=>?_,?_⟩
 ·obtain ⟨w,hw,rfl⟩:=List.mem_map.1 hx
  have:=h.lt w (List.mem_range.1 hw);omega
 ·unfold ptL
  rw [List.Nodup,List.pairwise_map]
  exact List.Pairwise.imp_of_mem (fun {a b} ha hb hab e=>hab (h.inj a b (List.mem_range.1 ha) (List.mem_range.1 hb) (by omega))) List.nodup_range
theorem zEp {n:Nat} {q:Nat→Nat} {w:Nat} (hw:w < n):toF (ptL n q) w=q w:=by
 have:at0 (ptL n q) w=((q w:Nat):Int):=zdC (zbp hw)
 unfold toF;omega
theorem zEc {n:Nat} {q:Nat→Nat} (h:Ren n q) {i:Nat} (hi:i < n):(zeP (ptL n q) n).getD i 0=zcB n q i:=by
 obtain ⟨w,hw,rfl⟩:=h.surj hi
 have:=zzr (zsq h) hw
 rw [zEp hw] at this
 rw [this,zh6 h hw]
theorem zAY {m:KM} (hc:za m=0) {w:Nat} (hw:w < m.W.toNat) (hmin:zjF (zS m (zI m.W.toNat (zi m) w))=true) :
  let l:=zI m.W.toNat (zi m) w
  let q:=(zeV (zS m l) (l.idxOf w:Int)).1
  Ren l.length q∧zS (zS m l) (zeP (ptL l.length q) l.length)=zS m (zd0 m w)∧zd0 m w=(List.range l.length).map fun k=>l.getD (zcB l.length q k) 0:=by
 intro l q
 have hg:=zx hc
 have w2:=hg.w2
 have hl:l.length≤64:=by have:=zj9 (n:=m.W.toNat) (R:=zi m) (w:=w);show (zI m.W.toNat (zi m) w).length≤64;omega
 have hwl:w∈l:=zfM hw
 have hp:=zBH (m:=m) (zjn m.W.toNat (zi m) w) hl hwl
 have hq:Ren l.length q:=by
  have:=zDc hmin (l.idxOf w:Int)
  rw [show (zS m (zI m.W.toNat (zi m) w)).W.toNat=l.length from Int.toNat_natCast _] at this
  exact this
 have e:zd0 m w=(List.range l.length).map fun k=>l.getD (zcB l.length q k) 0:=by
  unfold zd0 zaa
  refine zL fun k hk=>?_
  show l.getD (zcB l.length _ k) 0=_
  congr 1
  obtain ⟨v,hv,rfl⟩:=hq.surj hk
  have hq':Ren l.length (zbT l (zi m) (zF m) w).1:=⟨fun i hi=>(hp.1 i hi)▸hq.lt i hi,fun i j hi hj e=>hq.inj i j hi hj (((hp.1 i hi).trans e).trans (hp.1 j hj).symm)⟩
  rw [zh6 hq hv,show q v=(zbT l (zi m) (zF m) w).1 v from hp.1 v hv,zh6 hq' hv]
 refine ⟨hq,?_,e⟩
 have hk:(zeP (ptL l.length q) l.length).length=l.length:=zr8 _ _
 rw [zCF hl (by omega) (fun x hx=>?_),e]
 ·congr 1
  refine zlT (d:=0) (by simp [hk]) fun i hi=>?_
  rw [List.length_map,hk] at hi
  have h1:((zeP (ptL l.length q) l.length).map fun i=>l.getD i 0).getD i 0=l.getD ((zeP (ptL l.length q) l.length).getD i 0) 0:=by
   simp [List.getD,List.getElem?_map,List.getElem?_eq_getElem (show i < (zeP (ptL l.length q) l.length).length by omega)]
  rw [h1,zEc hq hi]
  simp [List.getD,hi]
 ·obtain ⟨i,hi,rfl⟩:=zgX hx
  exact zzs (zsq hq) (by omega)
end Go.Ab
namespace Go.Proofs
def Tryz.lays129_ren:Go.Shelf.Ren:=⟨fun|129=>144|n=>n,fun|53=>29|3=>3|4=>4|46=>38|5=>5|9=>9|n=>n,fun|n=>n⟩
theorem Tryz.lays129:Go.Proofs.Lays.n129 Tryz.prog Tryz.lays129_ren := {
 mixed:=by kernel_rfl
 f129:=Tryz.func144.trans (congrArg some (by kernel_rfl))
 t3:=Tryz.underlying3
 a3:=Tryz.isAgg3
 z3:=Tryz.sizeOf3
 v3:=Tryz.zeroValue3
 t4:=Tryz.underlying4
 a4:=Tryz.isAgg4
 z4:=Tryz.sizeOf4
 v4:=Tryz.zeroValue4
 t5:=Tryz.underlying5
 a5:=Tryz.isAgg5
 z5:=Tryz.sizeOf5
 v5:=Tryz.zeroValue5
 t9:=Tryz.underlying9
 a9:=Tryz.isAgg9
 z9:=Tryz.sizeOf9
 v9:=Tryz.zeroValue9
 t46:=Tryz.underlying38
 a46:=Tryz.isAgg38
 z46:=Tryz.sizeOf38
 v46:=Tryz.zeroValue38
 t53:=Tryz.underlying29
 a53:=Tryz.isAgg29
 z53:=Tryz.sizeOf29
 v53:=Tryz.zeroValue29 }
end Go.Proofs
namespace Go.Ab
open Go Go.Proofs
set_option maxRecDepth 10000
set_option maxHeartbeats 4000000
variable {T:Nat→Obj→Prop}
theorem zxA:zdg Tryz.prog zhU:=⟨_,Tryz.func144,by kernel_rfl,by kernel_rfl⟩
theorem zBi (x:BitVec 64):Fn Tryz.prog T zhU [.d (.u64 x)] [] (.d (.int .i64 (Sort.bitsLen x.toNat:Int))) []:=by
 refine zwP (ds:=[.u64 x]) zxA fun w args hw hsz hargs=>?_
 obtain ⟨X,hX⟩:=hargs 0 (by simp)
 have ha:args = #[.int .u64 (x.toNat:Int)]:=by
  have h0:args.getD 0 undef = .int .u64 (x.toNat:Int):=by
   generalize args.getD 0 undef=y at hX
   cases hX;rfl
  obtain ⟨l⟩:=args
  match l,hsz with
  | [y],_=>rw [← h0];rfl
 rw [ha]
 have:=Any.bits_Len64 Tryz.lays129 (x.toNat:Int) w (by omega) (by have:=x.isLt;omega)
 refine this.mono fun e w' he=>⟨_,he.1,he.2,fun X=>?_⟩
 rw [Int.toNat_natCast,Go.Proofs.bitLen_eq _ x.isLt]
 exact .int _ _ (by decide)
theorem zuN (x:BitVec 64):Fn Tryz.prog T zez [.d (.u64 x)] [] (.d (.int .i64 (Sort.bitsLen x.toNat:Int))) []:=by
 refine zb zn zq6 (by show 1≤8;decide) ?_
 (repeat' ((conv=>whnf);first|refine vT ?_|refine vX ?_|refine yD (zBi _) ⟨⟨rfl,rfl⟩,rfl⟩ rfl ?_));all_goals try conv=>whnf
end Go.Ab
namespace Go.Ab
open Go Go.Proofs
set_option maxRecDepth 10000
set_option maxHeartbeats 4000000
section
variable {α:Type} [Inhabited α] [DecidableEq α]
def ddA (d:Array α):Nat→List α
 | 0=>[]
 | n+1=>if 0 < n∧d[n]! = d[n - 1]! then ddA d n else ddA d n++[d[n]!]
def Steps (d:Array α):Prop := ∀ j,0 < j→j < d.size→d[j]! ≠ d[j - 1]!
theorem zAx {d:Array α} {n:Nat} (h:n < d.size):d.toList.take (n+1)=d.toList.take n++[d[n]!]:=by
 rw [List.take_add_one,zcf h];rfl
theorem zny {d:Array α} : ∀ {n:Nat},n≤d.size→(∀ j,0 < j→j < n→d[j]! ≠ d[j - 1]!)→ddA d n=d.toList.take n
 | 0,_,_=>rfl
 | n+1,h,hs=>by
  rw [ddA,if_neg (fun hh=>hs n hh.1 (by omega) hh.2),zny (by omega) (fun j h0 h1=>hs j h0 (by omega)),zAx (by omega)]
theorem zuu {d:Array α} {k:Nat} (h0:0 < k) (h1:k < d.size) (hk : ∀ j,0 < j→j < k→d[j]! ≠ d[j - 1]!) (he:d[k]! = d[k - 1]!):d.toList.take k=ddA d (k+1):=by
 rw [ddA,if_pos ⟨h0,he⟩,zny (by omega) hk]
theorem zvN {e:Array α} {a:Nat} {x:α} (h:a < e.size):(e.setIfInBounds a x).toList.take (a+1)=e.toList.take a++[x]:=by
 have hl:a < e.toList.length:=by simpa using h
 rw [Array.toList_setIfInBounds,List.take_add_one,List.getElem?_set_self hl,List.take_set_of_le (Nat.le_refl a)];rfl
theorem zxb {e:Array α} {a j:Nat} {x:α} (h:a≠j):(e.setIfInBounds a x)[j]! = e[j]! := by
 simp [getElem!_def,Array.getElem?_setIfInBounds_ne h]
theorem zwM {d:Array α} {n:Nat} (h:0 < n) (he:d[n]! = d[n - 1]!):ddA d (n+1)=ddA d n:=by rw [ddA,if_pos ⟨h,he⟩]
theorem zyT {d:Array α} {n:Nat} (he:d[n]! ≠ d[n - 1]!):ddA d (n+1)=ddA d n++[d[n]!]:=by rw [ddA,if_neg (fun h=>he h.2)]
theorem zwK {enc:α→D} {e:Array α} {z:D} {a n:Nat} (h:a≤e.size):((List.take a (e.toList.map enc))++(List.replicate n z++List.drop (a+n) (e.toList.map enc))).take a=(e.toList.take a).map enc:=by
 rw [List.take_append_of_le_length (by simp;omega),List.take_take,Nat.min_self,List.map_take]
end
end Go.Ab
