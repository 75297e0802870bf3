/- A part of the proofs of this seat: functions and their contracts. -/
import Derived.Test.YtkmhdnlmghaooaaGreatDoorMC
import Derived.Test.YtkmhdnlmghaooaaGreatDoorProg
import Derived.Lib.TrailingZeros
import Derived.Sort.AssemblyPlain
import Derived.Shelf.Strconv.Itoa0
import Derived.Sort.WalkA14
import Derived.Calls
set_option linter.unusedVariables false
set_option linter.unusedSimpArgs false
set_option linter.unusedSectionVars false
namespace Go.Ab.K
open Go
abbrev t:=Arg.t
abbrev c:=Arg.c
abbrev n (x:Int):V := .d (.int .i64 x)
abbrev u (x:BitVec 64):V := .d (.u64 x)
abbrev m (x:Nat):CO := .mv (.t x)
abbrev pf (x y:Nat):CO := .pick (.t x) (.t y) (.c .bf)
abbrev pt (x y:Nat):CO := .pick (.t x) (.c .bt) (.t y)
abbrev b (o:BinOp) (x y:Nat):CO := .bin o (.t x) (.t y)
abbrev bc (o:BinOp) (x:Nat) (y:V):CO := .bin o (.t x) (.c y)
abbrev l (x:Nat):CO := .load none (.t x)
abbrev la (k x:Nat):CO := .load (some k) (.t x)
abbrev f (o x:Nat):CO := .faddr o (.t x)
abbrev ia (s x i:Nat):CO := .iaddr s (.t x) (.t i)
abbrev e (x k:Nat):CO := .ext (.t x) k
abbrev ln (x:Nat):CO := .len (.t x)
abbrev o (d:Nat) (x:CO):COp:=⟨some d,none,x⟩
abbrev w (x:CO):COp:=⟨none,none,x⟩
abbrev g (d k:Nat) (v:Bool) (x:CO):COp:=⟨some d,some (k,v),x⟩
abbrev gw (k:Nat) (v:Bool) (x:CO):COp:=⟨none,some (k,v),x⟩
abbrev i (x:Nat) (p r:CC):CC := .cond (.t x) p r
def q:List CC→CC
 | [] => .skip
 | [x]=>x
 | x::y::r => .seq x (q (y::r))
end Go.Ab.K
namespace Go.Ab
open Go K
def zga:Nat:=6
def zdi:Nat:=7
def zhK:Nat:=8
def zhO:Nat:=9
def zfv:Nat:=10
def zf8:Nat:=11
def ziE:Nat:=19
def zie:Nat:=23
def zdp:Nat:=24
def ziz:Nat:=28
def zhP:Nat:=29
def zeq:Nat:=30
def zde:Nat:=31
def zeC:Nat:=32
def zgz:Nat:=33
def zhf:Nat:=34
def zdX:Nat:=35
def zer:Nat:=50
def zeD:Nat:=51
def zgA:Nat:=52
def zgB:Nat:=53
def zgu:Nat:=55
def zfc:Nat:=56
def zgv:Nat:=57
def zU:Nat:=58
def ziy:Nat:=59
def zhR:Nat:=60
def zbg:Nat:=61
def zdI:Nat:=62
def zmE:Nat:=63
def zaM:Nat:=64
def zhQ:Nat:=65
def zfe:Nat:=66
def zek:Nat:=68
def zaV:Nat:=69
def zhM:Nat:=73
def ziA:Nat:=74
def zcl:Nat:=76
def zb0:Nat:=87
def ziC:Nat:=88
def zf9:Nat:=89
def zkS:Nat:=90
def zkg:Nat:=91
def zhd:Nat:=92
def zkf:Nat:=93
def zix:Nat:=94
def zdW:Nat:=95
def zbs:Nat:=96
def zcL:Nat:=97
def zbA:Nat:=98
def zkT:Nat:=99
def zcX:Nat:=100
def zdH:Nat:=101
def zby:Nat:=105
def zdy:Nat:=107
def zgw:Nat:=108
def zeL:Nat:=109
def zhe:Nat:=110
def zhN:Nat:=111
def zmi:Nat:=123
def zeM:Nat:=124
def ziD:Nat:=125
def ziB:Nat:=126
def zfC:Nat:=127
def zfd:Nat:=128
def zdf:Nat:=129
def zcM:Nat:=130
def zdh:Nat:=131
def zhJ:Nat:=132
def zbN:Nat:=133
def zaJ:Nat:=134
def zhL:Nat:=140
def zgy:Nat:=144
def zeK:Nat:=145
def zgx:Nat:=147
def zcW:Nat:=148
def zj:Nat:=149
def zdU:Nat:=150
def zep:Nat:=151
def zf7:Nat:=163
def zcI:Nat:=164
def zhI:Nat:=165
def zcc:Nat:=181
def zdg:Nat:=183
def zbL:Nat:=184
def zcK:Nat:=191
def zdV:Nat:=197
def zbz:Nat:=198
def zej:Nat:=199
def zkF:CFn:=⟨41,[.tmp 4],(q [(.reg [o 2 (.box 3 (t 0)),o 4 (.mv (c .bf))]),
 (q [(.reg [o 6 (f 0 2),o 7 (l 6),o 8 (m 1),o 9 (b .gtr 7 8),o 10 (m 9),g 11 10 true (f 0 2),g 12 10 true (l 11),g 13 10 true (bc .leq 12 (n 64)),o 14 (pf 10 13),o 15 (m 14),g 16 15 false (f 1 2),g 17 15 false (l 16),g 18 15 false (ln 17),g 19 15 false (bc .gtr 18 (n 20)),o 20 (pt 15 19),o 21 (m 20),g 22 21 false (f 2 2),g 23 21 false (l 22),g 24 21 false (ln 23),g 25 21 false (bc .gtr 24 (n 10)),o 26 (pt 21 25)]),
 (i 26 (q [(.reg [o 4 (.mv (c .bf))]),
 .ret]) .skip)]),
 (q [(.reg [o 5 (.mv (c (n 0)))]),
 (.block 0 (.loop (q [(q [(.reg [o 27 (m 5),o 28 (f 2 2),o 29 (l 28),o 30 (ln 29),o 31 (b .lss 27 30)]),
 (i 31 .skip (.exit 0))]),
 (.block 1 (q [(.reg [o 34 (f 2 2),o 35 (l 34),o 36 (m 5),o 37 (ia 1 35 36),o 38 (l 37),o 39 (ln 38),o 40 (bc .gtr 39 (n 70))]),
 (i 40 (q [(.reg [o 4 (.mv (c .bf))]),
 .ret]) .skip)])),
 (.reg [o 32 (m 5),o 33 (bc .add 32 (n 1)),o 5 (m 33)])])))]),
 (.reg [o 4 (.mv (c .bt))]),
 .ret])⟩
def zoe:CFn:=⟨23,[.tmp 4,.tmp 5],(q [(.reg [o 2 (.box 3 (t 0)),o 4 (.mv (c (u 0))),o 5 (.mv (c (n 0)))]),
 (.reg [o 9 (la 3 2),o 10 (m 1),o 11 (.call 28 [(t 9),(t 10)]),o 8 (m 11),o 12 (e 8 0),o 13 (e 8 1),o 6 (m 12),o 7 (m 13)]),
 (q [(.reg [o 14 (m 7),o 15 (bc .neq 14 (n 0))]),
 (i 15 (q [(.reg [o 16 (m 7),o 4 (.mv (c (u 0))),o 5 (m 16)]),
 .ret]) .skip)]),
 (.reg [o 17 (m 6),o 18 (m 6),o 19 (ln 18),o 20 (bc .sub 19 (n 1)),o 21 (ia 1 17 20),o 22 (l 21),o 4 (m 22),o 5 (.mv (c (n 0)))]),
 .ret])⟩
def zoj:CFn:=⟨5,[.tmp 2],(q [(.reg [o 2 (.mv (c (n 0)))]),
 (.reg [o 3 (m 0),o 4 (.call 29 [(t 3),(c (.fn zeq []))]),o 2 (m 4)]),
 .ret])⟩
def zko:CFn:=⟨22,[.cell 2 (some 3),.tmp 3,.tmp 4],(q [(.reg [o 1 (.box 3 (t 0)),o 2 (.alloc [(n 0),(.nils 1),(.nils 1)]),o 3 (.mv (c (.nils 1))),o 4 (.mv (c (n 0)))]),
 (.reg [o 8 (la 3 1),o 9 (.call 31 [(t 8)]),o 7 (m 9),o 10 (e 7 0),o 11 (e 7 1),o 5 (m 10),o 6 (m 11)]),
 (q [(.reg [o 12 (m 6),o 13 (bc .neq 12 (n 0))]),
 (i 13 (q [(.reg [o 14 (.build [(n 0),(.nils 1),(.nils 1)] []),o 15 (m 6),w (.store 3 (t 2) (t 14)),o 3 (.mv (c (.nils 1))),o 4 (m 15)]),
 .ret]) .skip)]),
 (.reg [o 16 (la 3 1),o 17 (m 5),o 18 (.call 24 [(t 16),(t 17)]),o 19 (e 18 0),o 20 (e 18 1),o 21 (e 18 2),w (.store 3 (t 2) (t 19)),o 3 (m 20),o 4 (m 21)]),
 .ret])⟩
def zkD:CFn:=⟨62,[.cell 4 (some 3),.tmp 5,.tmp 6],(q [(.reg [o 2 (.box 3 (t 0)),o 4 (.alloc [(n 0),(.nils 1),(.nils 1)]),o 5 (.mv (c (n 0))),o 6 (.mv (c (n 0)))]),
 (q [(.reg [o 16 (la 3 2),o 17 (.call 32 [(t 16)]),o 7 (m 17)]),
 (.reg [o 18 (m 7),o 19 (bc .neq 18 (n 0))]),
 (i 19 (q [(.reg [o 20 (.build [(n 0),(.nils 1),(.nils 1)] []),o 21 (m 7),w (.store 3 (t 4) (t 20)),o 5 (.mv (c (n 0))),o 6 (m 21)]),
 .ret]) .skip)]),
 (q [(.reg [o 22 (m 1),o 23 (bc .lss 22 (n 0)),o 24 (m 23),g 25 24 false (m 1),g 26 24 false (f 0 2),g 27 24 false (l 26),g 28 24 false (b .geq 25 27),o 29 (pt 24 28)]),
 (i 29 (q [(.reg [o 30 (.build [(n 0),(.nils 1),(.nils 1)] []),w (.store 3 (t 4) (t 30)),o 5 (.mv (c (n 0))),o 6 (.mv (c (n 2)))]),
 .ret]) .skip)]),
 (.regd [o 32 (la 3 2),o 33 (m 1),o 34 (.bin .shl (c (u 1)) (t 33)),o 35 (.call 33 [(t 32),(t 34)]),o 31 (m 35),o 36 (e 31 0),o 37 (e 31 1),o 8 (m 36),o 9 (m 37)] [0,0,2,7,15,31,31,63,255]),
 (.reg [o 39 (la 3 2),o 40 (m 8),o 41 (.call 34 [(t 39),(t 40)]),o 38 (m 41),o 42 (e 38 0),o 43 (e 38 1),o 44 (e 38 2),o 10 (.alloc [(n 0),(.nils 1),(.nils 1)]),w (.store 3 (t 10) (t 42)),o 11 (m 43),o 12 (m 44)]),
 (.reg [o 46 (la 3 10),o 47 (.call 10 [(t 46)]),o 45 (m 47),o 48 (e 45 0),o 49 (e 45 1),o 50 (e 45 2),o 13 (.alloc [(n 0),(.nils 1),(.nils 1)]),w (.store 3 (t 13) (t 48)),o 14 (m 49),o 15 (m 50)]),
 (q [(.reg [o 51 (m 15),o 52 (bc .neq 51 (n 0))]),
 (i 52 (q [(.reg [o 53 (.build [(n 0),(.nils 1),(.nils 1)] []),o 54 (m 15),w (.store 3 (t 4) (t 53)),o 5 (.mv (c (n 0))),o 6 (m 54)]),
 .ret]) .skip)]),
 (.regd [o 55 (la 3 13),o 56 (m 14),o 57 (m 11),o 58 (m 1),o 59 (.call 35 [(t 57),(t 58)]),o 60 (ia 1 56 59),o 61 (l 60),w (.store 3 (t 4) (t 55)),o 5 (m 61),o 6 (.mv (c (n 0)))] [0,0,0,0,12,30,62,29,255,511]),
 .ret])⟩
def zra:CFn:=⟨134,[.cell 4 (some 3),.tmp 5,.tmp 6],(q [(.reg [o 2 (.box 3 (t 0)),o 4 (.alloc [(n 0),(.nils 1),(.nils 1)]),o 5 (.mv (c (.nils 1))),o 6 (.mv (c (n 0)))]),
 (q [(.reg [o 23 (la 3 2),o 24 (.call 32 [(t 23)]),o 7 (m 24)]),
 (.reg [o 25 (m 7),o 26 (bc .neq 25 (n 0))]),
 (i 26 (q [(.reg [o 27 (.build [(n 0),(.nils 1),(.nils 1)] []),o 28 (m 7),w (.store 3 (t 4) (t 27)),o 5 (.mv (c (.nils 1))),o 6 (m 28)]),
 .ret]) .skip)]),
 (q [(.reg [o 29 (m 1),o 30 (.call 50 [(t 29)]),o 8 (m 30)]),
 (.reg [o 31 (m 8),o 32 (bc .neq 31 (n 0))]),
 (i 32 (q [(.reg [o 33 (.build [(n 0),(.nils 1),(.nils 1)] []),o 34 (m 8),w (.store 3 (t 4) (t 33)),o 5 (.mv (c (.nils 1))),o 6 (m 34)]),
 .ret]) .skip)]),
 (q [(.reg [o 35 (m 1),o 36 (ln 35),o 37 (f 0 2),o 38 (l 37),o 39 (b .neq 36 38)]),
 (i 39 (q [(.reg [o 40 (.build [(n 0),(.nils 1),(.nils 1)] []),w (.store 3 (t 4) (t 40)),o 5 (.mv (c (.nils 1))),o 6 (.mv (c (n 3)))]),
 .ret]) .skip)]),
 (q [(.reg [o 41 (m 1),o 42 (ln 41),o 43 (.mv (c (n 0)))]),
 (.block 0 (.loop (q [(.reg [o 44 (b .lss 43 42)]),
 (i 44 .skip (.exit 0)),
 (.block 1 (q [(.reg [o 45 (m 43),o 46 (ia 1 41 43),o 47 (l 46),o 9 (m 45),o 10 (m 47)]),
 (.regd [o 48 (la 3 2),o 49 (m 9),o 50 (.call 51 [(t 48),(t 49)]),o 51 (la 3 2),o 52 (m 10),o 53 (.call 51 [(t 51),(t 52)]),o 54 (b .neq 50 53)] [0,0,3,0,0,31,63]),
 (i 54 (q [(.reg [o 55 (.build [(n 0),(.nils 1),(.nils 1)] []),w (.store 3 (t 4) (t 55)),o 5 (.mv (c (.nils 1))),o 6 (.mv (c (n 1)))]),
 .ret]) .skip)])),
 (.reg [o 56 (bc .add 43 (n 1)),o 43 (m 56)])])))]),
 (.reg [o 57 (m 1),o 58 (.call 52 [(t 57)]),o 11 (m 58)]),
 (.reg [o 59 (m 1),o 60 (ln 59),o 61 (.mkslice 1 8 [(n 0)] (t 60) (t 60)),o 12 (m 61)]),
 (q [(.reg [o 62 (m 1),o 63 (ln 62),o 64 (.mv (c (n 0)))]),
 (.block 2 (.loop (q [(.reg [o 65 (b .lss 64 63)]),
 (i 65 .skip (.exit 2)),
 (.block 3 (q [(.reg [o 66 (m 64),o 67 (ia 1 62 64),o 68 (l 67),o 13 (m 66),o 14 (m 68)]),
 (.reg [o 69 (m 12),o 70 (m 13),o 71 (m 11),o 72 (m 14),o 73 (.call 35 [(t 71),(t 72)]),o 74 (ia 1 69 70),w (.store 1 (t 74) (t 73))])])),
 (.reg [o 75 (bc .add 64 (n 1)),o 64 (m 75)])])))]),
 (.reg [o 76 (m 11),o 77 (ln 76),o 78 (.build [(n 0),(.nils 1),(.nils 1)] [(0,1,(t 77))]),o 15 (.alloc [(n 0),(.nils 1),(.nils 1)]),w (.store 3 (t 15) (t 78))]),
 (q [(.reg [o 79 (f 1 2),o 80 (l 79),o 81 (ln 80),o 82 (.mv (c (n 0)))]),
 (.block 4 (.loop (q [(.reg [o 83 (b .lss 82 81)]),
 (i 83 .skip (.exit 4)),
 (.block 5 (q [(.reg [o 84 (ia 1 80 82),o 85 (l 84),o 17 (m 85)]),
 (.regd [o 86 (f 1 15),o 87 (l 86),o 88 (m 17),o 89 (m 12),o 90 (.call 53 [(t 88),(t 89)]),o 91 (.bslice 1 1 [(u 0)] [(0,(t 90))]),o 92 (.app 1 8 (t 87) (t 91)),o 93 (f 1 15),w (.store 1 (t 93) (t 92))] [0,1,0,0,12,28,63,127,255])])),
 (.reg [o 94 (bc .add 82 (n 1)),o 82 (m 94)])])))]),
 (q [(.reg [o 95 (f 2 2),o 96 (l 95),o 97 (ln 96),o 98 (.mv (c (n 0)))]),
 (.block 6 (.loop (q [(.reg [o 99 (b .lss 98 97)]),
 (i 99 .skip (.exit 6)),
 (.block 7 (q [(.reg [o 100 (ia 1 96 98),o 101 (l 100),o 19 (m 101)]),
 (.reg [o 102 (m 11),o 103 (ln 102),o 104 (.mkslice 1 8 [(u 0)] (t 103) (t 103)),o 20 (m 104)]),
 (q [(.reg [o 105 (m 19),o 106 (ln 105),o 107 (.mv (c (n 0)))]),
 (.block 8 (.loop (q [(.reg [o 108 (b .lss 107 106)]),
 (i 108 .skip (.exit 8)),
 (.block 9 (q [(.reg [o 109 (m 107),o 110 (ia 1 105 107),o 111 (l 110),o 21 (m 109),o 22 (m 111)]),
 (.regd [o 112 (m 20),o 113 (m 12),o 114 (m 21),o 115 (ia 1 113 114),o 116 (l 115),o 117 (ia 1 112 116),o 118 (l 117),o 119 (m 22),o 120 (m 12),o 121 (.call 53 [(t 119),(t 120)]),o 122 (b .or 118 121),o 123 (ia 1 112 116),w (.store 1 (t 123) (t 122))] [0,0,0,6,14,31,63,0,0,384,1023,2047,4095])])),
 (.reg [o 124 (bc .add 107 (n 1)),o 107 (m 124)])])))]),
 (.reg [o 125 (f 2 15),o 126 (l 125),o 127 (m 20),o 128 (.bslice 1 1 [(.nils 1)] [(0,(t 127))]),o 129 (.app 1 24 (t 126) (t 128)),o 130 (f 2 15),w (.store 1 (t 130) (t 129))])])),
 (.reg [o 131 (bc .add 98 (n 1)),o 98 (m 131)])])))]),
 (.reg [o 132 (la 3 15),o 133 (m 12),w (.store 3 (t 4) (t 132)),o 5 (m 133),o 6 (.mv (c (n 0)))]),
 .ret])⟩
def zpz:CFn:=⟨85,[.tmp 4,.tmp 5],(q [(.reg [o 2 (.box 3 (t 0)),o 4 (.mv (c (.nils 1))),o 5 (.mv (c (n 0)))]),
 (q [(.reg [o 12 (la 3 2),o 13 (m 1),o 14 (.call 55 [(t 12),(t 13)]),o 6 (m 14)]),
 (.reg [o 15 (m 6),o 16 (bc .neq 15 (n 0))]),
 (i 16 (q [(.reg [o 17 (m 6),o 4 (.mv (c (.nils 1))),o 5 (m 17)]),
 .ret]) .skip)]),
 (.reg [o 18 (m 1),o 19 (ln 18),o 20 (.mkslice 1 8 [(u 0)] (t 19) (t 19)),o 7 (m 20)]),
 (.reg [o 21 (m 1),o 22 (ln 21),o 23 (.mkslice 1 1 [.bf] (t 22) (t 22)),o 8 (m 23)]),
 (q [(.reg [o 24 (m 1),o 25 (ln 24),o 26 (.mv (c (n 0)))]),
 (.block 0 (.loop (q [(.reg [o 27 (b .lss 26 25)]),
 (i 27 .skip (.exit 0)),
 (.block 1 (q [(.reg [o 28 (m 26),o 29 (ia 6 24 26),o 30 (la 6 29),o 10 (.alloc [(n 0),(n 0),(n 0),(n 0),(n 0),(n 0)]),o 9 (m 28),w (.store 6 (t 10) (t 30))]),
 (.reg [o 11 (.mv (c .bt))]),
 (q [(.reg [o 31 (f 0 10),o 32 (l 31),o 33 (bc .geq 32 (n 4))]),
 (i 33 (.reg [o 34 (m 8),o 35 (f 4 10),o 36 (l 35),o 37 (ia 1 34 36),o 38 (l 37),o 11 (m 38)]) .skip)]),
 (q [(.reg [o 39 (f 0 10),o 40 (l 39),o 41 (bc .geq 40 (n 5)),o 42 (m 41),g 43 42 true (f 0 10),g 44 42 true (l 43),g 45 42 true (bc .leq 44 (n 8)),o 46 (pf 42 45),o 47 (m 46),g 48 47 false (f 0 10),g 49 47 false (l 48),g 50 47 false (bc .eql 49 (n 13)),o 51 (pt 47 50)]),
 (i 51 (.reg [o 52 (m 11),o 53 (m 52),g 54 53 true (m 8),g 55 53 true (f 5 10),g 56 53 true (l 55),g 57 53 true (ia 1 54 56),g 58 53 true (l 57),o 59 (pf 53 58),o 11 (m 59)]) .skip)]),
 (.reg [o 60 (m 11)]),
 (i 60 (.regd [o 62 (m 7),o 63 (m 9),o 64 (m 8),o 65 (m 9),o 66 (la 3 2),o 67 (la 6 10),o 68 (m 7),o 69 (f 4 10),o 70 (l 69),o 71 (ia 1 68 70),o 72 (l 71),o 73 (m 7),o 74 (f 5 10),o 75 (l 74),o 76 (ia 1 73 75),o 77 (l 76),o 78 (.call 56 [(t 66),(t 67),(t 72),(t 77)]),o 61 (m 78),o 79 (e 61 0),o 80 (e 61 1),o 81 (ia 1 62 63),w (.store 1 (t 81) (t 79)),o 82 (ia 1 64 65),w (.store 1 (t 82) (t 80))] [0,0,0,0,0,0,0,0,128,448,960,0,0,4096,14336,30720,65520,131056,262128,262128,524275,1572851,4194303,8388607]) .skip)])),
 (.reg [o 83 (bc .add 26 (n 1)),o 26 (m 83)])])))]),
 (.reg [o 84 (m 7),o 4 (m 84),o 5 (.mv (c (n 0)))]),
 .ret])⟩
def zok:CFn:=⟨31,[.tmp 4],(q [(.reg [o 4 (.mv (c (n 0)))]),
 (.reg [o 5 (.mv (c (n 0)))]),
 (q [(.reg [o 10 (m 0),o 11 (.call 57 [(t 10)]),o 12 (ln 11),o 13 (.mv (c (n 0)))]),
 (.block 0 (.loop (q [(.reg [o 14 (b .lss 13 12)]),
 (i 14 .skip (.exit 0)),
 (.block 1 (q [(.reg [o 15 (ia 6 11 13),o 16 (la 6 15),o 7 (.alloc [(n 0),(n 0),(n 0),(n 0),(n 0),(n 0)]),w (.store 6 (t 7) (t 16))]),
 (.reg [o 18 (f 0 7),o 19 (l 18),o 20 (.call 58 [(t 19)]),o 17 (m 20),o 21 (e 17 0),o 22 (e 17 1),o 8 (.alloc [.bf,.bf,.bf,.bf,.bf,.bf,(n 0)]),w (.store 7 (t 8) (t 21)),o 9 (m 22)]),
 (.reg [o 23 (m 5),o 24 (m 1),o 25 (la 6 7),o 26 (la 7 8),o 27 (.callv (t 24) [(t 25),(t 26)]),o 28 (b .or 23 27),o 5 (m 28)])])),
 (.reg [o 29 (bc .add 13 (n 1)),o 13 (m 29)])])))]),
 (.reg [o 30 (m 5),o 4 (m 30)]),
 .ret])⟩
def zl9:CFn:=⟨7,[.tmp 4],(q [(.reg [o 2 (.box 6 (t 0)),o 3 (.box 7 (t 1)),o 4 (.mv (c (n 0)))]),
 (.reg [o 5 (f 6 3),o 6 (l 5),o 4 (m 6)]),
 .ret])⟩
def zm7:CFn:=⟨20,[.tmp 2,.tmp 3],(q [(.reg [o 1 (.box 3 (t 0)),o 2 (.mv (c (.nils 1))),o 3 (.mv (c (n 0)))]),
 (q [(.reg [o 7 (la 3 1),o 8 (.call 32 [(t 7)]),o 4 (m 8)]),
 (.reg [o 9 (m 4),o 10 (bc .neq 9 (n 0))]),
 (i 10 (q [(.reg [o 11 (m 4),o 2 (.mv (c (.nils 1))),o 3 (m 11)]),
 .ret]) .skip)]),
 (.reg [o 13 (la 3 1),o 14 (f 2 1),o 15 (l 14),o 16 (.call 59 [(t 13),(t 15)]),o 12 (m 16),o 17 (e 12 0),o 18 (e 12 1),o 5 (m 17),o 6 (m 18)]),
 (.reg [o 19 (m 5),o 2 (m 19),o 3 (.mv (c (n 0)))]),
 .ret])⟩
def zq7:CFn:=⟨47,[.tmp 2],(q [(.reg [o 1 (.box 3 (t 0)),o 2 (.mv (c (n 0)))]),
 (q [(.reg [o 5 (f 0 1),o 6 (l 5),o 7 (bc .lss 6 (n 1)),o 8 (m 7),g 9 8 false (f 0 1),g 10 8 false (l 9),g 11 8 false (bc .gtr 10 (n 64)),o 12 (pt 8 11)]),
 (i 12 (q [(.reg [o 2 (.mv (c (n 2)))]),
 .ret]) .skip)]),
 (q [(.reg [o 13 (f 2 1),o 14 (l 13),o 15 (ln 14),o 16 (bc .gtr 15 (n 4)),o 17 (m 16),g 18 17 false (f 1 1),g 19 17 false (l 18),g 20 17 false (ln 19),g 21 17 false (bc .gtr 20 (n 8)),o 22 (pt 17 21)]),
 (i 22 (q [(.reg [o 2 (.mv (c (n 8)))]),
 .ret]) .skip)]),
 (q [(.reg [o 23 (f 2 1),o 24 (l 23),o 25 (ln 24),o 26 (.mv (c (n 0)))]),
 (.block 0 (.loop (q [(.reg [o 27 (b .lss 26 25)]),
 (i 27 .skip (.exit 0)),
 (.block 1 (q [(.reg [o 28 (ia 1 24 26),o 29 (l 28),o 4 (m 29)]),
 (.reg [o 30 (m 4),o 31 (ln 30),o 32 (f 0 1),o 33 (l 32),o 34 (b .neq 31 33)]),
 (i 34 (q [(.reg [o 2 (.mv (c (n 3)))]),
 .ret]) .skip)])),
 (.reg [o 35 (bc .add 26 (n 1)),o 26 (m 35)])])))]),
 (q [(.reg [o 36 (f 1 1),o 37 (l 36),o 38 (f 0 1),o 39 (l 38),o 40 (.call 60 [(t 37),(t 39)]),o 41 (m 40),g 42 41 false (f 2 1),g 43 41 false (l 42),g 44 41 false (.fnew zdI [(t 1)]),g 45 41 false (.call 61 [(t 43),(t 44)]),o 46 (pt 41 45)]),
 (i 46 (q [(.reg [o 2 (.mv (c (n 2)))]),
 .ret]) .skip)]),
 (.reg [o 2 (.mv (c (n 0)))]),
 .ret])⟩
def zmc:CFn:=⟨56,[.tmp 4,.tmp 5],(q [(.reg [o 2 (.box 3 (t 0)),o 4 (.mv (c (u 0))),o 5 (.mv (c (n 0)))]),
 (q [(.reg [o 12 (la 3 2),o 13 (.call 32 [(t 12)]),o 6 (m 13)]),
 (.reg [o 14 (m 6),o 15 (bc .neq 14 (n 0))]),
 (i 15 (q [(.reg [o 16 (m 6),o 4 (.mv (c (u 0))),o 5 (m 16)]),
 .ret]) .skip)]),
 (q [(.reg [o 17 (m 1),o 18 (f 0 2),o 19 (l 18),o 20 (.call 63 [(t 19)]),o 21 (b .andNot 17 20),o 22 (bc .neq 21 (u 0))]),
 (i 22 (q [(.reg [o 4 (.mv (c (u 0))),o 5 (.mv (c (n 2)))]),
 .ret]) .skip)]),
 (.reg [o 23 (m 1),o 7 (m 23)]),
 (q [(.reg [o 24 (m 1),o 8 (m 24)]),
 (.block 0 (.loop (q [(q [(.reg [o 25 (m 8),o 26 (bc .neq 25 (u 0))]),
 (i 26 .skip (.exit 0))]),
 (.block 1 (q [(.reg [o 27 (m 8),o 28 (.call 64 [(t 27)]),o 9 (m 28)]),
 (.reg [o 29 (m 8),o 30 (m 8),o 31 (bc .sub 30 (u 1)),o 32 (b .and 29 31),o 8 (m 32)]),
 (.reg [o 33 (f 2 2),o 34 (l 33),o 35 (ln 34),o 36 (.mv (c (n 0)))]),
 (.block 2 (.loop (q [(.reg [o 37 (b .lss 36 35)]),
 (i 37 .skip (.exit 2)),
 (.block 3 (q [(.reg [o 38 (ia 1 34 36),o 39 (l 38),o 11 (m 39)]),
 (.reg [o 40 (m 8),o 41 (m 11),o 42 (m 9),o 43 (ia 1 41 42),o 44 (l 43),o 45 (m 7),o 46 (b .andNot 44 45),o 47 (b .or 40 46),o 8 (m 47)]),
 (.reg [o 48 (m 7),o 49 (m 11),o 50 (m 9),o 51 (ia 1 49 50),o 52 (l 51),o 53 (b .or 48 52),o 7 (m 53)])])),
 (.reg [o 54 (bc .add 36 (n 1)),o 36 (m 54)])])))]))])))]),
 (.reg [o 55 (m 7),o 4 (m 55),o 5 (.mv (c (n 0)))]),
 .ret])⟩
def zne:CFn:=⟨31,[.cell 4 (some 3),.tmp 5,.tmp 6],(q [(.reg [o 2 (.box 3 (t 0)),o 4 (.alloc [(n 0),(.nils 1),(.nils 1)]),o 5 (.mv (c (.nils 1))),o 6 (.mv (c (n 0)))]),
 (q [(.reg [o 9 (la 3 2),o 10 (.call 32 [(t 9)]),o 7 (m 10)]),
 (.reg [o 11 (m 7),o 12 (bc .neq 11 (n 0))]),
 (i 12 (q [(.reg [o 13 (.build [(n 0),(.nils 1),(.nils 1)] []),o 14 (m 7),w (.store 3 (t 4) (t 13)),o 5 (.mv (c (.nils 1))),o 6 (m 14)]),
 .ret]) .skip)]),
 (q [(.reg [o 15 (m 1),o 16 (f 0 2),o 17 (l 16),o 18 (.call 63 [(t 17)]),o 19 (b .andNot 15 18),o 20 (bc .neq 19 (u 0))]),
 (i 20 (q [(.reg [o 21 (.build [(n 0),(.nils 1),(.nils 1)] []),w (.store 3 (t 4) (t 21)),o 5 (.mv (c (.nils 1))),o 6 (.mv (c (n 2)))]),
 .ret]) .skip)]),
 (q [(.reg [o 22 (m 1),o 23 (bc .eql 22 (u 0))]),
 (i 23 (q [(.reg [o 24 (.build [(n 0),(.nils 1),(.nils 1)] []),w (.store 3 (t 4) (t 24)),o 5 (.mv (c (.nils 1))),o 6 (.mv (c (n 6)))]),
 .ret]) .skip)]),
 (.reg [o 25 (m 1),o 26 (.call 65 [(t 25)]),o 8 (m 26)]),
 (.reg [o 27 (la 3 2),o 28 (m 8),o 29 (.call 66 [(t 27),(t 28)]),o 30 (m 8),w (.store 3 (t 4) (t 29)),o 5 (m 30),o 6 (.mv (c (n 0)))]),
 .ret])⟩
def zg8:CFn:=⟨19,[.tmp 4],(q [(.reg [o 4 (.mv (c (n 0)))]),
 (q [(.reg [o 6 (m 0),o 7 (ln 6),o 8 (.mv (c (n 0)))]),
 (.block 0 (.loop (q [(.reg [o 9 (b .lss 8 7)]),
 (i 9 .skip (.exit 0)),
 (.block 1 (q [(.reg [o 10 (m 8),o 5 (m 10)]),
 (.reg [o 11 (m 1),o 12 (m 0),o 13 (m 5),o 14 (ia 1 12 13),o 15 (l 14),o 16 (b .eql 11 15)]),
 (i 16 (q [(.reg [o 17 (m 5),o 4 (m 17)]),
 .ret]) .skip)])),
 (.reg [o 18 (bc .add 8 (n 1)),o 8 (m 18)])])))]),
 (.reg [o 4 (.mv (c (n (-1))))]),
 .ret])⟩
def zme:CFn:=⟨31,[.tmp 2],(q [(.reg [o 2 (.mv (c (n 0)))]),
 (q [(.reg [o 5 (m 0),o 6 (ln 5),o 7 (bc .gtr 6 (n 64))]),
 (i 7 (q [(.reg [o 2 (.mv (c (n 8)))]),
 .ret]) .skip)]),
 (q [(.reg [o 8 (m 0),o 9 (ln 8),o 10 (.mv (c (n 0)))]),
 (.block 0 (.loop (q [(.reg [o 11 (b .lss 10 9)]),
 (i 11 .skip (.exit 0)),
 (.block 1 (q [(.reg [o 12 (m 10),o 13 (ia 1 8 10),o 14 (l 13),o 3 (m 12),o 4 (m 14)]),
 (.reg [o 15 (m 4),o 16 (bc .lss 15 (n 0)),o 17 (m 16),g 18 17 false (m 4),g 19 17 false (m 3),g 20 17 false (b .gtr 18 19),o 21 (pt 17 20),o 22 (m 21),g 23 22 false (m 0),g 24 22 false (m 4),g 25 22 false (ia 1 23 24),g 26 22 false (l 25),g 27 22 false (m 4),g 28 22 false (b .neq 26 27),o 29 (pt 22 28)]),
 (i 29 (q [(.reg [o 2 (.mv (c (n 3)))]),
 .ret]) .skip)])),
 (.reg [o 30 (bc .add 10 (n 1)),o 10 (m 30)])])))]),
 (.reg [o 2 (.mv (c (n 0)))]),
 .ret])⟩
def zq8:CFn:=⟨40,[.tmp 4],(q [(.reg [o 2 (.box 3 (t 0)),o 4 (.mv (c (n 0)))]),
 (q [(.reg [o 8 (la 3 2),o 9 (.call 32 [(t 8)]),o 10 (bc .neq 9 (n 0)),o 11 (m 10),g 12 11 false (m 1),g 13 11 false (bc .lss 12 (n 0)),o 14 (pt 11 13),o 15 (m 14),g 16 15 false (m 1),g 17 15 false (f 0 2),g 18 15 false (l 17),g 19 15 false (b .geq 16 18),o 20 (pt 15 19)]),
 (i 20 (q [(.reg [o 4 (.mv (c (n (-1))))]),
 .ret]) .skip)]),
 (.reg [o 5 (.mv (c (n 0)))]),
 (q [(.reg [o 21 (f 1 2),o 22 (l 21),o 23 (ln 22),o 24 (.mv (c (n 0)))]),
 (.block 0 (.loop (q [(.reg [o 25 (b .lss 24 23)]),
 (i 25 .skip (.exit 0)),
 (.block 1 (q [(.reg [o 26 (m 24),o 27 (ia 1 22 24),o 28 (l 27),o 6 (m 26),o 7 (m 28)]),
 (.reg [o 29 (m 5),o 30 (m 7),o 31 (m 1),o 32 (b .shr 30 31),o 33 (bc .and 32 (u 1)),o 34 (.conv .i64 (t 33)),o 35 (m 6),o 36 (b .shl 34 35),o 37 (b .or 29 36),o 5 (m 37)])])),
 (.reg [o 38 (bc .add 24 (n 1)),o 24 (m 38)])])))]),
 (.reg [o 39 (m 5),o 4 (m 39)]),
 .ret])⟩
def zmg:CFn:=⟨10,[.tmp 2],(q [(.reg [o 2 (.mv (c (.nils 1)))]),
 (.reg [o 4 (m 0),o 5 (.call 87 [(t 4)]),o 3 (m 5)]),
 (.reg [o 6 (m 3),o 7 (.call 68 [(t 6)])]),
 (.reg [o 8 (m 3),o 9 (.call 69 [(t 8)]),o 2 (m 9)]),
 .ret])⟩
def zmh:CFn:=⟨26,[.tmp 4],(q [(.reg [o 4 (.mv (c (u 0)))]),
 (.reg [o 5 (.mv (c (u 0)))]),
 (q [(.reg [o 8 (m 1),o 9 (ln 8),o 10 (.mv (c (n 0)))]),
 (.block 0 (.loop (q [(.reg [o 11 (b .lss 10 9)]),
 (i 11 .skip (.exit 0)),
 (.block 1 (q [(.reg [o 12 (m 10),o 13 (ia 1 8 10),o 14 (l 13),o 6 (m 12),o 7 (m 14)]),
 (.reg [o 15 (m 0),o 16 (m 6),o 17 (b .shr 15 16),o 18 (bc .and 17 (u 1)),o 19 (bc .eql 18 (u 1))]),
 (i 19 (.reg [o 20 (m 5),o 21 (m 7),o 22 (.bin .shl (c (u 1)) (t 21)),o 23 (b .or 20 22),o 5 (m 23)]) .skip)])),
 (.reg [o 24 (bc .add 10 (n 1)),o 10 (m 24)])])))]),
 (.reg [o 25 (m 5),o 4 (m 25)]),
 .ret])⟩
def zl6:CFn:=⟨30,[.tmp 4],(q [(.reg [o 2 (.box 3 (t 0)),o 4 (.mv (c (n 0)))]),
 (q [(.reg [o 7 (la 3 2),o 8 (.call 32 [(t 7)]),o 5 (m 8)]),
 (.reg [o 9 (m 5),o 10 (bc .neq 9 (n 0))]),
 (i 10 (q [(.reg [o 11 (m 5),o 4 (m 11)]),
 .ret]) .skip)]),
 (q [(.reg [o 12 (m 1),o 13 (.call 73 [(t 12)]),o 6 (m 13)]),
 (.reg [o 14 (m 6),o 15 (bc .neq 14 (n 0))]),
 (i 15 (q [(.reg [o 16 (m 6),o 4 (m 16)]),
 .ret]) .skip)]),
 (q [(.reg [o 17 (m 1),o 18 (.call 9 [(t 17)]),o 19 (bc .andNot 18 (n 15)),o 20 (bc .neq 19 (n 0))]),
 (i 20 (q [(.reg [o 4 (.mv (c (n 10)))]),
 .ret]) .skip)]),
 (q [(.reg [o 21 (m 1),o 22 (f 2 2),o 23 (l 22),o 24 (ln 23),o 25 (f 1 2),o 26 (l 25),o 27 (ln 26),o 28 (.call 74 [(t 21),(t 24),(t 27)]),o 29 (.un .not (t 28))]),
 (i 29 (q [(.reg [o 4 (.mv (c (n 2)))]),
 .ret]) .skip)]),
 (.reg [o 4 (.mv (c (n 0)))]),
 .ret])⟩
def zof:CFn:=⟨129,[.tmp 8,.tmp 9],(q [(.reg [o 4 (.box 3 (t 0)),o 5 (.box 6 (t 1)),o 8 (.mv (c (u 0))),o 9 (.mv (c .bf))]),
 (.reg [o 12 (f 0 4),o 13 (l 12),o 14 (.bin .sub (c (n 64)) (t 13)),o 15 (.bin .shr (c (u 18446744073709551615)) (t 14)),o 10 (m 15)]),
 (q [(.reg [o 16 (f 0 5),o 17 (l 16)]),
 (.block 0 (q [(.reg [o 19 (bc .eql 17 (n 1)),o 18 (m 19)]),
 (i 18 (q [(.reg [o 20 (m 10),o 8 (m 20),o 9 (.mv (c .bt))]),
 .ret]) (q [(.reg [o 22 (bc .eql 17 (n 2)),o 21 (m 22)]),
 (i 21 (q [(.reg [o 8 (.mv (c (u 0))),o 9 (.mv (c .bt))]),
 .ret]) (q [(.reg [o 24 (bc .eql 17 (n 3)),o 23 (m 24)]),
 (i 23 (q [(q [(.reg [o 25 (f 1 5),o 26 (l 25),o 27 (f 1 4),o 28 (l 27),o 29 (ln 28),o 30 (b .geq 26 29)]),
 (i 30 (q [(.reg [o 8 (.mv (c (u 0))),o 9 (.mv (c .bf))]),
 .ret]) .skip)]),
 (.reg [o 31 (f 1 4),o 32 (l 31),o 33 (f 1 5),o 34 (l 33),o 35 (ia 1 32 34),o 36 (l 35),o 8 (m 36),o 9 (.mv (c .bt))]),
 .ret]) (q [(.reg [o 38 (bc .eql 17 (n 4)),o 37 (m 38)]),
 (i 37 (q [(.reg [o 39 (m 10),o 40 (m 2),o 41 (b .andNot 39 40),o 8 (m 41),o 9 (.mv (c .bt))]),
 .ret]) (q [(.reg [o 43 (bc .eql 17 (n 5)),o 42 (m 43)]),
 (i 42 (q [(.reg [o 44 (m 2),o 45 (m 3),o 46 (b .and 44 45),o 8 (m 46),o 9 (.mv (c .bt))]),
 .ret]) (q [(.reg [o 48 (bc .eql 17 (n 6)),o 47 (m 48)]),
 (i 47 (q [(.reg [o 49 (m 2),o 50 (m 3),o 51 (b .or 49 50),o 8 (m 51),o 9 (.mv (c .bt))]),
 .ret]) (q [(.reg [o 53 (bc .eql 17 (n 7)),o 52 (m 53)]),
 (i 52 (q [(.reg [o 54 (m 10),o 55 (m 2),o 56 (b .andNot 54 55),o 57 (m 3),o 58 (b .or 56 57),o 8 (m 58),o 9 (.mv (c .bt))]),
 .ret]) (q [(.reg [o 60 (bc .eql 17 (n 8)),o 59 (m 60)]),
 (i 59 (q [(.reg [o 61 (m 10),o 62 (m 2),o 63 (m 3),o 64 (b .xor 62 63),o 65 (b .andNot 61 64),o 8 (m 65),o 9 (.mv (c .bt))]),
 .ret]) (q [(q [(.reg [o 67 (bc .eql 17 (n 9)),o 66 (m 67)]),
 (i 66 .skip (.reg [o 68 (bc .eql 17 (n 10)),o 66 (m 68)]))]),
 (i 66 (q [(q [(.reg [o 69 (f 1 5),o 70 (l 69),o 71 (f 2 4),o 72 (l 71),o 73 (ln 72),o 74 (b .geq 70 73)]),
 (i 74 (q [(.reg [o 8 (.mv (c (u 0))),o 9 (.mv (c .bf))]),
 .ret]) .skip)]),
 (q [(.reg [o 75 (f 0 5),o 76 (l 75),o 77 (bc .eql 76 (n 9))]),
 (i 77 (q [(.reg [o 78 (f 2 4),o 79 (l 78),o 80 (f 1 5),o 81 (l 80),o 82 (ia 1 79 81),o 83 (l 82),o 84 (m 2),o 85 (.call 88 [(t 83),(t 84)]),o 8 (m 85),o 9 (.mv (c .bt))]),
 .ret]) .skip)]),
 (.reg [o 86 (f 2 4),o 87 (l 86),o 88 (f 1 5),o 89 (l 88),o 90 (ia 1 87 89),o 91 (l 90),o 92 (m 2),o 93 (.call 89 [(t 91),(t 92)]),o 8 (m 93),o 9 (.mv (c .bt))]),
 .ret]) (q [(q [(.reg [o 95 (bc .eql 17 (n 11)),o 94 (m 95)]),
 (i 94 .skip (q [(.reg [o 96 (bc .eql 17 (n 12)),o 94 (m 96)]),
 (i 94 .skip (.reg [o 97 (bc .eql 17 (n 13)),o 94 (m 97)]))]))]),
 (i 94 (q [(q [(.regd [o 98 (f 3 5),o 99 (l 98),o 100 (f 2 4),o 101 (l 100),o 102 (ln 101),o 103 (.bin .shl (c (n 1)) (t 102)),o 104 (b .geq 99 103)] [0,1,0,4,12,28,63]),
 (i 104 (q [(.reg [o 8 (.mv (c (u 0))),o 9 (.mv (c .bf))]),
 .ret]) .skip)]),
 (q [(.reg [o 105 (f 0 5),o 106 (l 105),o 107 (bc .eql 106 (n 12))]),
 (i 107 (q [(.reg [o 108 (la 3 4),o 109 (f 3 5),o 110 (l 109),o 111 (.call 90 [(t 108),(t 110)]),o 112 (m 2),o 113 (.call 88 [(t 111),(t 112)]),o 8 (m 113),o 9 (.mv (c .bt))]),
 .ret]) .skip)]),
 (.reg [o 114 (la 3 4),o 115 (f 3 5),o 116 (l 115),o 117 (.call 91 [(t 114),(t 116)]),o 11 (m 117)]),
 (q [(.reg [o 118 (f 0 5),o 119 (l 118),o 120 (bc .eql 119 (n 11))]),
 (i 120 (q [(.reg [o 121 (m 11),o 122 (m 2),o 123 (.call 88 [(t 121),(t 122)]),o 8 (m 123),o 9 (.mv (c .bt))]),
 .ret]) .skip)]),
 (.reg [o 124 (m 11),o 125 (m 10),o 126 (m 2),o 127 (m 3),o 128 (.call 92 [(t 124),(t 125),(t 126),(t 127)]),o 8 (m 128),o 9 (.mv (c .bt))]),
 .ret]) .skip)]))]))]))]))]))]))]))]))]))]))]),
 (.reg [o 8 (.mv (c (u 0))),o 9 (.mv (c .bf))]),
 .ret])⟩
def zl7:CFn:=⟨8,[.tmp 2],(q [(.reg [o 2 (.mv (c (.nils 6)))]),
 (.reg [o 3 (m 0),o 4 (m 0),o 5 (ln 4),o 6 (bc .sub 5 (n 1)),o 7 (.call 93 [(t 3),(t 6)]),o 2 (m 7)]),
 .ret])⟩
def zpB:CFn:=⟨55,[.cell 2 (some 7),.tmp 3],(q [(.reg [o 2 (.alloc [.bf,.bf,.bf,.bf,.bf,.bf,(n 0)]),o 3 (.mv (c .bf))]),
 (q [(.reg [o 4 (m 0)]),
 (.block 0 (q [(q [(.reg [o 6 (bc .eql 4 (n 1)),o 5 (m 6)]),
 (i 5 .skip (.reg [o 7 (bc .eql 4 (n 2)),o 5 (m 7)]))]),
 (i 5 (q [(.reg [o 8 (.build [.bf,.bf,.bf,.bf,.bf,.bf,(n 0)] []),w (.store 7 (t 2) (t 8)),o 3 (.mv (c .bt))]),
 .ret]) (q [(.reg [o 10 (bc .eql 4 (n 3)),o 9 (m 10)]),
 (i 9 (q [(.reg [o 11 (.build [.bf,.bf,.bf,.bf,.bf,.bf,(n 0)] [(2,1,(c .bt))]),w (.store 7 (t 2) (t 11)),o 3 (.mv (c .bt))]),
 .ret]) (q [(.reg [o 13 (bc .eql 4 (n 4)),o 12 (m 13)]),
 (i 12 (q [(.reg [o 14 (.build [.bf,.bf,.bf,.bf,.bf,.bf,(n 0)] [(0,1,(c .bt))]),w (.store 7 (t 2) (t 14)),o 3 (.mv (c .bt))]),
 .ret]) (q [(q [(.reg [o 16 (bc .eql 4 (n 5)),o 15 (m 16)]),
 (i 15 .skip (q [(.reg [o 17 (bc .eql 4 (n 6)),o 15 (m 17)]),
 (i 15 .skip (q [(.reg [o 18 (bc .eql 4 (n 7)),o 15 (m 18)]),
 (i 15 .skip (.reg [o 19 (bc .eql 4 (n 8)),o 15 (m 19)]))]))]))]),
 (i 15 (q [(.reg [o 20 (.build [.bf,.bf,.bf,.bf,.bf,.bf,(n 0)] [(0,1,(c .bt)),(1,1,(c .bt))]),w (.store 7 (t 2) (t 20)),o 3 (.mv (c .bt))]),
 .ret]) (q [(q [(.reg [o 22 (bc .eql 4 (n 9)),o 21 (m 22)]),
 (i 21 .skip (.reg [o 23 (bc .eql 4 (n 10)),o 21 (m 23)]))]),
 (i 21 (q [(.reg [o 24 (.build [.bf,.bf,.bf,.bf,.bf,.bf,(n 0)] [(0,1,(c .bt)),(3,1,(c .bt)),(6,1,(c (n 1)))]),w (.store 7 (t 2) (t 24)),o 3 (.mv (c .bt))]),
 .ret]) (q [(.reg [o 26 (bc .eql 4 (n 11)),o 25 (m 26)]),
 (i 25 (q [(.reg [o 27 (.build [.bf,.bf,.bf,.bf,.bf,.bf,(n 0)] [(0,1,(c .bt)),(4,1,(c .bt)),(6,1,(c (n 2)))]),w (.store 7 (t 2) (t 27)),o 3 (.mv (c .bt))]),
 .ret]) (q [(.reg [o 29 (bc .eql 4 (n 12)),o 28 (m 29)]),
 (i 28 (q [(.reg [o 30 (.build [.bf,.bf,.bf,.bf,.bf,.bf,(n 0)] [(0,1,(c .bt)),(4,1,(c .bt)),(6,1,(c (n 4)))]),w (.store 7 (t 2) (t 30)),o 3 (.mv (c .bt))]),
 .ret]) (q [(.reg [o 32 (bc .eql 4 (n 13)),o 31 (m 32)]),
 (i 31 (q [(.reg [o 33 (.build [.bf,.bf,.bf,.bf,.bf,.bf,(n 0)] [(0,1,(c .bt)),(1,1,(c .bt)),(4,1,(c .bt)),(6,1,(c (n 8)))]),w (.store 7 (t 2) (t 33)),o 3 (.mv (c .bt))]),
 .ret]) (q [(.reg [o 35 (bc .eql 4 (n 14)),o 34 (m 35)]),
 (i 34 (q [(.reg [o 36 (.build [.bf,.bf,.bf,.bf,.bf,.bf,(n 0)] [(0,1,(c .bt)),(1,1,(c .bt)),(3,1,(c .bt)),(6,1,(c (n 16)))]),w (.store 7 (t 2) (t 36)),o 3 (.mv (c .bt))]),
 .ret]) (q [(.reg [o 38 (bc .eql 4 (n 15)),o 37 (m 38)]),
 (i 37 (q [(.reg [o 39 (.build [.bf,.bf,.bf,.bf,.bf,.bf,(n 0)] [(0,1,(c .bt)),(3,1,(c .bt)),(6,1,(c (n 32)))]),w (.store 7 (t 2) (t 39)),o 3 (.mv (c .bt))]),
 .ret]) (q [(.reg [o 41 (bc .eql 4 (n 16)),o 40 (m 41)]),
 (i 40 (q [(.reg [o 42 (.build [.bf,.bf,.bf,.bf,.bf,.bf,(n 0)] [(0,1,(c .bt)),(1,1,(c .bt)),(6,1,(c (n 64)))]),w (.store 7 (t 2) (t 42)),o 3 (.mv (c .bt))]),
 .ret]) (q [(.reg [o 44 (bc .eql 4 (n 17)),o 43 (m 44)]),
 (i 43 (q [(.reg [o 45 (.build [.bf,.bf,.bf,.bf,.bf,.bf,(n 0)] [(0,1,(c .bt)),(5,1,(c .bt)),(6,1,(c (n 128)))]),w (.store 7 (t 2) (t 45)),o 3 (.mv (c .bt))]),
 .ret]) (q [(q [(.reg [o 47 (bc .eql 4 (n 18)),o 46 (m 47)]),
 (i 46 .skip (.reg [o 48 (bc .eql 4 (n 20)),o 46 (m 48)]))]),
 (i 46 (q [(.reg [o 49 (.build [.bf,.bf,.bf,.bf,.bf,.bf,(n 0)] [(0,1,(c .bt)),(6,1,(c (n 256)))]),w (.store 7 (t 2) (t 49)),o 3 (.mv (c .bt))]),
 .ret]) (q [(q [(.reg [o 51 (bc .eql 4 (n 19)),o 50 (m 51)]),
 (i 50 .skip (.reg [o 52 (bc .eql 4 (n 21)),o 50 (m 52)]))]),
 (i 50 (q [(.reg [o 53 (.build [.bf,.bf,.bf,.bf,.bf,.bf,(n 0)] [(0,1,(c .bt)),(1,1,(c .bt)),(6,1,(c (n 256)))]),w (.store 7 (t 2) (t 53)),o 3 (.mv (c .bt))]),
 .ret]) .skip)]))]))]))]))]))]))]))]))]))]))]))]))]))]))]),
 (.reg [o 54 (.build [.bf,.bf,.bf,.bf,.bf,.bf,(n 0)] []),w (.store 7 (t 2) (t 54)),o 3 (.mv (c .bf))]),
 .ret])⟩
def zpy:CFn:=⟨21,[.tmp 4,.tmp 5],(q [(.reg [o 2 (.box 3 (t 0)),o 4 (.mv (c (.nils 1))),o 5 (.mv (c (n 0)))]),
 (.reg [o 6 (.alloc [(.nils 1)])]),
 (.reg [o 7 (.alloc [(n 0)]),w (.store 1 (t 7) (c (n (-1))))]),
 (q [(.reg [o 9 (la 3 2),o 10 (m 1),o 11 (.call 94 [(t 9),(t 10)])]),
 (.block 0 (.rng (t 11) [12] (.reg [o 8 (m 12)]) (.block 1 (q [(q [(.reg [o 13 (m 8),o 14 (l 6),o 15 (.call 95 [(t 13),(t 14)])]),
 (i 15 (.exit 0) .skip)]),
 (.reg [o 16 (m 8),w (.store 1 (t 6) (t 16))]),
 (.reg [o 17 (l 7),o 18 (bc .add 17 (n 1)),w (.store 1 (t 7) (t 18))])]))))]),
 (.regd [o 19 (l 6),o 20 (l 7),o 4 (m 19),o 5 (m 20)] [0,0,1,7]),
 .ret])⟩
def zoq:CFn:=⟨8,[.tmp 4],(q [(.reg [o 3 (.box 1 (t 1)),o 4 (.mv (c .bf))]),
 (.reg [o 5 (m 0),o 6 (.fnew zcL [(t 3)]),o 7 (.call 96 [(t 5),(t 6)]),o 4 (m 7)]),
 .ret])⟩
def zdo:CFn:=⟨9,[.tmp 4],(q [(.reg [o 4 (.mv (c .bf))]),
 (.reg [o 5 (m 0),o 6 (m 1),o 7 (.call 98 [(t 5),(t 6)]),o 8 (bc .geq 7 (n 0)),o 4 (m 8)]),
 .ret])⟩
def zom:CFn:=⟨8,[.tmp 3],(q [(.reg [o 3 (.mv (c .bf))]),
 (.reg [o 4 (m 0),o 5 (f 0 1),o 6 (l 5),o 7 (.call 60 [(t 4),(t 6)]),o 3 (m 7)]),
 .ret])⟩
def ztf:CFn:=⟨8,[.tmp 2],(q [(.reg [o 2 (.mv (c (u 0)))]),
 (q [(.reg [o 3 (m 0),o 4 (bc .geq 3 (n 64))]),
 (i 4 (q [(.reg [o 2 (.mv (c (u 18446744073709551615)))]),
 .ret]) .skip)]),
 (.reg [o 5 (m 0),o 6 (.bin .shl (c (u 1)) (t 5)),o 7 (bc .sub 6 (u 1)),o 2 (m 7)]),
 .ret])⟩
def zop:CFn:=⟨16,[.tmp 2],(q [(.reg [o 2 (.mv (c (.nils 1)))]),
 (.reg [o 3 (.mv (c (.nils 1)))]),
 (.block 0 (.loop (q [(q [(.reg [o 4 (m 0),o 5 (bc .neq 4 (u 0))]),
 (i 5 .skip (.exit 0))]),
 (.block 1 (.reg [o 10 (m 3),o 11 (m 0),o 12 (.call 64 [(t 11)]),o 13 (.bslice 1 1 [(n 0)] [(0,(t 12))]),o 14 (.app 1 8 (t 10) (t 13)),o 3 (m 14)])),
 (.reg [o 6 (m 0),o 7 (m 0),o 8 (bc .sub 7 (u 1)),o 9 (b .and 6 8),o 0 (m 9)])]))),
 (.reg [o 15 (m 3),o 2 (m 15)]),
 .ret])⟩
def zoo:CFn:=⟨63,[.cell 4 (some 3)],(q [(.reg [o 2 (.box 3 (t 0)),o 4 (.alloc [(n 0),(.nils 1),(.nils 1)])]),
 (.reg [o 13 (m 1),o 14 (ln 13),o 15 (.build [(n 0),(.nils 1),(.nils 1)] [(0,1,(t 14))]),o 5 (.alloc [(n 0),(.nils 1),(.nils 1)]),w (.store 3 (t 5) (t 15))]),
 (q [(.reg [o 16 (f 1 2),o 17 (l 16),o 18 (ln 17),o 19 (.mv (c (n 0)))]),
 (.block 0 (.loop (q [(.reg [o 20 (b .lss 19 18)]),
 (i 20 .skip (.exit 0)),
 (.block 1 (q [(.reg [o 21 (ia 1 17 19),o 22 (l 21),o 7 (m 22)]),
 (.regd [o 23 (f 1 5),o 24 (l 23),o 25 (m 7),o 26 (m 1),o 27 (.call 99 [(t 25),(t 26)]),o 28 (.bslice 1 1 [(u 0)] [(0,(t 27))]),o 29 (.app 1 8 (t 24) (t 28)),o 30 (f 1 5),w (.store 1 (t 30) (t 29))] [0,1,0,0,12,28,63,127,255])])),
 (.reg [o 31 (bc .add 19 (n 1)),o 19 (m 31)])])))]),
 (q [(.reg [o 32 (f 2 2),o 33 (l 32),o 34 (ln 33),o 35 (.mv (c (n 0)))]),
 (.block 2 (.loop (q [(.reg [o 36 (b .lss 35 34)]),
 (i 36 .skip (.exit 2)),
 (.block 3 (q [(.reg [o 37 (ia 1 33 35),o 38 (l 37),o 9 (m 38)]),
 (.reg [o 10 (.mv (c (.nils 1)))]),
 (q [(.reg [o 39 (m 1),o 40 (ln 39),o 41 (.mv (c (n 0)))]),
 (.block 4 (.loop (q [(.reg [o 42 (b .lss 41 40)]),
 (i 42 .skip (.exit 4)),
 (.block 5 (q [(.reg [o 43 (ia 1 39 41),o 44 (l 43),o 12 (m 44)]),
 (.reg [o 45 (m 10),o 46 (m 9),o 47 (m 12),o 48 (ia 1 46 47),o 49 (l 48),o 50 (m 1),o 51 (.call 99 [(t 49),(t 50)]),o 52 (.bslice 1 1 [(u 0)] [(0,(t 51))]),o 53 (.app 1 8 (t 45) (t 52)),o 10 (m 53)])])),
 (.reg [o 54 (bc .add 41 (n 1)),o 41 (m 54)])])))]),
 (.reg [o 55 (f 2 5),o 56 (l 55),o 57 (m 10),o 58 (.bslice 1 1 [(.nils 1)] [(0,(t 57))]),o 59 (.app 1 24 (t 56) (t 58)),o 60 (f 2 5),w (.store 1 (t 60) (t 59))])])),
 (.reg [o 61 (bc .add 35 (n 1)),o 35 (m 61)])])))]),
 (.reg [o 62 (la 3 5),w (.store 3 (t 4) (t 62))]),
 .ret])⟩
def zhD:CFn:=⟨11,[],(q [(.reg [o 3 (m 0),o 4 (ln 3),o 2 (m 4)]),
 (.reg [o 5 (m 0),o 6 (m 2),o 7 (m 2),o 8 (.conv .u64 (t 7)),o 9 (.call 101 [(t 8)]),o 10 (.call 100 [(t 5),(c (n 0)),(t 6),(t 9)])])])⟩
def zgm:CFn:=⟨61,[.tmp 2],(q [(.reg [o 2 (.mv (c (.nils 1)))]),
 (q [(.reg [o 6 (m 0),o 7 (ln 6),o 8 (bc .lss 7 (n 2))]),
 (i 8 (q [(.reg [o 9 (m 0),o 2 (m 9)]),
 .ret]) .skip)]),
 (q [(.reg [o 3 (.mv (c (n 1)))]),
 (.block 0 (.loop (q [(q [(.reg [o 10 (m 3),o 11 (m 0),o 12 (ln 11),o 13 (b .lss 10 12)]),
 (i 13 .skip (.exit 0))]),
 (.block 1 (q [(.regd [o 16 (m 0),o 17 (m 3),o 18 (ia 1 16 17),o 19 (l 18),o 20 (m 0),o 21 (m 3),o 22 (bc .sub 21 (n 1)),o 23 (ia 1 20 22),o 24 (l 23),o 25 (b .eql 19 24)] [0,0,3,7,0,0,32,112,240,511]),
 (i 25 (q [(.reg [o 26 (m 0),o 27 (m 3),o 28 (.slice 1 (t 26) (some (t 27)) none),o 4 (m 28)]),
 (q [(.reg [o 5 (.mv (c (n 1)))]),
 (.block 2 (.loop (q [(q [(.reg [o 29 (m 5),o 30 (m 4),o 31 (ln 30),o 32 (b .lss 29 31)]),
 (i 32 .skip (.exit 2))]),
 (.block 3 (q [(.regd [o 35 (m 4),o 36 (m 5),o 37 (ia 1 35 36),o 38 (l 37),o 39 (m 4),o 40 (m 5),o 41 (bc .sub 40 (n 1)),o 42 (ia 1 39 41),o 43 (l 42),o 44 (b .neq 38 43)] [0,0,3,7,0,0,32,112,240,511]),
 (i 44 (q [(.reg [o 45 (m 0),o 46 (m 3),o 47 (m 4),o 48 (m 5),o 49 (ia 1 47 48),o 50 (l 49),o 51 (ia 1 45 46),w (.store 1 (t 51) (t 50))]),
 (.reg [o 52 (m 3),o 53 (bc .add 52 (n 1)),o 3 (m 53)])]) .skip)])),
 (.reg [o 33 (m 5),o 34 (bc .add 33 (n 1)),o 5 (m 34)])])))]),
 (.reg [o 54 (m 0),o 55 (m 3),o 56 (.slice 1 (t 54) (some (t 55)) none),w (.clear 1 [(n 0)] (t 56))]),
 (.reg [o 57 (m 0),o 58 (m 3),o 59 (.slice 1 (t 57) none (some (t 58))),o 2 (m 59)]),
 .ret]) .skip)])),
 (.reg [o 14 (m 3),o 15 (bc .add 14 (n 1)),o 3 (m 15)])])))]),
 (.reg [o 60 (m 0),o 2 (m 60)]),
 .ret])⟩
def zoh:CFn:=⟨26,[.tmp 2],(q [(.reg [o 2 (.mv (c (n 0)))]),
 (q [(.reg [o 6 (m 0),o 7 (ln 6),o 8 (bc .eql 7 (n 0))]),
 (i 8 (q [(.reg [o 2 (.mv (c (n 3)))]),
 .ret]) .skip)]),
 (q [(.reg [o 9 (m 0),o 10 (ln 9),o 11 (bc .gtr 10 (n 200))]),
 (i 11 (q [(.reg [o 2 (.mv (c (n 8)))]),
 .ret]) .skip)]),
 (q [(.reg [o 12 (m 0),o 13 (ln 12),o 14 (.mv (c (n 0)))]),
 (.block 0 (.loop (q [(.reg [o 15 (b .lss 14 13)]),
 (i 15 .skip (.exit 0)),
 (.block 1 (q [(.reg [o 16 (m 14),o 17 (ia 6 12 14),o 18 (la 6 17),o 4 (.alloc [(n 0),(n 0),(n 0),(n 0),(n 0),(n 0)]),o 3 (m 16),w (.store 6 (t 4) (t 18))]),
 (.reg [o 19 (la 6 4),o 20 (m 3),o 21 (.call 107 [(t 19),(t 20)]),o 5 (m 21)]),
 (.reg [o 22 (m 5),o 23 (bc .neq 22 (n 0))]),
 (i 23 (q [(.reg [o 24 (m 5),o 2 (m 24)]),
 .ret]) .skip)])),
 (.reg [o 25 (bc .add 14 (n 1)),o 14 (m 25)])])))]),
 (.reg [o 2 (.mv (c (n 0)))]),
 .ret])⟩
def zpA:CFn:=⟨25,[.tmp 6],(q [(.reg [o 6 (.mv (c .bf))]),
 (.reg [o 7 (.mv (c (.fn zeL [])))]),
 (.reg [o 8 (m 0),o 9 (.call 73 [(t 8)]),o 10 (bc .eql 9 (n 0)),o 11 (m 10),g 12 11 true (m 7),g 13 11 true (m 0),g 14 11 true (.call 110 [(t 13)]),g 15 11 true (m 1),g 16 11 true (.callv (t 12) [(t 14),(t 15)]),o 17 (pf 11 16),o 18 (m 17),g 19 18 true (m 7),g 20 18 true (m 0),g 21 18 true (.call 111 [(t 20)]),g 22 18 true (m 2),g 23 18 true (.callv (t 19) [(t 21),(t 22)]),o 24 (pf 18 23),o 6 (m 24)]),
 .ret])⟩
def ze7:CFn:=⟨8,[.tmp 2],(q [(.reg [o 2 (.mv (c (.nils 1)))]),
 (q [(.reg [o 3 (m 0),o 4 (.eqN false (t 3) (c (.nils 1)))]),
 (i 4 (q [(.reg [o 2 (.mv (c (.nils 1)))]),
 .ret]) .skip)]),
 (.reg [o 5 (.bslice 1 0 [(u 0)] []),o 6 (m 0),o 7 (.app 1 8 (t 5) (t 6)),o 2 (m 7)]),
 .ret])⟩
def zg6:CFn:=⟨8,[.tmp 2],(q [(.reg [o 2 (.mv (c (.nils 1)))]),
 (q [(.reg [o 3 (m 0),o 4 (.eqN false (t 3) (c (.nils 1)))]),
 (i 4 (q [(.reg [o 2 (.mv (c (.nils 1)))]),
 .ret]) .skip)]),
 (.reg [o 5 (.bslice 1 0 [(n 0)] []),o 6 (m 0),o 7 (.app 1 8 (t 5) (t 6)),o 2 (m 7)]),
 .ret])⟩
def zpE:CFn:=⟨30,[.tmp 4],(q [(.reg [o 4 (.mv (c (u 0)))]),
 (q [(.reg [o 7 (m 0),o 8 (ln 7),o 9 (m 0),o 10 (.call 124 [(t 8),(t 9)]),o 11 (bc .neq 10 (n 0))]),
 (i 11 (q [(.reg [o 4 (.mv (c (u 0)))]),
 .ret]) .skip)]),
 (.reg [o 5 (.mv (c (u 0)))]),
 (q [(.reg [o 12 (m 0),o 13 (ln 12),o 14 (.mv (c (n 0)))]),
 (.block 0 (.loop (q [(.reg [o 15 (b .lss 14 13)]),
 (i 15 .skip (.exit 0)),
 (.block 1 (q [(.reg [o 16 (m 14),o 6 (m 16)]),
 (.reg [o 17 (m 0),o 18 (m 6),o 19 (ia 1 17 18),o 20 (l 19),o 21 (m 1),o 22 (b .andNot 20 21),o 23 (bc .eql 22 (u 0))]),
 (i 23 (.reg [o 24 (m 5),o 25 (m 6),o 26 (.bin .shl (c (u 1)) (t 25)),o 27 (b .or 24 26),o 5 (m 27)]) .skip)])),
 (.reg [o 28 (bc .add 14 (n 1)),o 14 (m 28)])])))]),
 (.reg [o 29 (m 5),o 4 (m 29)]),
 .ret])⟩
def zkE:CFn:=⟨18,[.tmp 4],(q [(.reg [o 4 (.mv (c (u 0)))]),
 (q [(.reg [o 5 (m 0),o 6 (ln 5),o 7 (m 0),o 8 (.call 124 [(t 6),(t 7)]),o 9 (bc .neq 8 (n 0))]),
 (i 9 (q [(.reg [o 4 (.mv (c (u 0)))]),
 .ret]) .skip)]),
 (.reg [o 10 (m 0),o 11 (ln 10),o 12 (.call 125 [(t 11)]),o 13 (m 0),o 14 (m 1),o 15 (.un .xor (t 14)),o 16 (.call 88 [(t 13),(t 15)]),o 17 (b .andNot 12 16),o 4 (m 17)]),
 .ret])⟩
def zrW:CFn:=⟨8,[.tmp 4],(q [(.reg [o 2 (.box 3 (t 0)),o 4 (.mv (c (.nils 1)))]),
 (.reg [o 5 (la 3 2),o 6 (m 1),o 7 (.call 126 [(t 5),(t 6),(c (.fn zfC []))]),o 4 (m 7)]),
 .ret])⟩
def zq9:CFn:=⟨8,[.tmp 4],(q [(.reg [o 2 (.box 3 (t 0)),o 4 (.mv (c (.nils 1)))]),
 (.reg [o 5 (la 3 2),o 6 (m 1),o 7 (.call 126 [(t 5),(t 6),(c (.fn zfd []))]),o 4 (m 7)]),
 .ret])⟩
def zm9:CFn:=⟨26,[.tmp 8],(q [(.reg [o 8 (.mv (c (u 0)))]),
 (.reg [o 11 (m 1),o 9 (m 11)]),
 (.block 0 (.loop (.block 1 (q [(.reg [o 12 (m 0),o 13 (m 1),o 14 (m 2),o 15 (b .andNot 13 14),o 16 (m 3),o 17 (m 9),o 18 (b .and 16 17),o 19 (b .or 15 18),o 20 (.call 88 [(t 12),(t 19)]),o 10 (m 20)]),
 (q [(.reg [o 21 (m 10),o 22 (m 9),o 23 (b .eql 21 22)]),
 (i 23 (q [(.reg [o 24 (m 9),o 8 (m 24)]),
 .ret]) .skip)]),
 (.reg [o 25 (m 10),o 9 (m 25)])]))))])⟩
def zq6:CFn:=⟨21,[.tmp 4],(q [(.reg [o 4 (.mv (c (.nils 6)))]),
 (q [(.reg [o 5 (m 0),o 6 (.call 73 [(t 5)]),o 7 (bc .neq 6 (n 0)),o 8 (m 7),g 9 8 false (m 1),g 10 8 false (bc .lss 9 (n 0)),o 11 (pt 8 10),o 12 (m 11),g 13 12 false (m 1),g 14 12 false (m 0),g 15 12 false (ln 14),g 16 12 false (b .geq 13 15),o 17 (pt 12 16)]),
 (i 17 (q [(.reg [o 4 (.mv (c (.nils 6)))]),
 .ret]) .skip)]),
 (.reg [o 18 (m 0),o 19 (m 1),o 20 (.call 108 [(t 18),(t 19)]),o 4 (m 20)]),
 .ret])⟩
def zpx:CFn:=⟨6,[.tmp 4],(q [(.reg [o 2 (.box 3 (t 0)),o 3 (.box 1 (t 1)),o 4 (.mv (c (.d .nil)))]),
 (.reg [o 5 (.fnew zdf [(t 2),(t 3)]),o 4 (m 5)]),
 .ret])⟩
def zg7:CFn:=⟨26,[.tmp 4],(q [(.reg [o 4 (.mv (c .bf))]),
 (q [(.reg [o 6 (m 0),o 7 (ln 6),o 8 (m 1),o 9 (ln 8),o 10 (b .neq 7 9)]),
 (i 10 (q [(.reg [o 4 (.mv (c .bf))]),
 .ret]) .skip)]),
 (q [(.reg [o 11 (m 0),o 12 (ln 11),o 13 (.mv (c (n 0)))]),
 (.block 0 (.loop (q [(.reg [o 14 (b .lss 13 12)]),
 (i 14 .skip (.exit 0)),
 (.block 1 (q [(.reg [o 15 (m 13),o 5 (m 15)]),
 (.regd [o 16 (m 0),o 17 (m 5),o 18 (ia 1 16 17),o 19 (l 18),o 20 (m 1),o 21 (m 5),o 22 (ia 1 20 21),o 23 (l 22),o 24 (b .neq 19 23)] [0,0,3,7,0,0,48,112,255]),
 (i 24 (q [(.reg [o 4 (.mv (c .bf))]),
 .ret]) .skip)])),
 (.reg [o 25 (bc .add 13 (n 1)),o 13 (m 25)])])))]),
 (.reg [o 4 (.mv (c .bt))]),
 .ret])⟩
def zdL:CFn:=⟨9,[.tmp 4],(q [(.reg [o 4 (.mv (c .bf))]),
 (.reg [o 5 (m 0),o 6 (m 1),o 7 (.call 133 [(t 5),(t 6)]),o 8 (bc .geq 7 (n 0)),o 4 (m 8)]),
 .ret])⟩
def zmd:CFn:=⟨9,[.tmp 3],(q [(.reg [o 3 (.mv (c .bf))]),
 (.reg [o 4 (m 0),o 5 (l 1),o 6 (.call 63 [(t 5)]),o 7 (b .andNot 4 6),o 8 (bc .neq 7 (u 0)),o 3 (m 8)]),
 .ret])⟩
def zdR:CFn:=⟨19,[.tmp 4],(q [(.reg [o 4 (.mv (c (n 0)))]),
 (q [(.reg [o 6 (m 0),o 7 (ln 6),o 8 (.mv (c (n 0)))]),
 (.block 0 (.loop (q [(.reg [o 9 (b .lss 8 7)]),
 (i 9 .skip (.exit 0)),
 (.block 1 (q [(.reg [o 10 (m 8),o 5 (m 10)]),
 (.reg [o 11 (m 1),o 12 (m 0),o 13 (m 5),o 14 (ia 1 12 13),o 15 (l 14),o 16 (.callv (t 11) [(t 15)])]),
 (i 16 (q [(.reg [o 17 (m 5),o 4 (m 17)]),
 .ret]) .skip)])),
 (.reg [o 18 (bc .add 8 (n 1)),o 8 (m 18)])])))]),
 (.reg [o 4 (.mv (c (n (-1))))]),
 .ret])⟩
def zrX:CFn:=⟨25,[.tmp 4],(q [(.reg [o 4 (.mv (c (u 0)))]),
 (.reg [o 5 (.mv (c (u 0)))]),
 (q [(.reg [o 8 (m 1),o 9 (ln 8),o 10 (.mv (c (n 0)))]),
 (.block 0 (.loop (q [(.reg [o 11 (b .lss 10 9)]),
 (i 11 .skip (.exit 0)),
 (.block 1 (q [(.reg [o 12 (m 10),o 13 (ia 1 8 10),o 14 (l 13),o 6 (m 12),o 7 (m 14)]),
 (.reg [o 15 (m 5),o 16 (m 0),o 17 (m 7),o 18 (b .shr 16 17),o 19 (bc .and 18 (u 1)),o 20 (m 6),o 21 (b .shl 19 20),o 22 (b .or 15 21),o 5 (m 22)])])),
 (.reg [o 23 (bc .add 10 (n 1)),o 10 (m 23)])])))]),
 (.reg [o 24 (m 5),o 4 (m 24)]),
 .ret])⟩
def zfz:CFn:=⟨134,[],(q [(.reg [o 8 (.mv (c .bt))]),
 (.reg [o 9 (.mv (c .bt))]),
 (.block 0 (.loop (.block 1 (q [(.reg [o 19 (m 2),o 20 (m 1),o 21 (b .sub 19 20),o 10 (m 21)]),
 (q [(.reg [o 22 (m 10),o 23 (bc .leq 22 (n 12))]),
 (i 23 (q [(.reg [o 24 (m 0),o 25 (m 1),o 26 (m 2),o 27 (.call 134 [(t 24),(t 25),(t 26)])]),
 .ret]) .skip)]),
 (q [(.reg [o 28 (m 3),o 29 (bc .eql 28 (n 0))]),
 (i 29 (q [(.reg [o 30 (m 0),o 31 (m 1),o 32 (m 2),o 33 (.call 135 [(t 30),(t 31),(t 32)])]),
 .ret]) .skip)]),
 (q [(.reg [o 34 (m 8),o 35 (.un .not (t 34))]),
 (i 35 (q [(.reg [o 36 (m 0),o 37 (m 1),o 38 (m 2),o 39 (.call 136 [(t 36),(t 37),(t 38)])]),
 (.reg [o 40 (m 3),o 41 (bc .sub 40 (n 1)),o 3 (m 41)])]) .skip)]),
 (.reg [o 43 (m 0),o 44 (m 1),o 45 (m 2),o 46 (.call 137 [(t 43),(t 44),(t 45)]),o 42 (m 46),o 47 (e 42 0),o 48 (e 42 1),o 11 (m 47),o 12 (m 48)]),
 (q [(.reg [o 49 (m 12),o 50 (bc .eql 49 (n 2))]),
 (i 50 (q [(.reg [o 51 (m 0),o 52 (m 1),o 53 (m 2),o 54 (.call 138 [(t 51),(t 52),(t 53)])]),
 (.reg [o 55 (m 2),o 56 (bc .sub 55 (n 1)),o 57 (m 11),o 58 (m 1),o 59 (b .sub 57 58),o 60 (b .sub 56 59),o 11 (m 60)]),
 (.reg [o 12 (.mv (c (n 1)))])]) .skip)]),
 (q [(.reg [o 61 (m 8),o 62 (m 61),g 63 62 true (m 9),o 64 (pf 62 63),o 65 (m 64),g 66 65 true (m 12),g 67 65 true (bc .eql 66 (n 1)),o 68 (pf 65 67)]),
 (i 68 (q [(.reg [o 69 (m 0),o 70 (m 1),o 71 (m 2),o 72 (.call 139 [(t 69),(t 70),(t 71)])]),
 (i 72 .ret .skip)]) .skip)]),
 (q [(.regd [o 73 (m 1),o 74 (bc .gtr 73 (n 0)),o 75 (m 74),g 76 75 true (m 0),g 77 75 true (m 1),g 78 75 true (bc .sub 77 (n 1)),g 79 75 true (ia 1 76 78),g 80 75 true (l 79),g 81 75 true (m 0),g 82 75 true (m 11),g 83 75 true (ia 1 81 82),g 84 75 true (l 83),g 85 75 true (.call 140 [(t 80),(t 84)]),g 86 75 true (.un .not (t 85)),o 87 (pf 75 86)] [0,1,3,7,7,23,63,127,7,7,775,1799,4095,8191,16383]),
 (i 87 (q [(.reg [o 88 (m 0),o 89 (m 1),o 90 (m 2),o 91 (m 11),o 92 (.call 141 [(t 88),(t 89),(t 90),(t 91)]),o 13 (m 92)]),
 (.reg [o 93 (m 13),o 1 (m 93)]),
 (.exit 1)]) .skip)]),
 (.reg [o 95 (m 0),o 96 (m 1),o 97 (m 2),o 98 (m 11),o 99 (.call 142 [(t 95),(t 96),(t 97),(t 98)]),o 94 (m 99),o 100 (e 94 0),o 101 (e 94 1),o 14 (m 100),o 15 (m 101)]),
 (.reg [o 102 (m 15),o 9 (m 102)]),
 (.reg [o 103 (m 14),o 104 (m 1),o 105 (b .sub 103 104),o 106 (m 2),o 107 (m 14),o 108 (b .sub 106 107),o 16 (m 105),o 17 (m 108)]),
 (.reg [o 109 (m 10),o 110 (bc .quo 109 (n 8)),o 18 (m 110)]),
 (.reg [o 111 (m 16),o 112 (m 17),o 113 (b .lss 111 112)]),
 (i 113 (q [(.reg [o 114 (m 16),o 115 (m 18),o 116 (b .geq 114 115),o 8 (m 116)]),
 (.reg [o 117 (m 0),o 118 (m 1),o 119 (m 14),o 120 (m 3),o 121 (.call 100 [(t 117),(t 118),(t 119),(t 120)])]),
 (.reg [o 122 (m 14),o 123 (bc .add 122 (n 1)),o 1 (m 123)])]) (q [(.reg [o 124 (m 17),o 125 (m 18),o 126 (b .geq 124 125),o 8 (m 126)]),
 (.reg [o 127 (m 0),o 128 (m 14),o 129 (bc .add 128 (n 1)),o 130 (m 2),o 131 (m 3),o 132 (.call 100 [(t 127),(t 129),(t 130),(t 131)])]),
 (.reg [o 133 (m 14),o 2 (m 133)])]))]))))])⟩
def zol:CFn:=⟨8,[.tmp 2],(q [(.reg [o 2 (.mv (c (n 0)))]),
 (.cond (c .bf) (q [(.reg [o 3 (m 0),o 4 (.conv .u32 (t 3)),o 5 (.call 143 [(t 4)]),o 2 (m 5)]),
 .ret]) .skip),
 (.reg [o 6 (m 0),o 7 (.call 144 [(t 6)]),o 2 (m 7)]),
 .ret])⟩
def zkz:CFn:=⟨20,[.tmp 4],(q [(.reg [o 4 (.mv (c (n 0)))]),
 (.reg [o 7 (m 0),o 8 (.call 145 [(t 7)]),o 5 (m 8)]),
 (.reg [o 9 (m 1),o 10 (.call 145 [(t 9)]),o 6 (m 10)]),
 (q [(.reg [o 11 (m 5)]),
 (i 11 (q [(q [(.reg [o 12 (m 6)]),
 (i 12 (q [(.reg [o 4 (.mv (c (n 0)))]),
 .ret]) .skip)]),
 (.reg [o 4 (.mv (c (n (-1))))]),
 .ret]) .skip)]),
 (q [(.reg [o 13 (m 6)]),
 (i 13 (q [(.reg [o 4 (.mv (c (n 1)))]),
 .ret]) .skip)]),
 (q [(.reg [o 14 (m 0),o 15 (m 1),o 16 (b .lss 14 15)]),
 (i 16 (q [(.reg [o 4 (.mv (c (n (-1))))]),
 .ret]) .skip)]),
 (q [(.reg [o 17 (m 0),o 18 (m 1),o 19 (b .gtr 17 18)]),
 (i 19 (q [(.reg [o 4 (.mv (c (n 1)))]),
 .ret]) .skip)]),
 (.reg [o 4 (.mv (c (n 0)))]),
 .ret])⟩
def zkn:CFn:=⟨106,[.tmp 4],(q [(.reg [o 2 (.box 6 (t 0)),o 4 (.mv (c (n 0)))]),
 (.reg [o 9 (f 0 2),o 10 (l 9),o 11 (.call 58 [(t 10)]),o 8 (m 11),o 12 (e 8 0),o 13 (e 8 1),o 5 (.alloc [.bf,.bf,.bf,.bf,.bf,.bf,(n 0)]),w (.store 7 (t 5) (t 12)),o 6 (m 13)]),
 (q [(.reg [o 14 (m 6),o 15 (.un .not (t 14))]),
 (i 15 (q [(.reg [o 4 (.mv (c (n 10)))]),
 .ret]) .skip)]),
 (q [(.reg [o 16 (f 0 5),o 17 (l 16),o 18 (f 4 2),o 19 (l 18),o 20 (m 1),o 21 (.call 147 [(t 17),(t 19),(t 20)]),o 22 (.un .not (t 21)),o 23 (m 22),g 24 23 false (f 1 5),g 25 23 false (l 24),g 26 23 false (f 5 2),g 27 23 false (l 26),g 28 23 false (m 1),g 29 23 false (.call 147 [(t 25),(t 27),(t 28)]),g 30 23 false (.un .not (t 29)),o 31 (pt 23 30)]),
 (i 31 (q [(.reg [o 4 (.mv (c (n 3)))]),
 .ret]) .skip)]),
 (q [(.reg [o 32 (f 2 5),o 33 (l 32),o 34 (m 33),g 35 34 false (f 3 5),g 36 34 false (l 35),o 37 (pt 34 36),o 38 (m 37),g 39 38 false (f 5 5),g 40 38 false (l 39),o 41 (pt 38 40),o 42 (.un .not (t 41)),o 43 (m 42),g 44 43 true (f 1 2),g 45 43 true (l 44),g 46 43 true (bc .neq 45 (n 0)),o 47 (pf 43 46),o 48 (m 47),g 49 48 false (f 5 5),g 50 48 false (l 49),g 51 48 false (.un .not (t 50)),g 52 48 false (m 51),g 53 52 true (f 2 2),g 54 52 true (l 53),g 55 52 true (bc .neq 54 (n 0)),g 56 48 false (pf 52 55),o 57 (pt 48 56),o 58 (m 57),g 59 58 false (f 4 5),g 60 58 false (l 59),g 61 58 false (.un .not (t 60)),g 62 58 false (m 61),g 63 62 true (f 3 2),g 64 62 true (l 63),g 65 62 true (bc .neq 64 (n 0)),g 66 58 false (pf 62 65),o 67 (pt 58 66)]),
 (i 67 (q [(.reg [o 4 (.mv (c (n 3)))]),
 .ret]) .skip)]),
 (.reg [o 7 (.mv (c (.fn zcW [])))]),
 (q [(.reg [o 68 (m 7),o 69 (f 2 5),o 70 (l 69),o 71 (f 1 2),o 72 (l 71),o 73 (.callv (t 68) [(t 70),(t 72),(c (n 0)),(c (n 7))]),o 74 (m 73),g 75 74 false (m 7),g 76 74 false (f 3 5),g 77 74 false (l 76),g 78 74 false (f 1 2),g 79 74 false (l 78),g 80 74 false (.callv (t 75) [(t 77),(t 79),(c (n 0)),(c (n 3))]),o 81 (pt 74 80),o 82 (m 81),g 83 82 false (m 7),g 84 82 false (f 5 5),g 85 82 false (l 84),g 86 82 false (f 1 2),g 87 82 false (l 86),g 88 82 false (.callv (t 83) [(t 85),(t 87),(c (n 0)),(c (n 7))]),o 89 (pt 82 88),o 90 (m 89),g 91 90 false (m 7),g 92 90 false (f 5 5),g 93 90 false (l 92),g 94 90 false (f 2 2),g 95 90 false (l 94),g 96 90 false (.callv (t 91) [(t 93),(t 95),(c (n 0)),(c (n 7))]),o 97 (pt 90 96),o 98 (m 97),g 99 98 false (m 7),g 100 98 false (f 4 5),g 101 98 false (l 100),g 102 98 false (f 3 2),g 103 98 false (l 102),g 104 98 false (.callv (t 99) [(t 101),(t 103),(c (n 1)),(c (n 15))]),o 105 (pt 98 104)]),
 (i 105 (q [(.reg [o 4 (.mv (c (n 2)))]),
 .ret]) .skip)]),
 (.reg [o 4 (.mv (c (n 0)))]),
 .ret])⟩
def zma:CFn:=⟨16,[.tmp 4],(q [(.reg [o 2 (.box 1 (t 0)),o 4 (.mv (c (.nils 6)))]),
 (.reg [o 5 (.alloc [(.nils 6)])]),
 (.reg [o 9 .mkmap,o 6 (.alloc [(.d .nil)]),w (.store 1 (t 6) (t 9))]),
 (.reg [o 10 .mkmap,o 7 (.alloc [(.d .nil)]),w (.store 1 (t 7) (t 10))]),
 (.reg [o 8 (.alloc [(.d .nil)])]),
 (.reg [o 11 (.fnew zj [(t 7),(t 2),(t 8),(t 6),(t 5)]),w (.store 1 (t 8) (t 11))]),
 (.reg [o 12 (l 8),o 13 (m 1),o 14 (.callv (t 12) [(t 13)])]),
 (.reg [o 15 (l 5),o 4 (m 15)]),
 .ret])⟩
def znc:CFn:=⟨14,[.tmp 4],(q [(.reg [o 4 (.mv (c .bf))]),
 (.reg [o 5 (m 1),o 6 (bc .geq 5 (n 31)),o 7 (m 6),g 8 7 false (m 0),g 9 7 false (m 1),g 10 7 false (.mm true (t 9) (c (n 0))),g 11 7 false (b .shr 8 10),g 12 7 false (bc .eql 11 (n 0)),o 13 (pt 7 12),o 4 (m 13)]),
 .ret])⟩
def znb:CFn:=⟨5,[.tmp 2],(q [(.reg [o 2 (.mv (c (n 0)))]),
 (.reg [o 3 (m 0),o 4 (.call 29 [(t 3),(c (.fn zdU []))]),o 2 (m 4)]),
 .ret])⟩
def zoi:CFn:=⟨5,[.tmp 2],(q [(.reg [o 2 (.mv (c (n 0)))]),
 (.reg [o 3 (m 0),o 4 (.call 29 [(t 3),(c (.fn zep []))]),o 2 (m 4)]),
 .ret])⟩
def znf:CFn:=⟨29,[.tmp 4],(q [(.reg [o 4 (.mv (c (n 0)))]),
 (q [(.reg [o 7 (m 0),o 8 (bc .lss 7 (n 0)),o 9 (m 8),g 10 9 false (m 0),g 11 9 false (bc .gtr 10 (n 64)),o 12 (pt 9 11)]),
 (i 12 (q [(.reg [o 4 (.mv (c (n 2)))]),
 .ret]) .skip)]),
 (q [(.reg [o 13 (m 1),o 14 (ln 13),o 15 (m 0),o 16 (b .neq 14 15)]),
 (i 16 (q [(.reg [o 4 (.mv (c (n 3)))]),
 .ret]) .skip)]),
 (q [(.reg [o 17 (m 1),o 18 (ln 17),o 19 (.mv (c (n 0)))]),
 (.block 0 (.loop (q [(.reg [o 20 (b .lss 19 18)]),
 (i 20 .skip (.exit 0)),
 (.block 1 (q [(.reg [o 21 (ia 1 17 19),o 22 (l 21),o 6 (m 22)]),
 (.reg [o 23 (m 6),o 24 (m 0),o 25 (.call 125 [(t 24)]),o 26 (b .andNot 23 25),o 27 (bc .neq 26 (u 0))]),
 (i 27 (q [(.reg [o 4 (.mv (c (n 1)))]),
 .ret]) .skip)])),
 (.reg [o 28 (bc .add 19 (n 1)),o 19 (m 28)])])))]),
 (.reg [o 4 (.mv (c (n 0)))]),
 .ret])⟩
def zpF:CFn:=⟨8,[.tmp 2],(q [(.reg [o 2 (.mv (c (u 0)))]),
 (q [(.reg [o 3 (m 0),o 4 (bc .geq 3 (n 64))]),
 (i 4 (q [(.reg [o 2 (.mv (c (u 18446744073709551615)))]),
 .ret]) .skip)]),
 (.reg [o 5 (m 0),o 6 (.bin .shl (c (u 1)) (t 5)),o 7 (bc .sub 6 (u 1)),o 2 (m 7)]),
 .ret])⟩
def zpD:CFn:=⟨64,[.tmp 6],(q [(.reg [o 3 (.box 3 (t 0)),o 6 (.mv (c (.nils 1)))]),
 (q [(.reg [o 11 (la 3 3),o 12 (.call 32 [(t 11)]),o 13 (bc .neq 12 (n 0)),o 14 (m 13),g 15 14 false (m 1),g 16 14 false (bc .lss 15 (n 1)),o 17 (pt 14 16),o 18 (m 17),g 19 18 false (m 1),g 20 18 false (f 2 3),g 21 18 false (l 20),g 22 18 false (ln 21),g 23 18 false (.bin .shl (c (n 1)) (t 22)),g 24 18 false (b .geq 19 23),o 25 (pt 18 24)]),
 (i 25 (q [(.reg [o 6 (.mv (c (.nils 1)))]),
 .ret]) .skip)]),
 (.reg [o 7 (.mv (c (.nils 1)))]),
 (q [(.reg [o 26 (f 2 3),o 27 (l 26),o 28 (ln 27),o 29 (.mv (c (n 0)))]),
 (.block 0 (.loop (q [(.reg [o 30 (b .lss 29 28)]),
 (i 30 .skip (.exit 0)),
 (.block 1 (q [(.reg [o 31 (m 29),o 32 (ia 1 27 29),o 33 (l 32),o 8 (m 31),o 9 (m 33)]),
 (q [(.reg [o 34 (m 1),o 35 (m 8),o 36 (b .shr 34 35),o 37 (bc .and 36 (n 1)),o 38 (bc .eql 37 (n 0))]),
 (i 38 (.exit 1) .skip)]),
 (q [(.reg [o 39 (m 7),o 40 (.eqN false (t 39) (c (.nils 1)))]),
 (i 40 (q [(.reg [o 41 (m 9),o 42 (.call 76 [(t 41)]),o 7 (m 42)]),
 (.exit 1)]) .skip)]),
 (.reg [o 43 (m 7),o 44 (ln 43),o 45 (.mv (c (n 0)))]),
 (.block 2 (.loop (q [(.reg [o 46 (b .lss 45 44)]),
 (i 46 .skip (.exit 2)),
 (.block 3 (q [(.reg [o 47 (m 45),o 10 (m 47)]),
 (.regd [o 48 (m 7),o 49 (m 10),o 50 (m 2),o 51 (m 7),o 52 (m 10),o 53 (ia 1 51 52),o 54 (l 53),o 55 (m 9),o 56 (m 10),o 57 (ia 1 55 56),o 58 (l 57),o 59 (.callv (t 50) [(t 54),(t 58)]),o 60 (ia 1 48 49),w (.store 1 (t 60) (t 59))] [0,0,0,0,0,24,56,0,0,384,896,2044,4095,8191])])),
 (.reg [o 61 (bc .add 45 (n 1)),o 45 (m 61)])])))])),
 (.reg [o 62 (bc .add 29 (n 1)),o 29 (m 62)])])))]),
 (.reg [o 63 (m 7),o 6 (m 63)]),
 .ret])⟩
def zpC:CFn:=⟨8,[.tmp 4],(q [(.reg [o 4 (.mv (c (u 0)))]),
 (.reg [o 5 (m 0),o 6 (m 1),o 7 (b .and 5 6),o 4 (m 7)]),
 .ret])⟩
def zon:CFn:=⟨8,[.tmp 4],(q [(.reg [o 4 (.mv (c (u 0)))]),
 (.reg [o 5 (m 0),o 6 (m 1),o 7 (b .or 5 6),o 4 (m 7)]),
 .ret])⟩
def zm8:CFn:=⟨93,[],(q [(.reg [o 15 (f 0 1),o 16 (l 15),o 17 (.mkslice 1 8 [(n 0)] (t 16) (t 16)),o 4 (m 17)]),
 (.reg [o 18 (f 0 1),o 19 (l 18),o 20 (.mkslice 1 8 [(n 0)] (t 19) (t 19)),o 5 (m 20)]),
 (q [(.reg [o 21 (m 5),o 22 (ln 21),o 23 (.mv (c (n 0)))]),
 (.block 0 (.loop (q [(.reg [o 24 (b .lss 23 22)]),
 (i 24 .skip (.exit 0)),
 (.block 1 (q [(.reg [o 25 (m 23),o 6 (m 25)]),
 (.reg [o 26 (m 5),o 27 (m 6),o 28 (la 3 1),o 29 (m 6),o 30 (.call 51 [(t 28),(t 29)]),o 31 (ia 1 26 27),w (.store 1 (t 31) (t 30))])])),
 (.reg [o 32 (bc .add 23 (n 1)),o 23 (m 32)])])))]),
 (.reg [o 34 (m 4),o 35 (m 5),o 36 (.call 130 [(t 34),(t 35)]),o 33 (m 36),o 37 (e 33 0),o 38 (e 33 1),o 4 (m 37)]),
 (.block 2 (.loop (q [(q [(.reg [o 39 (m 0),o 40 (m 4),o 41 (.callv (t 39) [(t 40)])]),
 (i 41 .skip (.exit 2))]),
 (.block 3 (q [(.reg [o 42 .mkmap,o 7 (m 42)]),
 (.reg [o 43 (f 0 1),o 44 (l 43),o 45 (.mkslice 1 8 [(n 0)] (t 44) (t 44)),o 8 (m 45)]),
 (q [(.reg [o 46 (m 8),o 47 (ln 46),o 48 (.mv (c (n 0)))]),
 (.block 4 (.loop (q [(.reg [o 49 (b .lss 48 47)]),
 (i 49 .skip (.exit 4)),
 (.block 5 (q [(.reg [o 50 (m 48),o 9 (m 50)]),
 (.reg [o 10 (.mv (c (.d (.str []))))]),
 (q [(.reg [o 51 (l 2),o 52 (ln 51),o 53 (.mv (c (n 0)))]),
 (.block 6 (.loop (q [(.reg [o 54 (b .lss 53 52)]),
 (i 54 .skip (.exit 6)),
 (.block 7 (q [(.reg [o 55 (ia 1 51 53),o 56 (l 55),o 12 (m 56)]),
 (.reg [o 57 (m 10),o 58 (m 4),o 59 (m 12),o 60 (m 9),o 61 (ia 1 59 60),o 62 (l 61),o 63 (.call 132 [(t 58),(t 62)]),o 64 (.call 131 [(t 63),(c (n 16))]),o 65 (bc .add 64 (.d (.str [32]))),o 66 (b .add 57 65),o 10 (m 66)])])),
 (.reg [o 67 (bc .add 53 (n 1)),o 53 (m 67)])])))]),
 (q [(.reg [o 69 (m 7),o 70 (m 10),o 71 (.look .str [(n 0)] (t 69) (t 70) true),o 68 (m 71),o 72 (e 68 0),o 73 (e 68 1),o 13 (m 72),o 14 (m 73)]),
 (.reg [o 74 (m 14),o 75 (.un .not (t 74))]),
 (i 75 (.reg [o 76 (m 7),o 77 (m 10),o 78 (m 7),o 79 (.lenm (t 78)),w (.mupd .str (t 76) (t 77) (t 79))]) .skip)]),
 (.reg [o 80 (m 8),o 81 (m 9),o 82 (m 7),o 83 (m 10),o 84 (.look .str [(n 0)] (t 82) (t 83) false),o 85 (ia 1 80 81),w (.store 1 (t 85) (t 84))])])),
 (.reg [o 86 (bc .add 48 (n 1)),o 48 (m 86)])])))]),
 (.reg [o 88 (m 4),o 89 (m 8),o 90 (.call 130 [(t 88),(t 89)]),o 87 (m 90),o 91 (e 87 0),o 92 (e 87 1),o 4 (m 91)])]))])))])⟩
def zmf:CFn:=⟨20,[.tmp 4,.tmp 5],(q [(.reg [o 4 (.mv (c (.nils 1))),o 5 (.mv (c (n 0)))]),
 (q [(.reg [o 7 (m 0),o 8 (.call 50 [(t 7)]),o 6 (m 8)]),
 (.reg [o 9 (m 6),o 10 (bc .neq 9 (n 0))]),
 (i 10 (q [(.reg [o 11 (m 6),o 4 (.mv (c (.nils 1))),o 5 (m 11)]),
 .ret]) .skip)]),
 (q [(.reg [o 12 (m 0),o 13 (ln 12),o 14 (m 1),o 15 (ln 14),o 16 (b .neq 13 15)]),
 (i 16 (q [(.reg [o 4 (.mv (c (.nils 1))),o 5 (.mv (c (n 3)))]),
 .ret]) .skip)]),
 (.reg [o 17 (m 0),o 18 (m 1),o 19 (.call 163 [(t 17),(t 18)]),o 4 (m 19),o 5 (.mv (c (n 0)))]),
 .ret])⟩
def zjv:CFn:=⟨8,[.tmp 4],(q [(.reg [o 4 (.mv (c (.d (.str []))))]),
 (.reg [o 5 (m 0),o 6 (m 1),o 7 (.call 164 [(t 5),(t 6)]),o 4 (m 7)]),
 .ret])⟩
def zod:CFn:=⟨18,[.tmp 4],(q [(.reg [o 2 (.box 1 (t 0)),o 4 (.mv (c (u 0)))]),
 (.reg [o 5 (.alloc [(u 0)])]),
 (q [(.reg [o 7 (m 1),o 8 (.call 165 [(t 7)])]),
 (.block 0 (.rng (t 8) [9] (.reg [o 6 (m 9)]) (.block 1 (.regd [o 10 (l 5),o 11 (l 2),o 12 (m 6),o 13 (ia 1 11 12),o 14 (l 13),o 15 (.bin .shl (c (u 1)) (t 14)),o 16 (b .or 10 15),w (.store 1 (t 5) (t 16))] [0,0,0,6,14,30,63,127]))))]),
 (.reg [o 17 (l 5),o 4 (m 17)]),
 .ret])⟩
def zen:CFn:=⟨19,[.tmp 4],(q [(.reg [o 4 (.mv (c (n 0)))]),
 (q [(.reg [o 6 (m 0),o 7 (ln 6),o 8 (.mv (c (n 0)))]),
 (.block 0 (.loop (q [(.reg [o 9 (b .lss 8 7)]),
 (i 9 .skip (.exit 0)),
 (.block 1 (q [(.reg [o 10 (m 8),o 5 (m 10)]),
 (.reg [o 11 (m 1),o 12 (m 0),o 13 (m 5),o 14 (ia 1 12 13),o 15 (l 14),o 16 (.callv (t 11) [(t 15)])]),
 (i 16 (q [(.reg [o 17 (m 5),o 4 (m 17)]),
 .ret]) .skip)])),
 (.reg [o 18 (bc .add 8 (n 1)),o 8 (m 18)])])))]),
 (.reg [o 4 (.mv (c (n (-1))))]),
 .ret])⟩
def zeo:CFn:=⟨49,[],(q [(.reg [o 8 (m 1),o 9 (bc .add 8 (n 1)),o 6 (m 9)]),
 (.block 0 (.loop (q [(q [(.reg [o 10 (m 6),o 11 (m 2),o 12 (b .lss 10 11)]),
 (i 12 .skip (.exit 0))]),
 (.block 1 (q [(.reg [o 15 (m 6),o 7 (m 15)]),
 (.block 2 (.loop (q [(q [(.regd [o 16 (m 7),o 17 (m 1),o 18 (b .gtr 16 17),o 19 (m 18),g 20 19 true (m 0),g 21 19 true (m 7),g 22 19 true (ia 1 20 21),g 23 19 true (l 22),g 24 19 true (m 0),g 25 19 true (m 7),g 26 19 true (bc .sub 25 (n 1)),g 27 19 true (ia 1 24 26),g 28 19 true (l 27),g 29 19 true (.call 140 [(t 23),(t 28)]),o 30 (pf 19 29)] [0,0,3,7,15,15,63,127,15,15,527,1807,3855,8191,16383]),
 (i 30 .skip (.exit 2))]),
 (.block 3 (.regd [o 33 (m 0),o 34 (m 7),o 35 (m 0),o 36 (m 7),o 37 (bc .sub 36 (n 1)),o 38 (m 0),o 39 (m 7),o 40 (bc .sub 39 (n 1)),o 41 (ia 1 38 40),o 42 (l 41),o 43 (m 0),o 44 (m 7),o 45 (ia 1 43 44),o 46 (l 45),o 47 (ia 1 33 34),w (.store 1 (t 47) (t 42)),o 48 (ia 1 35 37),w (.store 1 (t 48) (t 46))] [0,0,0,0,8,0,0,64,224,480,0,0,3072,7168,16355,32739,65535,131071])),
 (.reg [o 31 (m 7),o 32 (bc .sub 31 (n 1)),o 7 (m 32)])])))])),
 (.reg [o 13 (m 6),o 14 (bc .add 13 (n 1)),o 6 (m 14)])])))])⟩
def zog:CFn:=⟨17,[.tmp 4],(q [(.reg [o 4 (.mv (c .bf))]),
 (.reg [o 5 (m 0),o 6 (.call 145 [(t 5)]),o 7 (m 6),g 8 7 true (m 1),g 9 7 true (.call 145 [(t 8)]),g 10 7 true (.un .not (t 9)),o 11 (pf 7 10),o 12 (m 11),g 13 12 false (m 0),g 14 12 false (m 1),g 15 12 false (b .lss 13 14),o 16 (pt 12 15),o 4 (m 16)]),
 .ret])⟩
def zna:CFn:=⟨6,[.tmp 2],(q [(.reg [o 2 (.mv (c .bf))]),
 (.reg [o 3 (m 0),o 4 (m 0),o 5 (b .neq 3 4),o 2 (m 5)]),
 .ret])⟩
def zmb:CFn:=⟨25,[.tmp 6],(q [(.reg [o 6 (.mv (c .bf))]),
 (.reg [o 7 (m 0),o 8 (m 7),g 9 8 true (m 1),g 10 8 true (bc .geq 9 (n 0)),o 11 (pf 8 10),o 12 (m 11),g 13 12 true (m 1),g 14 12 true (m 2),g 15 12 true (b .lss 13 14),o 16 (pf 12 15),o 17 (m 16),g 18 17 false (m 0),g 19 17 false (.un .not (t 18)),g 20 17 false (m 19),g 21 20 true (m 1),g 22 20 true (bc .eql 21 (n 0)),g 23 17 false (pf 20 22),o 24 (pt 17 23),o 6 (m 24)]),
 .ret])⟩
def ziq:CFn:=⟨20,[.tmp 8],(q [(.reg [o 8 (.mv (c .bf))]),
 (.reg [o 9 (m 0),o 10 (m 9),g 11 10 true (m 1),g 12 10 true (m 2),g 13 10 true (b .lss 11 12),g 14 10 true (m 13),g 15 14 false (m 1),g 16 14 false (m 3),g 17 14 false (b .gtr 15 16),g 18 10 true (pt 14 17),o 19 (pf 10 18),o 8 (m 19)]),
 .ret])⟩
def zkm:CFn:=⟨68,[.tmp 7],(q [(.reg [o 7 (.mv (c (n 0)))]),
 (q [(.reg [o 16 (l 1),o 17 (m 0),o 18 (.look (.int .i64) [(n 0)] (t 16) (t 17) true),o 15 (m 18),o 19 (e 15 0),o 20 (e 15 1),o 8 (m 19),o 9 (m 20)]),
 (.reg [o 21 (m 9)]),
 (i 21 (q [(.reg [o 22 (m 8),o 7 (m 22)]),
 .ret]) .skip)]),
 (.reg [o 23 (l 2),o 24 (m 0),o 25 (ia 6 23 24),o 26 (la 6 25),o 10 (.alloc [(n 0),(n 0),(n 0),(n 0),(n 0),(n 0)]),w (.store 6 (t 10) (t 26))]),
 (.reg [o 28 (f 0 10),o 29 (l 28),o 30 (.call 58 [(t 29)]),o 27 (m 30),o 31 (e 27 0),o 32 (e 27 1),o 11 (.alloc [.bf,.bf,.bf,.bf,.bf,.bf,(n 0)]),w (.store 7 (t 11) (t 31)),o 12 (m 32)]),
 (q [(.reg [o 33 (f 0 11),o 34 (l 33)]),
 (i 34 (.reg [o 35 (l 3),o 36 (f 4 10),o 37 (l 36),o 38 (.callv (t 35) [(t 37)]),o 39 (f 4 10),w (.store 1 (t 39) (t 38))]) .skip)]),
 (q [(.reg [o 40 (f 1 11),o 41 (l 40)]),
 (i 41 (.reg [o 42 (l 3),o 43 (f 5 10),o 44 (l 43),o 45 (.callv (t 42) [(t 44)]),o 46 (f 5 10),w (.store 1 (t 46) (t 45))]) .skip)]),
 (.reg [o 48 (l 4),o 49 (la 6 10),o 50 (.look (.agg [(.int .i64),(.int .i64),(.int .i64),(.int .i64),(.int .i64),(.int .i64)]) [(n 0)] (t 48) (t 49) true),o 47 (m 50),o 51 (e 47 0),o 52 (e 47 1),o 13 (m 51),o 14 (m 52)]),
 (q [(.reg [o 53 (m 14),o 54 (.un .not (t 53))]),
 (i 54 (q [(.reg [o 55 (l 5),o 56 (ln 55),o 13 (m 56)]),
 (.reg [o 57 (l 5),o 58 (la 6 10),o 59 (.bslice 6 1 [(n 0),(n 0),(n 0),(n 0),(n 0),(n 0)] [(0,(t 58))]),o 60 (.app 6 48 (t 57) (t 59)),w (.store 1 (t 5) (t 60))]),
 (.reg [o 61 (l 4),o 62 (la 6 10),o 63 (m 13),w (.mupd (.agg [(.int .i64),(.int .i64),(.int .i64),(.int .i64),(.int .i64),(.int .i64)]) (t 61) (t 62) (t 63))])]) .skip)]),
 (.reg [o 64 (l 1),o 65 (m 0),o 66 (m 13),w (.mupd (.int .i64) (t 64) (t 65) (t 66))]),
 (.reg [o 67 (m 13),o 7 (m 67)]),
 .ret])⟩
def zkA:CFn:=⟨12,[.tmp 4],(q [(.reg [o 2 (.box 6 (t 0)),o 3 (.box 7 (t 1)),o 4 (.mv (c (n 0)))]),
 (q [(.reg [o 5 (f 3 3),o 6 (l 5)]),
 (i 6 (q [(.reg [o 7 (f 1 2),o 8 (l 7),o 9 (.bin .shl (c (n 1)) (t 8)),o 4 (m 9)]),
 .ret]) .skip)]),
 (.reg [o 10 (f 3 2),o 11 (l 10),o 4 (m 11)]),
 .ret])⟩
def zl8:CFn:=⟨10,[.tmp 4],(q [(.reg [o 2 (.box 6 (t 0)),o 3 (.box 7 (t 1)),o 4 (.mv (c (n 0)))]),
 (q [(.reg [o 5 (f 2 3),o 6 (l 5)]),
 (i 6 (q [(.reg [o 7 (f 1 2),o 8 (l 7),o 9 (.bin .shl (c (n 1)) (t 8)),o 4 (m 9)]),
 .ret]) .skip)]),
 (.reg [o 4 (.mv (c (n 0)))]),
 .ret])⟩
def zkC:CFn:=⟨48,[.tmp 4],(q [(.reg [o 4 (.mv (c (.nils 1)))]),
 (.reg [o 11 .mkmap,o 5 (m 11)]),
 (.reg [o 12 (m 0),o 13 (ln 12),o 14 (.mkslice 1 8 [(n 0)] (t 13) (t 13)),o 6 (m 14)]),
 (q [(.reg [o 15 (m 0),o 16 (ln 15),o 17 (.mv (c (n 0)))]),
 (.block 0 (.loop (q [(.reg [o 18 (b .lss 17 16)]),
 (i 18 .skip (.exit 0)),
 (.block 1 (q [(.reg [o 19 (m 17),o 7 (m 19)]),
 (.regd [o 20 (m 0),o 21 (m 7),o 22 (ia 1 20 21),o 23 (l 22),o 24 (m 1),o 25 (m 7),o 26 (ia 1 24 25),o 27 (l 26),o 28 (.build [(n 0),(n 0)] [(0,1,(t 23)),(1,1,(t 27))]),o 8 (.alloc [(n 0),(n 0)]),w (.store 2 (t 8) (t 28))] [0,0,3,7,0,0,48,112,255,0,1023]),
 (q [(.reg [o 30 (m 5),o 31 (la 2 8),o 32 (.look (.agg [(.int .i64),(.int .i64)]) [(n 0)] (t 30) (t 31) true),o 29 (m 32),o 33 (e 29 0),o 34 (e 29 1),o 9 (m 33),o 10 (m 34)]),
 (.reg [o 35 (m 10),o 36 (.un .not (t 35))]),
 (i 36 (.reg [o 37 (m 5),o 38 (la 2 8),o 39 (m 7),w (.mupd (.agg [(.int .i64),(.int .i64)]) (t 37) (t 38) (t 39))]) .skip)]),
 (.reg [o 40 (m 6),o 41 (m 7),o 42 (m 5),o 43 (la 2 8),o 44 (.look (.agg [(.int .i64),(.int .i64)]) [(n 0)] (t 42) (t 43) false),o 45 (ia 1 40 41),w (.store 1 (t 45) (t 44))])])),
 (.reg [o 46 (bc .add 17 (n 1)),o 17 (m 46)])])))]),
 (.reg [o 47 (m 6),o 4 (m 47)]),
 .ret])⟩
def zoc:CFn:=⟨4,[.tmp 2],(q [(.reg [o 1 (.box 1 (t 0)),o 2 (.mv (c (.d .nil)))]),
 (.reg [o 3 (.fnew zcK [(t 1)]),o 2 (m 3)]),
 .ret])⟩
def znd:CFn:=⟨8,[.tmp 4],(q [(.reg [o 4 (.mv (c (n 0)))]),
 (.reg [o 5 (m 0),o 6 (m 1),o 7 (.call 197 [(t 5),(t 6),(c (.fn zbz []))]),o 4 (m 7)]),
 .ret])⟩
def zl5:CFn:=⟨14,[],(.block 0 (.loop (q [(q [(.reg [o 3 (l 1),o 4 (bc .neq 3 (u 0))]),
 (i 4 .skip (.exit 0))]),
 (.block 1 (q [(.reg [o 9 (m 0),o 10 (l 1),o 11 (.call 64 [(t 10)]),o 12 (.callv (t 9) [(t 11)]),o 13 (.un .not (t 12))]),
 (i 13 .ret .skip)])),
 (.reg [o 5 (l 1),o 6 (l 1),o 7 (bc .sub 6 (u 1)),o 8 (b .and 5 7),w (.store 1 (t 1) (t 8))])])))⟩
def zg5:CFn:=⟨36,[.tmp 6],(q [(.reg [o 6 (.mv (c (n 0)))]),
 (q [(.reg [o 9 (m 0),o 10 (ln 9),o 11 (m 1),o 12 (ln 11),o 13 (.mm false (t 10) (t 12)),o 14 (.mv (c (n 0)))]),
 (.block 0 (.loop (q [(.reg [o 15 (b .lss 14 13)]),
 (i 15 .skip (.exit 0)),
 (.block 1 (q [(.reg [o 16 (m 14),o 7 (m 16)]),
 (.regd [o 17 (m 2),o 18 (m 0),o 19 (m 7),o 20 (ia 1 18 19),o 21 (l 20),o 22 (m 1),o 23 (m 7),o 24 (ia 1 22 23),o 25 (l 24),o 26 (.callv (t 17) [(t 21),(t 25)]),o 8 (m 26)] [0,0,0,6,14,0,0,96,224,511,1023]),
 (.reg [o 27 (m 8),o 28 (bc .neq 27 (n 0))]),
 (i 28 (q [(.reg [o 29 (m 8),o 6 (m 29)]),
 .ret]) .skip)])),
 (.reg [o 30 (bc .add 14 (n 1)),o 14 (m 30)])])))]),
 (.reg [o 31 (m 0),o 32 (ln 31),o 33 (m 1),o 34 (ln 33),o 35 (.call 105 [(t 32),(t 34)]),o 6 (m 35)]),
 .ret])⟩
def zkB:CFn:=⟨8,[.tmp 4],(q [(.reg [o 4 (.mv (c (n 0)))]),
 (.reg [o 5 (m 0),o 6 (m 1),o 7 (.call 199 [(t 5),(t 6),(c (.fn zby []))]),o 4 (m 7)]),
 .ret])⟩
def zhC:CFn:=⟨36,[.tmp 6],(q [(.reg [o 6 (.mv (c (n 0)))]),
 (q [(.reg [o 9 (m 0),o 10 (ln 9),o 11 (m 1),o 12 (ln 11),o 13 (.mm false (t 10) (t 12)),o 14 (.mv (c (n 0)))]),
 (.block 0 (.loop (q [(.reg [o 15 (b .lss 14 13)]),
 (i 15 .skip (.exit 0)),
 (.block 1 (q [(.reg [o 16 (m 14),o 7 (m 16)]),
 (.regd [o 17 (m 2),o 18 (m 0),o 19 (m 7),o 20 (ia 1 18 19),o 21 (l 20),o 22 (m 1),o 23 (m 7),o 24 (ia 1 22 23),o 25 (l 24),o 26 (.callv (t 17) [(t 21),(t 25)]),o 8 (m 26)] [0,0,0,6,14,0,0,96,224,511,1023]),
 (.reg [o 27 (m 8),o 28 (bc .neq 27 (n 0))]),
 (i 28 (q [(.reg [o 29 (m 8),o 6 (m 29)]),
 .ret]) .skip)])),
 (.reg [o 30 (bc .add 14 (n 1)),o 14 (m 30)])])))]),
 (.reg [o 31 (m 0),o 32 (ln 31),o 33 (m 1),o 34 (ln 33),o 35 (.call 105 [(t 32),(t 34)]),o 6 (m 35)]),
 .ret])⟩
end Go.Ab
namespace Go.Ab
open Go Go.Proofs
theorem zu:Tryz.prog.follows .mixedOrders=true:=by kernel_rfl
theorem zle:zi Tryz.prog zga=some zkF:=by kernel_rfl
theorem zoO:zi Tryz.prog zhK=some zoe:=by kernel_rfl
theorem zoT:zi Tryz.prog zhO=some zoj:=by kernel_rfl
theorem zkq:zi Tryz.prog zfv=some zko:=by kernel_rfl
theorem zlc:zi Tryz.prog zf8=some zkD:=by kernel_rfl
theorem zki:zi Tryz.prog zdp=some zra:=by kernel_rfl
theorem zpW:zi Tryz.prog ziz=some zpz:=by kernel_rfl
theorem zoU:zi Tryz.prog zhP=some zok:=by kernel_rfl
theorem zmn:zi Tryz.prog zeq=some zl9:=by kernel_rfl
theorem zny:zi Tryz.prog zde=some zm7:=by kernel_rfl
theorem zrh:zi Tryz.prog zeC=some zq7:=by kernel_rfl
theorem zmq:zi Tryz.prog zgz=some zmc:=by kernel_rfl
theorem znE:zi Tryz.prog zhf=some zne:=by kernel_rfl
theorem zhn:zi Tryz.prog zdX=some zg8:=by kernel_rfl
theorem zms:zi Tryz.prog zer=some zme:=by kernel_rfl
theorem zri:zi Tryz.prog zeD=some zq8:=by kernel_rfl
theorem zmu:zi Tryz.prog zgA=some zmg:=by kernel_rfl
theorem zmv:zi Tryz.prog zgB=some zmh:=by kernel_rfl
theorem zml:zi Tryz.prog zgu=some zl6:=by kernel_rfl
theorem zoP:zi Tryz.prog zfc=some zof:=by kernel_rfl
theorem zmm:zi Tryz.prog zgv=some zl7:=by kernel_rfl
theorem ziS:zi Tryz.prog zU=some zpB:=by kernel_rfl
theorem zpV:zi Tryz.prog ziy=some zpy:=by kernel_rfl
theorem zo0:zi Tryz.prog zhR=some zoq:=by kernel_rfl
theorem zds:zi Tryz.prog zbg=some zdo:=by kernel_rfl
theorem zoW:zi Tryz.prog zdI=some zom:=by kernel_rfl
theorem ztD:zi Tryz.prog zmE=some ztf:=by kernel_rfl
theorem zoZ:zi Tryz.prog zhQ=some zop:=by kernel_rfl
theorem zoY:zi Tryz.prog zfe=some zoo:=by kernel_rfl
theorem zhF:zi Tryz.prog zek=some zhD:=by kernel_rfl
theorem zdr:zi Tryz.prog zaV=some zgm:=by kernel_rfl
theorem zoR:zi Tryz.prog zhM=some zoh:=by kernel_rfl
theorem zpX:zi Tryz.prog ziA=some zpA:=by kernel_rfl
theorem zfk:zi Tryz.prog zcl=some ze7:=by kernel_rfl
theorem zhl:zi Tryz.prog zb0=some zg6:=by kernel_rfl
theorem zp0:zi Tryz.prog ziC=some zpE:=by kernel_rfl
theorem zld:zi Tryz.prog zf9=some zkE:=by kernel_rfl
theorem zss:zi Tryz.prog zkS=some zrW:=by kernel_rfl
theorem zrj:zi Tryz.prog zkg=some zq9:=by kernel_rfl
theorem znA:zi Tryz.prog zhd=some zm9:=by kernel_rfl
theorem zrg:zi Tryz.prog zkf=some zq6:=by kernel_rfl
theorem zpU:zi Tryz.prog zix=some zpx:=by kernel_rfl
theorem zhm:zi Tryz.prog zdW=some zg7:=by kernel_rfl
theorem zdM:zi Tryz.prog zbs=some zdL:=by kernel_rfl
theorem zmr:zi Tryz.prog zcL=some zmd:=by kernel_rfl
theorem zdZ:zi Tryz.prog zbA=some zdR:=by kernel_rfl
theorem zst:zi Tryz.prog zkT=some zrX:=by kernel_rfl
theorem zfG:zi Tryz.prog zcX=some zfz:=by kernel_rfl
theorem zoV:zi Tryz.prog zdH=some zol:=by kernel_rfl
theorem zk9:zi Tryz.prog zby=some zkz:=by kernel_rfl
theorem zkp:zi Tryz.prog zdy=some zkn:=by kernel_rfl
theorem zmo:zi Tryz.prog zgw=some zma:=by kernel_rfl
theorem znC:zi Tryz.prog zeL=some znc:=by kernel_rfl
theorem znB:zi Tryz.prog zhe=some znb:=by kernel_rfl
theorem zoS:zi Tryz.prog zhN=some zoi:=by kernel_rfl
theorem znF:zi Tryz.prog zeM=some znf:=by kernel_rfl
theorem zp1:zi Tryz.prog ziD=some zpF:=by kernel_rfl
theorem zpZ:zi Tryz.prog ziB=some zpD:=by kernel_rfl
theorem zpY:zi Tryz.prog zfC=some zpC:=by kernel_rfl
theorem zoX:zi Tryz.prog zfd=some zon:=by kernel_rfl
theorem znz:zi Tryz.prog zdf=some zm8:=by kernel_rfl
theorem zmt:zi Tryz.prog zcM=some zmf:=by kernel_rfl
theorem zjT:zi Tryz.prog zdh=some zjv:=by kernel_rfl
theorem zoN:zi Tryz.prog zhJ=some zod:=by kernel_rfl
theorem zes:zi Tryz.prog zbN=some zen:=by kernel_rfl
theorem zet:zi Tryz.prog zaJ=some zeo:=by kernel_rfl
theorem zoQ:zi Tryz.prog zhL=some zog:=by kernel_rfl
theorem zhj:zi Tryz.prog zeK=some zna:=by kernel_rfl
theorem zmp:zi Tryz.prog zgx=some zmb:=by kernel_rfl
theorem ziR:zi Tryz.prog zcW=some ziq:=by kernel_rfl
theorem zL:zi Tryz.prog zj=some zkm:=by kernel_rfl
theorem zgf:zi Tryz.prog zdU=some zkA:=by kernel_rfl
theorem zgC:zi Tryz.prog zep=some zl8:=by kernel_rfl
theorem zlb:zi Tryz.prog zf7=some zkC:=by kernel_rfl
theorem zoM:zi Tryz.prog zhI=some zoc:=by kernel_rfl
theorem znD:zi Tryz.prog zdg=some znd:=by kernel_rfl
theorem zmk:zi Tryz.prog zcK=some zl5:=by kernel_rfl
theorem zhk:zi Tryz.prog zdV=some zg5:=by kernel_rfl
theorem zla:zi Tryz.prog zbz=some zkB:=by kernel_rfl
theorem zhE:zi Tryz.prog zej=some zhC:=by kernel_rfl
end Go.Ab
namespace Go.Ab
open Go Go.Proofs
set_option maxRecDepth 10000
set_option maxHeartbeats 4000000
variable {T:Nat→Obj→Prop}
def zaQ (n:Int):BitVec 64:=if n ≥ 64 then -1 else (1#64 <<< n.toNat) - 1#64
theorem zhW (n:Int) (h:0≤n):Fn Tryz.prog T ziD [.d (.int .i64 n)] [] (.d (.u64 (zaQ n))) []:=by
 refine zf zu zp1 (by show 1≤8;decide) ?_
 (repeat' ((conv=>whnf);first|refine vA ?_|(refine vF ?_ ?_<;>intro hc<;>try simp only [vL] at hc)|refine vT ?_|(refine vP ?_ ?_;·omega)|refine vY ?_));all_goals try conv=>whnf
 ·simp [zaQ, *]
 ·rw [zaQ,if_neg (by omega)];rfl
def bad (n:Int) (s:BitVec 64):Bool:=s &&& ~~~ (zaQ n)≠0
def zxa (worlds agents:Int) (val:List (BitVec 64)):Int :=
 if worlds < 1∨64 < worlds then 2 else if 8 < val.length∨4 < agents then 8 else if val.any (bad worlds) then 3 else 0
theorem zkZ (a b:List Int):Fn Tryz.prog T zdW [.d (dI a),.d (dI b)] [] (.d (.bool (a==b))) []:=by
 refine zf zu zhm (by show 2≤26;decide) ?_
 (repeat' ((conv=>whnf);first|refine vA ?_|(refine vD ?_ ?_<;>intro hc<;>try simp only [vL] at hc)|refine vJ fun hg=>?_|refine vT ?_|refine vZ ?_));all_goals try conv=>whnf
 ·have:a≠b:=fun e=>hc (by rw [e])
  simp [this]
 ·refine zaw (fun (k:Nat)=>[(0,.d (dI a)),(1,.d (dI b)),(12,.d (.int .i64 ((a.map (D.int .i64)).length:Int))),(13,.d (.int .i64 ((k:Int))))]) (fun (k:Nat)=>k≤a.length∧(a==b)=(a.drop k==b.drop k)) (fun (k:Nat)=>a.length - k) (0) (⟨by simp,by simp⟩) (by (repeat' first|exact trivial|exact rfl|refine And.intro ?_ ?_)) ?_
  rintro k ⟨hk,hI⟩
  (repeat' ((conv=>whnf);first|refine vA ?_|((first|refine vD ?_ ?_|refine vF ?_ ?_)<;>intro hc<;>try simp only [vL] at hc)|refine vT ?_|(refine vQ ?_ fun x hx=>?_;·omega)|(refine vO ?_ ?_;·omega)|(refine vU ?_ ?_;·kernel_rfl)|refine vZ ?_));all_goals try conv=>whnf
  ·rw [hI,zar ‹a[k]? = some _›,zar ‹b[k]? = some _›];simp [hc]
  ·exact ⟨k+1,[],[],⟨by (omega),by rw [hI,zar ‹a[k]? = some _›,zar ‹b[k]? = some _›];simp [hc]⟩,by (omega),by (refine ⟨rfl,rfl,rfl,?_,?_⟩;repeat' first|exact trivial|exact rfl|refine And.intro ?_ ?_)⟩
  ·rw [hI,List.drop_eq_nil_of_le (by omega),List.drop_eq_nil_of_le (by omega)];rfl
structure PM where
 W:Int
 val:List (BitVec 64)
 cell:List (List Int)
 rank:List (List Int)
 deriving DecidableEq
theorem zea (s:BitVec 64) (n:Nat):(s >>> n)&&&1#64=1#64↔s.getLsbD n=true:=by
 constructor
 ·intro h
  have:=congrArg (fun x=>x.getLsbD 0) h
  simpa using this
 ·intro h
  apply BitVec.eq_of_getLsbD_eq
  intro i hi
  by_cases h0:i=0
  ·subst h0;simpa using h
  ·simp [h0]
theorem zeG (s:BitVec 64) (n:Nat):(s >>> n)&&&1#64=0#64↔s.getLsbD n=false:=by
 constructor
 ·intro h
  have:=congrArg (fun x=>x.getLsbD 0) h
  simpa using this
 ·intro h
  apply BitVec.eq_of_getLsbD_eq
  intro i hi
  by_cases h0:i=0
  ·subst h0;simpa using h
  ·simp [h0]
@[irreducible] def bit (s:BitVec 64) (i:Nat):Bool:=s.getLsbD i
def at0 (l:List Int) (i:Nat):Int:=l.getD i 0
theorem zdP {l:List Int} {i:Nat} {x:Int} (h:l[i]? = some x):at0 l i=x:=by simp [at0,List.getD,h]
theorem zpS {l:List Int} {i:Nat} (h:i < l.length):l[i]? = some (at0 l i):=by simp [at0,List.getD,h]
abbrev zBi (cell:List Int):Prop := ∀ w,w < cell.length→0≤at0 cell w∧at0 cell w≤w∧at0 cell (at0 cell w).toNat=at0 cell w
abbrev zAC (cell rank:List Int):Prop := ∀ w,w < cell.length→0≤at0 rank w∧(at0 rank w=0 ∨ ∃ v,v < cell.length∧at0 cell v=at0 cell w∧at0 rank v=at0 rank w - 1)
end Go.Ab
namespace Go.Ab
open Go Go.Proofs
set_option maxRecDepth 10000
set_option maxHeartbeats 4000000
variable {T:Nat→Obj→Prop}
def zbc (f:Nat→Bool):Nat→BitVec 64
 | 0=>0#64
 | k+1=>if f k then zbc f k|||1#64 <<< k else zbc f k
theorem zpu (k i:Nat):(1#64 <<< k).getLsbD i=(decide (i < 64)&&decide (i=k)):=by
 rw [BitVec.getLsbD_shiftLeft]
 by_cases h:i < 64
 ·by_cases h1:i < k
  ·simp [h,h1];omega
  ·by_cases h2:i=k
   ·subst h2;simp [h]
   ·have:i - k≠0:=by omega
    simp [h,h1,h2,this]
 ·simp [h]
theorem zqV (f:Nat→Bool) : ∀ (n i:Nat),(zbc f n).getLsbD i=(decide (i < 64)&&decide (i < n)&&f i)
 | 0,i=>by simp [zbc]
 | n+1,i=>by
  have ih:=zqV f n i
  unfold zbc
  split
  ·rename_i h
   rw [BitVec.getLsbD_or,ih,zpu]
   by_cases h1:i=n
   ·subst h1;simp [h]
   ·by_cases h2:i < n
    ·simp [h1,h2,show i < n+1 by omega]
    ·simp [h1,h2,show ¬ i < n+1 by omega]
  ·rename_i h
   rw [ih]
   by_cases h1:i=n
   ·subst h1;simp [h]
   ·by_cases h2:i < n
    ·simp [h2,show i < n+1 by omega]
    ·simp [h2,show ¬ i < n+1 by omega]
end Go.Ab
namespace Go.Ab
open Go Go.Proofs
set_option maxRecDepth 10000
set_option maxHeartbeats 4000000
variable {T:Nat→Obj→Prop}
def zpf (l:List (List Int)) (a:Nat):List Int:=l.getD a []
abbrev zBI (p:PM):Prop := ∀ a,a < p.cell.length→((zpf p.cell a).length:Int)=p.W∧((zpf p.rank a).length:Int)=p.W
abbrev zxE (p:PM):Prop := ∀ a,a < p.cell.length→zBi (zpf p.cell a)
abbrev zvI (p:PM):Prop := ∀ a,a < p.cell.length→zAC (zpf p.cell a) (zpf p.rank a)
def zvZ (p:PM):Int :=
 if zxa p.W p.cell.length p.val≠0 then zxa p.W p.cell.length p.val
 else if p.rank.length≠p.cell.length then 3
 else if ¬zBI p then 3
 else if ¬zxE p then 1
 else if ¬zvI p then 9
 else 0
theorem zmj (n:Int) (r:List (BitVec 64)):Fn Tryz.prog T zeM [.d (.int .i64 n),.d (dU r)] [] (.d (.int .i64 (if n < 0∨64 < n then 2 else if (r.length:Int)≠n then 3 else if r.any (bad n) then 1 else 0))) []:=by
 refine zf zu znF (by show 2≤29;decide) ?_
 (repeat' ((conv=>whnf);first|refine vA ?_|((first|refine vD ?_ ?_|refine vF ?_ ?_)<;>intro hc<;>try simp only [vL] at hc)|refine vJ fun hg=>?_|refine vT ?_|refine vX ?_));all_goals try conv=>whnf
 ·rw [if_pos (.inl hc)]
 ·rw [if_pos (.inr hc)]
 ·rw [if_neg (by omega),if_pos hc]
 refine zaw (fun (k:Nat)=>[(0,.d (.int .i64 (n))),(17,.d (dU r)),(18,.d (.int .i64 ((r.map D.u64).length:Int))),(19,.d (.int .i64 ((k:Int))))]) (fun (k:Nat)=>k≤r.length∧r.any (bad n)=(r.drop k).any (bad n)) (fun (k:Nat)=>r.length - k) (0) (⟨by simp,by simp⟩) (by (repeat' first|exact trivial|exact rfl|refine And.intro ?_ ?_)) ?_
 rintro k ⟨hk,hI⟩
 (repeat' ((conv=>whnf);first|refine vA ?_|((first|refine vD ?_ ?_|refine vF ?_ ?_)<;>intro hc<;>try simp only [vL] at hc)|refine vT ?_|(refine vQ ?_ fun x hx=>?_;·omega)|(refine vO ?_ ?_;·omega)|refine vX ?_|(refine yD (zhW _ ?_) ⟨⟨rfl,rfl⟩,rfl⟩ rfl ?_;(·omega))|fail));all_goals try conv=>whnf
 ·have hb:bad n x=true:=by simpa [bad] using hc
  rw [if_neg (by omega),if_neg (by omega),hI,zar hx];simp [hb]
 ·have hb:bad n x=false:=by simpa [bad] using hc
  exact ⟨k+1,[],[],⟨by (omega),by rw [hI,zar hx];simp [hb]⟩,by (omega),by (refine ⟨rfl,rfl,rfl,?_,?_⟩;repeat' first|exact trivial|exact rfl|refine And.intro ?_ ?_)⟩
 ·rw [if_neg (by omega),if_neg (by omega),hI,List.drop_eq_nil_of_le (by omega)];simp
end Go.Ab
namespace Go.Ab
open Go Go.Proofs
set_option maxRecDepth 10000
set_option maxHeartbeats 4000000
variable {T:Nat→Obj→Prop}
structure At (p:PM) (a w:Int):Prop where
 ok:zvZ p=0
 a0:0≤a
 a1:a < p.cell.length
 w0:0≤w
 w1:w < p.W
instance (p:PM) (a w:Int):Decidable (At p a w):=decidable_of_iff (zvZ p=0∧0≤a∧a < p.cell.length∧0≤w∧w < p.W) ⟨fun ⟨a,b,c,d,e⟩=>⟨a,b,c,d,e⟩,fun ⟨a,b,c,d,e⟩=>⟨a,b,c,d,e⟩⟩
theorem zh4 {β:Type} {g:Nat→β} {n k:Nat} (x:β):((List.range n).map g).set k x=(List.range n).map fun u=>if u=k then x else g u:=by
 refine List.ext_getElem (by simp) fun i h1 h2=>?_
 rw [List.getElem_set]
 by_cases e:k=i
 ·subst e;simp
 ·simp [e,Ne.symm e]
theorem zaj {β:Type} {g h:Nat→β} {n:Nat} (e : ∀ u,u < n→g u=h u):(List.range n).map g=(List.range n).map h :=
 List.map_congr_left fun u hu=>e u (List.mem_range.1 hu)
theorem zwr {n k x:Nat} (h:(List.range n)[k]? = some x):x=k:=by
 obtain ⟨h1,rfl⟩:=List.getElem?_eq_some_iff.1 h
 simp
theorem zbK {β:Type} (x:β) (n:Nat):List.replicate n x=(List.range n).map fun _=>x:=by
 refine List.ext_getElem (by simp) fun i h1 h2=>by simp
end Go.Ab
namespace Go.Ab
open Go Go.Proofs
set_option maxRecDepth 10000
set_option maxHeartbeats 4000000
variable {T:Nat→Obj→Prop}
structure KM where
 W:Int
 val:List (BitVec 64)
 rel:List (List (BitVec 64))
 deriving DecidableEq
abbrev dKM (m:KM):D := .agg [.int .i64 m.W,dU m.val,dUU m.rel]
abbrev zcJ (m:KM):Ob := .box [.d (.int .i64 m.W),.d (dU m.val),.d (dUU m.rel)]
end Go.Ab
namespace Go.Ab
open Go Go.Proofs
set_option maxRecDepth 10000
set_option maxHeartbeats 4000000
variable {T:Nat→Obj→Prop}
theorem zeF {n:Int} {i:Nat} (h1:0≤n) (hi:i < 64):(zaQ n).getLsbD i=decide ((i:Int) < n):=by
 unfold zaQ
 split
 ·rename_i h
  rw [show ((-1:BitVec 64))=BitVec.allOnes 64 from rfl,BitVec.getLsbD_allOnes]
  simp [hi];omega
 ·rename_i h
  obtain ⟨m,rfl⟩:=Int.eq_ofNat_of_zero_le h1
  have hm:m < 64:=by omega
  rw [show (1#64 <<< (m:Int).toNat - 1#64)=BitVec.setWidth 64 (BitVec.allOnes m) from ?_]
  ·rw [BitVec.getLsbD_setWidth,BitVec.getLsbD_allOnes];simp [hi]
  ·apply BitVec.eq_of_toNat_eq
   have h2:2 ^ m < 2 ^ 64:=Nat.pow_lt_pow_right (by omega) hm
   have h3:0 < 2 ^ m:=Nat.two_pow_pos m
   rw [BitVec.toNat_sub,BitVec.toNat_shiftLeft,BitVec.toNat_setWidth,BitVec.toNat_allOnes]
   simp only [Int.toNat_natCast,Nat.shiftLeft_eq]
   rw [show (1#64).toNat=1 from rfl,Nat.one_mul,Nat.mod_eq_of_lt h2,Nat.mod_eq_of_lt (show 2 ^ m - 1 < 2 ^ 64 by omega)]
   omega
end Go.Ab
namespace Go.Ab
open Go Go.Proofs
set_option maxRecDepth 10000
set_option maxHeartbeats 4000000
variable {T:Nat→Obj→Prop}
def zR (s:BitVec 64):List Nat:=(List.range 64).filter fun i=>s.getLsbD i
theorem zkW {p:Nat→Bool} {k:Nat} (hk:p k=true) (hlow : ∀ i,i < k→p i=false) : ∀ n,k < n→(List.range n).filter p=k::(List.range n).filter fun i=>p i&&i != k
 | 0,h=>by omega
 | n+1,h=>by
  rw [List.range_succ,List.filter_append,List.filter_append]
  by_cases e:k=n
  ·subst e
   have h1:(List.range k).filter p=[]:=by
    rw [List.filter_eq_nil_iff];intro i hi;rw [hlow i (List.mem_range.1 hi)];simp
   have h2:((List.range k).filter fun i=>p i&&i != k)=[]:=by
    rw [List.filter_eq_nil_iff];intro i hi;rw [hlow i (List.mem_range.1 hi)];simp
   rw [h1,h2]
   simp [hk]
  ·rw [zkW hk hlow n (by omega)]
   have:(n != k)=true:=by simp;omega
   have:List.filter (fun i=>p i&&i != k) [n]=List.filter p [n]:=by
    simp only [List.filter,this,Bool.and_true]
   rw [this];rfl
theorem zub (s:BitVec 64) (h:s≠0#64):Lib.ctz 64 s.toNat < 64∧s.getLsbD (Lib.ctz 64 s.toNat)=true∧(∀ i,i < Lib.ctz 64 s.toNat→s.getLsbD i=false) ∧
  ∀ i,(s&&&(s - 1#64)).getLsbD i=(s.getLsbD i&&i != Lib.ctz 64 s.toNat):=by
 have h0:s.toNat≠0:=fun e=>h (BitVec.eq_of_toNat_eq (by simpa using e))
 have hc:Lib.ctz 64 s.toNat=Lib.ctzFrom 64 s.toNat:=by rw [Lib.ctz,if_neg h0]
 rw [hc]
 obtain ⟨m,hm,hlt⟩:=Lib.ctzFrom_spec 64 s.toNat (by omega) s.isLt
 generalize Lib.ctzFrom 64 s.toNat=k at hm hlt
 have hp:0 < 2 ^ k:=Nat.two_pow_pos k
 have hs:s.toNat=2 ^ k * (2 * m+1)+0:=hm
 have hbit : ∀ i,s.getLsbD i=if i < k then false else (2 * m+1).testBit (i - k):=fun i=>by
  rw [BitVec.getLsbD,hs,Nat.testBit_two_pow_mul_add _ hp]
  simp
 have hsub:(s - 1#64).toNat=2 ^ k * (2 * m)+(2 ^ k - 1):=by
  rw [BitVec.toNat_sub]
  have hlt':=s.isLt
  rw [hm] at hlt' ⊢
  rw [show (1#64).toNat=1 from rfl,Nat.mul_add,Nat.mul_one]
  rw [Nat.mul_add,Nat.mul_one] at hlt'
  omega
 have hbit' : ∀ i,(s - 1#64).getLsbD i=if i < k then (2 ^ k - 1).testBit i else (2 * m).testBit (i - k):=fun i=>by
  rw [BitVec.getLsbD,hsub,Nat.testBit_two_pow_mul_add _ (by omega)]
 refine ⟨hlt,?_,fun i hi=>?_,fun i=>?_⟩
 ·rw [hbit,if_neg (by omega),Nat.sub_self,Nat.testBit_zero];simp
 ·rw [hbit,if_pos hi]
 ·rw [BitVec.getLsbD_and,hbit,hbit']
  by_cases h1:i < k
  ·simp [h1]
  ·simp only [h1,if_false]
   by_cases h2:i=k
   ·subst h2;simp [Nat.testBit_zero]
   ·obtain ⟨j,hj⟩ : ∃ j,i - k=j+1:=⟨i - k - 1,by omega⟩
    rw [hj,Nat.testBit_succ,Nat.testBit_succ]
    have e1:(2 * m+1) / 2=m:=by omega
    have e2:2 * m / 2=m:=by omega
    rw [e1,e2]
    simp [h2]
theorem zib (s:BitVec 64) (h:s≠0#64):zR s=Lib.ctz 64 s.toNat::zR (s&&&(s - 1#64)):=by
 obtain ⟨h1,h2,h3,h4⟩:=zub s h
 rw [zR,zkW h2 h3 64 h1,zR]
 congr 1
 exact List.filter_congr fun i _=>(h4 i).symm
theorem zic:zR 0#64=[]:=by decide
abbrev zjz (s:BitVec 64):List (List D):=(zR s).map fun (i:Nat)=>[D.int .i64 (i:Int)]
def ze5 (T:Nat→Obj→Prop):Prop := ∀ x:BitVec 64,Fn Tryz.prog T zaM [.d (.u64 x)] [] (.d (.int .i64 (Lib.ctz 64 x.toNat))) []
theorem zv2 {s:BitVec 64} {i:Nat} {x:List D} (h:(zjz s)[i]? = some x) : ∃ w:Nat,(zR s)[i]? = some w∧x=[.int .i64 (w:Int)]∧s.getLsbD w=true∧w < 64:=by
 rw [List.getElem?_map,Option.map_eq_some_iff] at h
 obtain ⟨w,hw,rfl⟩:=h
 have:=List.mem_filter.1 (List.mem_of_getElem? hw)
 exact ⟨w,hw,rfl,this.2,List.mem_range.1 this.1⟩
def rb (r:List (BitVec 64)) (w v:Nat):Bool:=(r.getD w 0#64).getLsbD v
theorem zrx {r:List (BitVec 64)} {w:Nat} {s:BitVec 64} (h:r[w]? = some s) (v:Nat):rb r w v=s.getLsbD v:=by simp [rb,List.getD,h]
theorem zwX {r:List (BitVec 64)} {w v:Nat} (h:r.length≤w):rb r w v=false:=by simp [rb,List.getD,h]
def zks (r:List (BitVec 64)):Prop := ∀ w v,rb r w v=true→v < r.length
theorem zo2 {s:BitVec 64} {v:Nat} : v∈zR s↔s.getLsbD v=true:=by
 rw [zR,List.mem_filter,List.mem_range]
 constructor
 ·exact fun h=>h.2
 ·exact fun h=>⟨BitVec.lt_of_getLsbD h,h⟩
theorem zsJ (s:BitVec 64):(zR s).Nodup:=List.nodup_range.filter _
def zeE {α:Type} (p:α→Bool) (l:List α):Int:=if l.findIdx p < l.length then (l.findIdx p:Int) else -1
theorem zgc {α:Type} {p:α→Bool} {l:List α} {k:Nat} {x:α} (h:l[k]? = some x) (hp:p x=true) (hI : ∀ i y,i < k→l[i]? = some y→p y=false):zeE p l=k:=by
 obtain ⟨hk,rfl⟩:=List.getElem?_eq_some_iff.1 h
 have:l.findIdx p=k:=by
  rw [List.findIdx_eq hk]
  exact ⟨hp,fun j hj=>by simpa using hI j l[j] hj (List.getElem?_eq_getElem (by omega))⟩
 rw [zeE,this,if_pos hk]
theorem zjF {α:Type} {p:α→Bool} {l:List α} (hI : ∀ i y,i < l.length→l[i]? = some y→p y=false):zeE p l = -1:=by
 rw [zeE,if_neg]
 intro h
 have h1:=List.findIdx_getElem (p:=p) (xs:=l) (w:=h)
 rw [hI _ _ h (List.getElem?_eq_getElem h)] at h1;cases h1
theorem zsd {α:Type} {p:α→Bool} {l:List α} : 0≤zeE p l ↔ ∃ x∈l,p x=true:=by
 rw [zeE,← List.findIdx_lt_length]
 split<;>omega
theorem zk0 (l:List Int) (x:Int):Fn Tryz.prog T zdX [.d (dI l),.d (.int .i64 x)] [] (.d (.int .i64 (zeE (fun y=>x==y) l))) []:=by
 refine zf zu zhn (by show 2≤19;decide) ?_
 (repeat' ((conv=>whnf);first|refine vA ?_|refine vJ fun hg=>?_|refine vT ?_));all_goals try conv=>whnf
 refine zaw (fun (k:Nat)=>[(0,.d (dI l)),(1,.d (.int .i64 (x))),(7,.d (.int .i64 ((l.map (D.int .i64)).length:Int))),(8,.d (.int .i64 ((k:Int))))]) (fun (k:Nat)=>k≤l.length ∧ ∀ i y,i < k→l[i]? = some y→(x==y)=false) (fun (k:Nat)=>l.length - k) (0) (⟨by simp,by simp⟩) (by (repeat' first|exact trivial|exact rfl|refine And.intro ?_ ?_)) ?_
 rintro k ⟨hk,hI⟩
 (repeat' ((conv=>whnf);first|refine vA ?_|(refine vF ?_ ?_<;>intro hc<;>try simp only [vL] at hc)|refine vT ?_|(refine vQ ?_ fun x hx=>?_;·omega)|(refine vO ?_ ?_;·omega)|refine vX ?_));all_goals try conv=>whnf
 ·exact (zgc hx (by simpa using hc) hI).symm
 ·have hne:=hc
  exact ⟨k+1,[],[],⟨by (omega),fun i y hi hy=>by
   by_cases e:i=k
   ·subst e;rw [hx] at hy;cases hy;simpa using hne
   ·exact hI i y (by omega) hy⟩,by (omega),by (refine ⟨rfl,rfl,rfl,?_,?_⟩;repeat' first|exact trivial|exact rfl|refine And.intro ?_ ?_)⟩
 ·exact (zjF fun i y hi hy=>hI i y (by omega) hy).symm
def zae (r:List (BitVec 64)):Int:=if 64 < r.length then 2 else if r.any (bad r.length) then 1 else 0
theorem zmL (r:List (BitVec 64)):Fn Tryz.prog T zeM [.d (.int .i64 ((r.map D.u64).length:Int)),.d (dU r)] [] (.d (.int .i64 (zae r))) []:=by
 have h:=zmj (T:=T) (r.length:Int) r
 have e:zae r=if (r.length:Int) < 0∨(64:Int) < (r.length:Int) then 2 else if (r.length:Int)≠(r.length:Int) then 3 else if r.any (bad (r.length:Int)) then 1 else 0:=by
  unfold zae
  by_cases h1:64 < r.length
  ·rw [if_pos h1,if_pos (.inr (Int.ofNat_lt.2 h1))]
  ·rw [if_neg h1,if_neg (show ¬((r.length:Int) < 0∨(64:Int) < (r.length:Int)) by omega),if_neg (show ¬((r.length:Int)≠(r.length:Int)) by simp)]
 rw [List.length_map,e];exact h
theorem zkx {n:Int} {s:BitVec 64} (h:0≤n):bad n s=false ↔ ∀ i,s.getLsbD i=true→(i:Int) < n:=by
 rw [bad,decide_eq_false_iff_not,Classical.not_not]
 constructor
 ·intro e i hi
  have hlt:=BitVec.lt_of_getLsbD hi
  have:=congrArg (fun x=>x.getLsbD i) e
  simp only [BitVec.getLsbD_and,BitVec.getLsbD_not,hlt,decide_true,Bool.true_and,hi,zeF h hlt] at this
  simpa using this
 ·intro hs
  apply BitVec.eq_of_getLsbD_eq
  intro i hi
  rw [BitVec.getLsbD_and,BitVec.getLsbD_not,zeF h hi]
  cases hb:s.getLsbD i with
  | false=>simp
  | true=>have:=hs i hb;simp [hi,this]
theorem zbv {r:List (BitVec 64)} : zae r=0↔r.length≤64∧zks r:=by
 unfold zae
 by_cases h1:64 < r.length
 ·rw [if_pos h1];simp;omega
 ·rw [if_neg h1]
  have:(r.any (bad r.length)=false)↔zks r:=by
   rw [List.any_eq_false]
   constructor
   ·intro h w v hv
    by_cases hw:w < r.length
    ·have:=(zkx (n:=(r.length:Int)) (by omega)).1 (by simpa using h r[w] (List.getElem_mem hw)) v (by rw [← zrx (List.getElem?_eq_getElem hw)];exact hv)
     omega
    ·rw [zwX (by omega)] at hv;cases hv
   ·intro h s hs
    obtain ⟨w,hw⟩:=List.getElem?_of_mem hs
    rw [(zkx (n:=(r.length:Int)) (by omega)).2 (fun i hi=>by have:=h w i (by rw [zrx hw];exact hi);omega)]
    simp
  cases hb:r.any (bad r.length) with
  | true =>
   rw [if_pos rfl]
   have : ¬ zks r:=fun h=>by have:=this.2 h;rw [hb] at this;cases this
   simp [this]
  | false =>
   simp only [Bool.false_eq_true,if_false,true_iff]
   exact ⟨by omega,this.1 hb⟩
theorem ztd {x y:BitVec 64} : x &&& ~~~y=0#64 ↔ ∀ i,x.getLsbD i=true→y.getLsbD i=true:=by
 constructor
 ·intro e i hi
  have hlt:=BitVec.lt_of_getLsbD hi
  have:=congrArg (fun x=>x.getLsbD i) e
  simp only [BitVec.getLsbD_and,BitVec.getLsbD_not,hlt,decide_true,Bool.true_and,hi] at this
  simpa using this
 ·intro h
  apply BitVec.eq_of_getLsbD_eq
  intro i hi
  rw [BitVec.getLsbD_and,BitVec.getLsbD_not]
  cases hb:x.getLsbD i with
  | false=>simp
  | true=>simp [hi,h i hb]
end Go.Ab
namespace Go.Ab
open Go Go.Proofs
set_option maxRecDepth 10000
set_option maxHeartbeats 4000000
variable {T:Nat→Obj→Prop}
theorem zS.objs {P:Program} {M:Nat→Option Ob} {n f:Nat} {vs lvs:List V} {obs:List Ob} {lv:V} {obs':List (Option Ob)} {K:V→Upd→Nat→Prop} (js:List Nat) (hf:Fn P T f lvs obs lv obs') (ha:VPasses M js [] 20 lvs vs)
  (ho:zas M js [] obs js) (hnd:nodup js=true) (hsj:zd9 js (zF M vs)=true) (hle:js.length≤obs'.length)
  (hK:K (zj2 js n 20 lv) (zfR js [] n obs' false) (obs'.length - js.length)):zS (zb6 P T) M n f vs K :=
 ⟨⟨_,_,_,⟨js,[],false,lvs,obs,lv,obs',hf,ha,ho,hnd,by simp [zdb],hsj,by simp [zd9],hle,nofun,rfl,rfl,rfl⟩,hK⟩⟩
section
variable {α:Type} [Inhabited α]
theorem ztT {d:Array α} {i:Nat} (h:i < d.size):d.toList[i]? = some d[i]! := by
 simp [h]
theorem zbl {d:Array α} {i:Nat} {x:α} (h:d.toList[i]? = some x):d[i]! = x∧i < d.size:=by
 obtain ⟨h1,h2⟩:=List.getElem?_eq_some_iff.1 h
 rw [Array.length_toList] at h1
 exact ⟨by simp [h1];simpa using h2,h1⟩
theorem zAw {enc:α→D} {d:Array α} {i j:Nat} {x y:α} (hi:d.toList[i]? = some x) (hj:d.toList[j]? = some y):((d.toList.map enc).set i (enc y)).set j (enc x)=(Sort.swp d i j).toList.map enc:=by
 obtain ⟨e1,_⟩:=zbl hi
 obtain ⟨e2,_⟩:=zbl hj
 simp [Sort.swp,e1,e2,List.map_set]
theorem zf1 {d:Array α} {i:Int} {x:α} (k:Nat) (h:d.toList[i.toNat]? = some x) (hk:i=k):d.toList[k]? = some x:=by subst hk;exact h
theorem zze (d:Array α) (i j:Nat):(Sort.swp d i j).size=d.size:=by simp [Sort.swp]
variable {lt:α→α→Bool}
theorem zrf {a j:Nat} {d:Array α} (h : ¬(a < j∧lt d[j]! d[j - 1]! = true)):Sort.insInner lt a j d=d:=by
 cases j with
 | zero=>rfl
 | succ j =>
  unfold Sort.insInner
  rw [if_neg]
  simpa using h
theorem zre {a j:Nat} {d:Array α} (h1:a < j) (h2:lt d[j]! d[j - 1]! = true):Sort.insInner lt a j d=Sort.insInner lt a (j - 1) (Sort.swp d j (j - 1)):=by
 cases j with
 | zero=>omega
 | succ j =>
  rw [Sort.insInner,if_pos]
  ·simp
  ·simp at h2 ⊢;exact ⟨by omega,h2⟩
end
end Go.Ab
namespace Go.Ab
open Go
def z2 (e:Nat→Nat→Bool) (w:Nat):Nat:=((List.range w).find? fun v=>e v w).getD w
theorem ziX (e:Nat→Nat→Bool) (w:Nat):(z2 e w < w∧e (z2 e w) w=true∨z2 e w=w) ∧ ∀ v,v < z2 e w→e v w=false:=by
 unfold z2
 cases h:(List.range w).find? fun v=>e v w with
 | none =>
  refine ⟨.inr rfl,fun v hv=>?_⟩
  have:=List.find?_eq_none.1 h v (List.mem_range.2 hv)
  simpa using this
 | some u =>
  obtain ⟨h1,l1,l2,h2,h3⟩:=List.find?_eq_some_iff_append.1 h
  have hu:u∈List.range w:=by rw [h2];simp
  have hlen:l1.length=u:=by
   have h4:(List.range w)[l1.length]? = some u:=by rw [h2];simp
   rw [List.getElem?_range (by
    have:l1.length < (List.range w).length:=by rw [h2];simp
    simpa using this)] at h4
   exact Option.some.inj h4
  refine ⟨.inl ⟨List.mem_range.1 hu,h1⟩,fun v hv=>?_⟩
  have hv:v < u:=hv
  have hm:v∈l1:=by
   have h4:(List.range w)[v]? = some v:=List.getElem?_range (by have:=List.mem_range.1 hu;omega)
   rw [h2,List.getElem?_append_left (by omega)] at h4
   exact List.mem_of_getElem? h4
  simpa using h3 v hm
theorem zvi (e:Nat→Nat→Bool) (w:Nat):z2 e w≤w:=by
 rcases (ziX e w).1 with h|h<;>omega
theorem zsA {e:Nat→Nat→Bool} {w v:Nat} (h:v < z2 e w):e v w=false:=(ziX e w).2 v h
structure Eqv (e:Nat→Nat→Bool):Prop where
 refl : ∀ v,e v v=true
 symm : ∀ v w,e v w=true→e w v=true
 trans : ∀ u v w,e u v=true→e v w=true→e u w=true
section
variable {e:Nat→Nat→Bool} (he:Eqv e)
include he
theorem znG (w:Nat):e (z2 e w) w=true:=by
 rcases (ziX e w).1 with h|h
 ·exact h.2
 ·rw [h];exact he.refl w
theorem zlg {v w:Nat} : z2 e v=z2 e w↔e v w=true:=by
 constructor
 ·intro h
  have h1:=znG he v
  rw [h] at h1
  exact he.trans _ _ _ (he.symm _ _ h1) (znG he w)
 ·intro h
  have a : ∀ {v w},e v w=true→z2 e w≤z2 e v:=by
   intro v w h
   rcases Nat.lt_or_ge (z2 e v) (z2 e w) with hl|hl
   ·have:=zsA hl
    rw [he.trans _ _ _ (znG he v) h] at this;cases this
   ·exact hl
  have:=a h;have:=a (he.symm _ _ h);omega
theorem zBA (w:Nat):z2 e (z2 e w)=z2 e w:=(zlg he).2 (znG he w)
end
theorem zhp {e e':Nat→Nat→Bool} {w:Nat} (h : ∀ v,v≤w→e v w=e' v w):z2 e w=z2 e' w:=by
 have a : ∀ {e e':Nat→Nat→Bool},(∀ v,v≤w→e v w=e' v w)→z2 e w≤z2 e' w:=by
  intro e e' h
  rcases Nat.lt_or_ge (z2 e' w) (z2 e w) with hl|hl
  ·have h1:=zsA hl
   have hle:=zvi e w
   rcases (ziX e' w).1 with h2|h2
   ·rw [h _ (by omega),h2.2] at h1;cases h1
   ·omega
  ·exact hl
 have:=a h;have:=a fun v hv=>(h v hv).symm;omega
structure zaH (n:Nat) (q:Nat→Nat):Prop where
 le : ∀ w,w < n→q w≤w
 idem : ∀ w,w < n→q (q w)=q w
theorem zeO {e:Nat→Nat→Bool} (he:Eqv e) (n:Nat):zaH n (z2 e):=⟨fun w _=>zvi e w,fun w _=>zBA he w⟩
def zbQ {α:Type} [DecidableEq α] (k:Nat→α) (v w:Nat):Bool:=decide (k v=k w)
theorem zcB {α:Type} [DecidableEq α] (k:Nat→α):Eqv (zbQ k) :=
 ⟨fun v=>by simp [zbQ],fun v w h=>by simp only [zbQ,decide_eq_true_eq] at h ⊢;exact h.symm,fun u v w h h'=>by simp only [zbQ,decide_eq_true_eq] at h h' ⊢;exact h.trans h'⟩
theorem zjw {n:Nat} {q:Nat→Nat} (h:zaH n q) {w:Nat} (hw:w < n):z2 (zbQ q) w=q w:=by
 have h1:=h.le w hw
 have h2:=h.idem w hw
 have h3:z2 (zbQ q) w≤q w:=by
  rcases Nat.lt_or_ge (q w) (z2 (zbQ q) w) with hl|hl
  ·have:=zsA hl
   simp [zbQ,h2] at this
  ·exact hl
 have h4:=znG (zcB q) w
 simp only [zbQ,decide_eq_true_eq] at h4
 have h5:=h.le (z2 (zbQ q) w) (by omega)
 omega
def zaE (q:Nat→Nat) (s:BitVec 64) (k:Nat):BitVec 64:=(List.range k).foldl (fun o w=>if s.getLsbD w=true then o|||1#64 <<< q w else o) 0#64
theorem zf3 (q:Nat→Nat) (s:BitVec 64) (k:Nat):zaE q s (k+1)=if s.getLsbD k=true then zaE q s k|||1#64 <<< q k else zaE q s k:=by
 unfold zaE;rw [List.range_succ,List.foldl_append];rfl
def zfr (n:Nat) (rels:List (Nat→BitVec 64)) (q:Nat→Nat) (v w:Nat):Bool:=decide (q v=q w)&&rels.all fun r=>decide (zaE q (r v) n=zaE q (r w) n)
theorem zh2 (n:Nat) (rels:List (Nat→BitVec 64)) (q:Nat→Nat):Eqv (zfr n rels q):=by
 refine ⟨fun v=>by simp [zfr],fun v w h=>?_,fun u v w h h'=>?_⟩
 ·simp only [zfr,Bool.and_eq_true,decide_eq_true_eq,List.all_eq_true] at h ⊢
  exact ⟨h.1.symm,fun r hr=>(h.2 r hr).symm⟩
 ·simp only [zfr,Bool.and_eq_true,decide_eq_true_eq,List.all_eq_true] at h h' ⊢
  exact ⟨h.1.trans h'.1,fun r hr=>(h.2 r hr).trans (h'.2 r hr)⟩
def zbi (n:Nat) (rels:List (Nat→BitVec 64)) (q:Nat→Nat):Nat→Nat:=z2 (zfr n rels q)
theorem zmX (n:Nat) (rels:List (Nat→BitVec 64)) (q:Nat→Nat) (m:Nat):zaH m (zbi n rels q):=zeO (zh2 n rels q) m
theorem zjs {q q':Nat→Nat} {s:BitVec 64} {n:Nat} (h : ∀ w,w < n→q w=q' w) : ∀ k,k≤n→zaE q s k=zaE q' s k
 | 0,_=>rfl
 | k+1,hk=>by rw [zf3,zf3,zjs h k (by omega),h k (by omega)]
theorem ztN {n:Nat} {rels:List (Nat→BitVec 64)} {q q':Nat→Nat} (h : ∀ w,w < n→q w=q' w) {w:Nat} (hw:w < n):zbi n rels q w=zbi n rels q' w:=by
 refine zhp fun v hv=>?_
 unfold zfr
 rw [h v (by omega),h w hw]
 congr 1
 refine congrArg (fun f=>rels.all f) (funext fun r=>?_)
 rw [zjs h n (Nat.le_refl _),zjs h n (Nat.le_refl _)]
section
variable {n:Nat} {rels:List (Nat→BitVec 64)} {q:Nat→Nat} (hq:zaH n q)
include hq
theorem zqe {w:Nat} (hw:w < n):q (zbi n rels q w)=q w:=by
 have:=znG (zh2 n rels q) w
 simp only [zfr,Bool.and_eq_true,decide_eq_true_eq] at this
 exact this.1
theorem zxw {w:Nat} (hw:w < n) (h:q w=w):zbi n rels q w=w:=by
 have h1:=zvi (zfr n rels q) w
 have h2:=zqe (rels:=rels) hq hw
 have h3:=hq.le (zbi n rels q w) (by unfold zbi;omega)
 unfold zbi at *;omega
theorem zvE (h : ∀ w,w < n→zbi n rels q w=w→q w=w) {w:Nat} (hw:w < n):zbi n rels q w=q w:=by
 have hc:=zmX n rels q n
 have h1:=h (zbi n rels q w) (by have:=hc.le w hw;omega) (hc.idem w hw)
 rw [← h1,zqe hq hw]
end
def zD (n:Nat) (q:Nat→Nat):Nat:=((List.range n).filter fun w=>decide (q w=w)).length
theorem zeX {p p':Nat→Bool} (hi : ∀ w,p w=true→p' w=true) : ∀ l:List Nat,(l.filter p).length≤(l.filter p').length∧((∃ w∈l,p w=false∧p' w=true)→(l.filter p).length < (l.filter p').length)
 | []=>⟨Nat.le_refl _,fun ⟨w,h,_⟩=>by cases h⟩
 | x::l=>by
  obtain ⟨h1,h2⟩:=zeX hi l
  cases hp:p x with
  | true =>
   rw [List.filter_cons_of_pos hp,List.filter_cons_of_pos (hi x hp)]
   refine ⟨by simpa using h1,fun ⟨w,hw,h3,h4⟩=>?_⟩
   rcases List.mem_cons.1 hw with rfl|hw
   ·rw [hp] at h3;cases h3
   ·have:=h2 ⟨w,hw,h3,h4⟩;simpa using this
  | false =>
   rw [List.filter_cons_of_neg (by simp [hp])]
   cases hp':p' x with
   | true =>
    rw [List.filter_cons_of_pos hp',List.length_cons]
    exact ⟨by omega,fun _=>by omega⟩
   | false =>
    rw [List.filter_cons_of_neg (by simp [hp'])]
    refine ⟨h1,fun ⟨w,hw,h3,h4⟩=>?_⟩
    rcases List.mem_cons.1 hw with rfl|hw
    ·rw [hp'] at h4;cases h4
    ·exact h2 ⟨w,hw,h3,h4⟩
theorem zcT (n:Nat) (q:Nat→Nat):zD n q≤n:=by
 unfold zD
 have:=List.length_filter_le (fun w=>decide (q w=w)) (List.range n)
 simpa using this
theorem zzH {n:Nat} {rels:List (Nat→BitVec 64)} {q:Nat→Nat} (hq:zaH n q) (h : ∃ w,w < n∧zbi n rels q w≠q w):zD n q < zD n (zbi n rels q):=by
 unfold zD
 have e1:(List.range n).filter (fun w=>decide (q w=w))=(List.range n).filter fun w=>decide (w < n∧q w=w):=by
  refine List.filter_congr fun w hw=>?_
  have:=List.mem_range.1 hw
  simp [this]
 have e2:(List.range n).filter (fun w=>decide (zbi n rels q w=w))=(List.range n).filter fun w=>decide (w < n∧zbi n rels q w=w):=by
  refine List.filter_congr fun w hw=>?_
  have:=List.mem_range.1 hw
  simp [this]
 rw [e1,e2]
 refine (zeX (fun w hw=>?_) _).2 ?_
 ·simp only [decide_eq_true_eq] at hw ⊢
  exact ⟨hw.1,zxw hq hw.1 hw.2⟩
 ·obtain ⟨w,hw,hne⟩:=h
  by_cases hall : ∀ w,w < n→zbi n rels q w=w→q w=w
  ·exact absurd (zvE hq hall hw) hne
  ·simp only [Classical.not_forall] at hall
   obtain ⟨u,hu,h1,h2⟩:=hall
   exact ⟨u,List.mem_range.2 hu,by simp [h2],by simp [hu,h1]⟩
def zbt (n:Nat) (rels:List (Nat→BitVec 64)) (q0:Nat→Nat):Nat→Nat→Nat
 | 0=>q0
 | k+1=>zbi n rels (zbt n rels q0 k)
section
variable {n:Nat} {rels:List (Nat→BitVec 64)} {q0:Nat→Nat} (hq:zaH n q0)
include hq
theorem zmQ : ∀ k,zaH n (zbt n rels q0 k)
 | 0=>hq
 | k+1=>zmX _ _ _ _
theorem zjR {k:Nat} (h : ∀ w,w < n→zbt n rels q0 (k+1) w=zbt n rels q0 k w) : ∀ j,k≤j → ∀ w,w < n→zbt n rels q0 j w=zbt n rels q0 k w:=by
 intro j hj
 induction j with
 | zero=>intro w hw;rw [show k=0 by omega]
 | succ j ih =>
  intro w hw
  by_cases e:k=j+1
  ·rw [e]
  ·have ih:=ih (by omega)
   rw [← h w hw]
   exact ztN ih hw
theorem zjQ {k:Nat} (h : ∀ j,j < k → ∃ w,w < n∧zbt n rels q0 (j+1) w≠zbt n rels q0 j w) : ∀ j,j≤k→zD n q0+j≤zD n (zbt n rels q0 j)
 | 0,_=>Nat.le_refl _
 | j+1,hj=>by
  have h1:=zjQ h j (by omega)
  have h2:=zzH (zmQ hq j) (h j (by omega))
  show zD n q0+(j+1)≤zD n (zbi n rels (zbt n rels q0 j))
  omega
theorem zwC {j:Nat} (hn:0 < n) (hj:n≤j) {w:Nat} (hw:w < n):zbt n rels q0 j w=zbt n rels q0 n w:=by
 by_cases hall : ∀ i,i < n → ∃ w,w < n∧zbt n rels q0 (i+1) w≠zbt n rels q0 i w
 ·have h1:=zjQ hq hall n (Nat.le_refl _)
  have h2:=zcT n (zbt n rels q0 n)
  have h3:0 < zD n q0:=by
   unfold zD
   have h0:q0 0=0:=by have:=hq.le 0 hn;omega
   exact List.length_pos_of_mem (List.mem_filter.2 ⟨List.mem_range.2 hn,by simp [h0]⟩)
  omega
 ·simp only [Classical.not_forall] at hall
  obtain ⟨i,hi,hs⟩:=hall
  have hst : ∀ w,w < n→zbt n rels q0 (i+1) w=zbt n rels q0 i w:=fun w hw=>by
   by_cases e:zbt n rels q0 (i+1) w=zbt n rels q0 i w
   ·exact e
   ·exact absurd ⟨w,hw,e⟩ hs
  rw [zjR hq hst j (by omega) w hw,zjR hq hst n (by omega) w hw]
end
end Go.Ab
namespace Go.Ab
open Go Go.Proofs
set_option maxRecDepth 10000
set_option maxHeartbeats 4000000
variable {T:Nat→Obj→Prop}
theorem zt5 {α:Type} {l:List α} {i:Nat} {x d:α} (h:l[i]? = some x):l.getD i d=x:=by simp [List.getD,h]
def zg (m:KM):Int :=
 if m.W < 1∨64 < m.W then 2 else if 4 < m.rel.length∨8 < m.val.length then 8 else if m.rel.any (fun r=>decide ((r.length:Int)≠m.W)) then 3 else if m.val.any (bad m.W) then 2 else if m.rel.any (fun r=>r.any (bad m.W)) then 2 else 0
structure zc6 (m:KM):Prop where
 w1:1≤m.W
 w2:m.W≤64
 n4:m.rel.length≤4
 v8:m.val.length≤8
 len : ∀ r∈m.rel,(r.length:Int)=m.W
 val : ∀ s∈m.val,bad m.W s=false
 rel : ∀ r∈m.rel,∀ s∈r,bad m.W s=false
theorem zz {m:KM} (h:zg m=0):zc6 m:=by
 unfold zg at h
 split at h
 ·cases h
 ·split at h
  ·cases h
  ·split at h
   ·cases h
   ·split at h
    ·cases h
    ·split at h
     ·cases h
     ·rename_i h1 h2 h3 h4 h5
      refine ⟨by omega,by omega,by omega,by omega,fun r hr=>?_,fun s hs=>?_,fun r hr s hs=>?_⟩
      ·simp only [List.any_eq_true,not_exists,not_and] at h3;simpa using h3 r hr
      ·simp only [List.any_eq_true,not_exists,not_and] at h4;simpa using h4 s hs
      ·simp only [List.any_eq_true,not_exists,not_and] at h5;simpa using h5 r hr s hs
theorem zi4 {k:IntKind} {a:Nat} (h:a < 2 ^ k.bits):(BitVec.ofInt k.bits (a:Int)).toNat=a:=by
 rw [BitVec.toNat_ofInt,Int.emod_eq_of_lt (Int.natCast_nonneg a) (show (a:Int) < ((2 ^ k.bits:Nat):Int) from Int.ofNat_lt.2 h)]
 rfl
theorem znX {a:Nat} (h:a < 2 ^ 63):IntKind.wrap .i64 (a:Int)=a:=ztb ⟨by omega,by omega⟩
theorem zpv {a b:Nat} (ha:a < 2 ^ 63) (hb:b < 2 ^ 63):za7 .i64 (fun p q=>p|||q) (a:Int) (b:Int)=((a|||b:Nat):Int):=by
 unfold za7
 rw [BitVec.toNat_or,zi4 (k := .i64) (by simp [IntKind.bits];omega),zi4 (k := .i64) (by simp [IntKind.bits];omega)]
 exact znX (Nat.or_lt_two_pow ha hb)
theorem zo7 {x:BitVec 64} {k i:Nat} (hk:k < 64):(x|||1#64 <<< k).getLsbD i=true↔x.getLsbD i=true∨i=k:=by
 rw [BitVec.getLsbD_or,Bool.or_eq_true,zpu]
 constructor
 ·rintro (h|h)
  ·exact .inl h
  ·simp at h;exact .inr h.2
 ·rintro (h|rfl)
  ·exact .inl h
  ·exact .inr (by simp [hk])
def zaB (l:List (BitVec 64)) (w:Nat):Nat→Nat
 | 0=>0
 | k+1=>zaB l w k+if (l.getD k 0#64).getLsbD w=true then 2 ^ k else 0
theorem znn (l:List (BitVec 64)) (w:Nat) : ∀ k,zaB l w k < 2 ^ k
 | 0=>by simp [zaB]
 | k+1=>by
  have:=znn l w k
  have h2:=Nat.two_pow_pos k
  rw [zaB,Nat.pow_succ]
  split<;>omega
theorem zgb (l:List (BitVec 64)) (w:Nat) {i:Nat} : ∀ k,(zaB l w k).testBit i=true↔i < k∧(l.getD i 0#64).getLsbD w=true
 | 0=>by simp [zaB]
 | k+1=>by
  have hlt:=znn l w k
  have ih:=zgb l w (i:=i) k
  have e:zaB l w (k+1)=2 ^ k * (if (l.getD k 0#64).getLsbD w=true then 1 else 0)+zaB l w k:=by
   rw [zaB];split<;>omega
  rw [e,Nat.testBit_two_pow_mul_add _ hlt]
  by_cases h:i < k
  ·rw [if_pos h,ih]
   exact ⟨fun ⟨a,b⟩=>⟨by omega,b⟩,fun ⟨a,b⟩=>⟨h,b⟩⟩
  ·rw [if_neg h]
   by_cases h2:i=k
   ·subst h2
    rw [Nat.sub_self]
    split
    ·rename_i hb;exact ⟨fun _=>⟨by omega,hb⟩,fun _=>by decide⟩
    ·rename_i hb;exact ⟨fun h=>by simp at h,fun h=>absurd h.2 hb⟩
   ·constructor
    ·intro h3
     exfalso
     obtain ⟨m,hm⟩ : ∃ m,i - k=m+1:=⟨i - k - 1,by omega⟩
     rw [hm,Nat.testBit_succ] at h3
     split at h3<;>simp at h3
    ·rintro ⟨a,-⟩;omega
theorem zAb {x k:Nat} (h:x < 2 ^ k):x|||2 ^ k=x+2 ^ k:=by
 have:=Nat.two_pow_add_eq_or_of_lt (i:=k) h 1
 rw [Nat.or_comm,show 2 ^ k=2 ^ k * 1 by omega,← this];omega
theorem zx8 {l:List (BitVec 64)} {w k:Nat} {s:BitVec 64} (hs:l[k]? = some s) (hk:k < 8) :
  za7 .i64 (fun p q=>p|||q) (zaB l w k:Int) ((((s >>> w&&&1#64).toNat:Int)) * 2 ^ (min k IntKind.i64.bits))=(zaB l w (k+1):Int):=by
 have h1:=znn l w k
 have hp:2 ^ k≤2 ^ 7:=Nat.pow_le_pow_right (by decide) (by omega)
 have hb:min k IntKind.i64.bits=k:=by show min k 64=k;omega
 rw [hb,zaB,show l.getD k 0#64=s by rw [List.getD,hs];rfl]
 by_cases h:s.getLsbD w=true
 ·have e:s >>> w&&&1#64=1#64:=(zea s w).2 h
  rw [e,if_pos h]
  have:=zpv (a:=zaB l w k) (b:=2 ^ k) (by omega) (by omega)
  rw [show ((1#64).toNat:Int) * 2 ^ k=((2 ^ k:Nat):Int) by simp,this,zAb h1]
 ·have e:s >>> w&&&1#64=0#64:=(zeG s w).2 (by simpa using h)
  rw [e,if_neg h]
  have:=zpv (a:=zaB l w k) (b:=0) (by omega) (by omega)
  rw [show ((0#64).toNat:Int) * 2 ^ k=((0:Nat):Int) by simp,this];simp
theorem zvT (s:BitVec 64) (w:Nat):(s >>> w&&&1#64).toNat≤1:=by
 cases h:s.getLsbD w with
 | true=>rw [(zea s w).2 h];decide
 | false=>rw [(zeG s w).2 h];decide
theorem zxc {x k:Nat} (hx:x≤1) (hk:k < 8):0≤(x:Int) * 2 ^ (min (k:Int).toNat IntKind.i64.bits)∧(x:Int) * 2 ^ (min (k:Int).toNat IntKind.i64.bits)≤9223372036854775807:=by
 have hp:2 ^ k≤2 ^ 7:=Nat.pow_le_pow_right (by decide) (by omega)
 have hb:min (k:Int).toNat IntKind.i64.bits=k:=by show min k 64=k;omega
 rw [hb]
 match x,hx with
 | 0,_=>simp
 | 1,_ =>
  rw [show ((1:Nat):Int) * 2 ^ k=((2 ^ k:Nat):Int) by simp]
  have h7:(2:Nat) ^ 7=128:=rfl
  exact ⟨Int.natCast_nonneg _,Int.ofNat_le.2 (show 2 ^ k≤9223372036854775807 by omega)⟩
theorem zqR {i:Int} (h0:0≤i) (h7:i≤7):(-9223372036854775808≤(1:Int) * 2 ^ (min i.toNat IntKind.i64.bits)∧(1:Int) * 2 ^ (min i.toNat IntKind.i64.bits)≤9223372036854775807)∧((2 ^ i.toNat:Nat):Int)=(1:Int) * 2 ^ (min i.toNat IntKind.i64.bits):=by
 have:i=0∨i=1∨i=2∨i=3∨i=4∨i=5∨i=6∨i=7:=by omega
 rcases this with rfl|rfl|rfl|rfl|rfl|rfl|rfl|rfl<;>decide
def ptL (n:Nat) (q:Nat→Nat):List Int:=(List.range n).map fun w=>((q w:Nat):Int)
theorem zbO {n:Nat} {q:Nat→Nat} {w:Nat} (hw:w < n):(ptL n q)[w]? = some ((q w:Nat):Int):=by simp [ptL,hw]
theorem zdu {n:Nat} {q:Nat→Nat} : (ptL n q).length=n:=by simp [ptL]
theorem zh1 {n:Nat} {q q':Nat→Nat} (h : ∀ w,w < n→q w=q' w):ptL n q=ptL n q':=List.map_congr_left fun w hw=>by rw [h w (List.mem_range.1 hw)]
theorem zAc {n:Nat} {q q':Nat→Nat} (h:ptL n q=ptL n q') {w:Nat} (hw:w < n):q w=q' w:=by
 have:=zbO (q:=q) hw
 rw [h,zbO hw] at this
 have:=Option.some.inj this
 omega
end Go.Ab
namespace Go.Ab
def zal {α:Type} (c:α→α→Int):List α→List α→Int
 | [],[]=>0
 | [],_::_ => -1
 | _::_,[]=>1
 | x::r,y::s=>if c x y=0 then zal c r s else c x y
structure zlE {α:Type} (c:α→α→Int):Prop where
 zero : ∀ {x y},c x y=0↔x=y
 anti : ∀ x y,c y x = - c x y
 tr : ∀ {x y z},c x y < 0→c y z < 0→c x z < 0
theorem zlE.refl {α:Type} {c:α→α→Int} (h:zlE c) (x:α):c x x=0:=h.zero.2 rfl
theorem ztX {α:Type} {c:α→α→Int} (h:zlE c):zlE (zal c) where
 zero:=by
  intro x
  induction x with
  | nil=>intro y;cases y<;>simp [zal]
  | cons a r ih =>
   intro y
   cases y with
   | nil=>simp [zal]
   | cons b s =>
    unfold zal
    by_cases e:c a b=0
    ·rw [if_pos e,ih,h.zero.1 e];simp
    ·rw [if_neg e]
     constructor
     ·intro h';exact absurd h' e
     ·intro h';cases h';exact absurd (h.refl _) e
 anti:=by
  intro x
  induction x with
  | nil=>intro y;cases y<;>simp [zal]
  | cons a r ih =>
   intro y
   cases y with
   | nil=>simp [zal]
   | cons b s =>
    unfold zal
    have:=h.anti a b
    by_cases e:c a b=0
    ·rw [if_pos e,if_pos (by omega),ih]
    ·rw [if_neg e,if_neg (by omega),this]
 tr:=by
  intro x
  induction x with
  | nil =>
   intro y z h1 h2
   cases y with
   | nil=>simp [zal] at h1
   | cons b s=>cases z with
    | nil=>simp [zal] at h2
    | cons d t=>simp [zal]
  | cons a r ih =>
   intro y z h1 h2
   cases y with
   | nil=>simp [zal] at h1
   | cons b s=>cases z with
    | nil=>simp [zal] at h2
    | cons d t =>
     unfold zal at h1 h2 ⊢
     by_cases e1:c a b=0
     ·obtain rfl:=h.zero.1 e1
      rw [if_pos e1] at h1
      by_cases e2:c a d=0
      ·rw [if_pos e2] at h2 ⊢;exact ih h1 h2
      ·rw [if_neg e2] at h2 ⊢;exact h2
     ·rw [if_neg e1] at h1
      by_cases e2:c b d=0
      ·obtain rfl:=h.zero.1 e2
       rw [if_neg e1];exact h1
      ·rw [if_neg e2] at h2
       have h3:=h.tr h1 h2
       rw [if_neg (by omega)];exact h3
def zbx (x y:Int):Int:=if x < y then -1 else if y < x then 1 else 0
theorem zzF:zlE zbx where
 zero:=by
  intro x y;unfold zbx
  by_cases h1:x < y
  ·rw [if_pos h1];omega
  ·rw [if_neg h1]
   by_cases h2:y < x
   ·rw [if_pos h2];omega
   ·rw [if_neg h2];omega
 anti:=by
  intro x y;unfold zbx
  by_cases h1:x < y
  ·rw [if_pos h1,if_neg (by omega),if_pos h1];rfl
  ·rw [if_neg h1]
   by_cases h2:y < x
   ·rw [if_pos h2,if_neg h1,if_pos h2]
   ·rw [if_neg h2,if_neg h1,if_neg h2];rfl
 tr:=by
  intro x y z;unfold zbx
  by_cases h1:x < y
  ·rw [if_pos h1]
   by_cases h2:y < z
   ·rw [if_pos h2,if_pos (by omega)];simp
   ·rw [if_neg h2]
    by_cases h3:z < y
    ·rw [if_pos h3];intro _ h;omega
    ·rw [if_neg h3];intro _ h;omega
  ·rw [if_neg h1]
   by_cases h2:y < x
   ·rw [if_pos h2];intro h;omega
   ·rw [if_neg h2];intro h;omega
abbrev Tup:=List (List Int)
def zuP:Tup→Tup→Int:=zal (zal zbx)
theorem zzG:zlE zuP:=ztX (ztX zzF)
def ddT {α:Type} [DecidableEq α]:List α→List α
 | []=>[]
 | x::r=>if x∈r then ddT r else x::ddT r
theorem ziY {α:Type} [DecidableEq α] {x:α} : ∀ {l:List α},x∈ddT l↔x∈l
 | []=>Iff.rfl
 | y::r=>by
  unfold ddT
  have ih:=ziY (x:=x) (l:=r)
  by_cases h:y∈r
  ·rw [if_pos h,ih,List.mem_cons]
   exact ⟨.inr,fun h'=>h'.elim (fun e=>e▸h) id⟩
  ·rw [if_neg h,List.mem_cons,List.mem_cons,ih]
theorem zli {α:Type} [DecidableEq α] : ∀ l:List α,(ddT l).Nodup
 | []=>List.nodup_nil
 | y::r=>by
  unfold ddT
  by_cases h:y∈r
  ·rw [if_pos h];exact zli r
  ·rw [if_neg h];exact List.nodup_cons.2 ⟨fun h'=>h (ziY.1 h'),zli r⟩
theorem zo5 {α:Type} [DecidableEq α] {l l':List α} (h:l.Nodup) (h':l'.Nodup) (hm : ∀ x,x∈l↔x∈l'):l.Perm l':=by
 rw [List.perm_iff_count]
 intro a
 have c : ∀ l:List α,l.Nodup→l.count a=if a∈l then 1 else 0:=fun l hl=>by
  by_cases ha:a∈l
  ·rw [if_pos ha]
   have h1:=List.nodup_iff_count.1 hl a
   have h2:=List.count_pos_iff.2 ha
   omega
  ·rw [if_neg ha];exact List.count_eq_zero.2 ha
 rw [c l h,c l' h']
 by_cases ha:a∈l
 ·rw [if_pos ha,if_pos ((hm a).1 ha)]
 ·rw [if_neg ha,if_neg (fun h=>ha ((hm a).2 h))]
end Go.Ab
namespace Go.Ab
theorem zi0 {α:Type} [DecidableEq α] : ∀ {l l':List α},l.Nodup→(∀ x∈l,x∈l')→l.length≤l'.length
 | [],_,_,_=>Nat.zero_le _
 | x::t,l',h,hs=>by
  obtain ⟨h1,h2⟩:=List.nodup_cons.1 h
  have:=zi0 (l:=t) (l':=l'.erase x) h2 fun y hy=>by
   have hne:y≠x:=fun e=>h1 (e▸hy)
   exact (List.mem_erase_of_ne hne).2 (hs y (List.mem_cons_of_mem _ hy))
  have hx:=hs x (by simp)
  rw [List.length_erase_of_mem hx] at this
  have:=List.length_pos_of_mem hx
  rw [List.length_cons];omega
end Go.Ab
namespace Go.Ab
structure Ren (n:Nat) (f:Nat→Nat):Prop where
 lt : ∀ w,w < n→f w < n
 inj : ∀ v w,v < n→w < n→f v=f w→v=w
theorem Ren.surj {n:Nat} {f:Nat→Nat} (h:Ren n f) {x:Nat} (hx:x < n) : ∃ w,w < n∧f w=x:=by
 refine Classical.byContradiction fun hn=>?_
 have:=zi0 (l:=x::(List.range n).map f) (l':=List.range n) (List.nodup_cons.2 ⟨fun hm=>?_,?_⟩) fun y hy=>?_
 ·simp at this
  omega
 ·obtain ⟨w,hw,e⟩:=List.mem_map.1 hm
  exact hn ⟨w,List.mem_range.1 hw,e⟩
 ·rw [List.Nodup,List.pairwise_map]
  exact List.Pairwise.imp_of_mem (fun {a b} ha hb hab e=>hab (h.inj a b (List.mem_range.1 ha) (List.mem_range.1 hb) e)) List.nodup_range
 ·rcases List.mem_cons.1 hy with rfl|hy
  ·exact List.mem_range.2 hx
  ·obtain ⟨w,hw,rfl⟩:=List.mem_map.1 hy
   exact List.mem_range.2 (h.lt w (List.mem_range.1 hw))
def leI (x y:Int):Bool:=decide (x≤y)
theorem zA6 (a b c:Int) (h1:leI a b=true) (h2:leI b c=true):leI a c=true:=by simp [leI] at *;omega
theorem zz4 (a b:Int):(leI a b||leI b a)=true:=by simp [leI];omega
def zcd (l:List Int):List Int:=l.mergeSort leI
theorem zd8 (l:List Int):(zcd l).Perm l:=List.mergeSort_perm l leI
theorem zeh (l:List Int):(zcd l).Pairwise (· ≤ ·):=(List.pairwise_mergeSort zA6 zz4 l).imp fun h=>by simpa [leI] using h
theorem zdt : ∀ {l l':List Int},l.Pairwise (· ≤ ·)→l'.Pairwise (· ≤ ·)→l.Perm l'→l=l'
 | [],l',_,_,h=>(List.nil_perm.1 h).symm
 | a::r,[],_,_,h=>by cases List.perm_nil.1 h
 | a::r,b::s,h1,h2,h=>by
  obtain ⟨h3,h4⟩:=List.pairwise_cons.1 h1
  obtain ⟨h5,h6⟩:=List.pairwise_cons.1 h2
  have e:a=b:=by
   have hb:b∈a::r:=h.mem_iff.2 (by simp)
   have ha:a∈b::s:=h.mem_iff.1 (by simp)
   rcases List.mem_cons.1 hb with e|hb
   ·exact e.symm
   ·rcases List.mem_cons.1 ha with e|ha
    ·exact e
    ·have:=h3 b hb;have:=h5 a ha;omega
  subst e
  rw [zdt h4 h6 ((List.perm_cons a).1 h)]
theorem zxv {l l':List Int} (h:l.Perm l'):zcd l=zcd l':=zdt (zeh l) (zeh l') (((zd8 l).trans h).trans (zd8 l').symm)
theorem zBe {l s:List Int} (hs:s.Pairwise (· ≤ ·)) (hp:s.Perm l):s=zcd l:=zdt hs (zeh l) (hp.trans (zd8 l).symm)
def zj8 (l:List Int):List Int:=zcd (ddT l)
theorem zx5 {α:Type} [DecidableEq α] {l l':List α} (h : ∀ x,x∈l↔x∈l'):(ddT l).Perm (ddT l'):=by
 rw [List.perm_iff_count]
 intro a
 have c : ∀ l:List α,(ddT l).count a=if a∈l then 1 else 0:=fun l=>by
  by_cases ha:a∈l
  ·rw [if_pos ha]
   have h1:=List.nodup_iff_count.1 (zli l) a
   have h2:=List.count_pos_iff.2 (ziY.2 ha)
   omega
  ·rw [if_neg ha];exact List.count_eq_zero.2 (fun h=>ha (ziY.1 h))
 rw [c,c]
 by_cases ha:a∈l
 ·rw [if_pos ha,if_pos ((h a).1 ha)]
 ·rw [if_neg ha,if_neg (fun h'=>ha ((h a).2 h'))]
theorem zvC {l l':List Int} (h : ∀ x,x∈l↔x∈l'):zj8 l=zj8 l':=zxv (zx5 h)
abbrev z8:=List (Nat→Nat→Bool)
def zs4 (n:Nat) (r:Nat→Nat→Bool) (q:Nat→Nat) (w:Nat):List Int:=((List.range n).filter fun v=>r w v).map fun v=>(q v:Int)
def zdk (n:Nat) (R:z8) (q:Nat→Nat) (w:Nat):Tup:=[(q w:Int)]::R.map fun r=>zj8 (zs4 n r q w)
theorem zo3 {n:Nat} {R:z8} (q:Nat→Nat) (v w:Nat) (_:v < n) (_:w < n) (h:zdk n R q v=zdk n R q w):q v=q w:=by
 unfold zdk at h
 have:=(List.cons.inj h).1
 simp at this;omega
structure zrI (n:Nat) (f:Nat→Nat) (R R':z8):Prop where
 len:R'.length=R.length
 rel : ∀ (i:Nat) (r r':Nat→Nat→Bool),R[i]? = some r→R'[i]? = some r' → ∀ v w,v < n→w < n→r' (f v) (f w)=r v w
end Go.Ab
namespace Go.Ab
structure zh9 (n:Nat) (fa fb:Nat→Int) (R R':z8) (f:Nat→Nat):Prop where
 ren:Ren n f
 fac : ∀ w,w < n→fb (f w)=fa w
 rel:zrI n f R R'
def zn5 (R:z8):z8:=R.map fun r=>fun v w=>r w v
theorem zrI.back {n:Nat} {f:Nat→Nat} {R R':z8} (h:zrI n f R R'):zrI n f (R++zn5 R) (R'++zn5 R'):=by
 refine ⟨by simp [zn5,h.len],fun i r r' h1 h2 v w hv hw=>?_⟩
 by_cases hi:i < R.length
 ·rw [List.getElem?_append_left hi] at h1
  rw [List.getElem?_append_left (by rw [h.len];exact hi)] at h2
  exact h.rel i r r' h1 h2 v w hv hw
 ·rw [List.getElem?_append_right (by omega),zn5,List.getElem?_map,Option.map_eq_some_iff] at h1
  rw [List.getElem?_append_right (by rw [h.len];omega),zn5,List.getElem?_map,Option.map_eq_some_iff] at h2
  obtain ⟨s,hs,rfl⟩:=h1
  obtain ⟨s',hs',rfl⟩:=h2
  exact h.rel _ s s' hs (by rw [← h.len];exact hs') w v hw hv
end Go.Ab
namespace Go.Ab
def zuF (n:Nat) (R:z8) (q:Nat→Nat):Prop := ∀ v w,v < n→w < n→q v=q w→zdk n R q v=zdk n R q w
theorem zjU {l:List Int} {x:Int} : x∈zj8 l↔x∈l:=by
 unfold zj8;rw [(zd8 _).mem_iff];exact ziY
theorem zp4 {n:Nat} {r:Nat→Nat→Bool} {q:Nat→Nat} {w:Nat} {x:Int} : x∈zs4 n r q w ↔ ∃ v,v < n∧r w v=true∧(q v:Int)=x:=by
 unfold zs4
 rw [List.mem_map]
 constructor
 ·rintro ⟨v,hv,e⟩
  obtain ⟨h1,h2⟩:=List.mem_filter.1 hv
  exact ⟨v,List.mem_range.1 h1,h2,e⟩
 ·rintro ⟨v,h1,h2,e⟩
  exact ⟨v,List.mem_filter.2 ⟨List.mem_range.2 h1,h2⟩,e⟩
theorem zc4 {n:Nat} {R:z8} {q:Nat→Nat} {v w:Nat} : zdk n R q v=zdk n R q w↔q v=q w ∧ ∀ r∈R,∀ x:Nat,(∃ u,u < n∧r v u=true∧q u=x) ↔ ∃ u,u < n∧r w u=true∧q u=x:=by
 have cast : ∀ (r:Nat→Nat→Bool) (a:Nat) (x:Nat),((x:Int)∈zs4 n r q a) ↔ ∃ u,u < n∧r a u=true∧q u=x:=fun r a x=>by
  rw [zp4]
  exact ⟨fun ⟨u,h1,h2,h3⟩=>⟨u,h1,h2,by omega⟩,fun ⟨u,h1,h2,h3⟩=>⟨u,h1,h2,by omega⟩⟩
 constructor
 ·intro h
  obtain ⟨h1,h2⟩:=List.cons.inj h
  refine ⟨by simp at h1;omega,fun r hr x=>?_⟩
  rw [← cast,← cast,← zjU,← zjU (l:=zs4 n r q w)]
  have:=(List.map_inj_left.1 h2) r hr
  rw [this]
 ·rintro ⟨h1,h2⟩
  unfold zdk
  rw [h1]
  congr 1
  refine List.map_congr_left fun r hr=>zvC fun x=>?_
  constructor
  ·intro hx
   obtain ⟨u,a,b,rfl⟩:=zp4.1 hx
   exact (cast r w (q u)).2 ((h2 r hr (q u)).1 ⟨u,a,b,rfl⟩)
  ·intro hx
   obtain ⟨u,a,b,rfl⟩:=zp4.1 hx
   exact (cast r v (q u)).2 ((h2 r hr (q u)).2 ⟨u,a,b,rfl⟩)
theorem zvD {n:Nat} {R:z8} {q:Nat→Nat} (hs:zuF n R q) {p:Nat→Nat} (hp : ∀ v w,v < n→w < n→q v=q w→p v=p w) : ∀ v w,v < n→w < n→q v=q w→zdk n R p v=zdk n R p w:=by
 intro v w hv hw h
 obtain ⟨-,h2⟩:=zc4.1 (hs v w hv hw h)
 refine zc4.2 ⟨hp v w hv hw h,fun r hr x=>?_⟩
 constructor
 ·rintro ⟨u,a,b,rfl⟩
  obtain ⟨u',a',b',e⟩:=(h2 r hr (q u)).1 ⟨u,a,b,rfl⟩
  exact ⟨u',a',b',hp u' u a' a e⟩
 ·rintro ⟨u,a,b,rfl⟩
  obtain ⟨u',a',b',e⟩:=(h2 r hr (q u)).2 ⟨u,a,b,rfl⟩
  exact ⟨u',a',b',hp u' u a' a e⟩
end Go.Ab
namespace Go.Ab
def zdC (n:Nat) (R:z8) (p:Nat→Nat):Nat→Nat:=z2 (zbQ (zdk n R p))
theorem zho {n:Nat} {R:z8} {p:Nat→Nat} {v w:Nat} : zdC n R p v=zdC n R p w↔zdk n R p v=zdk n R p w:=by
 unfold zdC;rw [zlg (zcB _)];simp [zbQ]
theorem zfm (n:Nat) (R:z8) (p:Nat→Nat) (m:Nat):zaH m (zdC n R p):=zeO (zcB _) m
def zjV (n:Nat) (R:z8):Nat→(Nat→Nat)→Nat→Nat
 | 0,p=>p
 | k+1,p=>if (List.range n).map (zdC n R p)=(List.range n).map p then p else zjV n R k (zdC n R p)
theorem zkj {n:Nat} {p q:Nat→Nat} : (List.range n).map p=(List.range n).map q ↔ ∀ w,w < n→p w=q w:=by
 rw [List.map_inj_left]
 exact ⟨fun h w hw=>h w (List.mem_range.2 hw),fun h w hw=>h w (List.mem_range.1 hw)⟩
theorem zwH {n:Nat} {R:z8} {p:Nat→Nat} (hp:zaH n p) (h : ∃ w,w < n∧zdC n R p w≠p w):zD n p < zD n (zdC n R p):=by
 have fine : ∀ v w,v < n→w < n→zdC n R p v=zdC n R p w→p v=p w:=fun v w hv hw e=>zo3 p v w hv hw (zho.1 e)
 have rep : ∀ w,w < n→p w=w→zdC n R p w=w:=fun w hw e=>by
  have h1:=(zfm n R p n).le w hw
  have h2:=(zfm n R p n).idem w hw
  have h3:=fine (zdC n R p w) w (by omega) hw h2
  have h4:=hp.le (zdC n R p w) (by omega)
  omega
 unfold zD
 have e1 : ∀ f:Nat→Nat,(List.range n).filter (fun w=>decide (f w=w))=(List.range n).filter fun w=>decide (w < n∧f w=w):=fun f=>List.filter_congr fun w hw=>by
  have:=List.mem_range.1 hw
  simp [this]
 rw [e1,e1]
 refine (zeX (fun w hw=>?_) _).2 ?_
 ·simp only [decide_eq_true_eq] at hw ⊢
  exact ⟨hw.1,rep w hw.1 hw.2⟩
 ·obtain ⟨w,hw,hne⟩:=h
  refine Classical.byContradiction fun hn=>hne ?_
  have hall : ∀ u,u < n→zdC n R p u=u→p u=u:=fun u hu e=>Classical.byContradiction fun h=>hn ⟨u,List.mem_range.2 hu,by simp [h],by simp [hu,e]⟩
  have h1:=(zfm n R p n).le w hw
  have h2:=(zfm n R p n).idem w hw
  have h3:=hall _ (by omega) h2
  rw [← h3]
  exact fine _ w (by omega) hw h2
theorem zsF {n:Nat} {R:z8} : ∀ (k:Nat) (p:Nat→Nat),zaH n p→n < k+zD n p → ∃ q,zjV n R k p=q∧zaH n q∧(∀ w,w < n→zdC n R q w=q w)∧(∀ v w,v < n→w < n→q v=q w→p v=p w) ∧
  ∀ Q:Nat→Nat,zuF n R Q→(∀ v w,v < n→w < n→Q v=Q w→p v=p w) → ∀ v w,v < n→w < n→Q v=Q w→q v=q w
 | 0,p,hp,h=>by have:=zcT n p;omega
 | k+1,p,hp,h=>by
  unfold zjV
  by_cases he:(List.range n).map (zdC n R p)=(List.range n).map p
  ·rw [if_pos he]
   exact ⟨p,rfl,hp,zkj.1 he,fun _ _ _ _ h=>h,fun Q _ h=>h⟩
  ·rw [if_neg he]
   have hne : ∃ w,w < n∧zdC n R p w≠p w:=Classical.byContradiction fun hn=>he (zkj.2 fun w hw=>Classical.byContradiction fun h=>hn ⟨w,hw,h⟩)
   have hg:=zwH hp hne
   obtain ⟨q,h1,h2,h3,h4,h5⟩:=zsF k (zdC n R p) (zfm n R p n) (by omega)
   exact ⟨q,h1,h2,h3,fun v w hv hw e=>zo3 p v w hv hw (zho.1 (h4 v w hv hw e)),fun Q hQ hQp=>h5 Q hQ fun v w hv hw e=>zho.2 (zvD hQ hQp v w hv hw e)⟩
end Go.Ab
namespace Go.Ab
structure zdv (n n':Nat) (R R':z8) (fa fb:Nat→Int) (Z:Nat→Nat→Prop):Prop where
 len:R'.length=R.length
 lt : ∀ {v v'},Z v v'→v < n∧v' < n'
 fac : ∀ {v v'},Z v v'→fa v=fb v'
 forth : ∀ {i:Nat} {r r':Nat→Nat→Bool},R[i]? = some r→R'[i]? = some r' → ∀ {v v' u},Z v v'→u < n→r v u=true → ∃ u',u' < n'∧r' v' u'=true∧Z u u'
 back : ∀ {i:Nat} {r r':Nat→Nat→Bool},R[i]? = some r→R'[i]? = some r' → ∀ {v v' u'},Z v v'→u' < n'→r' v' u'=true → ∃ u,u < n∧r v u=true∧Z u u'
theorem zdv.symm {n n':Nat} {R R':z8} {fa fb:Nat→Int} {Z:Nat→Nat→Prop} (B:zdv n n' R R' fa fb Z):zdv n' n R' R fb fa fun v' v=>Z v v' where
 len:=B.len.symm
 lt h:=⟨(B.lt h).2,(B.lt h).1⟩
 fac h:=(B.fac h).symm
 forth h1 h2:=fun {v v' u} hz hu hr=>by obtain ⟨u,a,b,c⟩:=B.back h2 h1 hz hu hr;exact ⟨u,a,b,c⟩
 back h1 h2:=fun {v v' u} hz hu hr=>by obtain ⟨u,a,b,c⟩:=B.forth h2 h1 hz hu hr;exact ⟨u,a,b,c⟩
theorem zlZ {R R':z8} (h:R'.length=R.length) {i:Nat} {r:Nat→Nat→Bool} (hr:R[i]? = some r) : ∃ r',R'[i]? = some r' :=
 ⟨_,List.getElem?_eq_getElem (by have:=(List.getElem?_eq_some_iff.1 hr).1;omega)⟩
theorem zdv.trans {n n' n2:Nat} {R R' R2:z8} {fa fb fc:Nat→Int} {Z Z':Nat→Nat→Prop} (B:zdv n n' R R' fa fb Z) (B':zdv n' n2 R' R2 fb fc Z'):zdv n n2 R R2 fa fc fun v w => ∃ u,Z v u∧Z' u w where
 len:=B'.len.trans B.len
 lt:=fun ⟨u,h,h'⟩=>⟨(B.lt h).1,(B'.lt h').2⟩
 fac:=fun ⟨u,h,h'⟩=>(B.fac h).trans (B'.fac h')
 forth h1 h2:=fun ⟨x,h,h'⟩ hu hr=>by
  obtain ⟨r',hr'⟩:=zlZ B.len h1
  obtain ⟨a,a1,a2,a3⟩:=B.forth h1 hr' h hu hr
  obtain ⟨b,b1,b2,b3⟩:=B'.forth hr' h2 h' a1 a2
  exact ⟨b,b1,b2,a,a3,b3⟩
 back h1 h2:=fun ⟨x,h,h'⟩ hu hr=>by
  obtain ⟨r',hr'⟩:=zlZ B.len h1
  obtain ⟨a,a1,a2,a3⟩:=B'.back hr' h2 h' hu hr
  obtain ⟨b,b1,b2,b3⟩:=B.back h1 hr' h a1 a2
  exact ⟨b,b1,b2,a,b3,a3⟩
theorem zud {n:Nat} {R:z8} {fa:Nat→Int} {Z:Nat→Nat→Prop} (B:zdv n n R R fa fa Z) : ∀ (k:Nat) (p:Nat→Nat),(∀ v w,Z v w→p v=p w) → ∀ v w,Z v w→zjV n R k p v=zjV n R k p w
 | 0,p,hp=>hp
 | k+1,p,hp=>by
  unfold zjV
  split
  ·exact hp
  ·refine zud B k _ fun v w hz=>zho.2 (zc4.2 ⟨hp v w hz,fun r hr x=>?_⟩)
   obtain ⟨i,hi⟩:=List.mem_iff_getElem?.1 hr
   constructor
   ·rintro ⟨u,a,b,rfl⟩
    obtain ⟨u',c,d,e⟩:=B.forth hi hi hz a b
    exact ⟨u',c,d,(hp u u' e).symm⟩
   ·rintro ⟨u,a,b,rfl⟩
    obtain ⟨u',c,d,e⟩:=B.back hi hi hz a b
    exact ⟨u',c,d,hp u' u e⟩
def coa (n:Nat) (R:z8) (fa:Nat→Int):Nat→Nat:=zjV n R (n+1) (z2 (zbQ fa))
theorem zpO {fa:Nat→Int} {v w:Nat} : z2 (zbQ fa) v=z2 (zbQ fa) w↔fa v=fa w:=by rw [zlg (zcB fa)];simp [zbQ]
structure zlH (n:Nat) (R:z8) (fa:Nat→Int) (q:Nat→Nat):Prop where
 canon:zaH n q
 stab:zuF n R q
 fac : ∀ v w,v < n→w < n→q v=q w→fa v=fa w
theorem zjx (n:Nat) (R:z8) (fa:Nat→Int):zlH n R fa (coa n R fa):=by
 obtain ⟨q,h1,h2,h3,h4,h5⟩:=zsF (R:=R) (n+1) (z2 (zbQ fa)) (zeO (zcB fa) n) (by omega)
 unfold coa
 rw [h1]
 exact ⟨h2,fun v w hv hw e=>zho.1 (by rw [h3 v hv,h3 w hw,e]),fun v w hv hw e=>zpO.1 (h4 v w hv hw e)⟩
theorem zpI {n:Nat} {R:z8} {fa:Nat→Int} {Z:Nat→Nat→Prop} (B:zdv n n R R fa fa Z) {v w:Nat} (h:Z v w):coa n R fa v=coa n R fa w :=
 zud B (n+1) _ (fun v w hz=>zpO.2 (B.fac hz)) v w h
theorem zlH.bis {n:Nat} {R:z8} {fa:Nat→Int} {q:Nat→Nat} (S:zlH n R fa q):zdv n n R R fa fa fun v w=>v < n∧w < n∧q v=q w where
 len:=rfl
 lt h:=⟨h.1,h.2.1⟩
 fac h:=S.fac _ _ h.1 h.2.1 h.2.2
 forth h1 h2:=fun {v v' u} hz hu hr=>by
  rw [h1] at h2;cases h2
  obtain ⟨u',a,b,c⟩:=((zc4.1 (S.stab _ _ hz.1 hz.2.1 hz.2.2)).2 _ (List.mem_of_getElem? h1) (q u)).1 ⟨u,hu,hr,rfl⟩
  exact ⟨u',a,b,hu,a,c.symm⟩
 back h1 h2:=fun {v v' u} hz hu hr=>by
  rw [h1] at h2;cases h2
  obtain ⟨u',a,b,c⟩:=((zc4.1 (S.stab _ _ hz.1 hz.2.1 hz.2.2)).2 _ (List.mem_of_getElem? h1) (q u)).2 ⟨u,hu,hr,rfl⟩
  exact ⟨u',a,b,a,hu,c⟩
def zaT (n:Nat) (q:Nat→Nat):List Nat:=(List.range n).filter fun w=>decide (q w=w)
def zI (q:Nat→Nat) (w:Nat):Nat:=zD (q w) q
theorem zw0 {q:Nat→Nat} {u:Nat} (hu:q u=u) : ∀ n,u < n→(zaT n q)[zD u q]? = some u
 | 0,h=>by omega
 | n+1,h=>by
  unfold zaT
  rw [List.range_succ,List.filter_append]
  by_cases e:u=n
  ·subst e
   rw [List.getElem?_append_right (by show _≤zD u q;exact Nat.le_refl _)]
   show (List.filter _ [u])[zD u q - zD u q]? = _
   rw [Nat.sub_self]
   simp [hu]
  ·have ih:=zw0 hu n (by omega)
   have hlt:=(List.getElem?_eq_some_iff.1 ih).1
   rw [List.getElem?_append_left (by exact hlt)]
   exact ih
section
variable {n:Nat} {q:Nat→Nat} (hq:zaH n q)
include hq
theorem zfK {w:Nat} (hw:w < n):(zaT n q)[zI q w]? = some (q w):=zw0 (hq.idem w hw) n (by have:=hq.le w hw;omega)
theorem zcZ {w:Nat} (hw:w < n):zI q w < zD n q:=(List.getElem?_eq_some_iff.1 (zfK hq hw)).1
theorem zsL {v w:Nat} (hv:v < n) (hw:w < n):zI q v=zI q w↔q v=q w:=by
 constructor
 ·intro h
  have h1:=zfK hq hv
  rw [h,zfK hq hw] at h1
  exact (Option.some.inj h1).symm
 ·intro h;unfold zI;rw [h]
theorem zyF {i:Nat} (hi:i < zD n q) : ∃ u,(zaT n q)[i]? = some u∧u < n∧q u=u∧zI q u=i:=by
 obtain ⟨u,h⟩ : ∃ u,(zaT n q)[i]? = some u:=⟨_,List.getElem?_eq_getElem hi⟩
 have h0:=List.mem_filter.1 (List.mem_of_getElem? h)
 have h1:=List.mem_range.1 h0.1
 have h2:=of_decide_eq_true h0.2
 refine ⟨u,h,h1,h2,?_⟩
 have h3:=zfK hq h1
 rw [h2] at h3
 have hnd:(zaT n q).Pairwise (· ≠ ·):=List.Pairwise.filter _ List.nodup_range
 obtain ⟨hi,ei⟩:=List.getElem?_eq_some_iff.1 h
 obtain ⟨hj,ej⟩:=List.getElem?_eq_some_iff.1 h3
 rw [List.pairwise_iff_getElem] at hnd
 rcases Nat.lt_trichotomy (zI q u) i with hl|hl|hl
 ·exact absurd (ej.trans ei.symm) (hnd _ _ hj hi hl)
 ·exact hl
 ·exact absurd (ei.trans ej.symm) (hnd _ _ hi hj hl)
end
def zdE (n:Nat) (q:Nat→Nat) (r:Nat→Nat→Bool) (i j:Nat):Bool:=(List.range n).any fun v=>(List.range n).any fun w=>zI q v==i&&(zI q w==j&&r v w)
theorem zhs {n:Nat} {q:Nat→Nat} {r:Nat→Nat→Bool} {i j:Nat} : zdE n q r i j=true ↔ ∃ v w,v < n∧w < n∧zI q v=i∧zI q w=j∧r v w=true:=by
 unfold zdE
 simp only [List.any_eq_true,List.mem_range,Bool.and_eq_true,beq_iff_eq]
 exact ⟨fun ⟨v,hv,w,hw,a,b,c⟩=>⟨v,w,hv,hw,a,b,c⟩,fun ⟨v,w,hv,hw,a,b,c⟩=>⟨v,hv,w,hw,a,b,c⟩⟩
def zlo (n:Nat) (q:Nat→Nat) (fa:Nat→Int) (i:Nat):Int:=fa ((zaT n q).getD i 0)
theorem zlH.quo {n:Nat} {R:z8} {fa:Nat→Int} {q:Nat→Nat} (S:zlH n R fa q):zdv n (zD n q) R (R.map (zdE n q)) fa (zlo n q fa) fun w i=>w < n∧i=zI q w where
 len:=by simp
 lt:=fun {w i} h=>⟨h.1,by rw [h.2];exact zcZ S.canon h.1⟩
 fac:=fun {w i} h=>by
  rw [h.2];unfold zlo
  rw [List.getD,zfK S.canon h.1]
  have h1:=S.canon.le w h.1
  exact S.fac _ _ h.1 (by simp;omega) (S.canon.idem w h.1).symm
 forth h1 h2:=fun {v v' u} hz hu hr=>by
  rw [List.getElem?_map,h1] at h2;cases h2
  exact ⟨zI q u,zcZ S.canon hu,zhs.2 ⟨v,u,hz.1,hu,hz.2.symm,rfl,hr⟩,hu,rfl⟩
 back h1 h2:=fun {v v' u'} hz hu hr=>by
  rw [List.getElem?_map,h1] at h2;cases h2
  obtain ⟨a,b,ha,hb,e1,e2,e3⟩:=zhs.1 hr
  have e:=(zsL S.canon ha hz.1).1 (e1.trans hz.2)
  obtain ⟨u,h3,h4,h5⟩:=((zc4.1 (S.stab a v ha hz.1 e)).2 _ (List.mem_of_getElem? h1) (q b)).1 ⟨b,hb,e3,rfl⟩
  exact ⟨u,h3,h4,h3,by rw [← e2];exact ((zsL S.canon h3 hb).2 h5).symm⟩
end Go.Ab
namespace Go.Ab
theorem zh9.bis {n:Nat} {fa fb:Nat→Int} {R R':z8} {f:Nat→Nat} (h:zh9 n fa fb R R' f):zdv n n R R' fa fb fun v v'=>v < n∧v'=f v where
 len:=h.rel.len
 lt:=fun {v v'} hz=>⟨hz.1,by rw [hz.2];exact h.ren.lt v hz.1⟩
 fac:=fun {v v'} hz=>by rw [hz.2];exact (h.fac v hz.1).symm
 forth h1 h2:=fun {v v' u} hz hu hr=>⟨f u,h.ren.lt u hu,by rw [hz.2,h.rel.rel _ _ _ h1 h2 v u hz.1 hu];exact hr,hu,rfl⟩
 back h1 h2:=fun {v v' u'} hz hu hr=>by
  obtain ⟨u,h3,rfl⟩:=h.ren.surj hu
  exact ⟨u,h3,by rw [← h.rel.rel _ _ _ h1 h2 v u hz.1 h3,← hz.2];exact hr,h3,rfl⟩
end Go.Ab
namespace Go.Ab
def zbR (l:List Nat) (R:z8):z8:=R.map fun r=>fun i j=>r (l.getD i 0) (l.getD j 0)
def zdJ (l:List Nat) (fa:Nat→Int):Nat→Int:=fun i=>fa (l.getD i 0)
theorem zhh {l:List Nat} {i:Nat} (h:i < l.length):l.getD i 0∈l:=by
 rw [List.getD,List.getElem?_eq_getElem h];exact List.getElem_mem h
theorem zyv {l:List Nat} {x:Nat} (h:x∈l) : ∃ i,i < l.length∧l.getD i 0=x:=by
 obtain ⟨i,hi,rfl⟩:=List.mem_iff_getElem.1 h
 exact ⟨i,hi,by simp [List.getD,hi]⟩
end Go.Ab
namespace Go.Ab
inductive Rch (n:Nat) (R:z8) (S:Nat→Prop):Nat→Prop where
 | base {v:Nat} : v < n→S v→Rch n R S v
 | step {v u:Nat} : Rch n R S v→u < n→(∃ r,r∈R∧r v u=true)→Rch n R S u
theorem Rch.lt {n:Nat} {R:z8} {S:Nat→Prop} {v:Nat} (h:Rch n R S v):v < n:=by cases h<;>assumption
noncomputable def zY (n:Nat) (R:z8) (root:Nat):List Nat:=(List.range n).filter fun w => @decide (Rch n R (· = root) w) (Classical.propDecidable _)
theorem ziM {n:Nat} {R:z8} {root w:Nat} : w∈zY n R root↔Rch n R (· = root) w:=by
 unfold zY
 rw [List.mem_filter,List.mem_range,@decide_eq_true_eq _ (Classical.propDecidable _)]
 exact ⟨fun h=>h.2,fun h=>⟨h.lt,h⟩⟩
theorem zwq (n:Nat) (R:z8) (root:Nat):(zY n R root).Nodup:=List.Nodup.sublist List.filter_sublist List.nodup_range
theorem zjJ {n:Nat} {R:z8} {root:Nat} (h:root < n):root∈zY n R root:=ziM.2 (.base h rfl)
theorem zyK {n:Nat} {R:z8} {fa:Nat→Int} {l:List Nat} (hl : ∀ x,x∈l→x < n) (hc : ∀ r,r∈R → ∀ v u,v∈l→u < n→r v u=true→u∈l):zdv n l.length R (zbR l R) fa (zdJ l fa) fun v i=>i < l.length∧l.getD i 0=v where
 len:=by simp [zbR]
 lt:=fun {v i} h=>⟨by rw [← h.2];exact hl _ (zhh h.1),h.1⟩
 fac:=fun {v i} h=>by unfold zdJ;rw [h.2]
 forth h1 h2:=fun {v v' u} hz hu hr=>by
  rw [zbR,List.getElem?_map,h1] at h2;cases h2
  obtain ⟨hz1,rfl⟩:=hz
  obtain ⟨j,hj,rfl⟩:=zyv (hc _ (List.mem_of_getElem? h1) _ u (zhh hz1) hu hr)
  exact ⟨j,hj,hr,hj,rfl⟩
 back h1 h2:=fun {v v' u'} hz hu hr=>by
  rw [zbR,List.getElem?_map,h1] at h2;cases h2
  obtain ⟨hz1,rfl⟩:=hz
  exact ⟨l.getD u' 0,hl _ (zhh hu),hr,hu,rfl⟩
theorem zve {n:Nat} {R:z8} {root:Nat} : ∀ r,r∈R → ∀ v u,v∈zY n R root→u < n→r v u=true→u∈zY n R root:=fun r hr v u hv hu h=>ziM.2 (.step (ziM.1 hv) hu ⟨r,hr,h⟩)
end Go.Ab
namespace Go.Ab
structure Ptd where
 n:Nat
 R:z8
 fa:Nat→Int
 root:Nat
noncomputable def Ptd.min (m:Ptd):Ptd :=
 let l:=zY m.n m.R m.root
 let q:=coa l.length (zbR l m.R) (zdJ l m.fa)
 ⟨zD l.length q,(zbR l m.R).map (zdE l.length q),zlo l.length q (zdJ l m.fa),zI q (l.idxOf m.root)⟩
theorem zsp {l:List Nat} {x:Nat} (h:x∈l):l.idxOf x < l.length∧l.getD (l.idxOf x) 0=x:=by
 have h1:=List.idxOf_lt_length_of_mem h
 exact ⟨h1,by simp [List.getD,h1]⟩
def zg1 (m m':Ptd):Prop := ∃ Z,zdv m.n m'.n m.R m'.R m.fa m'.fa Z∧Z m.root m'.root
theorem zg1.symm {m m':Ptd} (h:zg1 m m'):zg1 m' m:=let ⟨Z,B,hz⟩:=h; ⟨_,B.symm,hz⟩
theorem zg1.trans {m m' m2:Ptd} (h:zg1 m m') (h':zg1 m' m2):zg1 m m2:=let ⟨Z,B,hz⟩:=h;let ⟨Z',B',hz'⟩:=h'; ⟨_,B.trans B',_,hz,hz'⟩
theorem zsE {m:Ptd} (h:m.root < m.n):zg1 m m.min:=by
 have S:=zjx (zY m.n m.R m.root).length (zbR (zY m.n m.R m.root) m.R) (zdJ (zY m.n m.R m.root) m.fa)
 have B:=zyK (fa:=m.fa) (fun x hx=>(ziM.1 hx).lt) (zve (n:=m.n) (R:=m.R) (root:=m.root))
 obtain ⟨h1,h2⟩:=zsp (zjJ (R:=m.R) h)
 exact ⟨_,B.trans S.quo,_,⟨h1,h2⟩,h1,rfl⟩
theorem zyw {m:Ptd} (h:m.root < m.n):m.min.root < m.min.n:=by
 obtain ⟨Z,B,hz⟩:=zsE h
 exact (B.lt hz).2
end Go.Ab
namespace Go.Ab
theorem zbU {n:Nat} (hn:n≤64) {f:Nat→Bool} {w:Nat} : (zbc f n).getLsbD w=true↔w < n∧f w=true:=by
 rw [zqV];simp only [Bool.and_eq_true,decide_eq_true_eq]
 exact ⟨fun h=>⟨h.1.2,h.2⟩,fun h=>⟨⟨by omega,h.1⟩,h.2⟩⟩
def zm (m:KM):z8:=m.rel.map fun r=>fun v w=>rb r v w
def zV (m:KM) (w:Nat):Int:=(zaB m.val w m.val.length:Int)
def zbJ (s:BitVec 64) (l:List Nat):BitVec 64:=zbc (fun i=>s.getLsbD (l.getD i 0)) l.length
def zc9 (m:KM) (l:List Nat):KM:=⟨l.length,m.val.map fun s=>zbJ s l,m.rel.map fun r=>l.map fun w=>zbJ (r.getD w 0#64) l⟩
theorem zj1 {s:BitVec 64} {l:List Nat} (hl:l.length≤64) {i:Nat} : (zbJ s l).getLsbD i=true↔i < l.length∧s.getLsbD (l.getD i 0)=true:=zbU hl
theorem zeT {n:Int} {s:BitVec 64} (h:0≤n):bad n s=false ↔ ∀ i,s.getLsbD i=true→i < n.toNat:=by
 rw [zkx h]
 exact ⟨fun k i hi=>by have:=k i hi;omega,fun k i hi=>by have:=k i hi;omega⟩
theorem zoI {m:KM} (h:zc6 m):zg m=0:=by
 obtain ⟨h1,h2,h3,h4,h5,h6,h7⟩:=h
 unfold zg
 rw [if_neg (by omega),if_neg (by omega),if_neg,if_neg,if_neg]
 ·simp only [List.any_eq_true,not_exists,not_and]
  intro r hr s hs e
  rw [h7 r hr s hs] at e;cases e
 ·simp only [List.any_eq_true,not_exists,not_and]
  intro s hs e
  rw [h6 s hs] at e;cases e
 ·simp only [List.any_eq_true,not_exists,not_and,decide_eq_true_eq]
  intro r hr e
  exact e (h5 r hr)
theorem zxR {m:KM} (hm:zc6 m) {l:List Nat} (h1:1≤l.length) (h2:l.length≤64):zc6 (zc9 m l) where
 w1:=by show (1:Int)≤(l.length:Int);omega
 w2:=by show (l.length:Int)≤64;omega
 n4:=by have:=hm.n4;simpa [zc9] using this
 v8:=by have:=hm.v8;simpa [zc9] using this
 len:=fun r hr=>by
  obtain ⟨r',-,rfl⟩:=List.mem_map.1 hr
  simp [zc9]
 val:=fun s hs=>by
  obtain ⟨s',-,rfl⟩:=List.mem_map.1 hs
  rw [zeT (by show (0:Int)≤(l.length:Int);omega)]
  intro i hi
  exact ((zj1 h2).1 hi).1
 rel:=fun r hr s hs=>by
  obtain ⟨r',-,rfl⟩:=List.mem_map.1 hr
  obtain ⟨w,-,rfl⟩:=List.mem_map.1 hs
  rw [zeT (by show (0:Int)≤(l.length:Int);omega)]
  intro i hi
  exact ((zj1 h2).1 hi).1
theorem zvP {m:KM} (hc:zg m=0) {l:List Nat} (h1:1≤l.length) (h2:l.length≤64):zg (zc9 m l)=0:=zoI (zxR (zz hc) h1 h2)
theorem zyS (m:KM):(zm m).length=m.rel.length:=by simp [zm]
theorem zzA {m:KM} {l:List Nat} (h2:l.length≤64) {i:Nat} {r r':Nat→Nat→Bool} (h:(zm (zc9 m l))[i]? = some r) (h':(zbR l (zm m))[i]? = some r') {v w:Nat} (hv:v < l.length) (hw:w < l.length):r v w=r' v w:=by
 unfold zm zc9 at h
 unfold zbR zm at h'
 rw [List.map_map,List.getElem?_map,Option.map_eq_some_iff] at h
 rw [List.map_map,List.getElem?_map,Option.map_eq_some_iff] at h'
 obtain ⟨a,ha,rfl⟩:=h
 obtain ⟨b,hb,rfl⟩:=h'
 rw [ha] at hb;cases hb
 show rb (l.map fun w=>zbJ (a.getD w 0#64) l) v w=rb a (l.getD v 0) (l.getD w 0)
 unfold rb
 rw [show (l.map fun w=>zbJ (a.getD w 0#64) l).getD v 0#64=zbJ (a.getD (l.getD v 0) 0#64) l by
  simp [List.getD,List.getElem?_map,List.getElem?_eq_getElem hv]]
 rw [Bool.eq_iff_iff,zj1 h2]
 exact ⟨fun h=>h.2,fun h=>⟨hw,h⟩⟩
theorem zoA (vl:List (BitVec 64)) {l:List Nat} (h2:l.length≤64) {i:Nat} (hi:i < l.length) : ∀ k,zaB (vl.map fun s=>zbJ s l) i k=zaB vl (l.getD i 0) k
 | 0=>rfl
 | k+1=>by
  rw [zaB,zaB,zoA vl h2 hi k]
  have e:((vl.map fun s=>zbJ s l).getD k 0#64).getLsbD i=(vl.getD k 0#64).getLsbD (l.getD i 0):=by
   simp only [List.getD,List.getElem?_map]
   cases hk:vl[k]? with
   | none=>simp
   | some s =>
    show (zbJ s l).getLsbD i=s.getLsbD (l.getD i 0)
    rw [Bool.eq_iff_iff,zj1 h2]
    exact ⟨fun h=>h.2,fun h=>⟨hi,h⟩⟩
  rw [e]
theorem zzz {m:KM} {l:List Nat} (h2:l.length≤64) {i:Nat} (hi:i < l.length):zV (zc9 m l) i=zdJ l (zV m) i:=by
 unfold zV zdJ zc9
 rw [List.length_map,zoA _ h2 hi]
theorem zyl {l:List (BitVec 64)} {W:Int} (hW:0≤W) (h : ∀ s∈l,bad W s=false) (i w:Nat) (hw:(l.getD i 0#64).getLsbD w=true):w < W.toNat:=by
 cases hi:l[i]? with
 | none=>rw [List.getD,hi] at hw;simp at hw
 | some s =>
  rw [List.getD,hi] at hw
  exact (zeT hW).1 (h s (List.mem_of_getElem? hi)) w hw
theorem zt4 {α:Type} {l:List α} {i:Nat} {d:α} (h:i < l.length):l[i]? = some (l.getD i d):=by simp [List.getD,h]
def zhi (to:List Int) (n:Nat):Bool:=decide (to.length=n∧(∀ x∈to,0≤x∧x < n)∧to.Nodup)
def zA4 (to:List Int) (n:Nat):List Nat:=(List.range n).map fun (i:Nat)=>to.idxOf (i:Int)
def zfu:KM:=⟨0,[],[]⟩
theorem zj0 {to:List Int} {n:Nat} : zhi to n=true↔to.length=n∧(∀ x∈to,0≤x∧x < n)∧to.Nodup:=by simp only [zhi,decide_eq_true_eq]
theorem zyN {to:List Int} {n:Nat} (h:zhi to n=true) {i:Nat} (hi:i < n):(i:Int)∈to:=by
 obtain ⟨h1,h2,h3⟩:=zj0.1 h
 have key : ∀ x∈to,x∈(List.range n).map fun (i:Nat)=>(i:Int):=fun x hx=>List.mem_map.2 ⟨x.toNat,List.mem_range.2 (by have:=h2 x hx;omega),by have:=h2 x hx;omega⟩
 apply Classical.byContradiction
 intro hn
 have:=zi0 (l:=(i:Int)::to) (l':=(List.range n).map fun (i:Nat)=>(i:Int)) (List.nodup_cons.2 ⟨hn,h3⟩) fun x hx=>by
  rcases List.mem_cons.1 hx with rfl|hx
  ·exact List.mem_map.2 ⟨i,List.mem_range.2 hi,rfl⟩
  ·exact key x hx
 simp at this;omega
end Go.Ab
namespace Go.Ab
noncomputable def zif (m:KM) (s:BitVec 64):BitVec 64:=zbc (fun w => @decide (Rch m.W.toNat (zm m) (fun v=>s.getLsbD v=true) w) (Classical.propDecidable _)) 64
theorem ziL {m:KM} (hc:zg m=0) {s:BitVec 64} {w:Nat} : (zif m s).getLsbD w=true↔Rch m.W.toNat (zm m) (fun v=>s.getLsbD v=true) w:=by
 have w2:=(zz hc).w2
 unfold zif
 rw [zbU (Nat.le_refl _),@decide_eq_true_eq _ (Classical.propDecidable _)]
 exact ⟨fun h=>h.2,fun h=>⟨by have:=h.lt;omega,h⟩⟩
def Clo (m:KM) (s:BitVec 64):Prop := ∀ v,s.getLsbD v=true → ∀ r∈m.rel,∀ u,rb r v u=true→s.getLsbD u=true
structure zrG (m:KM) (f s:BitVec 64):Prop where
 sub : ∀ v,f.getLsbD v=true→s.getLsbD v=true
 inn : ∀ v,s.getLsbD v=true→Rch m.W.toNat (zm m) (fun v=>f.getLsbD v=true) v
theorem zBE {m:KM} (hc:zg m=0) {r:List (BitVec 64)} (hr:r∈m.rel) {v u:Nat} (h:rb r v u=true):v < m.W.toNat∧u < m.W.toNat:=by
 have hg:=zz hc
 have w1:=hg.w1
 refine ⟨?_,zyl (by omega) (hg.rel r hr) v u h⟩
 apply Classical.byContradiction
 intro hn
 have:=hg.len r hr
 rw [zwX (by omega)] at h;cases h
theorem zsT {m:KM} (hc:zg m=0) {S:Nat→Prop} {v u:Nat} (h:Rch m.W.toNat (zm m) S v) {r:List (BitVec 64)} (hr:r∈m.rel) (e:rb r v u=true):Rch m.W.toNat (zm m) S u :=
 .step h (zBE hc hr e).2 ⟨fun v w=>rb r v w,List.mem_map.2 ⟨r,hr,rfl⟩,e⟩
theorem zrG.done {m:KM} (hc:zg m=0) {f s:BitVec 64} (h:zrG m f s) (hcl:Clo m s):s=zif m f:=by
 have hin : ∀ v,Rch m.W.toNat (zm m) (fun v=>f.getLsbD v=true) v→s.getLsbD v=true:=fun v hv=>by
  induction hv with
  | base _ h1=>exact h.sub _ h1
  | step _ hu hr ih =>
   obtain ⟨r',hr',e⟩:=hr
   obtain ⟨r,hr,rfl⟩:=List.mem_map.1 hr'
   exact hcl _ ih r hr _ e
 refine BitVec.eq_of_getLsbD_eq fun i _=>?_
 rw [Bool.eq_iff_iff,ziL hc]
 exact ⟨h.inn i,hin i⟩
structure zpq (m:KM) (f out todo:BitVec 64):Prop where
 gs:zrG m f out
 tod : ∀ v,todo.getLsbD v=true→out.getLsbD v=true
 clo : ∀ v,out.getLsbD v=true→todo.getLsbD v=false → ∀ r∈m.rel,∀ u,rb r v u=true→out.getLsbD u=true
theorem zvc {m:KM} {f:BitVec 64} (hf : ∀ v,f.getLsbD v=true→v < m.W.toNat):zpq m f f f :=
 ⟨⟨fun _ h=>h,fun v h => .base (hf v h) h⟩,fun _ h=>h,fun v h h'=>by rw [h] at h';cases h'⟩
theorem zpq.done {m:KM} (hc:zg m=0) {f out:BitVec 64} (h:zpq m f out 0#64):out=zif m f :=
 h.gs.done hc fun v hv=>h.clo v hv (by simp)
def zkI (a b:BitVec 64):Nat:=((List.range 64).filter fun v=>a.getLsbD v && !b.getLsbD v).length
theorem zzI (a b:BitVec 64):zkI a b≤64:=by
 have:=List.length_filter_le (fun v=>a.getLsbD v && !b.getLsbD v) (List.range 64)
 simpa [zkI] using this
theorem zAG {s:BitVec 64} {w:Nat} (h:s.getLsbD w=true):w < 64:=by
 apply Classical.byContradiction
 intro hn
 rw [BitVec.getLsbD_of_ge _ _ (by omega)] at h;cases h
structure zm0 (m:KM) (out todo:BitVec 64) (w k:Nat) (o t:BitVec 64):Prop where
 o : ∀ v,o.getLsbD v=true↔out.getLsbD v=true ∨ ∃ r∈m.rel.take k,rb r w v=true
 t : ∀ v,t.getLsbD v=true↔(todo.getLsbD v=true∧v≠w)∨(out.getLsbD v=false ∧ ∃ r∈m.rel.take k,rb r w v=true)
theorem zvd {m:KM} {out todo t:BitVec 64} {w:Nat} (ht : ∀ v,t.getLsbD v=(todo.getLsbD v&&v != w)):zm0 m out todo w 0 out t :=
 ⟨fun v=>by simp,fun v=>by rw [ht];simp⟩
theorem zgq {α:Type} {l:List α} {k:Nat} {x:α} (h:l[k]? = some x) (p:α→Prop):(∃ r∈l.take (k+1),p r)↔(∃ r∈l.take k,p r)∨p x:=by
 rw [List.take_add_one,h]
 simp only [Option.toList_some,List.mem_append,List.mem_singleton]
 constructor
 ·rintro ⟨r,h1|rfl,h2⟩
  ·exact .inl ⟨r,h1,h2⟩
  ·exact .inr h2
 ·rintro (⟨r,h1,h2⟩|h2)
  ·exact ⟨r,.inl h1,h2⟩
  ·exact ⟨x,.inr rfl,h2⟩
theorem zm0.next {m:KM} {out todo:BitVec 64} {w k:Nat} {o t:BitVec 64} (h:zm0 m out todo w k o t) {r:List (BitVec 64)} {x:BitVec 64} (hr:m.rel[k]? = some r) (hx:r[w]? = some x):zm0 m out todo w (k+1) (o|||x) (t|||(x &&& ~~~o)):=by
 have e : ∀ v,rb r w v=x.getLsbD v:=fun v=>zrx hx v
 refine ⟨fun v=>?_,fun v=>?_⟩
 ·rw [zgq hr,BitVec.getLsbD_or,Bool.or_eq_true,h.o v,e]
  simp only [or_assoc]
 ·rw [zgq hr,BitVec.getLsbD_or,Bool.or_eq_true,h.t v,BitVec.getLsbD_and,Bool.and_eq_true,BitVec.getLsbD_not,e]
  have ho:=h.o v
  by_cases hv:v < 64
  ·simp only [hv,decide_true,Bool.true_and,Bool.not_eq_true']
   by_cases h1:out.getLsbD v=true
   ·have:o.getLsbD v=true:=ho.2 (.inl h1)
    simp [h1,this]
   ·simp only [Bool.not_eq_true] at h1
    by_cases h2 : ∃ r∈m.rel.take k,rb r w v=true
    ·have:o.getLsbD v=true:=ho.2 (.inr h2)
     simp [h1,h2,this]
    ·have:o.getLsbD v=false:=by rw [← Bool.not_eq_true];intro h3;rcases ho.1 h3 with h3|h3; (rw [h1] at h3;cases h3);exact h2 h3
     simp [h1,h2,this]
  ·have:x.getLsbD v=false:=BitVec.getLsbD_of_ge _ _ (by omega)
   simp [hv,this]
theorem zm0.end' {m:KM} (hc:zg m=0) {f out todo:BitVec 64} {w:Nat} {o t:BitVec 64} (h:zpq m f out todo) (hw:todo.getLsbD w=true) (hK:zm0 m out todo w m.rel.length o t):zpq m f o t∧zkI out todo < zkI o t:=by
 have ho:=hK.o;have ht:=hK.t
 simp only [List.take_length] at ho ht
 have how:=h.tod w hw
 have hr : ∀ {r v},r∈m.rel→rb r w v=true→o.getLsbD v=true:=fun h1 h2=>(ho _).2 (.inr ⟨_,h1,h2⟩)
 refine ⟨⟨⟨fun v hv=>(ho v).2 (.inl (h.gs.sub v hv)),fun v hv=>?_⟩,fun v hv=>?_,fun v hv hv' r hr' u hu=>?_⟩,?_⟩
 ·rcases (ho v).1 hv with h1|⟨r,h1,h2⟩
  ·exact h.gs.inn v h1
  ·exact zsT hc (h.gs.inn w how) h1 h2
 ·rcases (ht v).1 hv with ⟨h1,-⟩|⟨-,h2⟩
  ·exact (ho v).2 (.inl (h.tod v h1))
  ·exact (ho v).2 (.inr h2)
 ·by_cases e:v=w
  ·subst e;exact hr hr' hu
  ·have h1:out.getLsbD v=true:=by
    rcases (ho v).1 hv with h1|h1
    ·exact h1
    ·cases h2:out.getLsbD v with
     | true=>rfl
     | false=>rw [(ht v).2 (.inr ⟨h2,h1⟩)] at hv';cases hv'
   have h2:todo.getLsbD v=false:=by
    rw [← Bool.not_eq_true];intro h2
    rw [(ht v).2 (.inl ⟨h2,e⟩)] at hv';cases hv'
   exact (ho u).2 (.inl (h.clo v h1 h2 r hr' u hu))
 ·unfold zkI
  refine (zeX (fun v hv=>?_) _).2 ⟨w,List.mem_range.2 (zAG hw),by rw [hw];simp,?_⟩
  ·simp only [Bool.and_eq_true,Bool.not_eq_true'] at hv ⊢
   refine ⟨(ho v).2 (.inl hv.1),?_⟩
   rw [← Bool.not_eq_true];intro h1
   rcases (ht v).1 h1 with ⟨h2,-⟩|⟨h2,-⟩
   ·rw [h2] at hv;cases hv.2
   ·rw [h2] at hv;cases hv.1
  ·rw [(ho w).2 (.inl how)]
   simp only [Bool.true_and,Bool.not_eq_true']
   rw [← Bool.not_eq_true];intro h1
   rcases (ht w).1 h1 with ⟨-,h2⟩|⟨h2,-⟩
   ·exact h2 rfl
   ·rw [how] at h2;cases h2
def zpH (s:BitVec 64):Nat:=(zR s).length
theorem zzJ {n:Nat} {s:BitVec 64} (h : ∀ v,s.getLsbD v=true→v < n):zpH s≤n:=by
 have:=zi0 (zsJ s) (l':=List.range n) fun v hv=>List.mem_range.2 (h v (zo2.1 hv))
 simpa [zpH] using this
theorem zzK {s t:BitVec 64} (h : ∀ v,s.getLsbD v=true→t.getLsbD v=true) (hne:t≠s):zpH s < zpH t:=by
 unfold zpH zR
 refine (zeX (fun v hv=>h v hv) _).2 ?_
 apply Classical.byContradiction
 intro hn
 refine hne (BitVec.eq_of_getLsbD_eq fun i hi=>?_)
 rw [Bool.eq_iff_iff]
 refine ⟨fun h1=>?_,h i⟩
 rw [← Bool.not_eq_false];intro h2
 exact hn ⟨i,List.mem_range.2 hi,h2,h1⟩
structure zpr (m:KM) (f s0:BitVec 64) (w:Nat) (s:BitVec 64):Prop where
 gs:zrG m f s
 sub : ∀ v,s0.getLsbD v=true→s.getLsbD v=true
 clo : ∀ v,v < w→s0.getLsbD v=true → ∀ r∈m.rel,∀ u,rb r v u=true→s.getLsbD u=true
theorem zpr.skip {m:KM} {f s0 s:BitVec 64} {w:Nat} (h:zpr m f s0 w s) (hw:s.getLsbD w=false):zpr m f s0 (w+1) s :=
 ⟨h.gs,h.sub,fun v hv h1=>by
  by_cases e:v=w
  ·subst e;rw [h.sub _ h1] at hw;cases hw
  ·exact h.clo v (by omega) h1⟩
structure zrE (m:KM) (f s0:BitVec 64) (w k:Nat) (s:BitVec 64):Prop where
 gw:zpr m f s0 w s
 has:s.getLsbD w=true
 clo : ∀ r∈m.rel.take k,∀ u,rb r w u=true→s.getLsbD u=true
theorem zrE.next {m:KM} (hc:zg m=0) {f s0 s:BitVec 64} {w k:Nat} (h:zrE m f s0 w k s) {r:List (BitVec 64)} {x:BitVec 64} (hr:m.rel[k]? = some r) (hx:r[w]? = some x):zrE m f s0 w (k+1) (s|||x):=by
 have e : ∀ v,rb r w v=x.getLsbD v:=fun v=>zrx hx v
 have up : ∀ v,s.getLsbD v=true→(s|||x).getLsbD v=true:=fun v hv=>by rw [BitVec.getLsbD_or,hv];rfl
 refine ⟨⟨⟨fun v hv=>up v (h.gw.gs.sub v hv),fun v hv=>?_⟩,fun v hv=>up v (h.gw.sub v hv),fun v h1 h2 r' h3 u h4=>up u (h.gw.clo v h1 h2 r' h3 u h4)⟩,up w h.has,fun r' hr' u hu=>?_⟩
 ·rw [BitVec.getLsbD_or,Bool.or_eq_true] at hv
  rcases hv with hv|hv
  ·exact h.gw.gs.inn v hv
  ·exact zsT hc (h.gw.gs.inn w h.has) (List.mem_of_getElem? hr) (by rw [e];exact hv)
 ·rcases (zgq hr (· = r')).1 ⟨r',hr',rfl⟩ with ⟨q,h1,rfl⟩|rfl
  ·exact up u (h.clo q h1 u hu)
  ·rw [BitVec.getLsbD_or,← e,hu];simp
theorem zrE.end' {m:KM} {f s0 s:BitVec 64} {w:Nat} (h:zrE m f s0 w m.rel.length s):zpr m f s0 (w+1) s :=
 ⟨h.gw.gs,h.gw.sub,fun v hv h1 r hr u hu=>by
  by_cases e:v=w
  ·subst e;exact h.clo r (by rw [List.take_length];exact hr) u hu
  ·exact h.gw.clo v (by omega) h1 r hr u hu⟩
structure zrF (m:KM) (f:BitVec 64) (i:Nat) (s:BitVec 64):Prop where
 gs:zrG m f s
 more:Clo m s∨i < zpH s
theorem zrF.next {m:KM} (hc:zg m=0) {f s0 s:BitVec 64} {i:Nat} (h:zrF m f i s0) (hW:zpr m f s0 m.W.toNat s):zrF m f (i+1) s:=by
 refine ⟨hW.gs,?_⟩
 have hlt : ∀ v,s0.getLsbD v=true→v < m.W.toNat:=fun v hv=>(h.gs.inn v hv).lt
 by_cases e:s=s0
 ·subst e
  exact .inl fun v hv r hr u hu=>hW.clo v (hlt v hv) hv r hr u hu
 ·have hl:=zzK hW.sub e
  rcases h.more with h1|h1
  ·refine absurd ?_ e
   have a:=h.gs.done hc h1
   refine BitVec.eq_of_getLsbD_eq fun v _=>?_
   rw [Bool.eq_iff_iff]
   refine ⟨fun hv=>?_,hW.sub v⟩
   rw [a];exact (ziL hc).2 (hW.gs.inn v hv)
  ·exact .inr (by omega)
theorem zrF.done {m:KM} (hc:zg m=0) {f s:BitVec 64} (h:zrF m f m.W.toNat s):s=zif m f:=by
 refine h.gs.done hc ?_
 rcases h.more with h1|h1
 ·exact h1
 ·have:=zzJ (n:=m.W.toNat) fun v hv=>(h.gs.inn v hv).lt
  omega
theorem zp8 {w v:Nat} (hw:w < 64):(1#64 <<< w).getLsbD v=true↔v=w:=by
 rw [zpu];simp only [Bool.and_eq_true,decide_eq_true_eq];omega
theorem zqS {n:Nat} {R:z8} {S S':Nat→Prop} (h : ∀ v,S v→S' v) {v:Nat} (hv:Rch n R S v):Rch n R S' v:=by
 induction hv with
 | base h1 h2=>exact .base h1 (h _ h2)
 | step _ h2 h3 ih=>exact .step ih h2 h3
theorem zhS {p:Nat→Bool} {n:Nat} (h : ∀ v,p v=true→v < n) : ∀ k,n≤k→(List.range k).filter p=(List.range n).filter p
 | 0,hk=>by rw [show n=0 by omega]
 | k+1,hk=>by
  by_cases e:n=k+1
  ·rw [e]
  ·rw [List.range_succ,List.filter_append,zhS h k (by omega)]
   have:p k=false:=by rw [← Bool.not_eq_true];intro hp;have:=h k hp;omega
   simp [this]
theorem zyk {m:KM} (hc:zg m=0) {w:Nat} (hw:w < m.W.toNat):zR (zif m (1#64 <<< w))=zY m.W.toNat (zm m) w:=by
 have w2:=(zz hc).w2
 unfold zR zY
 have key : ∀ v,(zif m (1#64 <<< w)).getLsbD v = @decide (Rch m.W.toNat (zm m) (· = w) v) (Classical.propDecidable _):=fun v=>by
  rw [Bool.eq_iff_iff,ziL hc,@decide_eq_true_eq _ (Classical.propDecidable _)]
  exact ⟨fun h=>zqS (fun v hv=>(zp8 (by omega)).1 hv) h,fun h=>zqS (fun v hv=>(zp8 (by omega)).2 hv) h⟩
 rw [zhS (n:=m.W.toNat) (fun v hv=>((ziL hc).1 hv).lt) 64 (by omega)]
 exact List.filter_congr fun v _=>key v
end Go.Ab
namespace Go.Ab
open Go Go.Proofs
set_option maxRecDepth 10000
set_option maxHeartbeats 4000000
variable {T:Nat→Obj→Prop}
theorem zpQ (n:Int) (h:0≤n):Fn Tryz.prog T zmE [.d (.int .i64 n)] [] (.d (.u64 (zaQ n))) []:=by
 refine zf zu ztD (by show 1≤8;decide) ?_
 (repeat' ((conv=>whnf);first|refine vA ?_|(refine vF ?_ ?_<;>intro hc<;>try simp only [vL] at hc)|refine vT ?_|(refine vP ?_ ?_;·omega)|refine vY ?_));all_goals try conv=>whnf
 ·simp [zaQ, *]
 ·rw [zaQ,if_neg (by omega)];rfl
theorem zzX (l:List (BitVec 64)) (g:Nat) (y:D) (p:BitVec 64→Bool) (hF : ∀ x,Fn Tryz.prog T g [.d (.u64 x),.d y] [] (.d (.bool (p x))) []):Fn Tryz.prog T zbN [.d (dU l),.d (.fn g [y])] [] (.d (.int .i64 (zeE p l))) []:=by
 refine zf zu zes (by show 2≤19;decide) ?_
 (repeat' ((conv=>whnf);first|refine vA ?_|refine vJ fun hg=>?_|refine vT ?_));all_goals try conv=>whnf
 refine zaw (fun (k:Nat)=>[(0,.d (dU l)),(1,.d (.fn g [y])),(7,.d (.int .i64 ((l.map D.u64).length:Int))),(8,.d (.int .i64 ((k:Int))))]) (fun (k:Nat)=>k≤l.length ∧ ∀ (i:Nat) x,i < k→l[i]? = some x→p x=false) (fun (k:Nat)=>l.length - k) (0) (⟨by simp,fun i x h=>by omega⟩) (by (repeat' first|exact trivial|exact rfl|refine And.intro ?_ ?_)) ?_
 rintro k ⟨hk,hI⟩
 (repeat' ((conv=>whnf);first|refine vA ?_|((first|refine vF ?_ ?_|refine vI ?_ ?_)<;>intro hc<;>try simp only [vL] at hc)|refine vT ?_|(refine vQ ?_ fun x hx=>?_;·omega)|(refine vO ?_ ?_;·omega)|refine vX ?_|refine yD (hF _) (by (repeat refine ⟨⟨rfl,rfl⟩,?_⟩);rfl) rfl ?_));all_goals try conv=>whnf
 ·rw [zgc hx ‹_› hI]
 ·exact ⟨k+1,[],[],⟨by (omega),fun i z hi hz=>by
   by_cases e:i=k
   ·subst e;rw [hx] at hz;cases hz;assumption
   ·exact hI i z (by omega) hz⟩,by (omega),by (refine ⟨rfl,rfl,rfl,?_,?_⟩;repeat' first|exact trivial|exact rfl|refine And.intro ?_ ?_)⟩
 ·rw [zjF fun i x hi hx=>hI i x (by omega) hx]
theorem zyd (l:List (List (BitVec 64))) (g:Nat) (y:D) (p:List (BitVec 64)→Bool) (hF : ∀ x,Fn Tryz.prog T g [.d (dU x),.d y] [] (.d (.bool (p x))) []):Fn Tryz.prog T zbA [.d (dUU l),.d (.fn g [y])] [] (.d (.int .i64 (zeE p l))) []:=by
 refine zf zu zdZ (by show 2≤19;decide) ?_
 (repeat' ((conv=>whnf);first|refine vA ?_|refine vJ fun hg=>?_|refine vT ?_));all_goals try conv=>whnf
 refine zaw (fun (k:Nat)=>[(0,.d (dUU l)),(1,.d (.fn g [y])),(7,.d (.int .i64 ((l.map dU).length:Int))),(8,.d (.int .i64 ((k:Int))))]) (fun (k:Nat)=>k≤l.length ∧ ∀ (i:Nat) x,i < k→l[i]? = some x→p x=false) (fun (k:Nat)=>l.length - k) (0) (⟨by simp,fun i x h=>by omega⟩) (by (repeat' first|exact trivial|exact rfl|refine And.intro ?_ ?_)) ?_
 rintro k ⟨hk,hI⟩
 (repeat' ((conv=>whnf);first|refine vA ?_|((first|refine vF ?_ ?_|refine vI ?_ ?_)<;>intro hc<;>try simp only [vL] at hc)|refine vT ?_|(refine vQ ?_ fun x hx=>?_;·omega)|(refine vO ?_ ?_;·omega)|refine vX ?_|refine yD (hF _) (by (repeat refine ⟨⟨rfl,rfl⟩,?_⟩);rfl) rfl ?_));all_goals try conv=>whnf
 ·rw [zgc hx ‹_› hI]
 ·exact ⟨k+1,[],[],⟨by (omega),fun i z hi hz=>by
   by_cases e:i=k
   ·subst e;rw [hx] at hz;cases hz;assumption
   ·exact hI i z (by omega) hz⟩,by (omega),by (refine ⟨rfl,rfl,rfl,?_,?_⟩;repeat' first|exact trivial|exact rfl|refine And.intro ?_ ?_)⟩
 ·rw [zjF fun i x hi hx=>hI i x (by omega) hx]
theorem zqw {α:Type} {p:α→Bool} {l:List α} : decide (0≤zeE p l)=l.any p:=by
 rw [Bool.eq_iff_iff,decide_eq_true_eq,zsd,List.any_eq_true]
theorem ztA (n:Int) (h:0≤n) (s:BitVec 64):Fn Tryz.prog T zcL [.d (.u64 s),.d (.box [.int .i64 n])] [] (.d (.bool (bad n s))) []:=by
 refine zf zu zmr (by show 2≤9;decide) ?_
 (repeat' ((conv=>whnf);first|refine vT ?_|refine vZ ?_|refine yD (zpQ n h) ⟨⟨rfl,rfl⟩,rfl⟩ rfl ?_));all_goals try conv=>whnf
 rfl
theorem zmJ (l:List (BitVec 64)) (n:Int) (h:0≤n):Fn Tryz.prog T zhR [.d (dU l),.d (.int .i64 n)] [] (.d (.bool (l.any (bad n)))) []:=by
 have c1:Fn Tryz.prog T zbs [.d (dU l),.d (.fn zcL [.box [.int .i64 n]])] [] (.d (.bool (l.any (bad n)))) []:=by
  refine zf zu zdM (by show 2≤9;decide) ?_
  (repeat' ((conv=>whnf);first|refine vT ?_|refine vZ ?_|refine yD (zzX l _ _ (bad n) (ztA n h)) ⟨⟨rfl,rfl⟩,⟨rfl,rfl⟩,rfl⟩ rfl ?_));all_goals try conv=>whnf
  exact zqw
 refine zf zu zo0 (by show 2≤8;decide) ?_
 (repeat' ((conv=>whnf);first|refine vT ?_|refine vZ ?_|refine yD c1 (by (repeat refine ⟨⟨rfl,rfl⟩,?_⟩);rfl) rfl ?_));all_goals try conv=>whnf
abbrev bKM (m:KM):D := .box [.int .i64 m.W,dU m.val,dUU m.rel]
theorem za1 (m:KM):Fn Tryz.prog T zeC [.d (dKM m)] [] (.d (.int .i64 (zg m))) []:=by
 have c1:0≤m.W → ∀ x:List (BitVec 64),Fn Tryz.prog T zdI [.d (dU x),.d (bKM m)] [] (.d (.bool (x.any (bad m.W)))) []:=fun h x=>by
  refine zf zu zoW (by show 2≤8;decide) ?_
  (repeat' ((conv=>whnf);first|refine vT ?_|refine vZ ?_|refine yD (zmJ x m.W h) ⟨⟨rfl,rfl⟩,⟨rfl,rfl⟩,rfl⟩ rfl ?_));all_goals try conv=>whnf
 have c2:0≤m.W→Fn Tryz.prog T zbg [.d (dUU m.rel),.d (.fn zdI [bKM m])] [] (.d (.bool (m.rel.any fun x=>x.any (bad m.W)))) []:=fun h=>by
  refine zf zu zds (by show 2≤9;decide) ?_
  (repeat' ((conv=>whnf);first|refine vT ?_|refine vZ ?_|refine yD (zyd m.rel _ _ (fun x=>x.any (bad m.W)) (c1 h)) ⟨⟨rfl,rfl⟩,⟨rfl,rfl⟩,rfl⟩ rfl ?_));all_goals try conv=>whnf
  exact zqw
 refine zf zu zrh (by show 1≤47;decide) ?_
 (repeat' ((conv=>whnf);first|refine vA ?_|(refine vF ?_ ?_<;>intro hc<;>try simp only [vL] at hc)|refine vJ fun hg=>?_|refine vT ?_|refine vX ?_));all_goals try conv=>whnf
 ·rw [zg,if_pos (by omega)]
 ·rw [zg,if_pos (by omega)]
 ·rw [zg,if_neg (by omega),if_pos (by omega)]
 ·rw [zg,if_neg (by omega),if_pos (by omega)]
 ·have e0:zg m=if m.rel.any (fun r=>decide ((r.length:Int)≠m.W)) then 3 else if m.val.any (bad m.W) then 2 else if m.rel.any (fun r=>r.any (bad m.W)) then 2 else 0:=by rw [zg,if_neg (by omega),if_neg (by omega)]
  refine zM (fun (k:Nat)=>[(1,.ptr 0 0),(24,.d (dUU m.rel)),(25,.d (.int .i64 ((m.rel.map dU).length:Int))),(26,.d (.int .i64 ((k:Int))))]) (fun (k:Nat)=>[(0,some (zcJ m))]) 1 (fun (k:Nat)=>k≤m.rel.length∧m.rel.any (fun r=>decide ((r.length:Int)≠m.W))=(m.rel.drop k).any (fun r=>decide ((r.length:Int)≠m.W))) (fun (k:Nat)=>m.rel.length - k) (0) [(0,0)] [] (⟨by simp,rfl⟩) (by (refine ⟨rfl,rfl,rfl,?_,?_⟩;repeat' first|exact trivial|exact rfl|refine And.intro ?_ ?_|refine ⟨_,rfl,?_⟩|decide)) ?_
  rintro k ⟨hk,hI⟩
  (repeat' ((conv=>whnf);first|refine vA ?_|((first|refine vD ?_ ?_|refine vF ?_ ?_)<;>intro hc<;>try simp only [vL] at hc)|refine vJ fun hg=>?_|refine vT ?_|(refine vQ ?_ fun x hx=>?_;·omega)|(refine vO ?_ ?_;·omega)|refine vX ?_));all_goals try conv=>whnf
  ·rw [e0,if_pos (by rw [hI,zar hx,List.any_cons,decide_eq_true (by simpa using ‹_›)];rfl)]
  ·exact ⟨k+1,[(0,0)],[],⟨by (omega),by rw [hI,zar hx,List.any_cons,decide_eq_false (by simpa using ‹_›)];rfl⟩,by (omega),by (refine ⟨rfl,rfl,rfl,?_,?_⟩;repeat' first|exact trivial|exact rfl|refine And.intro ?_ ?_|refine ⟨_,rfl,?_⟩|decide)⟩
  ·have h1:m.rel.any (fun r=>decide ((r.length:Int)≠m.W))=false:=by rw [hI,List.drop_eq_nil_of_le (by omega)];rfl
   rw [h1,if_neg (by decide)] at e0
   have co:=zmJ (T:=T) m.val m.W (by omega)
   have c2:=c2 (by omega)
   (repeat' ((conv=>whnf);first|(refine vI ?_ ?_<;>intro hc)|refine vT ?_|refine vX ?_|refine yD co ⟨⟨rfl,rfl⟩,⟨rfl,rfl⟩,rfl⟩ rfl ?_|refine yD c2 (by (repeat refine ⟨⟨rfl,rfl⟩,?_⟩);rfl) rfl ?_));all_goals try conv=>whnf
   ·rw [e0,if_pos ‹_›]
   ·rw [e0,if_neg (by simp [‹m.val.any (bad m.W)=false›]),if_pos ‹_›]
   ·rw [e0,if_neg (by simp [‹m.val.any (bad m.W)=false›]),if_neg (by simp [‹(m.rel.any fun x=>x.any (bad m.W))=false›])]
def zkU (m:KM) (w:Int):Int:=if zg m≠0∨w < 0∨m.W≤w then -1 else zV m w.toNat
theorem zt0 {m:KM} (hc:zg m=0) {w:Nat} (hw:w < m.W.toNat):zkU m (w:Int)=zV m w:=by
 unfold zkU;rw [if_neg (by omega)];rfl
theorem zhV (m:KM) (w:Int):Fn Tryz.prog T zeD [.d (dKM m),.d (.int .i64 w)] [] (.d (.int .i64 (zkU m w))) []:=by
 refine zf zu zri (by show 2≤40;decide) ?_
 (repeat' ((conv=>whnf);first|refine vA ?_|((first|refine vD ?_ ?_|refine vF ?_ ?_)<;>intro hc<;>try simp only [vL] at hc)|refine vJ fun hg=>?_|refine vT ?_|refine vX ?_|refine yD (za1 m) ⟨⟨rfl,rfl⟩,rfl⟩ rfl ?_));all_goals try conv=>whnf
 ·rw [zkU,if_pos (by omega)]
 ·rw [zkU,if_pos (by omega)]
 ·rw [zkU,if_pos (by omega)]
 ·have hc0:zg m=0:=by omega
  have hg0:=zz hc0
  have w2:=hg0.w2
  have v8:=hg0.v8
  refine zM (fun ((k,f):Nat×Int)=>[(1,.d (.int .i64 (w))),(5,.d (.int .i64 (f))),(22,.d (dU m.val)),(23,.d (.int .i64 ((m.val.map D.u64).length:Int))),(24,.d (.int .i64 ((k:Int))))]) (fun ((k,f):Nat×Int)=>[(0,some (zcJ m))]) 1 (fun ((k,f):Nat×Int)=>k≤m.val.length∧f=(zaB m.val w.toNat k:Int)) (fun ((k,f):Nat×Int)=>m.val.length - k) ((0,0)) [(0,0)] [] (⟨by simp,rfl⟩) (by (refine ⟨rfl,rfl,rfl,?_,?_⟩;repeat' first|exact trivial|exact rfl|refine And.intro ?_ ?_|refine ⟨_,rfl,?_⟩|decide)) ?_
  rintro ⟨k,f⟩ ⟨hk,hI⟩
  subst hI
  by_cases hkl:k < m.val.length
  ·obtain ⟨s,hs⟩ : ∃ s,m.val[k]? = some s:=⟨_,List.getElem?_eq_getElem hkl⟩
   have hw:w=((w.toNat:Nat):Int):=by omega
   have bs:(s >>> w.toNat&&&(1:BitVec 64)).toNat≤1:=zvT s _
   have hor:=zx8 (w:=w.toNat) hs (by omega)
   have hsh:0≤(((s >>> w.toNat&&&(1:BitVec 64)).toNat:Int)) * 2 ^ (min (k:Int).toNat IntKind.i64.bits)∧(((s >>> w.toNat&&&(1:BitVec 64)).toNat:Int)) * 2 ^ (min (k:Int).toNat IntKind.i64.bits)≤9223372036854775807:=zxc bs (by omega)
   (repeat' ((conv=>whnf);first|refine vA ?_|(refine vF ?_ ?_<;>intro hc<;>try simp only [vL] at hc)|refine vT ?_|refine vN ‹_› ?_|((first|refine vO ?_ ?_|refine vP ?_ ?_);·omega)|refine vX ?_));all_goals try conv=>whnf
   ·refine ⟨(k+1,_),[(0,0)],[],?_,?_,by (refine ⟨rfl,rfl,rfl,?_,?_⟩;repeat' first|exact trivial|exact rfl|refine And.intro ?_ ?_|refine ⟨_,rfl,?_⟩|decide)⟩
    ·exact ⟨by (omega),hor⟩
    ·((simp only [vM] at *;omega))
   all_goals omega
  ·(repeat' ((conv=>whnf);first|refine vA ?_|(refine vF ?_ ?_<;>intro hc<;>try simp only [vL] at hc)|refine vT ?_|(refine vQ ?_ fun x hx=>?_;·omega)|((first|refine vO ?_ ?_|refine vP ?_ ?_);·omega)|refine vX ?_));all_goals try conv=>whnf
   ·omega
   ·unfold zkU
    rw [if_neg (by omega),show k=m.val.length by omega];rfl
abbrev dN (l:List Nat):D:=dI (l.map fun (x:Nat)=>(x:Int))
theorem zty (hT:ze5 T) (s:BitVec 64):Fn Tryz.prog T zhQ [.d (.u64 s)] [] (.d (dN (zR s))) []:=by
 refine zf zu zoZ (by show 1≤16;decide) ?_
 (repeat' ((conv=>whnf);first|refine vA ?_|refine vT ?_));all_goals try conv=>whnf
 refine zM (fun ((r,zs):BitVec 64×List D)=>[(0,.d (.u64 (r))),(3,.own 0)]) (fun ((r,zs):BitVec 64×List D)=>[(0,some (.row 1 zs))]) 1 (fun ((r,zs):BitVec 64×List D) => ∃ l:List Nat,zs=l.map (fun (x:Nat)=>D.int .i64 (x:Int))∧zR s=l++zR r) (fun ((r,zs):BitVec 64×List D)=>(zR r).length) ((s,[])) []   [0] (⟨[],rfl,rfl⟩) (by (refine ⟨rfl,rfl,rfl,?_,?_⟩;repeat' first|exact trivial|exact rfl|exact ⟨_,rfl⟩|refine And.intro ?_ ?_|decide)) ?_
 rintro ⟨r,zs⟩ ⟨l,rfl,hI⟩
 by_cases hr:r=0#64
 ·subst hr
  (repeat' ((conv=>whnf);first|refine vA ?_|refine vH ?_|refine vT ?_));all_goals try conv=>whnf
  rw [hI,zic,List.append_nil]
  show some (D.arr 1 _)=some (D.arr 1 _)
  rw [List.map_map];rfl
 ·have hb:=zib r hr
  have hl:=congrArg List.length hI
  have hlen:(zR s).length≤64:=by unfold zR;have:=List.length_filter_le (fun i=>s.getLsbD i) (List.range 64);simpa using this
  rw [List.length_append] at hl
  (repeat' ((conv=>whnf);first|refine vA ?_|(refine vD ?_ ?_<;>intro hc)|refine vT ?_|(refine vP ?_ ?_;·(simp only [vM] at *;omega))|refine yD (hT r) (by (repeat refine ⟨⟨rfl,rfl⟩,?_⟩);rfl) rfl ?_));all_goals try conv=>whnf
  ·refine ⟨(r&&&(r - 1#64),_),[(0,2)],[],?_,?_,by (refine ⟨rfl,rfl,rfl,?_,?_⟩;repeat' first|exact trivial|exact rfl|refine And.intro ?_ ?_|refine ⟨_,rfl,?_⟩|decide)⟩
   ·exact ⟨l++[Lib.ctz 64 r.toNat],by simp,by rw [hI,hb];simp⟩
   ·show (zR (r&&&(r - 1#64))).length < (zR r).length
    rw [hb];simp
  ·exact absurd ‹r=0› hr
theorem zsk (s:BitVec 64) (l:List Nat) (hl:l.length≤64):Fn Tryz.prog T zkT [.d (.u64 s),.d (dN l)] [] (.d (.u64 (zbJ s l))) []:=by
 refine zf zu zst (by show 2≤25;decide) ?_
 (repeat' ((conv=>whnf);first|refine vA ?_|refine vJ fun hg=>?_|refine vT ?_));all_goals try conv=>whnf
 refine zaw (fun ((k,o):Nat×BitVec 64)=>[(0,.d (.u64 (s))),(5,.d (.u64 (o))),(8,.d (dN l)),(9,.d (.int .i64 (((l.map fun (x:Nat)=>(x:Int)).map (D.int .i64)).length:Int))),(10,.d (.int .i64 ((k:Int))))]) (fun ((k,o):Nat×BitVec 64)=>k≤l.length∧o=zbc (fun i=>s.getLsbD (l.getD i 0)) k) (fun ((k,o):Nat×BitVec 64)=>l.length - k) ((0,0#64)) (⟨by simp,rfl⟩) (by (repeat' first|exact trivial|exact rfl|refine And.intro ?_ ?_)) ?_
 rintro ⟨k,o⟩ ⟨hk,hI⟩
 by_cases hkl:k < l.length
 ·have e1:(l.map fun (x:Nat)=>(x:Int))[k]? = some ((l.getD k 0:Nat):Int):=by simp [hkl]
  (repeat' ((conv=>whnf);first|refine vA ?_|(refine vF ?_ ?_<;>intro hc<;>try simp only [vL] at hc)|refine vT ?_|refine vN ‹_› ?_|((first|refine vO ?_ ?_|refine vP ?_ ?_);·omega)|refine vY ?_));all_goals try conv=>whnf
  ·refine ⟨(k+1,_),[],[],?_,?_,by (refine ⟨rfl,rfl,rfl,?_,?_⟩;repeat' first|exact trivial|exact rfl|refine And.intro ?_ ?_)⟩
   ·refine ⟨by omega,?_⟩
    rw [zbc,hI]
    show _|||(s >>> (l.getD k 0)&&&1#64) <<< k=_
    by_cases hb:s.getLsbD (l.getD k 0)=true
    ·rw [(zea _ _).2 hb,if_pos hb]
    ·rw [(zeG _ _).2 (by simpa using hb),if_neg hb,BitVec.zero_shiftLeft,BitVec.or_zero]
   ·((simp only [vM] at *;omega))
  ·omega
 ·(repeat' ((conv=>whnf);first|refine vA ?_|(refine vF ?_ ?_<;>intro hc<;>try simp only [vL] at hc)|refine vT ?_|(refine vQ ?_ fun x hx=>?_;·omega)|((first|refine vO ?_ ?_|refine vP ?_ ?_);·omega)|refine vY ?_));all_goals try conv=>whnf
  ·omega
  ·rw [hI,show k=l.length by omega];rfl
theorem zuj {l:List Nat} {k:Nat} (h:k < l.length):(l.map fun (x:Nat)=>(x:Int))[k]? = some ((l.getD k 0:Nat):Int):=by simp [h]
abbrev zgo (l:List Nat):Nat:=((l.map fun (x:Nat)=>(x:Int)).map (D.int .i64)).length
theorem zua (l:List Nat):zgo l=l.length:=by simp [zgo]
theorem zu2 (m:KM) (l:List Nat) (hl:l.length≤64) (hr : ∀ r∈m.rel,∀ w∈l,w < r.length) (hv:m.val.length≤8) (hrl:m.rel.length≤4):Fn Tryz.prog T zfe [.d (dKM m),.d (dN l)] [] (.d (dKM (zc9 m l))) []:=by
 refine zf zu zoY (by show 2≤63;decide) ?_
 (repeat' ((conv=>whnf);first|refine vA ?_|refine vJ fun hg=>?_|refine vT ?_));all_goals try conv=>whnf
 refine zM (fun ((k,zs):Nat×List D)=>[(1,.d (dN l)),(2,.ptr 0 0),(4,.ptr 1 0),(5,.ptr 2 0),(17,.d (dU m.val)),(18,.d (.int .i64 ((m.val.map D.u64).length:Int))),(19,.d (.int .i64 ((k:Int))))]) (fun ((k,zs):Nat×List D)=>[(0,some (zcJ m)),(1,some (.box [.d (.int .i64 0),.nils 1,.nils 1])),(2,some (.box [.d (.int .i64 (zgo l:Int)),.own 3,.nils 1])),(3,some (.row 1 zs))]) 4 (fun ((k,zs):Nat×List D)=>k≤m.val.length∧zs=(m.val.take k).map fun s=>D.u64 (zbJ s l)) (fun ((k,zs):Nat×List D)=>m.val.length - k) ((0,[])) [(0,0),(1,1),(2,2)]   [3] (⟨by simp,by simp⟩) (by (refine ⟨rfl,rfl,rfl,?_,?_⟩;repeat' first|exact trivial|exact rfl|exact ⟨_,rfl⟩|refine And.intro ?_ ?_|refine ⟨_,rfl,?_⟩|decide)) ?_
 rintro ⟨k,zs⟩ ⟨hk,hz⟩
 have hzl:zs.length≤8:=by rw [hz];simp;omega
 by_cases hkl:k < m.val.length
 ·obtain ⟨s,hs⟩ : ∃ s,m.val[k]? = some s:=⟨_,List.getElem?_eq_getElem hkl⟩
  (repeat' ((conv=>whnf);first|refine vA ?_|(refine vF ?_ ?_<;>intro hc<;>try simp only [vL] at hc)|refine vJ fun hg=>?_|refine vT ?_|refine vN ‹_› ?_|((first|refine vO ?_ ?_|refine vP ?_ ?_);·first|omega|(simp only [vM] at *;omega))|(refine vU ?_ ?_;·kernel_rfl)|refine yD (zsk s l hl) ⟨⟨rfl,rfl⟩,⟨rfl,rfl⟩,rfl⟩ rfl ?_));all_goals try conv=>whnf
  ·refine ⟨(k+1,_),[(0,0),(1,1),(2,2),(3,5)],[],?_,?_,by (refine ⟨rfl,rfl,rfl,?_,?_⟩;repeat' first|exact trivial|exact rfl|refine And.intro ?_ ?_|refine ⟨_,rfl,?_⟩|decide)⟩
   ·exact ⟨by omega,by rw [List.take_add_one,hs,hz];simp⟩
   ·((simp only [vM] at *;omega))
  all_goals omega
 ·have hzz:zs=m.val.map fun s=>D.u64 (zbJ s l):=by rw [hz,List.take_of_length_le (by omega)]
  clear hz
  subst hzz
  (repeat' ((conv=>whnf);first|refine vA ?_|(refine vF ?_ ?_<;>intro hc<;>try simp only [vL] at hc)|refine vJ fun hg=>?_|refine vT ?_|(refine vQ ?_ fun x hx=>?_;·omega)|fail));all_goals try conv=>whnf
  ·omega
  refine zM (fun ((k,zs):Nat×List D)=>[(1,.d (dN l)),(4,.ptr 1 0),(5,.ptr 2 0),(33,.d (dUU m.rel)),(34,.d (.int .i64 ((m.rel.map dU).length:Int))),(35,.d (.int .i64 ((k:Int))))]) (fun ((k,zs):Nat×List D)=>[(1,some (.box [.d (.int .i64 0),.nils 1,.nils 1])),(2,some (.box [.d (.int .i64 (zgo l:Int)),.own 3,.own 4])),(3,some (.row 1 (m.val.map fun s=>D.u64 (zbJ s l)))),(4,some (.row 1 zs))]) 5 (fun ((k,zs):Nat×List D)=>k≤m.rel.length∧zs=(m.rel.take k).map fun r=>dU (l.map fun w=>zbJ (r.getD w 0#64) l)) (fun ((k,zs):Nat×List D)=>m.rel.length - k) ((0,[])) [(1,1),(2,2),(3,3)]   [4] (⟨by simp,by simp⟩) (by (refine ⟨rfl,rfl,rfl,?_,?_⟩;repeat' first|exact trivial|exact rfl|exact ⟨_,rfl⟩|refine And.intro ?_ ?_|refine ⟨_,rfl,?_⟩|decide)) ?_
  rintro ⟨k,zs⟩ ⟨hk,hz⟩
  have hzl:zs.length≤4:=by rw [hz];simp;omega
  by_cases hkl:k < m.rel.length
  ·obtain ⟨r,hrr⟩ : ∃ r,m.rel[k]? = some r:=⟨_,List.getElem?_eq_getElem hkl⟩
   have hrw:=hr r (List.mem_of_getElem? hrr)
   (repeat' ((conv=>whnf);first|refine vA ?_|(refine vF ?_ ?_<;>intro hc<;>try simp only [vL] at hc)|refine vJ fun hg=>?_|refine vT ?_|refine vN ‹_› ?_));all_goals try conv=>whnf
   ·refine zM (fun ((j,ys):Nat×List D)=>[(1,.d (dN l)),(4,.ptr 1 0),(5,.ptr 2 0),(9,.d (dU r)),(10,.own 5),(33,.d (dUU m.rel)),(34,.d (.int .i64 ((m.rel.map dU).length:Int))),(35,.d (.int .i64 ((k:Int)))),(39,.d (dN l)),(40,.d (.int .i64 (((l.map fun (x:Nat)=>(x:Int)).map (D.int .i64)).length:Int))),(41,.d (.int .i64 ((j:Int))))]) (fun ((j,ys):Nat×List D)=>[(1,some (.box [.d (.int .i64 0),.nils 1,.nils 1])),(2,some (.box [.d (.int .i64 (zgo l:Int)),.own 3,.own 4])),(3,some (.row 1 (m.val.map fun s=>D.u64 (zbJ s l)))),(4,some (.row 1 zs)),(5,some (.row 1 ys))]) 6 (fun ((j,ys):Nat×List D)=>j≤l.length∧ys=(l.take j).map fun w=>D.u64 (zbJ (r.getD w 0#64) l)) (fun ((j,ys):Nat×List D)=>l.length - j) ((0,[])) [(1,1),(2,2),(3,3),(4,4)]   [5] (⟨by simp,by simp⟩) (by (refine ⟨rfl,rfl,rfl,?_,?_⟩;repeat' first|exact trivial|exact rfl|exact ⟨_,rfl⟩|refine And.intro ?_ ?_|refine ⟨_,rfl,?_⟩|decide)) ?_
    rintro ⟨j,ys⟩ ⟨hj,hy⟩
    have hyl:ys.length≤64:=by rw [hy];simp;omega
    by_cases hjl:j < l.length
    ·have e1:=zuj hjl
     have e2:=hrw _ (zhh hjl)
     have e3:r[l.getD j 0]? = some (r.getD (l.getD j 0) 0#64):=zt4 e2
     (repeat' ((conv=>whnf);first|refine vA ?_|(refine vF ?_ ?_<;>intro hc<;>try simp only [vL] at hc)|refine vT ?_|refine vN ‹_› ?_|((first|refine vO ?_ ?_|refine vP ?_ ?_);·first|omega|(simp only [vM] at *;omega))|refine yD (zsk (r.getD (l.getD j 0) 0#64) l hl) ⟨⟨rfl,rfl⟩,⟨rfl,rfl⟩,rfl⟩ rfl ?_));all_goals try conv=>whnf
     ·refine ⟨(j+1,_),[(1,1),(2,2),(3,3),(4,4),(5,7)],[],?_,?_,by (refine ⟨rfl,rfl,rfl,?_,?_⟩;repeat' first|exact trivial|exact rfl|refine And.intro ?_ ?_|refine ⟨_,rfl,?_⟩|decide)⟩
      ·exact ⟨by omega,by rw [List.take_add_one,hy,zt4 (d:=0) hjl];simp⟩
      ·((simp only [vM] at *;omega))
     ·omega
    ·(repeat' ((conv=>whnf);first|refine vA ?_|(refine vF ?_ ?_<;>intro hc<;>try simp only [vL] at hc)|refine vT ?_|(refine vQ ?_ fun x hx=>?_;·omega)|((first|refine vO ?_ ?_|refine vS ?_ fun x hx=>?_|refine vP ?_ ?_);·first|omega|(simp only [vM] at *;omega))|fail));all_goals try conv=>whnf
     ·omega
     ·have hyy:ys=l.map fun w=>D.u64 (zbJ (r.getD w 0#64) l):=by rw [hy,List.take_of_length_le (by omega)]
      refine ⟨(k+1,_),[(1,1),(2,2),(3,3),(4,7)],[],?_,?_,by (refine ⟨rfl,rfl,rfl,?_,?_⟩;repeat' first|exact trivial|exact rfl|refine And.intro ?_ ?_|refine ⟨_,rfl,?_⟩|decide)⟩
      ·refine ⟨by omega,?_⟩
       rw [List.take_add_one,hrr,hz,hyy];simp
      ·((simp only [vM] at *;omega))
   all_goals omega
  ·(repeat' ((conv=>whnf);first|refine vA ?_|(refine vF ?_ ?_<;>intro hc<;>try simp only [vL] at hc)|refine vJ fun hg=>?_|refine vT ?_|(refine vQ ?_ fun x hx=>?_;·omega)|fail));all_goals try conv=>whnf
   ·omega
   ·have hzz:zs=m.rel.map fun r=>dU (l.map fun w=>zbJ (r.getD w 0#64) l):=by rw [hz,List.take_of_length_le (by omega)]
    subst hzz
    refine congrArg some (show D.agg [.int .i64 (zgo l:Int),.arr 1 (m.val.map fun s=>D.u64 (zbJ s l)),.arr 1 (m.rel.map fun r=>dU (l.map fun w=>zbJ (r.getD w 0#64) l))]=dKM (zc9 m l) from ?_)
    rw [zua]
    simp [zc9,Function.comp_def]
theorem zyn {m:KM} (hc:zg m=0) {l:List Nat} (h : ∀ w∈l,w < m.W.toNat) : ∀ r∈m.rel,∀ w∈l,w < r.length:=fun r hr w hw=>by
 have hg:=zz hc
 have:=hg.len r hr
 have:=h w hw
 have:=hg.w1
 omega
theorem zts {m:KM} (hc:zg m=0) {l:List Nat} (hl:l.length≤64) (h : ∀ w∈l,w < m.W.toNat):Fn Tryz.prog T zfe [.d (dKM m),.d (dN l)] [] (.d (dKM (zc9 m l))) [] :=
 zu2 m l hl (zyn hc h) (zz hc).v8 (zz hc).n4
theorem zuM (s:BitVec 64):(zR s).length≤64:=by
 unfold zR;have:=List.length_filter_le (fun i=>s.getLsbD i) (List.range 64);simpa using this
theorem zwx {m:KM} (hc:zg m=0) {s:BitVec 64} (hs : ∀ v,s.getLsbD v=true→v < m.W.toNat):s &&& ~~~(zaQ m.W)=0#64:=by
 have w1:=(zz hc).w1
 have:=(zeT (n:=m.W) (s:=s) (by omega)).2 hs
 simpa [bad] using this
theorem zsj (hT:ze5 T) {m:KM} (hk0:zg m=0) {s:BitVec 64} (h0:s≠0#64) (hs : ∀ v,s.getLsbD v=true→v < m.W.toNat):Fn Tryz.prog T zhf [.d (dKM m),.d (.u64 s)] [] (.d (.tup [dKM (zc9 m (zR s)),dN (zR s),.int .i64 0])) []:=by
 have w1:=(zz hk0).w1
 have h1:=zwx hk0 hs
 have cc:=za1 (T:=T) m
 rw [hk0] at cc
 refine zf zu znE (by show 2≤31;decide) ?_
 (repeat' ((conv=>whnf);first|refine vA ?_|refine vH ?_|((first|refine vD ?_ ?_|refine vF ?_ ?_)<;>intro hc)|refine vT ?_|refine yD cc ⟨⟨rfl,rfl⟩,rfl⟩ rfl ?_|refine yD (zpQ m.W (by omega)) ⟨⟨rfl,rfl⟩,rfl⟩ rfl ?_|refine yN (zty hT s) ⟨⟨rfl,rfl⟩,rfl⟩ ?_|refine yN (zts hk0 (zuM s) (fun w hw=>hs w (zo2.1 hw))) (by (repeat refine ⟨⟨rfl,rfl⟩,?_⟩);rfl) ?_));all_goals try conv=>whnf
 ·exact absurd h1 ‹_›
 ·exact absurd ‹s=0› h0
 ·rfl
theorem zrc (hT:ze5 T) {m:KM} (hk0:zg m=0) {f:BitVec 64} (hf : ∀ v,f.getLsbD v=true→v < m.W.toNat):Fn Tryz.prog T zgz [.d (dKM m),.d (.u64 f)] [] (.d (.tup [.u64 (zif m f),.int .i64 0])) []:=by
 have hg0:=zz hk0
 have w1:=hg0.w1
 have w2:=hg0.w2
 have n4:=hg0.n4
 have h1:=zwx hk0 hf
 have cc:=za1 (T:=T) m
 rw [hk0] at cc
 refine zf zu zmq (by show 2≤56;decide) ?_
 (repeat' ((conv=>whnf);first|refine vA ?_|refine vH ?_|(refine vD ?_ ?_<;>intro hc)|refine vT ?_|refine yD cc ⟨⟨rfl,rfl⟩,rfl⟩ rfl ?_|refine yD (zpQ m.W (by omega)) ⟨⟨rfl,rfl⟩,rfl⟩ rfl ?_));all_goals try conv=>whnf
 ·exact absurd h1 ‹_›
 refine zM (fun ((o,t):BitVec 64×BitVec 64)=>[(2,.ptr 0 0),(7,.d (.u64 (o))),(8,.d (.u64 (t)))]) (fun ((o,t):BitVec 64×BitVec 64)=>[(0,some (zcJ m))]) 1 (fun ((o,t):BitVec 64×BitVec 64)=>zpq m f o t) (fun ((o,t):BitVec 64×BitVec 64)=>64 - zkI o t) ((f,f)) [(0,0)] [] (zvc hf) (by (refine ⟨rfl,rfl,rfl,?_,?_⟩;repeat' first|exact trivial|exact rfl|refine And.intro ?_ ?_|refine ⟨_,rfl,?_⟩|decide)) ?_
 rintro ⟨o,t⟩ hI
 by_cases ht:t=0#64
 ·subst ht
  (repeat' ((conv=>whnf);first|refine vA ?_|refine vH ?_|refine vT ?_));all_goals try conv=>whnf
  rw [hI.done hk0];rfl
 ·obtain ⟨l1,l2,l3,l4⟩:=zub t ht
  have hwo:=hI.tod _ l2
  have hwn:=(hI.gs.inn _ hwo).lt
  have cz:=hT t
  generalize Lib.ctz 64 t.toNat=w at l1 l2 l3 l4 hwo hwn cz
  (repeat' ((conv=>whnf);first|refine vA ?_|(refine vD ?_ ?_<;>intro hc)|refine vJ fun hg=>?_|refine vT ?_|refine yD cz (by (repeat refine ⟨⟨rfl,rfl⟩,?_⟩);rfl) rfl ?_));all_goals try conv=>whnf
  ·refine zM (fun ((k,o2,t2):Nat×BitVec 64×BitVec 64)=>[(2,.ptr 0 0),(7,.d (.u64 (o2))),(8,.d (.u64 (t2))),(9,.d (.int .i64 ((w:Int)))),(34,.d (dUU m.rel)),(35,.d (.int .i64 ((m.rel.map dU).length:Int))),(36,.d (.int .i64 ((k:Int))))]) (fun ((k,o2,t2):Nat×BitVec 64×BitVec 64)=>[(0,some (zcJ m))]) 1 (fun ((k,o2,t2):Nat×BitVec 64×BitVec 64)=>k≤m.rel.length∧zm0 m o t w k o2 t2) (fun ((k,o2,t2):Nat×BitVec 64×BitVec 64)=>m.rel.length - k) ((0,o,t&&&t - 1#64)) [(0,0)] [] (⟨by simp,zvd l4⟩) (by (refine ⟨rfl,rfl,rfl,?_,?_⟩;repeat' first|exact trivial|exact rfl|refine And.intro ?_ ?_|refine ⟨_,rfl,?_⟩|decide)) ?_
   rintro ⟨k,o2,t2⟩ ⟨hk,hK⟩
   by_cases hkl:k < m.rel.length
   ·obtain ⟨r,hr⟩ : ∃ r,m.rel[k]? = some r:=⟨_,List.getElem?_eq_getElem hkl⟩
    have hrl:=hg0.len r (List.mem_of_getElem? hr)
    obtain ⟨x,hx⟩ : ∃ x,r[w]? = some x:=⟨_,List.getElem?_eq_getElem (by omega)⟩
    (repeat' ((conv=>whnf);first|refine vA ?_|(refine vF ?_ ?_<;>intro hc<;>try simp only [vL] at hc)|refine vT ?_|refine vN ‹_› ?_|(refine vO ?_ ?_;·omega)|fail));all_goals try conv=>whnf
    ·refine ⟨(k+1,_,_),[(0,0)],[],?_,?_,by (refine ⟨rfl,rfl,rfl,?_,?_⟩;repeat' first|exact trivial|exact rfl|refine And.intro ?_ ?_|refine ⟨_,rfl,?_⟩|decide)⟩
     ·exact ⟨by omega,hK.next hr hx⟩
     ·((simp only [vM] at *;omega))
    ·omega
   ·(repeat' ((conv=>whnf);first|refine vA ?_|(refine vF ?_ ?_<;>intro hc<;>try simp only [vL] at hc)|refine vT ?_|refine vN ‹_› ?_|(refine vQ ?_ fun x hx=>?_;·omega)|(refine vO ?_ ?_;·omega)|fail));all_goals try conv=>whnf
    ·omega
    ·have e0:k=m.rel.length:=by omega
     subst e0
     have hE:=hK.end' hk0 hI l2
     have hb:=zzI o2 t2
     refine ⟨(_,_),[(0,0)],[],?_,?_,by (refine ⟨rfl,rfl,rfl,?_,?_⟩;repeat' first|exact trivial|exact rfl|refine And.intro ?_ ?_|refine ⟨_,rfl,?_⟩|decide)⟩
     ·exact hE.1
     ·have:=hE.2
      show 64 - zkI o2 t2 < 64 - zkI o t
      omega
  ·exact absurd ‹t=0› ht
structure zuD (to:List Int) (k:Nat) (s:BitVec 64) (zs:List D):Prop where
 le:k≤to.length
 rng : ∀ x∈to.take k,0≤x∧x < to.length
 nd:(to.take k).Nodup
 bit : ∀ x:Nat,x < 64→(s.getLsbD x=true↔(x:Int)∈to.take k)
 row:zs=(List.range to.length).map fun (x:Nat)=>D.int .i64 (if (x:Int)∈to.take k then (to.idxOf (x:Int):Int) else 0)
theorem zuD.done {to:List Int} {s:BitVec 64} {zs:List D} (h:zuD to to.length s zs):zhi to to.length=true∧zs=(zA4 to to.length).map fun (x:Nat)=>D.int .i64 (x:Int):=by
 have h1:=h.rng;have h2:=h.nd;have h3:=h.row
 rw [List.take_length] at h1 h2 h3
 have hp:zhi to to.length=true:=zj0.2 ⟨rfl,h1,h2⟩
 refine ⟨hp,?_⟩
 rw [h3]
 unfold zA4
 rw [List.map_map]
 exact zaj fun u hu=>by rw [if_pos (zyN hp hu)];rfl
theorem zuD.bad {to:List Int} {k:Nat} {s:BitVec 64} {zs:List D} (h:zuD to k s zs) (h64:to.length≤64) {x:Int} (hx:to[k]? = some x) (hb:x < 0∨(to.length:Int)≤x∨s.getLsbD x.toNat=true):zhi to to.length=false:=by
 rw [← Bool.not_eq_true]
 intro hp
 obtain ⟨h1,h2,h3⟩:=zj0.1 hp
 have hr:=h2 x (List.mem_of_getElem? hx)
 rcases hb with hb|hb|hb
 ·omega
 ·omega
 ·have hm:=(h.bit x.toNat (by omega)).1 hb
  rw [show ((x.toNat:Nat):Int)=x by omega] at hm
  obtain ⟨j,hj⟩:=List.getElem?_of_mem hm
  rw [List.getElem?_take] at hj
  split at hj
  ·rename_i hlt
   obtain ⟨a,a'⟩:=List.getElem?_eq_some_iff.1 hj
   obtain ⟨c,c'⟩:=List.getElem?_eq_some_iff.1 hx
   have:=(List.getElem_inj h3).1 (a'.trans c'.symm)
   omega
  ·cases hj
end Go.Ab
namespace Go.Ab
open Go Go.Proofs
set_option maxRecDepth 10000
set_option maxHeartbeats 4000000
variable {T:Nat→Obj→Prop}
def zsb (m:KM) (n:Int):Bool:=decide (¬(n < m.W∧m.W≤64)∧m.val.length≤20∧m.rel.length≤10 ∧ ∀ r∈m.rel,r.length≤70)
theorem zBW (m:KM) (n:Int):Fn Tryz.prog T zga [.d (dKM m),.d (.int .i64 n)] [] (.d (.bool (zsb m n))) []:=by
 have no:(n < m.W∧m.W≤64∨20 < m.val.length∨10 < m.rel.length)→false=zsb m n:=fun h=>by
  rw [zsb,decide_eq_false];rintro ⟨a,b,c,-⟩;omega
 refine zf zu zle (by show 2≤41;decide) ?_
 (repeat' ((conv=>whnf);first|refine vA ?_|(refine vF ?_ ?_<;>intro hc<;>try simp only [vL] at hc)|refine vJ fun hg=>?_|refine vT ?_|refine vZ ?_));all_goals try conv=>whnf
 iterate 3 exact no (by omega)
 rotate_left
 iterate 2 exact no (by omega)
 all_goals
  have h1 : ¬(n < m.W∧m.W≤64):=by omega
  refine zM (fun (k:Nat)=>[(2,.ptr 0 0),(5,.d (.int .i64 ((k:Int))))]) (fun (k:Nat)=>[(0,some (zcJ m))]) 1 (fun (k:Nat)=>k≤m.rel.length ∧ ∀ (i:Nat) r,i < k→m.rel[i]? = some r→r.length≤70) (fun (k:Nat)=>m.rel.length - k) (0) [(0,0)] [] (⟨by simp,fun i r hi=>by omega⟩) (by (refine ⟨rfl,rfl,rfl,?_,?_⟩;repeat' first|exact trivial|exact rfl|refine And.intro ?_ ?_|refine ⟨_,rfl,?_⟩|decide)) ?_
  rintro k ⟨hk,hI⟩
  (repeat' ((conv=>whnf);first|refine vA ?_|(refine vF ?_ ?_<;>intro hc<;>try simp only [vL] at hc)|refine vJ fun hg=>?_|refine vT ?_|(refine vQ ?_ fun x hx=>?_;·omega)|(refine vO ?_ ?_;·omega)|refine vZ ?_));all_goals try conv=>whnf
  ·rw [zsb,decide_eq_false]
   rintro ⟨-,-,-,h⟩
   have:=h _ (List.mem_of_getElem? hx);omega
  ·exact ⟨k+1,[(0,0)],[],⟨by (omega),fun i r hi hr=>by
    by_cases e:i=k
    ·subst e;rw [hx] at hr;cases hr;omega
    ·exact hI i r (by omega) hr⟩,by (omega),by (refine ⟨rfl,rfl,rfl,?_,?_⟩;repeat' first|exact trivial|exact rfl|refine And.intro ?_ ?_|refine ⟨_,rfl,?_⟩|decide)⟩
  ·rw [zsb,decide_eq_true]
   refine ⟨h1,by omega,by omega,fun r hr=>?_⟩
   obtain ⟨i,hi⟩:=List.getElem?_of_mem hr
   have:=(List.getElem?_eq_some_iff.1 hi).1
   exact hI i r (by omega) hi
end Go.Ab
namespace Go.Ab
theorem zlP {n:Nat} {R:z8} {w:Nat} : (zY n R w).length≤n:=by
 have:=zi0 (zwq n R w) (l':=List.range n) fun x hx=>List.mem_range.2 (ziM.1 hx).lt
 simpa using this
end Go.Ab
namespace Go.Proofs
def Tryz.lays129_ren:Go.Shelf.Ren:=⟨fun|129=>144|n=>n,fun|53=>29|3=>3|4=>4|46=>38|5=>5|9=>9|n=>n,fun|n=>n⟩
theorem Tryz.lays129:Go.Proofs.Lays.n129 Tryz.prog Tryz.lays129_ren := {
 mixed:=by kernel_rfl
 f129:=Tryz.func144.trans (congrArg some (by kernel_rfl))
 t3:=Tryz.underlying3
 a3:=Tryz.isAgg3
 z3:=Tryz.sizeOf3
 v3:=Tryz.zeroValue3
 t4:=Tryz.underlying4
 a4:=Tryz.isAgg4
 z4:=Tryz.sizeOf4
 v4:=Tryz.zeroValue4
 t5:=Tryz.underlying5
 a5:=Tryz.isAgg5
 z5:=Tryz.sizeOf5
 v5:=Tryz.zeroValue5
 t9:=Tryz.underlying9
 a9:=Tryz.isAgg9
 z9:=Tryz.sizeOf9
 v9:=Tryz.zeroValue9
 t46:=Tryz.underlying38
 a46:=Tryz.isAgg38
 z46:=Tryz.sizeOf38
 v46:=Tryz.zeroValue38
 t53:=Tryz.underlying29
 a53:=Tryz.isAgg29
 z53:=Tryz.sizeOf29
 v53:=Tryz.zeroValue29 }
end Go.Proofs
namespace Go.Ab
open Go Go.Proofs
set_option maxRecDepth 10000
set_option maxHeartbeats 4000000
variable {T:Nat→Obj→Prop}
theorem zuO:zcv Tryz.prog zgy:=⟨_,Tryz.func144,by kernel_rfl,by kernel_rfl⟩
theorem zye (x:BitVec 64):Fn Tryz.prog T zgy [.d (.u64 x)] [] (.d (.int .i64 (Sort.bitsLen x.toNat:Int))) []:=by
 refine zt2 (ds:=[.u64 x]) zuO fun w args hw hsz hargs=>?_
 obtain ⟨X,hX⟩:=hargs 0 (by simp)
 have ha:args = #[.int .u64 (x.toNat:Int)]:=by
  have h0:args.getD 0 undef = .int .u64 (x.toNat:Int):=by
   generalize args.getD 0 undef=y at hX
   cases hX;rfl
  obtain ⟨l⟩:=args
  match l,hsz with
  | [y],_=>rw [← h0];rfl
 rw [ha]
 have:=Any.bits_Len64 Tryz.lays129 (x.toNat:Int) w (by omega) (by have:=x.isLt;omega)
 refine this.mono fun e w' he=>⟨_,he.1,he.2,fun X=>?_⟩
 rw [Int.toNat_natCast,Go.Proofs.bitLen_eq _ x.isLt]
 exact .int _ _ (by decide)
theorem zwe (x:BitVec 64):Fn Tryz.prog T zdH [.d (.u64 x)] [] (.d (.int .i64 (Sort.bitsLen x.toNat:Int))) []:=by
 refine zf zu zoV (by show 1≤8;decide) ?_
 (repeat' ((conv=>whnf);first|refine vT ?_|refine vX ?_|refine yD (zye _) ⟨⟨rfl,rfl⟩,rfl⟩ rfl ?_));all_goals try conv=>whnf
end Go.Ab
namespace Go.Ab
open Go Go.Proofs
set_option maxRecDepth 10000
set_option maxHeartbeats 4000000
section
variable {α:Type} [Inhabited α] [DecidableEq α]
def ddA (d:Array α):Nat→List α
 | 0=>[]
 | n+1=>if 0 < n∧d[n]! = d[n - 1]! then ddA d n else ddA d n++[d[n]!]
def Steps (d:Array α):Prop := ∀ j,0 < j→j < d.size→d[j]! ≠ d[j - 1]!
theorem zxx {d:Array α} {n:Nat} (h:n < d.size):d.toList.take (n+1)=d.toList.take n++[d[n]!]:=by
 rw [List.take_add_one,ztT h];rfl
theorem zpK {d:Array α} : ∀ {n:Nat},n≤d.size→(∀ j,0 < j→j < n→d[j]! ≠ d[j - 1]!)→ddA d n=d.toList.take n
 | 0,_,_=>rfl
 | n+1,h,hs=>by
  rw [ddA,if_neg (fun hh=>hs n hh.1 (by omega) hh.2),zpK (by omega) (fun j h0 h1=>hs j h0 (by omega)),zxx (by omega)]
theorem zx6 {d:Array α} {k:Nat} (h0:0 < k) (h1:k < d.size) (hk : ∀ j,0 < j→j < k→d[j]! ≠ d[j - 1]!) (he:d[k]! = d[k - 1]!):d.toList.take k=ddA d (k+1):=by
 rw [ddA,if_pos ⟨h0,he⟩,zpK (by omega) hk]
theorem zy0 {e:Array α} {a:Nat} {x:α} (h:a < e.size):(e.setIfInBounds a x).toList.take (a+1)=e.toList.take a++[x]:=by
 have hl:a < e.toList.length:=by simpa using h
 rw [Array.toList_setIfInBounds,List.take_add_one,List.getElem?_set_self hl,List.take_set_of_le (Nat.le_refl a)];rfl
theorem zAl {e:Array α} {a j:Nat} {x:α} (h:a≠j):(e.setIfInBounds a x)[j]! = e[j]! := by
 simp [getElem!_def,Array.getElem?_setIfInBounds_ne h]
theorem zzR {d:Array α} {n:Nat} (h:0 < n) (he:d[n]! = d[n - 1]!):ddA d (n+1)=ddA d n:=by rw [ddA,if_pos ⟨h,he⟩]
theorem zAO {d:Array α} {n:Nat} (he:d[n]! ≠ d[n - 1]!):ddA d (n+1)=ddA d n++[d[n]!]:=by rw [ddA,if_neg (fun h=>he h.2)]
theorem zzQ {enc:α→D} {e:Array α} {z:D} {a n:Nat} (h:a≤e.size):((List.take a (e.toList.map enc))++(List.replicate n z++List.drop (a+n) (e.toList.map enc))).take a=(e.toList.take a).map enc:=by
 rw [List.take_append_of_le_length (by simp;omega),List.take_take,Nat.min_self,List.map_take]
end
end Go.Ab
namespace Go.Ab
section
variable {α:Type} [Inhabited α] [DecidableEq α]
theorem zfA {d:Array α} {x:α} : ∀ {n:Nat},x∈ddA d n ↔ ∃ i,i < n∧d[i]! = x
 | 0=>by simp [ddA]
 | n+1=>by
  rw [ddA]
  constructor
  ·intro h
   split at h
   ·obtain ⟨i,h1,h2⟩:=zfA.1 h
    exact ⟨i,by omega,h2⟩
   ·rcases List.mem_append.1 h with h|h
    ·obtain ⟨i,h1,h2⟩:=zfA.1 h
     exact ⟨i,by omega,h2⟩
    ·exact ⟨n,by omega,by simp at h;exact h.symm⟩
  ·rintro ⟨i,h1,h2⟩
   split
   ·rename_i hc
    by_cases e:i=n
    ·subst e
     exact zfA.2 ⟨i - 1,by omega,by rw [← hc.2];exact h2⟩
    ·exact zfA.2 ⟨i,by omega,h2⟩
   ·by_cases e:i=n
    ·subst e;exact List.mem_append.2 (.inr (by simp [h2]))
    ·exact List.mem_append.2 (.inl (zfA.2 ⟨i,by omega,h2⟩))
theorem zni {lt:α→α→Bool} {d:Array α} (hs : ∀ i j,i < j→j < d.size→lt d[j]! d[i]! = false) (tri : ∀ x y,lt x y=false→lt y x=false→x=y) : ∀ {n:Nat},n≤d.size→(ddA d n).Pairwise fun x y=>lt x y=true
 | 0,_=>List.Pairwise.nil
 | n+1,h=>by
  rw [ddA]
  split
  ·exact zni hs tri (by omega)
  ·rename_i hc
   refine List.pairwise_append.2 ⟨zni hs tri (by omega),List.pairwise_singleton _ _,fun x hx y hy=>?_⟩
   obtain ⟨i,hi,rfl⟩:=zfA.1 hx
   have hy:y=d[n]! := by simpa using hy
   subst hy
   cases hb:lt d[i]! d[n]! with
   | true=>rfl
   | false =>
    have e1:=tri _ _ hb (hs i n hi (by omega))
    refine absurd ⟨by omega,?_⟩ hc
    by_cases e:i=n - 1
    ·rw [← e];exact e1.symm
    ·refine (tri _ _ ?_ ?_)
     ·exact hs (n - 1) n (by omega) (by omega)
     ·rw [← e1];exact hs i (n - 1) (by omega) (by omega)
end
structure zlG (ts S:List Tup):Prop where
 pw:S.Pairwise fun x y=>zuP x y < 0
 mem : ∀ x,x∈S↔x∈ts
theorem zlG.nodup {ts S:List Tup} (h:zlG ts S):S.Nodup:=h.pw.imp fun {a b} h e=>by subst e;rw [zzG.refl] at h;omega
theorem zlG.le {ts S:List Tup} (h:zlG ts S):S.length≤ts.length:=zi0 h.nodup fun x hx=>(h.mem x).1 hx
end Go.Ab
namespace Go.Ab
open Go Go.Proofs
set_option maxRecDepth 10000
set_option maxHeartbeats 4000000
variable {T:Nat→Obj→Prop}
theorem zeb (a b:Int):Fn Tryz.prog T zby [.d (.int .i64 a),.d (.int .i64 b)] [] (.d (.int .i64 (zbx a b))) []:=by
 have hn : ∀ z:Int,Fn Tryz.prog T zeK [.d (.int .i64 z)] [] (.d (.bool false)) []:=fun z=>by
  refine zf zu zhj (by show 1≤6;decide) ?_
  (repeat' ((conv=>whnf);first|refine vT ?_|refine vZ ?_));all_goals try conv=>whnf
  simp
 refine zf zu zk9 (by show 2≤20;decide) ?_
 (repeat' ((conv=>whnf);first|refine vA ?_|refine vH ?_|(refine vF ?_ ?_<;>intro hc<;>try simp only [vL] at hc)|refine vT ?_|refine vX ?_|refine yD (hn _) (by (repeat refine ⟨⟨rfl,rfl⟩,?_⟩);rfl) rfl ?_));all_goals try conv=>whnf
 all_goals (unfold zbx;first|rw [if_pos ‹_›]|(rw [if_neg (by omega)];first|rw [if_pos ‹_›]|rw [if_neg (by omega)])|skip)
theorem zrY {α:Type} {c:α→α→Int} {a b:List α} {k:Nat} (h:k=min a.length b.length):zal c (a.drop k) (b.drop k)=zbx (a.length:Int) (b.length:Int):=by
 rcases Nat.lt_trichotomy a.length b.length with h1|h1|h1
 ·rw [List.drop_eq_nil_of_le (show a.length≤k by omega)]
  obtain ⟨x,hx⟩ : ∃ x,b[k]? = some x:=⟨_,List.getElem?_eq_getElem (by omega)⟩
  rw [zar hx,zal,zbx,if_pos (by omega)]
 ·rw [List.drop_eq_nil_of_le (show a.length≤k by omega),List.drop_eq_nil_of_le (show b.length≤k by omega),zal,zbx,if_neg (by omega),if_neg (by omega)]
 ·rw [List.drop_eq_nil_of_le (show b.length≤k by omega)]
  obtain ⟨x,hx⟩ : ∃ x,a[k]? = some x:=⟨_,List.getElem?_eq_getElem (by omega)⟩
  rw [zar hx,zal,zbx,if_neg (by omega),if_pos (by omega)]
theorem zpP (a b:List Int) (ha:a.length≤1000000):Fn Tryz.prog T zej [.d (dI a),.d (dI b),.d (.fn zby [])] [] (.d (.int .i64 (zal zbx a b))) []:=by
 refine zf zu zhE (by show 3≤36;decide) ?_
 (repeat' ((conv=>whnf);first|refine vA ?_|refine vJ fun hg=>?_|refine vT ?_));all_goals try conv=>whnf
 refine zaw (fun (k:Nat)=>[(0,.d (dI a)),(1,.d (dI b)),(2,.d (.fn zby [])),(13,.d (.int .i64 ((min ((a.map (D.int .i64)).length:Int) ((b.map (D.int .i64)).length:Int))))),(14,.d (.int .i64 ((k:Int))))]) (fun (k:Nat)=>k≤a.length∧k≤b.length∧zal zbx a b=zal zbx (a.drop k) (b.drop k)) (fun (k:Nat)=>a.length - k) (0) (⟨by simp,by simp,rfl⟩) (by (repeat' first|exact trivial|exact rfl|refine And.intro ?_ ?_)) ?_
 rintro k ⟨hk,hk2,hI⟩
 by_cases hkl:k < a.length∧k < b.length
 ·obtain ⟨x,hx⟩ : ∃ x,a[k]? = some x:=⟨_,List.getElem?_eq_getElem hkl.1⟩
  obtain ⟨y,hy⟩ : ∃ y,b[k]? = some y:=⟨_,List.getElem?_eq_getElem hkl.2⟩
  have hs:zal zbx a b=if zbx x y=0 then zal zbx (a.drop (k+1)) (b.drop (k+1)) else zbx x y:=by rw [hI,zar hx,zar hy,zal]
  (repeat' ((conv=>whnf);first|refine vA ?_|((first|refine vD ?_ ?_|refine vF ?_ ?_)<;>intro hc<;>try simp only [vL] at hc)|refine vJ fun hg=>?_|refine vT ?_|refine vN ‹_› ?_|(refine vO ?_ ?_;·omega)|(refine vU ?_ ?_;·kernel_rfl)|refine vX ?_|refine yD (zeb _ _) ⟨⟨rfl,rfl⟩,⟨rfl,rfl⟩,rfl⟩ rfl ?_));all_goals try conv=>whnf
  ·rw [hs,if_neg hc]
  ·exact ⟨k+1,[],[],⟨by omega,by omega,by rw [hs,if_pos hc]⟩,by (omega),by (refine ⟨rfl,rfl,rfl,?_,?_⟩;repeat' first|exact trivial|exact rfl|refine And.intro ?_ ?_)⟩
  ·omega
 ·(repeat' ((conv=>whnf);first|refine vA ?_|((first|refine vD ?_ ?_|refine vF ?_ ?_)<;>intro hc<;>try simp only [vL] at hc)|refine vJ fun hg=>?_|refine vT ?_|(refine vQ ?_ fun x hx=>?_;·omega)|(refine vO ?_ ?_;·omega)|(refine vU ?_ ?_;·kernel_rfl)|refine vX ?_|refine yD (zeb _ _) ⟨⟨rfl,rfl⟩,⟨rfl,rfl⟩,rfl⟩ rfl ?_));all_goals try conv=>whnf
  iterate 2 (exfalso;omega)
  ·rw [hI,zrY (by omega),List.length_map,List.length_map]
def Sml (t:Tup):Prop:=t.length≤1000 ∧ ∀ r∈t,r.length≤1000
theorem zwl (x y:List Int) (h:x.length≤1000000):Fn Tryz.prog T zbz [.d (dI x),.d (dI y)] [] (.d (.int .i64 (zal zbx x y))) []:=by
 refine zf zu zla (by show 2≤8;decide) ?_
 (repeat' ((conv=>whnf);first|refine vT ?_|refine vX ?_|refine yD (zpP x y h) ⟨⟨rfl,rfl⟩,⟨rfl,rfl⟩,⟨rfl,rfl⟩,rfl⟩ rfl ?_));all_goals try conv=>whnf
theorem zsi (a b:Tup) (ha:a.length≤1000000) (hb : ∀ r∈a,r.length≤1000000):Fn Tryz.prog T zdV [.d (dII a),.d (dII b),.d (.fn zbz [])] [] (.d (.int .i64 (zal (zal zbx) a b))) []:=by
 refine zf zu zhk (by show 3≤36;decide) ?_
 (repeat' ((conv=>whnf);first|refine vA ?_|refine vJ fun hg=>?_|refine vT ?_));all_goals try conv=>whnf
 refine zaw (fun (k:Nat)=>[(0,.d (dII a)),(1,.d (dII b)),(2,.d (.fn zbz [])),(13,.d (.int .i64 ((min ((a.map dI).length:Int) ((b.map dI).length:Int))))),(14,.d (.int .i64 ((k:Int))))]) (fun (k:Nat)=>k≤a.length∧k≤b.length∧zal (zal zbx) a b=zal (zal zbx) (a.drop k) (b.drop k)) (fun (k:Nat)=>a.length - k) (0) (⟨by simp,by simp,rfl⟩) (by (repeat' first|exact trivial|exact rfl|refine And.intro ?_ ?_)) ?_
 rintro k ⟨hk,hk2,hI⟩
 by_cases hkl:k < a.length∧k < b.length
 ·obtain ⟨x,hx⟩ : ∃ x,a[k]? = some x:=⟨_,List.getElem?_eq_getElem hkl.1⟩
  obtain ⟨y,hy⟩ : ∃ y,b[k]? = some y:=⟨_,List.getElem?_eq_getElem hkl.2⟩
  have hs:zal (zal zbx) a b=if (zal zbx) x y=0 then zal (zal zbx) (a.drop (k+1)) (b.drop (k+1)) else (zal zbx) x y:=by rw [hI,zar hx,zar hy,zal]
  have cA:=zwl (T:=T) x y (hb x (List.mem_of_getElem? hx))
  (repeat' ((conv=>whnf);first|refine vA ?_|((first|refine vD ?_ ?_|refine vF ?_ ?_)<;>intro hc<;>try simp only [vL] at hc)|refine vJ fun hg=>?_|refine vT ?_|refine vN ‹_› ?_|(refine vO ?_ ?_;·omega)|(refine vU ?_ ?_;·kernel_rfl)|refine vX ?_|refine yD cA ⟨⟨rfl,rfl⟩,⟨rfl,rfl⟩,rfl⟩ rfl ?_|refine yD (zeb _ _) ⟨⟨rfl,rfl⟩,⟨rfl,rfl⟩,rfl⟩ rfl ?_));all_goals try conv=>whnf
  ·rw [hs,if_neg hc]
  ·exact ⟨k+1,[],[],⟨by omega,by omega,by rw [hs,if_pos hc]⟩,by (omega),by (refine ⟨rfl,rfl,rfl,?_,?_⟩;repeat' first|exact trivial|exact rfl|refine And.intro ?_ ?_)⟩
  ·omega
 ·(repeat' ((conv=>whnf);first|refine vA ?_|(refine vF ?_ ?_<;>intro hc<;>try simp only [vL] at hc)|refine vJ fun hg=>?_|refine vT ?_|(refine vQ ?_ fun x hx=>?_;·omega)|refine vX ?_|refine yD (zeb _ _) ⟨⟨rfl,rfl⟩,⟨rfl,rfl⟩,rfl⟩ rfl ?_));all_goals try conv=>whnf
  ·exfalso;omega
  ·rw [hI,zrY (by omega),List.length_map,List.length_map]
theorem zyi (x y:Tup) (h:Sml x):Fn Tryz.prog T zdg [.d (dII x),.d (dII y)] [] (.d (.int .i64 (zuP x y))) []:=by
 have cB:=zsi (T:=T) x y (by have:=h.1;omega) (fun r hr=>by have:=h.2 r hr;omega)
 refine zf zu znD (by show 2≤8;decide) ?_
 (repeat' ((conv=>whnf);first|refine vT ?_|refine vX ?_|refine yD cB ⟨⟨rfl,rfl⟩,⟨rfl,rfl⟩,⟨rfl,rfl⟩,rfl⟩ rfl ?_));all_goals try conv=>whnf
 rfl
end Go.Ab
namespace Go.Ab
open Go Go.Proofs
set_option maxRecDepth 10000
set_option maxHeartbeats 4000000
variable {T:Nat→Obj→Prop}
def ltI (x y:Int):Bool:=decide (x < y)
abbrev zb5 (d:Array (Int)):Ob := .row 1 (d.toList.map (D.int .i64))
theorem ztp (x y:Int):Fn Tryz.prog T zhL [.d (.int .i64 x),.d (.int .i64 y)] [] (.d (.bool (ltI x y))) []:=by
 have hn : ∀ z:Int,Fn Tryz.prog T zeK [.d (.int .i64 z)] [] (.d (.bool false)) []:=fun z=>by
  refine zf zu zhj (by show 1≤6;decide) ?_
  (repeat' ((conv=>whnf);first|refine vT ?_|refine vZ ?_));all_goals try conv=>whnf
  simp
 refine zf zu zoQ (by show 2≤17;decide) ?_
 (repeat' ((conv=>whnf);first|refine vA ?_|refine vH ?_|refine vT ?_|refine vZ ?_|refine yD (hn _) (by (repeat refine ⟨⟨rfl,rfl⟩,?_⟩);rfl) rfl ?_));all_goals try conv=>whnf
 rfl
theorem zu7 (d:Array (Int)) (a b:Nat) (hb:b≤d.size) (hs:d.size≤1073741824) (ha:a≤b) :
  Fn Tryz.prog T zaJ [.own 0,.d (.int .i64 (a:Int)),.d (.int .i64 (b:Int))] [zb5 d] (.tup []) [some (zb5 (Sort.insertionSort ltI d a b))]:=by
 refine z6 zu zet (by show 3≤49;decide) _ (fun e env mem n h=>h) ?_
 (repeat' ((conv=>whnf);first|refine vT ?_|(refine vO ?_ ?_;·omega)|fail));all_goals try conv=>whnf
 refine zM (fun ((ii,xs):Int×List D)=>[(0,.own 0),(1,.d (.int .i64 ((a:Int)))),(2,.d (.int .i64 ((b:Int)))),(6,.d (.int .i64 (ii))),(ze,.own 0)]) (fun ((ii,xs):Int×List D)=>[(0,some (.row 1 xs))]) 1 (fun ((ii,xs):Int×List D) => ∃ (i:Nat) (e:Array (Int)),ii=i∧xs=e.toList.map (D.int .i64)∧a < i∧i≤b+1∧e.size=d.size∧Sort.insOuter ltI a b i e=Sort.insertionSort ltI d a b) (fun ((ii,xs):Int×List D)=>(b - ii).toNat) (((a:Int)+1,d.toList.map (D.int .i64))) [(0,0)] [] (⟨a+1,d,by omega,rfl,by omega,by omega,rfl,rfl⟩) (by (refine ⟨rfl,rfl,rfl,?_,?_⟩;repeat' first|exact trivial|exact rfl|refine And.intro ?_ ?_|refine ⟨_,rfl,?_⟩|decide)) ?_
 rintro ⟨_,_⟩ ⟨i,e,rfl,rfl,hi,hi2,he,hI⟩
 (repeat' ((conv=>whnf);first|refine vA ?_|(refine vF ?_ ?_<;>intro hc<;>try simp only [vL] at hc)|refine vT ?_));all_goals try conv=>whnf
 ·refine zM (fun ((jj,xs):Int×List D)=>[(0,.own 0),(1,.d (.int .i64 ((a:Int)))),(2,.d (.int .i64 ((b:Int)))),(6,.d (.int .i64 ((i:Int)))),(7,.d (.int .i64 (jj))),(ze,.own 0)]) (fun ((jj,xs):Int×List D)=>[(0,some (.row 1 xs))]) 1 (fun ((jj,xs):Int×List D) => ∃ (j:Nat) (g:Array (Int)),jj=j∧xs=g.toList.map (D.int .i64)∧j≤i∧g.size=d.size∧Sort.insInner ltI a j g=Sort.insInner ltI a i e) (fun ((jj,xs):Int×List D)=>jj.toNat) (((i:Int),e.toList.map (D.int .i64))) [(0,0)] [] (⟨i,e,rfl,rfl,by omega,he,rfl⟩) (by (refine ⟨rfl,rfl,rfl,?_,?_⟩;repeat' first|exact trivial|exact rfl|refine And.intro ?_ ?_|refine ⟨_,rfl,?_⟩|decide)) ?_
  rintro ⟨_,_⟩ ⟨j,g,rfl,rfl,hj,hg,hJ⟩
  have hgl:g.toList.length=d.size:=by rw [Array.length_toList];exact hg
  have stop : ¬(a < j∧ltI g[j]! g[j - 1]! = true)→Sort.insOuter ltI a b (i+1) g=Sort.insertionSort ltI d a b:=fun h=>by
   rw [← hI,Sort.insOuter.eq_def ltI a b i,if_pos (by omega),← hJ,zrf h]
  (repeat' ((conv=>whnf);first|refine vA ?_|(refine vF ?_ ?_<;>intro hc<;>try simp only [vL] at hc)|refine vT ?_|refine vN ‹_› ?_|(refine vQ ?_ fun x hx=>?_;·omega)|((first|refine vO ?_ ?_|refine vP ?_ ?_);·first|omega|(simp only [vM] at *;omega))|(refine vU ?_ ?_;·kernel_rfl)|refine yD (ztp _ _) ⟨⟨rfl,rfl⟩,⟨rfl,rfl⟩,rfl⟩ rfl ?_));all_goals try conv=>whnf
  ·have e1:((j:Int) - 1).toNat=j - 1:=by omega
   have hx1:g.toList[j]? = some _:=‹g.toList[(j:Int).toNat]? = some _›
   have hx2:g.toList[j - 1]? = some x:=by rw [← e1];exact hx
   refine ⟨(_,_),[(0,0)],[],?_,?_,by (refine ⟨rfl,rfl,rfl,?_,?_⟩;repeat' first|exact trivial|exact rfl|refine And.intro ?_ ?_|refine ⟨_,rfl,?_⟩|decide)⟩
   ·refine ⟨j - 1,Sort.swp g j (j - 1),by omega,?_,by omega,by rw [zze,hg],?_⟩
    ·rw [e1];exact zAw hx1 hx2
    ·exact (zre (d:=g) (j:=j) (by omega) (by rw [(zbl hx1).1,(zbl hx2).1];exact decide_eq_true hc)).symm.trans hJ
   ·((simp only [vM] at *;omega))
  ·have e1:((j:Int) - 1).toNat=j - 1:=by omega
   have hx1:g.toList[j]? = some _:=‹g.toList[(j:Int).toNat]? = some _›
   have hx2:g.toList[j - 1]? = some x:=by rw [← e1];exact hx
   refine ⟨(_,_),[(0,0)],[],?_,?_,by (refine ⟨rfl,rfl,rfl,?_,?_⟩;repeat' first|exact trivial|exact rfl|refine And.intro ?_ ?_|refine ⟨_,rfl,?_⟩|decide)⟩
   ·exact ⟨i+1,g,by omega,rfl,by omega,by omega,hg,stop fun h=>by
     rw [(zbl hx1).1,(zbl hx2).1] at h
     have:=of_decide_eq_true h.2;omega⟩
   ·((simp only [vM] at *;omega))
  ·refine ⟨(_,_),[(0,0)],[],?_,?_,by (refine ⟨rfl,rfl,rfl,?_,?_⟩;repeat' first|exact trivial|exact rfl|refine And.intro ?_ ?_|refine ⟨_,rfl,?_⟩|decide)⟩
   ·exact ⟨i+1,g,by omega,rfl,by omega,by omega,hg,stop fun h=>by omega⟩
   ·((simp only [vM] at *;omega))
 ·have e0:Sort.insertionSort ltI d a b=e:=by
   rw [← hI,Sort.insOuter,if_neg (by omega)]
  rw [e0]
  refine ⟨trivial,_,[(0,0)],[],rfl,.inl (by (repeat' first|exact rfl|refine ⟨_,rfl,?_⟩)),⟨by rfl,by rfl,by rfl,trivial,by (repeat' first|exact trivial|exact rfl|refine And.intro ?_ ?_|refine ⟨_,rfl,?_⟩|exact of_decide_eq_true rfl)⟩,by (repeat' first|exact trivial|exact rfl|refine And.intro ?_ ?_)⟩
theorem ztx (d:Array Int) {a b:Nat} {ai bi:Int} (ea:ai=a) (eb:bi=b) (hb:b≤d.size) (hs:d.size≤1073741824) (ha:a≤b) :
  Fn Tryz.prog T zaJ [.own 0,.d (.int .i64 ai),.d (.int .i64 bi)] [zb5 d] (.tup []) [some (zb5 (Sort.insertionSort ltI d a b))]:=by
 subst ea;subst eb;exact zu7 d a b hb hs ha
theorem zva (d:Array Int) {b l:Nat} {bi li:Int} (eb:bi=b) (el:li=l) (h12:b≤12) (hb:b≤d.size) (hs:d.size≤536870912) :
  Fn Tryz.prog T zcX [.own 0,.d (.int .i64 0),.d (.int .i64 bi),.d (.int .i64 li)] [zb5 d] (.tup []) [some (zb5 (Sort.pdq ltI d 0 b l true true))]:=by
 subst eb;subst el
 have hR:Sort.pdq ltI d 0 b l true true=Sort.insertionSort ltI d 0 b:=by rw [Sort.pdq,if_pos (by omega)]
 rw [hR]
 refine z6 zu zfG (by show 4≤134;decide) _ (fun e env mem n h=>h) ?_
 (repeat' ((conv=>whnf);refine vT ?_));all_goals try conv=>whnf
 refine zM (fun (u:Unit)=>[(0,.own 0),(1,.d (.int .i64 (0))),(2,.d (.int .i64 ((b:Int)))),(3,.d (.int .i64 ((l:Int)))),(8,.d (.bool (true))),(9,.d (.bool (true))),(ze,.own 0)]) (fun (u:Unit)=>[(0,some (zb5 d))]) 1 (fun (u:Unit)=>True) (fun (u:Unit)=>0) (()) [(0,0)] [] (trivial) (by (refine ⟨rfl,rfl,rfl,?_,?_⟩;repeat' first|exact trivial|exact rfl|exact .inr (.inl ⟨rfl,rfl⟩)|refine And.intro ?_ ?_|refine ⟨_,rfl,?_⟩|decide)) ?_
 rintro u -
 (repeat' ((conv=>whnf);first|refine zia.but 35 rfl ?_|(refine vF ?_ ?_<;>intro hc<;>try simp only [vL] at hc)|refine vT ?_|(refine vO ?_ ?_;·omega)|fail));all_goals try conv=>whnf
 ·refine zS.objs [0] (ztx d (a:=0) (b:=b) rfl rfl (by omega) (by omega) (by omega)) (by (repeat' first|exact rfl|refine And.intro ?_ ?_|refine ⟨_,rfl,?_⟩)) (by (repeat' first|exact rfl|refine And.intro ?_ ?_)) (by rfl) (by rfl) (by simp) ?_
  (repeat' ((conv=>whnf);refine vT ?_));all_goals try conv=>whnf
  refine ⟨trivial,_,[(0,0)],[],rfl,.inl (by (repeat' first|exact rfl|refine ⟨_,rfl,?_⟩)),⟨by rfl,by rfl,by rfl,trivial,by (repeat' first|exact trivial|exact rfl|refine And.intro ?_ ?_|refine ⟨_,rfl,?_⟩|exact of_decide_eq_true rfl)⟩,by (repeat' first|exact trivial|exact rfl|refine And.intro ?_ ?_)⟩
 all_goals (exfalso;omega)
set_option maxHeartbeats 1000000 in
theorem ztr (d:Array Int) (hs:d.size≤12):Fn Tryz.prog T zek [.own 0] [zb5 d] (.tup []) [some (zb5 (Sort.sort ltI d))]:=by
 have hn:((BitVec.ofInt 64 (d.size:Int)).toNat)=d.size:=by simp;omega
 refine z6 zu zhF (by show 1≤11;decide) _ (fun e env mem n h=>h) ?_
 (repeat' ((conv=>whnf);first|refine vJ fun hg=>?_|refine vT ?_|refine yD (zwe _) ⟨⟨rfl,rfl⟩,rfl⟩ rfl ?_));all_goals try conv=>whnf
 refine zS.objs [0] (zva d (b:=d.size) (l:=Sort.bitsLen d.size) (bi:=((d.toList.map (D.int .i64)).length:Int)) (li:=((Sort.bitsLen (BitVec.ofInt 64 ((d.toList.map (D.int .i64)).length:Int)).toNat:Nat):Int)) (by simp) (by rw [List.length_map,Array.length_toList,hn]) hs (Nat.le_refl _) (by omega)) (by (repeat' first|exact rfl|refine And.intro ?_ ?_|refine ⟨_,rfl,?_⟩)) (by (repeat' first|exact rfl|refine And.intro ?_ ?_)) (by rfl) (by rfl) (by simp) ?_
 (repeat' ((conv=>whnf);refine vT ?_));all_goals try conv=>whnf
 refine ⟨trivial,_,[(0,0)],[],rfl,.inl (by (repeat' first|exact rfl|refine ⟨_,rfl,?_⟩)),⟨by rfl,by rfl,by rfl,trivial,by (repeat' first|exact trivial|exact rfl|refine And.intro ?_ ?_|refine ⟨_,rfl,?_⟩|exact of_decide_eq_true rfl)⟩,by (repeat' first|exact trivial|exact rfl|refine And.intro ?_ ?_)⟩
set_option maxHeartbeats 1000000 in
theorem zkY (d:Array Int) (hs:d.size≤536870912) (hd : ¬Steps d):Fn Tryz.prog T zaV [.own 0] [zb5 d] (.own 1) [none,some (.row 1 ((ddA d d.size).map (D.int .i64)))]:=by
 generalize hR:(ddA d d.size).map (D.int .i64)=R
 have hln:d.toList.length=d.size:=Array.length_toList
 refine z6 zu zdr (by show 1≤61;decide) _ (fun e env mem n h=>h) ?_
 (repeat' ((conv=>whnf);first|refine vA ?_|(refine vF ?_ ?_<;>intro hc<;>try simp only [vL] at hc)|refine vJ fun hg=>?_|refine vT ?_));all_goals try conv=>whnf
 ·exact absurd (fun j hj0 hj1=>by omega) hd
 refine zM (fun (i:Int)=>[(0,.own 0),(3,.d (.int .i64 (i))),(ze,.own 0)]) (fun (i:Int)=>[(0,some (zb5 d))]) 1 (fun (i:Int) => ∃ k:Nat,i=k∧0 < k∧k≤d.size ∧ ∀ j,0 < j→j < k→d[j]! ≠ d[j - 1]!) (fun (i:Int)=>(d.size - i).toNat) (1) [(0,0)] [] (⟨1,rfl,by omega,by omega,fun j _ _=>by omega⟩) (by (refine ⟨rfl,rfl,rfl,?_,?_⟩;repeat' first|exact trivial|exact rfl|refine And.intro ?_ ?_|refine ⟨_,rfl,?_⟩|decide)) ?_
 rintro _ ⟨k,rfl,hk0,hk1,hk⟩
 (repeat' ((conv=>whnf);first|refine vA ?_|(refine vF ?_ ?_<;>intro hc<;>try simp only [vL] at hc)|refine vJ fun hg=>?_|refine vT ?_|(refine vQ ?_ fun x hx=>?_;·omega)|((first|refine vO ?_ ?_|refine vP ?_ ?_);·first|omega|(simp only [vM] at *;omega))|(refine vU ?_ ?_;·kernel_rfl)|fail));all_goals try conv=>whnf
 ·have g1:=zbl (zf1 k ‹d.toList[(k:Int).toNat]? = some _› rfl)
  have g2:=zbl (zf1 (k - 1) ‹d.toList[((k:Int) - 1).toNat]? = some _› (by omega))
  have hkk:d[k]! = d[k - 1]! := g1.1.trans (‹_=_›.trans g2.1.symm)
  refine zM (fun ((w,q,xs):Int×Int×List D)=>[(0,.own 0),(3,.d (.int .i64 (w))),(4,.view 0 k ((d.toList.map (D.int .i64)).length - k)),(5,.d (.int .i64 (q))),(ze,.own 0)]) (fun ((w,q,xs):Int×Int×List D)=>[(0,some (.row 1 xs))]) 1 (fun ((w,q,xs):Int×Int×List D) => ∃ (a b:Nat) (e:Array Int),w=a∧q=b∧xs=e.toList.map (D.int .i64)∧0 < b∧k+b≤d.size∧a < k+b∧e.size=d.size∧e.toList.take a=ddA d (k+b) ∧ ∀ j,k+b - 1≤j→j < d.size→e[j]! = d[j]!) (fun ((w,q,xs):Int×Int×List D)=>(d.size - k - q).toNat) (((k:Int),(1:Int),d.toList.map (D.int .i64))) [(0,0)] [] (⟨k,1,d,rfl,rfl,rfl,by omega,by omega,by omega,rfl,zx6 hk0 g1.2 hk hkk,fun _ _ _=>rfl⟩) (by (refine ⟨rfl,rfl,rfl,?_,?_⟩;repeat' first|exact trivial|exact rfl|refine And.intro ?_ ?_|refine ⟨_,rfl,?_⟩|decide)) ?_
  rintro ⟨_,_,_⟩ ⟨a,b,e,rfl,rfl,rfl,hb0,hb1,hab,he,ha,hj⟩
  have hle:e.toList.length=e.size:=Array.length_toList
  (repeat' ((conv=>whnf);first|refine vA ?_|((first|refine vD ?_ ?_|refine vF ?_ ?_)<;>intro hc<;>try simp only [vL] at hc)|refine vT ?_|refine vN ‹_› ?_|(refine vQ ?_ fun x hx=>?_;·omega)|((first|refine vO ?_ ?_|refine vP ?_ ?_);·first|omega|(simp only [vM] at *;omega))|(refine vU ?_ ?_;·kernel_rfl)|fail));all_goals try conv=>whnf
  ·have h1:=zbl ‹e.toList[k+((b:Nat):Int).toNat]? = some _›
   have h2:=zbl (zf1 (i:=((k+b - 1:Nat):Int)) (k+b - 1) (by rw [← ‹e.toList[k+(((b:Nat):Int) - 1).toNat]? = some _›];congr 1;omega) rfl)
   simp only [Int.toNat_natCast] at h1
   have e1:=hj (k+b) (by omega) (by omega)
   have e2:=hj (k+b - 1) (by omega) (by omega)
   refine ⟨(_,_,_),[(0,0)],[],?_,?_,by (refine ⟨rfl,rfl,rfl,?_,?_⟩;repeat' first|exact trivial|exact rfl|refine And.intro ?_ ?_|refine ⟨_,rfl,?_⟩|decide)⟩
   ·exact ⟨a+1,b+1,e.setIfInBounds a e[k+b]!,by omega,by omega,by rw [h1.1];simp [List.map_set],by omega,by omega,by omega,by simp [he],
     by rw [zy0 (by omega),ha,← Nat.add_assoc,zAO (by rw [← e1,← e2,h1.1,h2.1];assumption),e1],
     fun j h0 h1=>by rw [zAl (by omega)];exact hj j (by omega) h1⟩
   ·((simp only [vM] at *;omega))
  ·have h1:=zbl ‹e.toList[k+((b:Nat):Int).toNat]? = some _›
   have h2:=zbl (zf1 (i:=((k+b - 1:Nat):Int)) (k+b - 1) (by rw [← ‹e.toList[k+(((b:Nat):Int) - 1).toNat]? = some _›];congr 1;omega) rfl)
   simp only [Int.toNat_natCast] at h1
   have e1:=hj (k+b) (by omega) (by omega)
   have e2:=hj (k+b - 1) (by omega) (by omega)
   refine ⟨(_,_,_),[(0,0)],[],?_,?_,by (refine ⟨rfl,rfl,rfl,?_,?_⟩;repeat' first|exact trivial|exact rfl|refine And.intro ?_ ?_|refine ⟨_,rfl,?_⟩|decide)⟩
   ·exact ⟨a,b+1,e,rfl,by omega,rfl,by omega,by omega,by omega,he,
     by rw [ha,← Nat.add_assoc,zzR (by omega) (by rw [← e1,← e2,h1.1,h2.1];assumption)],
     fun j h0 h1=>hj j (by omega) h1⟩
   ·((simp only [vM] at *;omega))
  ·have hE:=zzQ (enc:=(D.int .i64)) (e:=e) (z:=(D.int .i64 0)) (a:=a) (n:=(e.toList.map (D.int .i64)).length - a) (by omega)
   rw [ha,show k+b=d.size by omega,hR] at hE
   subst hE
   refine zro.mk (by simp only [List.length_append,List.length_take,List.length_replicate,List.length_drop,List.length_map,hle];omega) ?_
   (repeat' ((conv=>whnf);refine vT ?_));all_goals try conv=>whnf
   refine ⟨trivial,_,[(1,1)],[],rfl,.inl (by (repeat' exact rfl)),⟨by rfl,by rfl,by rfl,trivial,by (repeat' first|exact trivial|exact rfl|refine And.intro ?_ ?_|refine ⟨_,rfl,?_⟩|exact of_decide_eq_true rfl)⟩,by (repeat' first|exact trivial|refine And.intro ?_ ?_)⟩
 ·refine ⟨_,[(0,0)],[],?_,?_,by (refine ⟨rfl,rfl,rfl,?_,?_⟩;repeat' first|exact trivial|exact rfl|refine And.intro ?_ ?_|refine ⟨_,rfl,?_⟩|decide)⟩
  ·exact ⟨k+1,by omega,by omega,by omega,fun j h0 h1=>by
    by_cases hjk:j=k
    ·subst hjk
     have g1:=zbl (zf1 j ‹d.toList[(j:Int).toNat]? = some _› rfl)
     have g2:=zbl (zf1 (j - 1) ‹d.toList[((j:Int) - 1).toNat]? = some _› (by omega))
     rw [g1.1,g2.1];assumption
    ·exact hk j h0 (by omega)⟩
  ·(omega)
 ·exact absurd (fun j h0 h1=>hk j h0 (by omega)) hd
end Go.Ab
namespace Go.Ab
open Go Go.Proofs
set_option maxRecDepth 10000
set_option maxHeartbeats 4000000
variable {T:Nat→Obj→Prop}
theorem zBT:Sort.SWO ltI:=⟨fun x=>by simp [ltI],fun x y z h1 h2=>by simp [ltI] at *;omega,fun x y z h1 h2=>by simp [ltI] at *;omega⟩
theorem zvA (l:List Int):(Sort.sort ltI l.toArray).toList=zcd l:=by
 obtain ⟨⟨h1,-,h2⟩,h3⟩:=Sort.sort_sorts ltI zBT l.toArray
 have e1:(Sort.sort ltI l.toArray).extract 0 l.toArray.size=Sort.sort ltI l.toArray:=by rw [← h1];simp
 have e2:l.toArray.extract 0 l.toArray.size=l.toArray:=by simp
 rw [e1,e2] at h2
 refine zBe ?_ h2
 rw [List.pairwise_iff_getElem]
 intro i j hi hj hij
 rw [Array.length_toList] at hi hj
 have:=h3 i j (Nat.zero_le _) hij (by rw [← h1];exact hj)
 have a1:=(zbl (List.getElem?_eq_getElem (l:=(Sort.sort ltI l.toArray).toList) (by rw [Array.length_toList];exact hi))).1
 have a2:=(zbl (List.getElem?_eq_getElem (l:=(Sort.sort ltI l.toArray).toList) (by rw [Array.length_toList];exact hj))).1
 rw [a1,a2] at this
 have:=of_decide_eq_false this
 omega
theorem zya (d:Array Int) (hs:d.size≤1000):Fn Tryz.prog T zaV [.own 0] [zb5 d] (.own 1) [none,some (.row 1 ((ddA d d.size).map (D.int .i64)))]:=by
 by_cases hd:Steps d
 ·have hln:d.toList.length=d.size:=Array.length_toList
  have e0:ddA d d.size=d.toList:=by rw [zpK (Nat.le_refl _) hd,List.take_of_length_le (by omega)]
  rw [e0]
  refine z6 zu zdr (by show 1≤61;decide) _ (fun e env mem n h=>h) ?_
  (repeat' ((conv=>whnf);first|refine vA ?_|(refine vF ?_ ?_<;>intro hc<;>try simp only [vL] at hc)|refine vJ fun hg=>?_|refine vT ?_));all_goals try conv=>whnf
  ·refine ⟨trivial,_,[(1,0)],[],rfl,.inl (by (repeat' exact rfl)),⟨by rfl,by rfl,by rfl,trivial,by (repeat' first|exact trivial|exact rfl|refine And.intro ?_ ?_|refine ⟨_,rfl,?_⟩|exact of_decide_eq_true rfl)⟩,by (repeat' first|exact trivial|refine And.intro ?_ ?_)⟩
  refine zM (fun (i:Int)=>[(0,.own 0),(3,.d (.int .i64 (i))),(ze,.own 0)]) (fun (i:Int)=>[(0,some (zb5 d))]) 1 (fun (i:Int) => ∃ k:Nat,i=k∧0 < k∧k≤d.size) (fun (i:Int)=>(d.size - i).toNat) (1) [(0,0)] [] (⟨1,rfl,by omega,by omega⟩) (by (refine ⟨rfl,rfl,rfl,?_,?_⟩;repeat' first|exact trivial|exact rfl|refine And.intro ?_ ?_|refine ⟨_,rfl,?_⟩|decide)) ?_
  rintro _ ⟨k,rfl,hk0,hk1⟩
  (repeat' ((conv=>whnf);first|refine vA ?_|(refine vF ?_ ?_<;>intro hc<;>try simp only [vL] at hc)|refine vJ fun hg=>?_|refine vT ?_|(refine vQ ?_ fun x hx=>?_;·omega)|((first|refine vO ?_ ?_|refine vP ?_ ?_);·first|omega|(simp only [vM] at *;omega))|(refine vU ?_ ?_;·kernel_rfl)|fail));all_goals try conv=>whnf
  ·have g1:=zbl (zf1 k ‹d.toList[(k:Int).toNat]? = some _› rfl)
   have g2:=zbl (zf1 (k - 1) ‹d.toList[((k:Int) - 1).toNat]? = some _› (by omega))
   exact absurd (g1.1.trans (‹_=_›.trans g2.1.symm)) (hd k hk0 g1.2)
  ·refine ⟨_,[(0,0)],[],?_,?_,by (refine ⟨rfl,rfl,rfl,?_,?_⟩;repeat' first|exact trivial|exact rfl|refine And.intro ?_ ?_|refine ⟨_,rfl,?_⟩|decide)⟩
   ·exact ⟨k+1,by omega,by omega,by omega⟩
   ·(omega)
  ·refine ⟨trivial,_,[(1,0)],[],rfl,.inl (by (repeat' exact rfl)),⟨by rfl,by rfl,by rfl,trivial,by (repeat' first|exact trivial|exact rfl|refine And.intro ?_ ?_|refine ⟨_,rfl,?_⟩|exact of_decide_eq_true rfl)⟩,by (repeat' first|exact trivial|refine And.intro ?_ ?_)⟩
 ·exact zkY d (by omega) hd
theorem zAP (l:List Int):ddA (zcd l).toArray (zcd l).toArray.size=zj8 l:=by
 have hs:=zeh l
 have hg : ∀ i,i < (zcd l).length→(zcd l)[i]? = some (zcd l).toArray[i]! := fun i hi=>by
  have:=ztT (d:=(zcd l).toArray) (i:=i) (by simpa using hi)
  simpa using this
 have hsz:(zcd l).toArray.size=(zcd l).length:=by simp
 have h1:(ddA (zcd l).toArray (zcd l).toArray.size).Pairwise fun x y=>ltI x y=true:=zni (lt:=ltI) (fun i j hij hj=>by
   rw [hsz] at hj
   have a1:=hg i (by omega);have a2:=hg j hj
   obtain ⟨p1,q1⟩:=List.getElem?_eq_some_iff.1 a1
   obtain ⟨p2,q2⟩:=List.getElem?_eq_some_iff.1 a2
   have:=List.pairwise_iff_getElem.1 hs i j p1 p2 hij
   rw [q1,q2] at this
   unfold ltI
   rw [decide_eq_false_iff_not];omega) (fun x y h1 h2=>by simp [ltI] at h1 h2;omega) (Nat.le_refl _)
 have h1':(ddA (zcd l).toArray (zcd l).toArray.size).Pairwise (· < ·):=h1.imp fun h=>by simpa [ltI] using h
 have h2:(zj8 l).Nodup:=(zd8 _).nodup_iff.2 (zli l)
 refine zdt (h1'.imp fun h=>Int.le_of_lt h) (zeh _) (zo5 (h1'.imp fun h e=>by subst e;omega) h2 fun x=>?_)
 rw [zfA,zjU]
 rw [← (zd8 l).mem_iff]
 constructor
 ·rintro ⟨i,hi,rfl⟩;rw [hsz] at hi;exact List.mem_of_getElem? (hg i hi)
 ·intro hx
  obtain ⟨i,hi⟩:=List.getElem?_of_mem hx
  have hl:=(List.getElem?_eq_some_iff.1 hi).1
  refine ⟨i,by rw [hsz];exact hl,?_⟩
  have:=hg i hl;rw [hi] at this;exact (Option.some.inj this).symm
end Go.Ab
namespace Go.Ab
open Go Go.Proofs
set_option maxRecDepth 10000
set_option maxHeartbeats 4000000
variable {T:Nat→Obj→Prop}
theorem zv9 {l:List Nat} {w:Nat} (h:w∈l):zeE (fun y=>(w:Int)==y) (l.map fun (x:Nat)=>(x:Int))=(l.idxOf w:Int):=by
 have h1:=zsp h
 refine zgc (x:=(w:Int)) (by rw [zuj h1.1,h1.2]) (by simp) fun i y hi hy=>?_
 rw [List.getElem?_map,Option.map_eq_some_iff] at hy
 obtain ⟨x,hx,rfl⟩:=hy
 have hne:x≠w:=fun e=>by
  subst e
  have h2:=List.idxOf_lt_length_of_mem h
  obtain ⟨p1,q1⟩:=List.getElem?_eq_some_iff.1 hx
  have : ∀ (l:List Nat) (i:Nat) (hi:i < l.length),l.idxOf l[i]≤i:=fun l=>by
   induction l with
   | nil=>intro i hi;simp at hi
   | cons a l ih =>
    intro i hi
    cases i with
    | zero=>simp
    | succ i =>
     rw [List.getElem_cons_succ,List.idxOf_cons]
     cases hb:a==l[i]'(by simpa using hi) with
     | true=>simp
     | false=>have:=ih i (by simpa using hi);simp;exact this
  have:=this l i p1
  rw [q1] at this;omega
 simp;omega
end Go.Ab
namespace Go.Ab
open Go Go.Proofs
set_option maxRecDepth 10000
set_option maxHeartbeats 4000000
variable {T:Nat→Obj→Prop}
theorem zBV {x y:BitVec 64} {u w:Nat} : x >>> u&&&1#64=y >>> w&&&1#64↔x.getLsbD u=y.getLsbD w:=by
 cases hx:x.getLsbD u<;>cases hy:y.getLsbD w
 ·rw [(zeG _ _).2 hx,(zeG _ _).2 hy];simp
 ·rw [(zeG _ _).2 hx,(zea _ _).2 hy];decide
 ·rw [(zea _ _).2 hx,(zeG _ _).2 hy];decide
 ·rw [(zea _ _).2 hx,(zea _ _).2 hy];simp
structure zn2 (to:List Int) (n k:Nat) (s:BitVec 64):Prop where
 le:k≤to.length
 rng : ∀ x∈to.take k,0≤x∧x < n
 nd:(to.take k).Nodup
 bit : ∀ x:Nat,x < 64→(s.getLsbD x=true↔(x:Int)∈to.take k)
theorem zn2.next {to:List Int} {n k:Nat} (h64:n≤64) {s:BitVec 64} (h:zn2 to n k s) {x:Nat} (hx:to[k]? = some (x:Int)) (hx1:x < n) (hx2:s.getLsbD x=false):zn2 to n (k+1) (s|||1#64 <<< x):=by
 have hkl:=(List.getElem?_eq_some_iff.1 hx).1
 have hn:(x:Int) ∉ to.take k:=fun hm=>by rw [(h.bit x (by omega)).2 hm] at hx2;cases hx2
 have ht:to.take (k+1)=to.take k++[(x:Int)]:=by rw [List.take_add_one,hx];rfl
 refine ⟨by omega,fun y hy=>?_,?_,fun y hy=>?_⟩
 ·rw [ht] at hy
  rcases List.mem_append.1 hy with hy|hy
  ·exact h.rng y hy
  ·simp only [List.mem_singleton] at hy;omega
 ·rw [ht]
  refine List.nodup_append.2 ⟨h.nd,by simp,fun a ha b hb e=>?_⟩
  simp only [List.mem_singleton] at hb
  subst hb;subst e;exact hn ha
 ·rw [ht,zo7 (by omega),h.bit y hy,List.mem_append,List.mem_singleton]
  exact ⟨fun h=>h.elim .inl fun e => .inr (by omega),fun h=>h.elim .inl fun e => .inr (by omega)⟩
theorem zn2.bad {to:List Int} {n k:Nat} {s:BitVec 64} (h:zn2 to n k s) (h64:n≤64) {x:Int} (hx:to[k]? = some x) (hb:x < 0∨(n:Int)≤x∨s.getLsbD x.toNat=true):zhi to n=false:=by
 rw [← Bool.not_eq_true]
 intro hp
 obtain ⟨h1,h2,h3⟩:=zj0.1 hp
 have hr:=h2 x (List.mem_of_getElem? hx)
 rcases hb with hb|hb|hb
 ·omega
 ·omega
 ·have hm:=(h.bit x.toNat (by omega)).1 hb
  rw [show ((x.toNat:Nat):Int)=x by omega] at hm
  obtain ⟨j,hj⟩:=List.getElem?_of_mem hm
  rw [List.getElem?_take] at hj
  split at hj
  ·rename_i hlt
   obtain ⟨a,a'⟩:=List.getElem?_eq_some_iff.1 hj
   obtain ⟨c,c'⟩:=List.getElem?_eq_some_iff.1 hx
   have:=(List.getElem_inj h3).1 (a'.trans c'.symm)
   omega
  ·cases hj
end Go.Ab
namespace Go.Ab
open Go Go.Proofs
set_option maxRecDepth 10000
set_option maxHeartbeats 4000000
def zjO:List D→Option (List Int)
 | []=>some []
 | .int .i64 n::r=>match zjO r with
  | some l=>some (n::l)
  | none=>none
 | _=>none
theorem znv : ∀ {ds:List D} {l:List Int},zjO ds=some l→ds=l.map (D.int .i64)
 | [],l,h=>by cases h;rfl
 | .int .i64 n::r,l,h=>by
  unfold zjO at h
  split at h
  ·rename_i l' h';cases h;rw [znv h'];rfl
  ·cases h
def zhz:List D→Option (List (BitVec 64))
 | []=>some []
 | .u64 n::r=>match zhz r with
  | some l=>some (n::l)
  | none=>none
 | _=>none
theorem zlC : ∀ {ds:List D} {l:List (BitVec 64)},zhz ds=some l→ds=l.map D.u64
 | [],l,h=>by cases h;rfl
 | .u64 n::r,l,h=>by
  unfold zhz at h
  split at h
  ·rename_i l' h';cases h;rw [zlC h'];rfl
  ·cases h
def ziV:List D→Option (List (List Int))
 | []=>some []
 | .arr 1 x::r=>match zjO x with
  | some a=>match ziV r with
   | some l=>some (a::l)
   | none=>none
  | none=>none
 | _=>none
theorem zlf : ∀ {ds:List D} {l:List (List Int)},ziV ds=some l→ds=l.map dI
 | [],l,h=>by cases h;rfl
 | .arr 1 x::r,l,h=>by
  replace h:(match zjO x with
   | some a=>match ziV r with
    | some l=>some (a::l)
    | none=>none
   | none=>none)=some l:=h
  cases h1:zjO x with
  | none=>rw [h1] at h;cases h
  | some a =>
   cases h2:ziV r with
   | none=>rw [h1,h2] at h;cases h
   | some l'=>rw [h1,h2] at h;cases h;rw [zlf h2,znv h1];rfl
def zpb:List D→Option (List (List (BitVec 64)))
 | []=>some []
 | .arr 1 x::r=>match zhz x with
  | some a=>match zpb r with
   | some l=>some (a::l)
   | none=>none
  | none=>none
 | _=>none
theorem zsW : ∀ {ds:List D} {l:List (List (BitVec 64))},zpb ds=some l→ds=l.map dU
 | [],l,h=>by cases h;rfl
 | .arr 1 x::r,l,h=>by
  replace h:(match zhz x with
   | some a=>match zpb r with
    | some l=>some (a::l)
    | none=>none
   | none=>none)=some l:=h
  cases h1:zhz x with
  | none=>rw [h1] at h;cases h
  | some a =>
   cases h2:zpb r with
   | none=>rw [h1,h2] at h;cases h
   | some l'=>rw [h1,h2] at h;cases h;rw [zsW h2,zlC h1];rfl
def zp5:D→Option KM
 | .agg [.int .i64 W,.arr 1 v,.arr 1 r]=>match zhz v,zpb r with
  | some v,some r=>some ⟨W,v,r⟩
  | _,_=>none
 | _=>none
theorem zlU {d:D} {m:KM} (h:zp5 d=some m):d=dKM m:=by
 unfold zp5 at h
 split at h
 ·split at h
  ·rename_i h1 h2;cases h;rw [zlC h1,zsW h2]
  ·cases h
 ·cases h
def zvx (t:Tup):Bool:=Nat.ble t.length 1000&&t.all fun r=>Nat.ble r.length 1000
theorem zAo {t:Tup} (h:zvx t=true):Sml t:=by
 unfold zvx at h
 rw [Bool.and_eq_true,Nat.ble_eq] at h
 exact ⟨h.1,fun r hr=>by have:=List.all_eq_true.1 h.2 r hr;rwa [Nat.ble_eq] at this⟩
variable {T:Nat→Obj→Prop}
end Go.Ab
namespace Go.Ab
open Go Go.Proofs
set_option maxRecDepth 10000
set_option maxHeartbeats 4000000
variable {T:Nat→Obj→Prop}
def zfY (a b:List Int) (v w:Nat):Bool:=decide (at0 a v=at0 a w∧at0 b v=at0 b w)
end Go.Ab
namespace Go.Ab
open Go Go.Proofs
set_option maxRecDepth 10000
set_option maxHeartbeats 4000000
variable {T:Nat→Obj→Prop}
def pOk (p:List Int) (i:Nat):Bool:=decide (0≤at0 p i∧at0 p i≤i∧at0 p (at0 p i).toNat=at0 p i)
def zbI (p:List Int):Int:=if 64 < p.length then 8 else if (List.range p.length).all (pOk p)=true then 0 else 3
theorem zuh {p:List Int} {k:Nat} (hk:k < p.length) (h:pOk p k=false) : ¬(List.range p.length).all (pOk p)=true:=fun e=>by
 rw [List.all_eq_true] at e
 rw [e k (List.mem_range.2 hk)] at h;cases h
theorem zsP {p:List Int} (h : ∀ i,i < p.length→pOk p i=true):(List.range p.length).all (pOk p)=true:=List.all_eq_true.2 fun i hi=>h i (List.mem_range.1 hi)
theorem ztI {p:List Int} (h:zbI p=0):p.length≤64∧zaH p.length (fun w=>(at0 p w).toNat)∧p=ptL p.length fun w=>(at0 p w).toNat:=by
 unfold zbI at h
 split at h
 ·cases h
 ·rename_i h1
  split at h
  ·rename_i h2
   have h3 : ∀ i,i < p.length→0≤at0 p i∧at0 p i≤i∧at0 p (at0 p i).toNat=at0 p i:=fun i hi=>by
    have:=List.all_eq_true.1 h2 i (List.mem_range.2 hi)
    simpa [pOk] using this
   refine ⟨by omega,⟨fun w hw=>by have:=h3 w hw;show (at0 p w).toNat≤w;omega,fun w hw=>by have:=h3 w hw;show (at0 p (at0 p w).toNat).toNat=_;rw [this.2.2]⟩,?_⟩
   refine List.ext_getElem? fun i=>?_
   by_cases hi:i < p.length
   ·rw [zbO hi,zpS hi]
    have:=h3 i hi
    congr 1;omega
   ·rw [List.getElem?_eq_none (by omega),List.getElem?_eq_none (by rw [zdu];omega)]
  ·cases h
theorem zmA {n:Nat} {q:Nat→Nat} (hq:zaH n q) (hn:n≤64):zbI (ptL n q)=0:=by
 have hl:(ptL n q).length=n:=zdu
 have ha : ∀ i,i < n→at0 (ptL n q) i=((q i:Nat):Int):=fun i hi=>zdP (zbO hi)
 unfold zbI
 rw [if_neg (by omega),if_pos (zsP fun i hi=>?_)]
 rw [hl] at hi
 have h1:=hq.le i hi
 unfold pOk
 rw [decide_eq_true_eq,ha i hi,Int.toNat_natCast,ha (q i) (by omega),hq.idem i hi]
 exact ⟨by omega,by omega,rfl⟩
theorem zgI (p:List Int):Fn Tryz.prog T zer [.d (dI p)] [] (.d (.int .i64 (zbI p))) []:=by
 refine zf zu zms (by show 1≤31;decide) ?_
 (repeat' ((conv=>whnf);first|refine vA ?_|(refine vF ?_ ?_<;>intro hc<;>try simp only [vL] at hc)|refine vJ fun hg=>?_|refine vT ?_|refine vX ?_));all_goals try conv=>whnf
 ·rw [zbI,if_pos (by omega)]
 ·have e0:zbI p=if (List.range p.length).all (pOk p)=true then 0 else 3:=by rw [zbI,if_neg (by omega)]
  refine zaw (fun (k:Nat)=>[(0,.d (dI p)),(8,.d (dI p)),(9,.d (.int .i64 ((p.map (D.int .i64)).length:Int))),(10,.d (.int .i64 ((k:Int))))]) (fun (k:Nat)=>k≤p.length ∧ ∀ i,i < k→pOk p i=true) (fun (k:Nat)=>p.length - k) (0) (⟨by simp,fun i hi=>by omega⟩) (by (repeat' first|exact trivial|exact rfl|refine And.intro ?_ ?_)) ?_
  rintro k ⟨hk,hI⟩
  by_cases hkl:k < p.length
  ·have e1:p[k]? = some (at0 p k):=zpS hkl
   by_cases hb:0≤at0 p k∧at0 p k≤k
   ·have e2:p[(at0 p k).toNat]? = some (at0 p (at0 p k).toNat):=zpS (by omega)
    (repeat' ((conv=>whnf);first|refine vA ?_|((first|refine vD ?_ ?_|refine vF ?_ ?_)<;>intro hc<;>try simp only [vL] at hc)|refine vT ?_|refine vN ‹_› ?_|((first|refine vO ?_ ?_|refine vR ?_ ‹_› ?_);·omega)|refine vX ?_));all_goals try conv=>whnf
    all_goals try omega
    ·rw [e0,if_neg (zuh hkl (by unfold pOk;rw [decide_eq_false_iff_not];rintro ⟨-,-,h3⟩;exact absurd h3 ‹_›))]
    ·exact ⟨k+1,[],[],⟨by (omega),fun i hi=>by
      by_cases e:i=k
      ·subst e;unfold pOk;rw [decide_eq_true_eq];exact ⟨hb.1,hb.2,by assumption⟩
      ·exact hI i (by omega)⟩,by (omega),by (refine ⟨rfl,rfl,rfl,?_,?_⟩;repeat' first|exact trivial|exact rfl|refine And.intro ?_ ?_)⟩
   ·(repeat' ((conv=>whnf);first|refine vA ?_|((first|refine vD ?_ ?_|refine vF ?_ ?_)<;>intro hc<;>try simp only [vL] at hc)|refine vT ?_|refine vN ‹_› ?_|((first|refine vO ?_ ?_|refine vS ?_ fun x hx=>?_);·omega)|refine vX ?_));all_goals try conv=>whnf
    all_goals try omega
    all_goals exact (by rw [e0,if_neg (zuh hkl (by unfold pOk;rw [decide_eq_false_iff_not];rintro ⟨h1,h2,-⟩;exact hb ⟨h1,h2⟩))])
  ·(repeat' ((conv=>whnf);first|refine vA ?_|((first|refine vD ?_ ?_|refine vF ?_ ?_)<;>intro hc<;>try simp only [vL] at hc)|refine vT ?_|(refine vQ ?_ fun x hx=>?_;·omega)|((first|refine vO ?_ ?_|refine vS ?_ fun x hx=>?_);·omega)|refine vX ?_));all_goals try conv=>whnf
   all_goals try omega
   rw [e0,if_pos (zsP fun i hi=>hI i (by omega))]
theorem zwm {n:Nat} {q:Nat→Nat} (hq:zaH n q) (hn:n≤64):Fn Tryz.prog T zer [.d (dI (ptL n q))] [] (.d (.int .i64 0)) []:=by
 have:=zgI (T:=T) (ptL n q)
 rwa [zmA hq hn] at this
abbrev pkD (x y:Int):D := .agg [.int .i64 x,.int .i64 y]
def zcY (a b:List Int) (k:Nat) (x y:Int):Option Nat:=(List.range k).find? fun j=>decide (at0 a j=x∧at0 b j=y)
def zkr (a b:List Int) (k:Nat) (es:List (D×D)):Prop := ∀ x y,zq es (pkD x y)=some ((zcY a b k x y).map fun (j:Nat)=>D.int .i64 (j:Int))
theorem zfg (k:D) (l:List (D×D)) : ∀ es:List (D×D),zq es k=some none→zq (es++l) k=zq l k
 | [],_=>rfl
 | (a,v)::r,h=>by
  simp only [zq] at h
  show zq ((a,v)::(r++l)) k=_
  simp only [zq]
  split at h
  ·cases h
  ·exact zfg k l r h
  ·cases h
theorem zmG (k:D) (l:List (D×D)) : ∀ (es:List (D×D)) (x:D),zq es k=some (some x)→zq (es++l) k=some (some x)
 | [],_,h=>by cases h
 | (a,v)::r,x,h=>by
  simp only [zq] at h
  show zq ((a,v)::(r++l)) k=_
  simp only [zq]
  split at h
  ·exact h
  ·exact zmG k l r x h
  ·cases h
theorem zwS (x y x' y':Int):D.eqk (pkD x y) (pkD x' y')=some (decide (x=x')&&(decide (y=y')&&true)):=rfl
theorem zkX (a b:List Int) (k:Nat) (x y:Int):zcY a b (k+1) x y=match zcY a b k x y with
  | some j=>some j
  | none=>if at0 a k=x∧at0 b k=y then some k else none:=by
 unfold zcY
 rw [List.range_succ,List.find?_append]
 cases h:(List.range k).find? fun j=>decide (at0 a j=x∧at0 b j=y) with
 | some j=>rfl
 | none =>
  show (none:Option Nat).or _=_
  rw [Option.none_or]
  simp only [List.find?]
  by_cases e:at0 a k=x∧at0 b k=y
  ·rw [if_pos e,decide_eq_true e]
  ·rw [if_neg e,decide_eq_false e]
theorem zto {a b:List Int} {k j:Nat} {es:List (D×D)} (h:zkr a b k es) (hf:zcY a b k (at0 a k) (at0 b k)=some j):zkr a b (k+1) es:=by
 intro x y
 rw [h x y,zkX]
 cases e:zcY a b k x y with
 | some i=>rfl
 | none =>
  show _=some (Option.map _ (if at0 a k=x∧at0 b k=y then some k else none))
  rw [if_neg]
  rintro ⟨rfl,rfl⟩;rw [hf] at e;cases e
theorem zu1 {a b:List Int} {k:Nat} {es:List (D×D)} (h:zkr a b k es) (hf:zcY a b k (at0 a k) (at0 b k)=none):zkr a b (k+1) (es++[(pkD (at0 a k) (at0 b k),.int .i64 (k:Int))]):=by
 intro x y
 rw [zkX]
 cases e:zcY a b k x y with
 | some i=>exact zmG _ _ _ _ (by rw [h x y,e];rfl)
 | none =>
  rw [zfg _ _ _ (by rw [h x y,e];rfl)]
  show _=some (Option.map _ (if at0 a k=x∧at0 b k=y then some k else none))
  simp only [zq,zwS]
  by_cases e1:at0 a k=x∧at0 b k=y
  ·obtain ⟨rfl,rfl⟩:=e1
   simp
  ·rw [if_neg e1]
   by_cases e2:x=at0 a k
   ·have e3 : ¬ y=at0 b k:=fun e3=>e1 ⟨e2.symm,e3.symm⟩
    simp [e2,e3]
   ·simp [e2]
theorem zqG (a b:List Int) (k:Nat):z2 (zfY a b) k=(zcY a b k (at0 a k) (at0 b k)).getD k:=rfl
theorem zup {e:Nat→Nat→Bool} {n k j:Nat} (h:z2 e k=j):(((List.range n).map fun i=>D.int .i64 (if i < k then (z2 e i:Int) else 0)).set k (D.int .i64 (j:Int)))=(List.range n).map fun i=>D.int .i64 (if i < k+1 then (z2 e i:Int) else 0):=by
 refine (zh4 _).trans (zaj fun u hu=>?_)
 by_cases e1:u=k
 ·subst e1;rw [if_pos rfl,if_pos (by omega),h]
 ·rw [if_neg e1]
  by_cases e2:u < k
  ·rw [if_pos e2,if_pos (by omega)]
  ·rw [if_neg e2,if_neg (by omega)]
theorem zwh (a b:List Int) (hl:b.length=a.length) (hn:a.length≤64):Fn Tryz.prog T zf7 [.d (dI a),.d (dI b)] [] (.d (dI (ptL a.length (z2 (zfY a b))))) []:=by
 refine zf zu zlb (by show 2≤48;decide) ?_
 (repeat' ((conv=>whnf);first|refine vA ?_|refine vJ fun hg=>?_|refine vT ?_|(refine vP ?_ ?_;·(simp only [vM] at *;omega))|fail));all_goals try conv=>whnf
 refine zM (fun ((k,es,zs):Nat×List (D×D)×List D)=>[(0,.d (dI a)),(1,.d (dI b)),(5,.map 0),(6,.own 1),(16,.d (.int .i64 ((a.map (D.int .i64)).length:Int))),(17,.d (.int .i64 ((k:Int))))]) (fun ((k,es,zs):Nat×List (D×D)×List D)=>[(0,some (.map es)),(1,some (.row 1 zs))]) 2 (fun ((k,es,zs):Nat×List (D×D)×List D)=>k≤a.length∧zkr a b k es∧zs=(List.range a.length).map fun i=>D.int .i64 (if i < k then (z2 (zfY a b) i:Int) else 0)) (fun ((k,es,zs):Nat×List (D×D)×List D)=>a.length - k) ((0,[],List.replicate (((a.map (D.int .i64)).length:Int)).toNat (D.int .i64 0))) [(0,0),(1,1)] [] (⟨by simp,fun x y=>by simp [zq,zcY],by simp only [Nat.not_lt_zero,if_false];rw [List.length_map,Int.toNat_natCast];exact zbK _ _⟩) (by (refine ⟨rfl,rfl,rfl,?_,?_⟩;repeat' first|exact trivial|exact rfl|refine And.intro ?_ ?_|refine ⟨_,rfl,?_⟩|decide)) ?_
 rintro ⟨k,es,zs⟩ ⟨hk,hM,rfl⟩
 by_cases hkl:k < a.length
 ·obtain ⟨x,e1⟩ : ∃ x,a[k]? = some x:=⟨_,List.getElem?_eq_getElem hkl⟩
  obtain ⟨y,e2⟩ : ∃ y,b[k]? = some y:=⟨_,List.getElem?_eq_getElem (by omega)⟩
  have f1:at0 a k=x:=zdP e1
  have f2:at0 b k=y:=zdP e2
  cases hf:zcY a b k x y with
  | some j =>
   have hfd:zq es (pkD x y)=some (some (.int .i64 (j:Int))):=by rw [hM x y,hf];rfl
   (repeat' ((conv=>whnf);first|refine vA ?_|refine vE ?_|refine vG ?_|(refine vF ?_ ?_<;>intro hc<;>try simp only [vL] at hc)|refine vT ?_|refine vN ‹_› ?_|((first|refine vO ?_ ?_|refine vP ?_ ?_);·first|omega|(simp only [vM] at *;omega))|(refine vU ?_ ?_;·kernel_rfl)|refine zaD.mk _ ‹_› ?_));all_goals try conv=>whnf
   ·have hlo:z2 (zfY a b) k=j:=by rw [zqG,f1,f2,hf];rfl
    refine ⟨(k+1,es,_),[(0,0),(1,1)],[],?_,?_,by (refine ⟨rfl,rfl,rfl,?_,?_⟩;repeat' first|exact trivial|exact rfl|refine And.intro ?_ ?_|refine ⟨_,rfl,?_⟩|decide)⟩
    ·exact ⟨by (omega),zto hM (by rw [f1,f2];exact hf),zup hlo⟩
    ·((simp only [vM] at *;omega))
   all_goals omega
  | none =>
   have hfd:zq es (pkD x y)=some none:=by rw [hM x y,hf];rfl
   have hfn:zq (es++[(pkD x y,.int .i64 (k:Int))]) (pkD x y)=some (some (.int .i64 (k:Int))):=by rw [zfg _ _ _ hfd];simp [zq,zwS]
   (repeat' ((conv=>whnf);first|refine vA ?_|(refine vF ?_ ?_<;>intro hc<;>try simp only [vL] at hc)|refine vT ?_|refine vN ‹_› ?_|((first|refine vO ?_ ?_|refine vP ?_ ?_);·first|omega|(simp only [vM] at *;omega))|(refine vU ?_ ?_;·kernel_rfl)|refine zaD.mk _ ‹_› ?_));all_goals try conv=>whnf
   ·have hlo:z2 (zfY a b) k=k:=by rw [zqG,f1,f2,hf];rfl
    refine ⟨(k+1,_,_),[(0,0),(1,1)],[],?_,?_,by (refine ⟨rfl,rfl,rfl,?_,?_⟩;repeat' first|exact trivial|exact rfl|refine And.intro ?_ ?_|refine ⟨_,rfl,?_⟩|decide)⟩
    ·exact ⟨by (omega),by subst f1 f2;exact zu1 hM hf,zup hlo⟩
    ·((simp only [vM] at *;omega))
   all_goals omega
 ·(repeat' ((conv=>whnf);first|refine vA ?_|(refine vF ?_ ?_<;>intro hc<;>try simp only [vL] at hc)|refine vT ?_|(refine vQ ?_ fun x hx=>?_;·omega)|(refine vU ?_ ?_;·kernel_rfl)|fail));all_goals try conv=>whnf
  ·omega
  ·have e0:k=a.length:=by omega
   subst e0
   refine congrArg (fun l=>some (D.arr 1 l)) ?_
   unfold ptL
   rw [List.map_map]
   exact zaj fun u hu=>by rw [if_pos hu];rfl
theorem zsh {n:Nat} {q:Nat→Nat} (hq:zaH n q) (hn:n≤64) (keys:List Int) (hl:keys.length=n):Fn Tryz.prog T zcM [.d (dI (ptL n q)),.d (dI keys)] [] (.d (.tup [dI (ptL n (z2 (zfY (ptL n q) keys))),.int .i64 0])) []:=by
 have hp:=zdu (n:=n) (q:=q)
 have cd:=zwh (T:=T) (ptL n q) keys (by omega) (by omega)
 rw [hp] at cd
 refine zf zu zmt (by show 2≤20;decide) ?_
 (repeat' ((conv=>whnf);first|refine vA ?_|refine vH ?_|(refine vD ?_ ?_<;>intro hc<;>try simp only [vL] at hc)|refine vJ fun hg=>?_|refine vT ?_|refine yD (zwm hq hn) ⟨⟨rfl,rfl⟩,rfl⟩ rfl ?_|refine yN cd ⟨⟨rfl,rfl⟩,⟨rfl,rfl⟩,rfl⟩ ?_));all_goals try conv=>whnf
 ·omega
 ·rfl
end Go.Ab
namespace Go.Ab
open Go Go.Proofs
set_option maxRecDepth 10000
set_option maxHeartbeats 4000000
variable {T:Nat→Obj→Prop}
def zgs (R:List (List (BitVec 64))):List (Nat→BitVec 64):=R.map fun r w=>r.getD w 0#64
end Go.Ab
namespace Go.Ab
def zag (d:Nat):UInt8:=if d < 10 then UInt8.ofNat (48+d) else UInt8.ofNat (87+d)
def zpn (c:UInt8):Nat:=if c.toNat < 58 then c.toNat - 48 else c.toNat - 87
theorem ze1 : ∀ d,d < 16→zpn (zag d)=d∧zag d≠32:=by decide
def zdA:Nat→Nat→List UInt8
 | 0,v=>[zag (v % 16)]
 | k+1,v=>if v < 16 then [zag v] else zdA k (v / 16)++[zag (v % 16)]
def zpo (l:List UInt8):Nat:=l.foldl (fun a c=>a * 16+zpn c) 0
theorem zj9 : ∀ k v,v < 16 ^ (k+1)→zpo (zdA k v)=v
 | 0,v,h=>by
  have h:v < 16:=by simpa using h
  show 0 * 16+zpn (zag (v % 16))=v
  rw [Nat.mod_eq_of_lt h,(ze1 v h).1];omega
 | k+1,v,h=>by
  unfold zdA
  split
  ·rename_i hv
   show 0 * 16+zpn (zag v)=v
   rw [(ze1 v hv).1];omega
  ·unfold zpo
   rw [List.foldl_append]
   show zpo (zdA k (v / 16)) * 16+zpn (zag (v % 16))=v
   rw [zj9 k (v / 16) (by rw [Nat.pow_succ] at h;omega),(ze1 _ (Nat.mod_lt _ (by omega))).1]
   omega
theorem ziP : ∀ k v,(∀ c,c∈zdA k v→c≠32)∧(zdA k v).length≤k+1
 | 0,v=>⟨fun c hc=>by simp only [zdA,List.mem_singleton] at hc;subst hc;exact (ze1 _ (Nat.mod_lt _ (by omega))).2,by simp [zdA]⟩
 | k+1,v=>by
  unfold zdA
  split
  ·rename_i hv
   exact ⟨fun c hc=>by simp only [List.mem_singleton] at hc;subst hc;exact (ze1 _ hv).2,by simp⟩
  ·obtain ⟨h1,h2⟩:=ziP k (v / 16)
   refine ⟨fun c hc=>?_,by simp;omega⟩
   rcases List.mem_append.1 hc with hc|hc
   ·exact h1 c hc
   ·simp only [List.mem_singleton] at hc;subst hc;exact (ze1 _ (Nat.mod_lt _ (by omega))).2
def zfE (x:BitVec 64):List UInt8:=zdA 15 x.toNat
theorem zyo {x y:BitVec 64} (h:zfE x=zfE y):x=y:=by
 have hx:zpo (zfE x)=x.toNat:=zj9 15 _ (by have:=x.isLt;simpa using this)
 have hy:zpo (zfE y)=y.toNat:=zj9 15 _ (by have:=y.isLt;simpa using this)
 exact BitVec.eq_of_toNat_eq (by rw [← hx,← hy,h])
theorem zui : ∀ {a b r r':List UInt8},(∀ c,c∈a→c≠32)→(∀ c,c∈b→c≠32)→a++32::r=b++32::r'→a=b∧r=r'
 | [],[],_,_,_,_,h=>⟨rfl,by simpa using h⟩
 | [],y::b,_,_,_,hb,h=>by
  simp only [List.nil_append,List.cons_append,List.cons.injEq] at h
  exact absurd h.1.symm (hb y (by simp))
 | x::a,[],_,_,ha,_,h=>by
  simp only [List.nil_append,List.cons_append,List.cons.injEq] at h
  exact absurd h.1 (ha x (by simp))
 | x::a,y::b,_,_,ha,hb,h=>by
  simp only [List.cons_append,List.cons.injEq] at h
  obtain ⟨rfl,h⟩:=h
  obtain ⟨rfl,h'⟩:=zui (fun c hc=>ha c (by simp [hc])) (fun c hc=>hb c (by simp [hc])) h
  exact ⟨rfl,h'⟩
def zfl (xs:List (BitVec 64)):List UInt8:=xs.flatMap fun x=>zfE x++[32]
theorem zgg (x:BitVec 64) (xs:List (BitVec 64)):zfl (x::xs)=zfE x++32::zfl xs:=by simp [zfl]
theorem zwE (x:BitVec 64) (xs:List (BitVec 64)):zfl (xs++[x])=zfl xs++(zfE x++[32]):=by simp [zfl]
theorem zsu : ∀ {xs ys:List (BitVec 64)},zfl xs=zfl ys→xs=ys
 | [],[],_=>rfl
 | [],y::ys,h=>by rw [zgg] at h;simp [zfl] at h
 | x::xs,[],h=>by rw [zgg] at h;simp [zfl] at h
 | x::xs,y::ys,h=>by
  rw [zgg,zgg] at h
  obtain ⟨h1,h2⟩:=zui (ziP _ _).1 (ziP _ _).1 h
  rw [zyo h1,zsu h2]
theorem zsv : ∀ xs:List (BitVec 64),(zfl xs).length≤17 * xs.length
 | []=>by simp [zfl]
 | x::xs=>by
  rw [zgg,List.length_append,List.length_cons,List.length_cons]
  have h1:(zfE x).length≤16:=(ziP 15 x.toNat).2
  have:=zsv xs
  omega
end Go.Ab
namespace Go.Ab
open Go Go.Proofs
set_option maxRecDepth 10000
set_option maxHeartbeats 4000000
variable {T:Nat→Obj→Prop}
abbrev KS:=List UInt8
def zc0:Nat→List KS→List (D×D)
 | _,[]=>[]
 | i,x::r=>(.str x,.int .i64 (i:Int))::zc0 (i+1) r
def zlI (dl:List KS) (x:KS):List KS:=if x∈dl then dl else dl++[x]
theorem znJ : ∀ (dl:List KS) (i:Nat),(zc0 i dl).length=dl.length
 | [],_=>rfl
 | x::r,i=>by simp [zc0,znJ r (i+1)]
theorem zmT (x:KS) : ∀ (dl:List KS) (i:Nat),zc0 i (dl++[x])=zc0 i dl++[(.str x,.int .i64 ((i+dl.length:Nat):Int))]
 | [],i=>by simp [zc0]
 | y::r,i=>by
  rw [List.cons_append,zc0,zc0,zmT x r (i+1),List.cons_append,List.length_cons,show i+1+r.length=i+(r.length+1) by omega]
theorem zqM (x:KS) : ∀ (dl:List KS) (i:Nat),zq (zc0 i dl) (.str x)=some (if x∈dl then some (.int .i64 ((i+dl.idxOf x:Nat):Int)) else none)
 | [],i=>by simp [zc0,zq]
 | y::r,i=>by
  have ih:=zqM x r (i+1)
  show (match some (decide (x=y)) with
   | some true=>some (some (D.int .i64 (i:Int)))
   | some false=>zq (zc0 (i+1) r) (.str x)
   | none=>none)=_
  by_cases e:x=y
  ·subst e;simp
  ·rw [decide_eq_false e]
   show zq (zc0 (i+1) r) (.str x)=_
   rw [ih,List.idxOf_cons]
   have:(y==x)=false:=by simp [Ne.symm e]
   rw [this]
   by_cases hm:x∈r
   ·rw [if_pos hm,if_pos (List.mem_cons_of_mem _ hm)]
    show some (some (D.int .i64 _))=some (some (D.int .i64 _))
    congr 4
    simp only [cond_false]
    omega
   ·rw [if_neg hm,if_neg (by simp [e,hm])]
def zd0 (bl:Nat→KS) (k:Nat):List KS:=(List.range k).foldl (fun l w=>zlI l (bl w)) []
theorem zgh (bl:Nat→KS) (k:Nat):zd0 bl (k+1)=zlI (zd0 bl k) (bl k):=by
 unfold zd0;rw [List.range_succ,List.foldl_append];rfl
theorem zkv (l:List KS) (x:KS):(∃ t,zlI l x=l++t)∧x∈zlI l x∧(zlI l x).length≤l.length+1:=by
 unfold zlI
 split
 ·rename_i h;exact ⟨⟨[],by simp⟩,h,by omega⟩
 ·exact ⟨⟨[x],rfl⟩,by simp,by simp⟩
theorem zsy (bl:Nat→KS) : ∀ k,(zd0 bl k).length≤k
 | 0=>by simp [zd0]
 | k+1=>by
  rw [zgh]
  have:=(zkv (zd0 bl k) (bl k)).2.2
  have:=zsy bl k
  omega
theorem zsz (bl:Nat→KS) {k:Nat} : ∀ m,k≤m → ∃ t,zd0 bl m=zd0 bl k++t
 | 0,h=>⟨[],by have:k=0:=Nat.le_zero.1 h;subst this;simp⟩
 | m+1,h=>by
  by_cases e:k=m+1
  ·exact ⟨[],by rw [e];simp⟩
  ·obtain ⟨t,ht⟩:=zsz bl (k:=k) m (by omega)
   obtain ⟨⟨t',ht'⟩,-⟩:=zkv (zd0 bl m) (bl m)
   exact ⟨t++t',by rw [zgh,ht',ht];simp⟩
def zdB (bl:Nat→KS) (w:Nat):Nat:=(zd0 bl (w+1)).idxOf (bl w)
theorem zt9 (bl:Nat→KS) {w m:Nat} (h:w < m):zdB bl w=(zd0 bl m).idxOf (bl w)∧bl w∈zd0 bl m:=by
 obtain ⟨t,ht⟩:=zsz bl (k:=w+1) m (by omega)
 have hm:bl w∈zd0 bl (w+1):=by rw [zgh];exact (zkv _ _).2.1
 rw [ht]
 exact ⟨by rw [List.idxOf_append,if_pos hm];rfl,List.mem_append_left _ hm⟩
theorem zyr (bl:Nat→KS) {v w n:Nat} (hv:v < n) (hw:w < n):zdB bl v=zdB bl w↔bl v=bl w:=by
 obtain ⟨h1,m1⟩:=zt9 bl hv
 obtain ⟨h2,m2⟩:=zt9 bl hw
 rw [h1,h2]
 constructor
 ·intro h
  have g1:=List.getElem_idxOf (List.idxOf_lt_length_of_mem m1)
  have g2:=List.getElem_idxOf (List.idxOf_lt_length_of_mem m2)
  rw [← g1,← g2]
  congr 1
 ·intro h;rw [h]
def zem (R:List (List (BitVec 64))) (q:Nat→Nat) (n w:Nat):KS:=zfl (R.map fun r=>zaE q (r.getD w 0#64) n)
theorem zxW {R:List (List (BitVec 64))} {q:Nat→Nat} {n v w:Nat} : zem R q n v=zem R q n w ↔ ∀ r∈R,zaE q (r.getD v 0#64) n=zaE q (r.getD w 0#64) n:=by
 unfold zem
 constructor
 ·intro h
  have:=zsu h
  exact List.map_inj_left.1 this
 ·intro h
  rw [List.map_congr_left h]
theorem zvu {R:List (List (BitVec 64))} {q:Nat→Nat} {n w:Nat} (hw:w < n):z2 (zfY (ptL n q) (ptL n (zdB (zem R q n)))) w=zbi n (zgs R) q w:=by
 refine zhp fun v hv=>?_
 have h1:at0 (ptL n q) v=((q v:Nat):Int):=zdP (zbO (by omega))
 have h2:at0 (ptL n q) w=((q w:Nat):Int):=zdP (zbO hw)
 have h3:at0 (ptL n (zdB (zem R q n))) v=((zdB (zem R q n) v:Nat):Int):=zdP (zbO (by omega))
 have h4:at0 (ptL n (zdB (zem R q n))) w=((zdB (zem R q n) w:Nat):Int):=zdP (zbO hw)
 unfold zfY
 rw [h1,h2,h3,h4]
 have e2:=zyr (zem R q n) (v:=v) (w:=w) (n:=n) (by omega) hw
 rw [zxW] at e2
 rw [Bool.eq_iff_iff,decide_eq_true_eq]
 rw [show (((q v:Nat):Int)=((q w:Nat):Int))↔q v=q w by omega]
 rw [show (((zdB (zem R q n) v:Nat):Int)=((zdB (zem R q n) w:Nat):Int))↔zdB (zem R q n) v=zdB (zem R q n) w by omega,e2]
 unfold zfr zgs
 simp [List.all_eq_true]
def zpw (q:Nat→Nat) (l:List Nat):BitVec 64:=l.foldl (fun o w=>o|||1#64 <<< q w) 0#64
theorem zvV {q:Nat→Nat} {l:List Nat} {i w:Nat} (h:l[i]? = some w):zpw q (l.take (i+1))=zpw q (l.take i)|||1#64 <<< q w:=by
 rw [List.take_add_one,h];simp [zpw]
theorem zrR {s:BitVec 64} {n:Nat} (hn:n≤64) (h : ∀ i,s.getLsbD i=true→i < n):zR s=(List.range n).filter fun i=>s.getLsbD i:=by
 unfold zR
 have e:List.range 64=List.range n++(List.range (64 - n)).map (n + ·):=by
  rw [← List.range_add];congr 1;omega
 rw [e,List.filter_append,show ((List.range (64 - n)).map (n + ·)).filter (fun i=>s.getLsbD i)=[] from ?_,List.append_nil]
 rw [List.filter_eq_nil_iff]
 intro a ha
 obtain ⟨b,-,rfl⟩:=List.mem_map.1 ha
 intro h1
 have:=h _ h1
 omega
theorem zvU {q:Nat→Nat} {s:BitVec 64} {n:Nat} (hn:n≤64) (h : ∀ i,s.getLsbD i=true→i < n):zpw q (zR s)=zaE q s n:=by
 rw [zrR hn h]
 unfold zpw zaE
 rw [List.foldl_filter]
end Go.Ab
namespace Go.Ab
theorem zeH {q:Nat→Nat} {s:BitVec 64} {j:Nat} : ∀ {k:Nat},(∀ w,w < k→q w < 64)→((zaE q s k).getLsbD j=true ↔ ∃ w,w < k∧s.getLsbD w=true∧q w=j)
 | 0,_=>by simp [zaE]
 | k+1,h=>by
  have ih:=zeH (q:=q) (s:=s) (j:=j) (k:=k) fun w hw=>h w (by omega)
  rw [zf3]
  split
  ·rename_i hs
   rw [zo7 (h k (by omega)),ih]
   constructor
   ·rintro (⟨w,h1,h2,h3⟩|rfl)
    ·exact ⟨w,by omega,h2,h3⟩
    ·exact ⟨k,by omega,hs,rfl⟩
   ·rintro ⟨w,h1,h2,h3⟩
    by_cases e:w=k
    ·subst e;exact .inr h3.symm
    ·exact .inl ⟨w,by omega,h2,h3⟩
  ·rename_i hs
   rw [ih]
   constructor
   ·rintro ⟨w,h1,h2,h3⟩;exact ⟨w,by omega,h2,h3⟩
   ·rintro ⟨w,h1,h2,h3⟩
    by_cases e:w=k
    ·subst e;exact absurd h2 hs
    ·exact ⟨w,by omega,h2,h3⟩
def zap (m:KM) (q:Nat→Nat):KM :=
 ⟨(zD m.W.toNat q:Nat),m.val.map fun s=>zbc (fun k=>s.getLsbD ((zaT m.W.toNat q).getD k 0)) (zD m.W.toNat q),
  m.rel.map fun r=>(List.range (zD m.W.toNat q)).map fun i=>zbc (fun j=>zdE m.W.toNat q (fun v w=>rb r v w) i j) (zD m.W.toNat q)⟩
def zuz (m:KM) (q:Nat→Nat):Prop := ∀ w,w < m.W.toNat→zV m w=zV m (q w)
theorem zx7 {m:KM} {q:Nat→Nat} (h:zuz m q) {w:Nat} (hw:w < m.W.toNat) {s:BitVec 64} (hs:s∈m.val):s.getLsbD w=s.getLsbD (q w):=by
 obtain ⟨i,hi⟩:=List.mem_iff_getElem?.1 hs
 have hil:=(List.getElem?_eq_some_iff.1 hi).1
 have e:zaB m.val w m.val.length=zaB m.val (q w) m.val.length:=Int.ofNat_inj.1 (h w hw)
 have h1:=zgb m.val w (i:=i) m.val.length
 have h2:=zgb m.val (q w) (i:=i) m.val.length
 rw [e] at h1
 rw [show m.val.getD i 0#64=s by simp [List.getD,hi]] at h1 h2
 rw [Bool.eq_iff_iff]
 exact ⟨fun h=>(h2.1 (h1.2 ⟨hil,h⟩)).2,fun h=>(h1.1 (h2.2 ⟨hil,h⟩)).2⟩
section
variable {m:KM} {q:Nat→Nat} (hq:zaH m.W.toNat q) (hn:m.W.toNat≤64)
include hq hn
theorem zue {w:Nat} (hw:w < m.W.toNat):zI q w < 64:=by
 have h1:=zcZ hq hw
 have h2:=zcT m.W.toNat q
 omega
theorem zAg (hf:zuz m q) {s:BitVec 64} (hs:s∈m.val):zaE (zI q) s m.W.toNat=zbc (fun k=>s.getLsbD ((zaT m.W.toNat q).getD k 0)) (zD m.W.toNat q):=by
 have hc:=zcT m.W.toNat q
 refine BitVec.eq_of_getLsbD_eq fun j _=>?_
 rw [Bool.eq_iff_iff,zeH (fun w hw=>zue hq hn hw),zbU (by omega)]
 constructor
 ·rintro ⟨w,h1,h2,rfl⟩
  refine ⟨zcZ hq h1,?_⟩
  rw [List.getD,zfK hq h1]
  show s.getLsbD (q w)=true
  rw [← zx7 hf h1 hs];exact h2
 ·rintro ⟨h1,h2⟩
  obtain ⟨u,u1,u2,u3,u4⟩:=zyF hq h1
  rw [List.getD,u1] at h2
  exact ⟨u,u2,h2,u4⟩
def zdN (q:Nat→Nat) (n:Nat) (r:List (BitVec 64)):Nat→Nat→BitVec 64
 | 0,_=>0#64
 | k+1,i=>if zI q k=i then zdN q n r k i|||zaE (zI q) (r.getD k 0#64) n else zdN q n r k i
omit hq hn in
theorem zrK {n:Nat} {r:List (BitVec 64)} (h64 : ∀ w,w < n→zI q w < 64) {i j:Nat} : ∀ {k:Nat},(zdN q n r k i).getLsbD j=true ↔ ∃ v w,v < k∧w < n∧zI q v=i∧zI q w=j∧rb r v w=true
 | 0=>by simp [zdN]
 | k+1=>by
  have ih:=zrK (r:=r) h64 (i:=i) (j:=j) (k:=k)
  unfold zdN
  split
  ·rename_i he
   rw [BitVec.getLsbD_or,Bool.or_eq_true,ih,zeH h64]
   constructor
   ·rintro (⟨v,w,h1,h2,h3,h4,h5⟩|⟨w,h1,h2,h3⟩)
    ·exact ⟨v,w,by omega,h2,h3,h4,h5⟩
    ·exact ⟨k,w,by omega,h1,he,h3,h2⟩
   ·rintro ⟨v,w,h1,h2,h3,h4,h5⟩
    by_cases e:v=k
    ·subst e;exact .inr ⟨w,h2,h5,h4⟩
    ·exact .inl ⟨v,w,by omega,h2,h3,h4,h5⟩
  ·rename_i he
   rw [ih]
   constructor
   ·rintro ⟨v,w,h1,h2,h3,h4,h5⟩;exact ⟨v,w,by omega,h2,h3,h4,h5⟩
   ·rintro ⟨v,w,h1,h2,h3,h4,h5⟩
    by_cases e:v=k
    ·subst e;exact absurd h3 he
    ·exact ⟨v,w,by omega,h2,h3,h4,h5⟩
theorem zAf (r:List (BitVec 64)) (i:Nat):zdN q m.W.toNat r m.W.toNat i=zbc (fun j=>zdE m.W.toNat q (fun v w=>rb r v w) i j) (zD m.W.toNat q):=by
 have hc:=zcT m.W.toNat q
 refine BitVec.eq_of_getLsbD_eq fun j _=>?_
 rw [Bool.eq_iff_iff,zrK (fun w hw=>zue hq hn hw),zbU (by omega),zhs]
 constructor
 ·rintro ⟨v,w,h1,h2,h3,h4,h5⟩
  exact ⟨by rw [← h4];exact zcZ hq h2,v,w,h1,h2,h3,h4,h5⟩
 ·rintro ⟨-,v,w,h1,h2,h3,h4,h5⟩
  exact ⟨v,w,h1,h2,h3,h4,h5⟩
end
theorem zxZ {n:Nat} {q:Nat→Nat} (hq:zaH n q) (hn:0 < n):0 < zD n q:=by
 unfold zD
 have h0:q 0=0:=by have:=hq.le 0 hn;omega
 exact List.length_pos_of_mem (List.mem_filter.2 ⟨List.mem_range.2 hn,by simp [h0]⟩)
theorem zyR {m:KM} {q:Nat→Nat} (hm:zc6 m) (hq:zaH m.W.toNat q):zc6 (zap m q):=by
 have w1:=hm.w1
 have w2:=hm.w2
 have hc:=zcT m.W.toNat q
 have hp:=zxZ hq (by omega)
 have hset : ∀ f,bad (zD m.W.toNat q:Nat) (zbc f (zD m.W.toNat q))=false:=fun f=>by
  rw [zeT (by omega)]
  intro i hi
  have:=((zbU (by omega)).1 hi).1
  omega
 refine ⟨by show (1:Int)≤(zD m.W.toNat q:Nat);omega,by show ((zD m.W.toNat q:Nat):Int)≤64;omega,by have:=hm.n4;simpa [zap] using this,by have:=hm.v8;simpa [zap] using this,fun r hr=>?_,fun s hs=>?_,fun r hr s hs=>?_⟩
 ·obtain ⟨r',-,rfl⟩:=List.mem_map.1 hr;simp [zap]
 ·obtain ⟨s',-,rfl⟩:=List.mem_map.1 hs;exact hset _
 ·obtain ⟨r',-,rfl⟩:=List.mem_map.1 hr
  obtain ⟨i,-,rfl⟩:=List.mem_map.1 hs
  exact hset _
theorem zA8 {m:KM} {q:Nat→Nat} (hc:zg m=0) (hq:zaH m.W.toNat q):zg (zap m q)=0:=zoI (zyR (zz hc) hq)
theorem zul {m:KM} {q:Nat→Nat} (hn:m.W.toNat≤64) {i:Nat} {r r':Nat→Nat→Bool} (h:(zm (zap m q))[i]? = some r) (h':((zm m).map (zdE m.W.toNat q))[i]? = some r') {v w:Nat} (hv:v < zD m.W.toNat q) (hw:w < zD m.W.toNat q):r v w=r' v w:=by
 have hc:=zcT m.W.toNat q
 unfold zm zap at h
 unfold zm at h'
 rw [List.map_map,List.getElem?_map,Option.map_eq_some_iff] at h
 rw [List.map_map,List.getElem?_map,Option.map_eq_some_iff] at h'
 obtain ⟨a,ha,rfl⟩:=h
 obtain ⟨b,hb,rfl⟩:=h'
 rw [ha] at hb;cases hb
 show (((List.range (zD m.W.toNat q)).map fun i=>zbc (fun j=>zdE m.W.toNat q (fun v w=>rb a v w) i j) (zD m.W.toNat q)).getD v 0#64).getLsbD w=zdE m.W.toNat q (fun v w=>rb a v w) v w
 rw [show ((List.range (zD m.W.toNat q)).map fun i=>zbc (fun j=>zdE m.W.toNat q (fun v w=>rb a v w) i j) (zD m.W.toNat q)).getD v 0#64=zbc (fun j=>zdE m.W.toNat q (fun v w=>rb a v w) v j) (zD m.W.toNat q) by simp [List.getD,hv]]
 rw [Bool.eq_iff_iff,zbU (by omega)]
 exact ⟨fun h=>h.2,fun h=>⟨hw,h⟩⟩
theorem zyQ {m:KM} {q:Nat→Nat} (hn:m.W.toNat≤64):zrI (zD m.W.toNat q) (fun w=>w) ((zm m).map (zdE m.W.toNat q)) (zm (zap m q)) :=
 ⟨by simp [zm,zap],fun i r r' h1 h2 v w hv hw=>zul hn h2 h1 hv hw⟩
theorem zqs (vl:List (BitVec 64)) {f:BitVec 64→BitVec 64} {i u:Nat} (h : ∀ s∈vl,(f s).getLsbD i=s.getLsbD u) : ∀ k,zaB (vl.map f) i k=zaB vl u k
 | 0=>rfl
 | k+1=>by
  rw [zaB,zaB,zqs vl h k]
  have e:((vl.map f).getD k 0#64).getLsbD i=(vl.getD k 0#64).getLsbD u:=by
   simp only [List.getD,List.getElem?_map]
   cases hk:vl[k]? with
   | none=>simp
   | some s=>exact h s (List.mem_of_getElem? hk)
  rw [e]
theorem zuk {m:KM} {q:Nat→Nat} (hn:m.W.toNat≤64) {i:Nat} (hi:i < zD m.W.toNat q):zV (zap m q) i=zlo m.W.toNat q (zV m) i:=by
 have hc:=zcT m.W.toNat q
 unfold zV zlo zap
 rw [List.length_map,zqs m.val (u:=(zaT m.W.toNat q).getD i 0) fun s hs=>?_]
 rw [Bool.eq_iff_iff,zbU (by omega)]
 exact ⟨fun h=>h.2,fun h=>⟨hi,h⟩⟩
def zai (m:KM):Nat→Nat→Nat:=zbt m.W.toNat (zgs m.rel) (z2 (zbQ (zV m)))
def cq (m:KM):Nat→Nat:=zai m m.W.toNat
theorem zfq (m:KM) (k:Nat):zaH m.W.toNat (zai m k):=zmQ (zeO (zcB (zV m)) m.W.toNat) k
theorem zha (m:KM):zaH m.W.toNat (cq m):=zfq m _
theorem znR (m:KM) : ∀ k w,w < m.W.toNat→zV m (zai m k w)=zV m w
 | 0,w,hw=>by
  have:=znG (zcB (zV m)) w
  show zV m (z2 (zbQ (zV m)) w)=zV m w
  simpa [zbQ] using this
 | k+1,w,hw=>by
  have h1:=zqe (rels:=zgs m.rel) (zfq m k) hw
  have h2:=(zfq m (k+1)).le w hw
  have h3:=znR m k (zai m (k+1) w) (by omega)
  have h4:=znR m k w hw
  rw [← h3,← h4]
  exact congrArg (zV m) h1
theorem zr1 (m:KM):zuz m (cq m):=fun w hw=>(znR m _ w hw).symm
theorem zv1 (m:KM) (hn:0 < m.W.toNat) {j:Nat} (hj:m.W.toNat≤j) {w:Nat} (hw:w < m.W.toNat):zai m j w=cq m w:=zwC (zeO (zcB (zV m)) m.W.toNat) hn hj hw
theorem ztZ {m:KM} {k:Nat} (hn:0 < m.W.toNat) (h:ptL m.W.toNat (zai m (k+1))=ptL m.W.toNat (zai m k)):ptL m.W.toNat (zai m k)=ptL m.W.toNat (cq m):=by
 have hst : ∀ w,w < m.W.toNat→zai m (k+1) w=zai m k w:=fun w hw=>zAc h hw
 refine zh1 fun w hw=>?_
 by_cases hk:k≤m.W.toNat
 ·exact (zjR (zeO (zcB (zV m)) m.W.toNat) hst _ hk w hw).symm
 ·exact zv1 m hn (by omega) hw
theorem zzP {m:KM} {k:Nat} (hn : ∀ i,i < k→ptL m.W.toNat (zai m (i+1))≠ptL m.W.toNat (zai m i)):k≤m.W.toNat:=by
 have h1:=zjQ (rels:=zgs m.rel) (zeO (zcB (zV m)) m.W.toNat) (k:=k) (fun i hi=>by
  refine Classical.byContradiction fun hne=>hn i hi (zh1 fun w hw=>?_)
  exact Classical.byContradiction fun hw'=>hne ⟨w,hw,hw'⟩) k (Nat.le_refl _)
 have h2:=zcT m.W.toNat (zbt m.W.toNat (zgs m.rel) (z2 (zbQ (zV m))) k)
 omega
end Go.Ab
namespace Go.Ab
theorem zsU {m:KM} {f:Nat→BitVec 64} : f∈zgs m.rel ↔ ∃ r∈m.rel,f=fun w=>r.getD w 0#64:=by
 unfold zgs
 rw [List.mem_map]
 exact ⟨fun ⟨r,a,b⟩=>⟨r,a,b.symm⟩,fun ⟨r,a,b⟩=>⟨r,a,b.symm⟩⟩
theorem zsV {m:KM} {f:Nat→Nat→Bool} : f∈zm m ↔ ∃ r∈m.rel,f=fun v w=>rb r v w:=by
 unfold zm
 rw [List.mem_map]
 exact ⟨fun ⟨r,a,b⟩=>⟨r,a,b.symm⟩,fun ⟨r,a,b⟩=>⟨r,a,b.symm⟩⟩
theorem zrT {n:Nat} {q:Nat→Nat} (hq:zaH n q) (hn:n≤64) {s t:BitVec 64} : zaE q s n=zaE q t n ↔ ∀ x:Nat,(∃ u,u < n∧s.getLsbD u=true∧q u=x) ↔ ∃ u,u < n∧t.getLsbD u=true∧q u=x:=by
 have h64 : ∀ w,w < n→q w < 64:=fun w hw=>by have:=hq.le w hw;omega
 constructor
 ·intro h x
  rw [← zeH h64,← zeH h64,h]
 ·intro h
  refine BitVec.eq_of_getLsbD_eq fun j _=>?_
  rw [Bool.eq_iff_iff,zeH h64,zeH h64]
  exact h j
theorem zs2 {m:KM} {q:Nat→Nat} (hq:zaH m.W.toNat q) (hn:m.W.toNat≤64) {v w:Nat} : zfr m.W.toNat (zgs m.rel) q v w=true↔zdk m.W.toNat (zm m) q v=zdk m.W.toNat (zm m) q w:=by
 unfold zfr
 rw [zc4,Bool.and_eq_true,decide_eq_true_eq,List.all_eq_true]
 refine and_congr Iff.rfl ⟨fun h r hr x=>?_,fun h f hf=>?_⟩
 ·obtain ⟨r',hr',rfl⟩:=zsV.1 hr
  have:=h _ (zsU.2 ⟨r',hr',rfl⟩)
  rw [decide_eq_true_eq,zrT hq hn] at this
  exact this x
 ·obtain ⟨r',hr',rfl⟩:=zsU.1 hf
  rw [decide_eq_true_eq,zrT hq hn]
  exact h _ (zsV.2 ⟨r',hr',rfl⟩)
theorem ztY {m:KM} (h0:0 < m.W.toNat) (hn:m.W.toNat≤64):zlH m.W.toNat (zm m) (zV m) (cq m) where
 canon:=zha m
 stab:=fun v w hv hw e=>by
  have hc:=zha m
  have h1 : ∀ u,u < m.W.toNat→zbi m.W.toNat (zgs m.rel) (cq m) u=cq m u:=fun u hu=>zv1 m h0 (Nat.le_succ _) hu
  refine (zs2 hc hn).1 ((zlg (zh2 _ _ _)).1 ?_)
  show zbi m.W.toNat (zgs m.rel) (cq m) v=zbi m.W.toNat (zgs m.rel) (cq m) w
  rw [h1 v hv,h1 w hw,e]
 fac:=fun v w hv hw e=>by
  rw [zr1 m v hv,zr1 m w hw,e]
theorem zlY {m:KM} (hn:m.W.toNat≤64) {Z:Nat→Nat→Prop} (B:zdv m.W.toNat m.W.toNat (zm m) (zm m) (zV m) (zV m) Z) : ∀ (k v w:Nat),Z v w→zai m k v=zai m k w
 | 0,v,w,hz=>zpO.2 (B.fac hz)
 | k+1,v,w,hz=>by
  refine (zlg (zh2 _ _ _)).2 ((zs2 (zfq m k) hn).2 (zc4.2 ⟨zlY hn B k v w hz,fun r hr x=>?_⟩))
  obtain ⟨i,hi⟩:=List.mem_iff_getElem?.1 hr
  constructor
  ·rintro ⟨u,a,b,rfl⟩
   obtain ⟨u',c,d,e⟩:=B.forth hi hi hz a b
   exact ⟨u',c,d,(zlY hn B k u u' e).symm⟩
  ·rintro ⟨u,a,b,rfl⟩
   obtain ⟨u',c,d,e⟩:=B.back hi hi hz a b
   exact ⟨u',c,d,zlY hn B k u' u e⟩
theorem zAN {m:KM} (h0:0 < m.W.toNat) (hn:m.W.toNat≤64) {w:Nat} (hw:w < m.W.toNat):cq m w=coa m.W.toNat (zm m) (zV m) w:=by
 have S:=ztY h0 hn
 have S':=zjx m.W.toNat (zm m) (zV m)
 rw [← zjw S.canon hw,← zjw S'.canon hw]
 refine zhp fun v hv=>?_
 unfold zbQ
 rw [Bool.eq_iff_iff,decide_eq_true_eq,decide_eq_true_eq]
 exact ⟨fun e=>zpI S.bis ⟨by omega,hw,e⟩,fun e=>zlY hn S'.bis _ v w ⟨by omega,hw,e⟩⟩
end Go.Ab
namespace Go.Ab
open Go Go.Proofs
set_option maxRecDepth 10000
set_option maxHeartbeats 4000000
variable {T:Nat→Obj→Prop}
def zgD (T:Nat→Obj→Prop):Prop := ∀ x:BitVec 64,Fn Tryz.prog T zdh [.d (.u64 x),.d (.int .i64 16)] [] (.d (.str (zfE x))) []
theorem ztC (hT:ze5 T) (s:BitVec 64):It Tryz.prog T zcK [.ptr 0 0] [.box [.d (.u64 s)]] (zjz s):=by
 refine zwA zu zmk rfl (by show 2≤14;decide) fun l=>?_
 (repeat' ((conv=>whnf);refine vT ?_));all_goals try conv=>whnf
 refine zM (fun (s':BitVec 64)=>[(0,.yld l),(1,.ptr 0 0)]) (fun (s':BitVec 64)=>[(0,some (.box [.d (.u64 s')])),(1,some (.todo (some (zjz s'))))]) 2 (fun (s':BitVec 64)=>True) (fun (s':BitVec 64)=>(zR s').length) (s) [(0,0),(1,1)] [] (trivial) (by (refine ⟨rfl,rfl,rfl,?_,?_⟩;repeat' first|exact trivial|exact rfl|refine And.intro ?_ ?_|refine ⟨_,rfl,?_⟩|decide)) ?_
 rintro s' -
 (repeat' ((conv=>whnf);first|refine vA ?_|(refine vD ?_ ?_<;>intro hc)|refine vT ?_|refine yD (hT _) (by (repeat refine ⟨⟨rfl,rfl⟩,?_⟩);rfl) rfl ?_));all_goals try conv=>whnf
 ·have hd:zjz s'=[D.int .i64 (Lib.ctz 64 s'.toNat:Int)]::zjz (s'&&&(s' - 1#64)):=by
   rw [zjz,zib s' hc];rfl
  refine ⟨rfl,[.int .i64 (Lib.ctz 64 s'.toNat)],zjz (s'&&&(s' - 1#64)),congrArg (fun l=>some (Ob.todo (some l))) hd,rfl,rfl,rfl,?_,?_⟩
  ·(repeat' ((conv=>whnf);first|refine vE ?_|refine vG ?_|refine vT ?_));all_goals try conv=>whnf
   refine ⟨s'&&&(s' - 1#64),[(0,0),(1,1)],[],trivial,?_,⟨rfl,rfl,rfl,by (repeat' first|exact trivial|exact rfl|refine And.intro ?_ ?_|refine ⟨_,rfl,?_⟩),by (repeat' first|exact trivial|exact rfl|refine And.intro ?_ ?_|refine ⟨_,rfl,?_⟩|decide)⟩⟩
   show (zR (s'&&&(s' - 1#64))).length < (zR s').length
   rw [zib s' hc];simp
  ·(repeat' ((conv=>whnf);first|refine vE ?_|refine vH ?_|refine vT ?_));all_goals try conv=>whnf
   right;rfl
 ·left
  have:s'=0#64:=hc
  subst this
  exact congrArg (fun l:List Nat=>some (Ob.todo (some (l.map fun (i:Nat)=>[D.int .i64 (i:Int)])))) zic
theorem ztt (s:BitVec 64):Fn Tryz.prog T zhI [.d (.u64 s)] [] (.fn zcK [.ptr 0 0]) [some (.box [.d (.u64 s)])]:=by
 refine z6 zu zoM (by show 1≤4;decide) _ (fun e env mem n h=>h) ?_
 (repeat' ((conv=>whnf);refine vT ?_));all_goals try conv=>whnf
 exact ⟨trivial,_,[(0,0)],[],rfl,.inl (by (repeat' first|exact rfl|refine And.intro ?_ ?_|refine ⟨_,rfl,?_⟩)),⟨rfl,rfl,rfl,trivial,by (repeat' first|exact trivial|exact rfl|refine And.intro ?_ ?_|refine ⟨_,rfl,?_⟩|exact of_decide_eq_true rfl)⟩,trivial⟩
theorem ztu (hT:ze5 T) {n:Nat} {q:Nat→Nat} (hn:n≤64) (s:BitVec 64) (hs : ∀ i,s.getLsbD i=true→i < n):Fn Tryz.prog T zhJ [.d (dI (ptL n q)),.d (.u64 s)] [] (.d (.u64 (zaE q s n))) []:=by
 refine zf zu zoN (by show 2≤18;decide) ?_
 (repeat' ((conv=>whnf);first|refine vA ?_|refine vT ?_));all_goals try conv=>whnf
 refine zS.res (ztt s) (by (repeat refine ⟨⟨rfl,rfl⟩,?_⟩);rfl) ?_
 (repeat' ((conv=>whnf);refine vT ?_));all_goals try conv=>whnf
 refine zw2 (ztC hT s) [2] [] (by first|((repeat refine ⟨⟨rfl,rfl⟩,?_⟩);rfl)|(repeat' first|exact rfl|refine And.intro ?_ ?_|refine ⟨_,rfl,?_⟩)) (by (repeat' first|exact rfl|refine And.intro ?_ ?_|refine ⟨_,rfl,?_⟩)) (by rfl) (by rfl) [(2,.ptr 0 0),(5,.ptr 1 0)] (fun (o:BitVec 64)=>[(0,some (.box [.d (dI (ptL n q))])),(1,some (.box [.d (.u64 o)]))]) 2 (fun i (o:BitVec 64)=>o=zpw q ((zR s).take i)) (0#64) [(0,0),(1,1)] [] (rfl) (by (refine ⟨rfl,rfl,rfl,?_,?_⟩;repeat' first|exact trivial|exact rfl|refine And.intro ?_ ?_|refine ⟨_,rfl,?_⟩|decide)) ?_ ?_
 ·intro i x o hx ho
  obtain ⟨w,hw,rfl,hsw,hw64⟩:=zv2 hx
  have hwr:=hs w hsw
  have e1:(ptL n q)[w]? = some ((q w:Nat):Int):=zbO hwr
  refine ⟨rfl,?_⟩
  (repeat' ((conv=>whnf);first|refine vT ?_|refine vN ‹_› ?_|(refine vP ?_ ?_;·omega)|(refine vU ?_ ?_;·kernel_rfl)|fail));all_goals try conv=>whnf
  ·exact ⟨o|||1#64 <<< q w,[(0,0),(1,1)],[],by rw [ho,zvV hw],by (refine ⟨rfl,rfl,rfl,?_,?_⟩;repeat' first|exact trivial|exact rfl|refine And.intro ?_ ?_|refine ⟨_,rfl,?_⟩|decide)⟩
  all_goals omega
 ·intro o ho
  (repeat' ((conv=>whnf);first|refine vT ?_|refine vY ?_));all_goals try conv=>whnf
  rw [ho,List.length_map,List.take_length,zvU hn hs]
def zd5 (m:KM) (N i:Nat):List (List D):=((List.range (N+1)).drop i).map fun j=>[dI (ptL m.W.toNat (zai m j))]
theorem zqT {m:KM} {N i:Nat} (h:i≤N):zd5 m N i=[dI (ptL m.W.toNat (zai m i))]::zd5 m N (i+1):=by
 unfold zd5
 rw [List.drop_eq_getElem_cons (by simp;omega)];simp
theorem zyV {m:KM} {N i:Nat} (h:N < i):zd5 m N i=[]:=by
 unfold zd5
 rw [List.drop_eq_nil_of_le (by simp;omega)];rfl
def zfV (m:KM):List Int:=(List.range m.W.toNat).map (zV m)
theorem zt1 {m:KM} {w:Nat} (h:w < m.W.toNat):(zfV m)[w]? = some (zV m w):=by simp [zfV,h]
theorem zxD (n:Nat):zaH n (fun _=>0):=⟨fun w _=>Nat.zero_le w,fun w _=>rfl⟩
theorem zuZ (m:KM) {w:Nat} (hw:w < m.W.toNat):z2 (zfY (ptL m.W.toNat fun _=>0) (zfV m)) w=zai m 0 w:=by
 refine zhp fun v hv=>?_
 have h1:at0 (ptL m.W.toNat fun _=>0) v=0:=zdP (zbO (q:=fun _=>0) (by omega))
 have h2:at0 (ptL m.W.toNat fun _=>0) w=0:=zdP (zbO (q:=fun _=>0) hw)
 have h3:at0 (zfV m) v=zV m v:=zdP (zt1 (by omega))
 have h4:at0 (zfV m) w=zV m w:=zdP (zt1 hw)
 unfold zfY zbQ
 rw [h1,h2,h3,h4]
 simp
theorem zwn (m:KM) (h64:m.W.toNat≤64):Fn Tryz.prog T zcM [.d (.arr 1 (List.replicate m.W.toNat (D.int .i64 0))),.d (dI (zfV m))] [] (.d (.tup [dI (ptL m.W.toNat (zai m 0)),.int .i64 0])) []:=by
 have cs:=zsh (T:=T) (zxD m.W.toNat) h64 (zfV m) (by simp [zfV])
 rwa [show dI (ptL m.W.toNat fun _=>0)=D.arr 1 (List.replicate m.W.toNat (D.int .i64 0)) by show D.arr 1 ((ptL m.W.toNat fun _=>0).map (D.int .i64))=_;unfold ptL;rw [List.map_map];exact congrArg _ (zbK _ _).symm,zh1 fun w hw=>zuZ m hw] at cs
theorem zwi (m:KM) (h64:m.W.toNat≤64) (i:Nat):Fn Tryz.prog T zcM [.d (dI (ptL m.W.toNat (zai m i))),.d (dI (ptL m.W.toNat (zdB (zem m.rel (zai m i) m.W.toNat))))] [] (.d (.tup [dI (ptL m.W.toNat (zai m (i+1))),.int .i64 0])) []:=by
 have cs:=zsh (T:=T) (zfq m i) h64 (ptL m.W.toNat (zdB (zem m.rel (zai m i) m.W.toNat))) zdu
 rwa [zh1 fun w hw=>zvu hw] at cs
theorem zj6 {α:Type} {n w:Nat} {f:Nat→D} {g:Nat→D} {d:D} (hd:d=f w):(((List.range n).map fun u=>if u < w then f u else g u).set w d)=(List.range n).map fun u=>if u < w+1 then f u else g u:=by
 refine (zh4 _).trans (zaj fun u hu=>?_)
 by_cases e:u=w
 ·subst e;rw [if_pos rfl,if_pos (by omega),hd]
 ·rw [if_neg e]
  by_cases e2:u < w
  ·rw [if_pos e2,if_pos (by omega)]
  ·rw [if_neg e2,if_neg (by omega)]
theorem zwB (hT:ze5 T) (hX:zgD T) {m:KM} (hk0:zg m=0) (N:Nat):ItF Tryz.prog T false zdf [.ptr 0 0,.ptr 1 0] [zcJ m,.box [.d (dUU m.rel)]] (zd5 m N 0):=by
 have hg0:=zz hk0
 have w1:=hg0.w1
 have w2:=hg0.w2
 have n4:=hg0.n4
 have h64:m.W.toNat≤64:=by omega
 refine zoL zu znz rfl (by show 3≤93;decide) fun l=>?_
 (repeat' ((conv=>whnf);first|refine vA ?_|refine vK fun hg=>?_|refine vT ?_|(refine vP ?_ ?_;·omega)|fail));all_goals try conv=>whnf
 refine zM (fun ((w,zs):Nat×List D)=>[(0,.yld l),(1,.ptr 0 0),(2,.ptr 1 0),(4,.own 3),(5,.own 4),(22,.d (.int .i64 ((List.replicate m.W.toNat (D.int .i64 0)).length:Int))),(23,.d (.int .i64 ((w:Int))))]) (fun ((w,zs):Nat×List D)=>[(0,some (zcJ m)),(1,some (.box [.d (dUU m.rel)])),(2,some (.todo (some (zd5 m N 0)))),(3,some (.row 1 (List.replicate m.W.toNat (D.int .i64 0)))),(4,some (.row 1 zs))]) 5 (fun ((w,zs):Nat×List D)=>w≤m.W.toNat∧zs=(List.range m.W.toNat).map fun u=>if u < w then D.int .i64 (zV m u) else D.int .i64 0) (fun ((w,zs):Nat×List D)=>m.W.toNat - w) ((0,List.replicate m.W.toNat (D.int .i64 0))) [(0,0),(1,1),(2,2),(3,3),(4,4)] [] (⟨by simp,by simp only [Nat.not_lt_zero,if_false];exact zbK _ _⟩) (by (refine ⟨rfl,rfl,rfl,?_,?_⟩;repeat' first|exact trivial|exact rfl|refine And.intro ?_ ?_|refine ⟨_,rfl,?_⟩|decide)) ?_
 rintro ⟨w,zs⟩ ⟨hw,hz⟩
 have hzl:zs.length=m.W.toNat:=by rw [hz];simp
 by_cases hwl:w < m.W.toNat
 ·have cf:=zhV (T:=T) m (w:Int)
  rw [zt0 hk0 hwl] at cf
  (repeat' ((conv=>whnf);first|refine vA ?_|(refine vF ?_ ?_<;>intro hc<;>try simp only [vL] at hc)|refine vT ?_|((first|refine vO ?_ ?_|refine vP ?_ ?_);·omega)|refine yD cf ⟨⟨rfl,rfl⟩,⟨rfl,rfl⟩,rfl⟩ rfl ?_));all_goals try conv=>whnf
  ·refine ⟨(w+1,_),[(0,0),(1,1),(2,2),(3,3),(4,4)],[],?_,?_,by (refine ⟨rfl,rfl,rfl,?_,?_⟩;repeat' first|exact trivial|exact rfl|refine And.intro ?_ ?_|refine ⟨_,rfl,?_⟩|decide)⟩
   ·exact ⟨by (omega),by rw [hz];exact zj6 (α:=Nat) rfl⟩
   ·((simp only [vM] at *;omega))
  all_goals omega
 ·have e0:w=m.W.toNat:=by omega
  obtain rfl:zs=(zfV m).map (D.int .i64):=by
   rw [hz,zfV,List.map_map]
   exact zaj fun u hu=>by rw [if_pos (by omega)];rfl
  (repeat' ((conv=>whnf);first|refine vA ?_|(refine vF ?_ ?_<;>intro hc<;>try simp only [vL] at hc)|refine vT ?_|refine yN (zwn m h64) ⟨⟨rfl,rfl⟩,⟨rfl,rfl⟩,rfl⟩ ?_));all_goals try conv=>whnf
  ·omega
  ·refine zM (fun (i:Nat)=>[(0,.yld l),(1,.ptr 0 0),(2,.ptr 1 0),(4,.d (dI (ptL m.W.toNat (zai m i))))]) (fun (i:Nat)=>[(0,some (zcJ m)),(1,some (.box [.d (dUU m.rel)])),(2,some (.todo (some (zd5 m N i))))]) 3 (fun (i:Nat)=>i≤N) (fun (i:Nat)=>N+1 - i) (0) [(0,0),(1,1),(2,2)] [] (by simp) (by (refine ⟨rfl,rfl,rfl,?_,?_⟩;repeat' first|exact trivial|exact rfl|refine And.intro ?_ ?_|refine ⟨_,rfl,?_⟩|decide)) ?_
   rintro i hi
   have hd:=zqT (m:=m) hi
   (repeat' ((conv=>whnf);first|refine vA ?_|refine vT ?_));all_goals try conv=>whnf
   refine ⟨rfl,[dI (ptL m.W.toNat (zai m i))],zd5 m N (i+1),congrArg (fun l=>some (Ob.todo (some l))) hd,rfl,rfl,rfl,?_,?_⟩
   ·by_cases hiN:i < N
    ·have hne:(false || !(zd5 m N (i+1)).isEmpty)=true:=by rw [zqT (m:=m) (i:=i+1) (by omega)];rfl
     rw [hne]
     (repeat' ((conv=>whnf);first|refine vA ?_|refine vG ?_|refine vK fun hg=>?_|refine vT ?_|(refine vP ?_ ?_;·omega)|fail));all_goals try conv=>whnf
     obtain ⟨bk,hbk⟩ : ∃ bk:Nat→KS,bk=zem m.rel (zai m i) m.W.toNat:=⟨_,rfl⟩
     refine zM (fun ((w,es,zs):Nat×List (D×D)×List D)=>[(0,.yld l),(1,.ptr 0 0),(2,.ptr 1 0),(4,.d (dI (ptL m.W.toNat (zai m i)))),(7,.map 3),(8,.own 4),(47,.d (.int .i64 ((List.replicate m.W.toNat (D.int .i64 0)).length:Int))),(48,.d (.int .i64 ((w:Int))))]) (fun ((w,es,zs):Nat×List (D×D)×List D)=>[(0,some (zcJ m)),(1,some (.box [.d (dUU m.rel)])),(2,some (.todo (some (zd5 m N (i+1))))),(3,some (.map es)),(4,some (.row 1 zs))]) 5 (fun ((w,es,zs):Nat×List (D×D)×List D)=>w≤m.W.toNat∧es=zc0 0 (zd0 bk w)∧zs=(List.range m.W.toNat).map fun u=>if u < w then D.int .i64 (zdB bk u:Int) else D.int .i64 0) (fun ((w,es,zs):Nat×List (D×D)×List D)=>m.W.toNat - w) ((0,[],List.replicate m.W.toNat (D.int .i64 0))) [(0,0),(1,1),(2,2),(3,3),(4,4)] [] (⟨by simp,rfl,by simp only [Nat.not_lt_zero,if_false];exact zbK _ _⟩) (by (refine ⟨rfl,rfl,rfl,?_,?_⟩;repeat' first|exact trivial|exact rfl|refine And.intro ?_ ?_|refine ⟨_,rfl,?_⟩|decide)) ?_
     rintro ⟨w,es,zs⟩ ⟨hw,hes,hz⟩
     obtain ⟨dl,hdl⟩ : ∃ dl,dl=zd0 bk w:=⟨_,rfl⟩
     rw [← hdl] at hes
     have hzl:zs.length=m.W.toNat:=by rw [hz];simp
     by_cases hwl:w < m.W.toNat
     ·(repeat' ((conv=>whnf);first|refine vA ?_|(refine vF ?_ ?_<;>intro hc<;>try simp only [vL] at hc)|refine vJ fun hg=>?_|refine vT ?_));all_goals try conv=>whnf
      ·refine zM (fun ((k,t):Nat×KS)=>[(0,.yld l),(1,.ptr 0 0),(2,.ptr 1 0),(4,.d (dI (ptL m.W.toNat (zai m i)))),(7,.map 3),(8,.own 4),(9,.d (.int .i64 ((w:Int)))),(10,.d (.str t)),(47,.d (.int .i64 ((List.replicate m.W.toNat (D.int .i64 0)).length:Int))),(48,.d (.int .i64 ((w:Int)))),(51,.d (dUU m.rel)),(52,.d (.int .i64 ((m.rel.map dU).length:Int))),(53,.d (.int .i64 ((k:Int))))]) (fun ((k,t):Nat×KS)=>[(0,some (zcJ m)),(1,some (.box [.d (dUU m.rel)])),(2,some (.todo (some (zd5 m N (i+1))))),(3,some (.map es)),(4,some (.row 1 zs))]) 5 (fun ((k,t):Nat×KS)=>k≤m.rel.length∧t=zfl ((m.rel.take k).map fun r=>zaE (zai m i) (r.getD w 0#64) m.W.toNat)) (fun ((k,t):Nat×KS)=>m.rel.length - k) ((0,[])) [(0,0),(1,1),(2,2),(3,3),(4,4)] [] (⟨by simp,rfl⟩) (by (refine ⟨rfl,rfl,rfl,?_,?_⟩;repeat' first|exact trivial|exact rfl|refine And.intro ?_ ?_|refine ⟨_,rfl,?_⟩|decide)) ?_
       rintro ⟨k,t⟩ ⟨hk,ht⟩
       by_cases hkl:k < m.rel.length
       ·obtain ⟨r,hr⟩ : ∃ r,m.rel[k]? = some r:=⟨_,List.getElem?_eq_getElem hkl⟩
        have hrl:=hg0.len r (List.mem_of_getElem? hr)
        obtain ⟨s,hs⟩ : ∃ s,r[w]? = some s:=⟨_,List.getElem?_eq_getElem (by omega)⟩
        have hsb:=(zeT (by omega)).1 (hg0.rel r (List.mem_of_getElem? hr) s (List.mem_of_getElem? hs))
        have hl1:=zsv ((m.rel.take k).map fun r=>zaE (zai m i) (r.getD w 0#64) m.W.toNat)
        have hl2:(zfE (zaE (zai m i) s m.W.toNat)).length≤16:=(ziP 15 _).2
        have hl3:((m.rel.take k).map fun r=>zaE (zai m i) (r.getD w 0#64) m.W.toNat).length≤4:=by rw [List.length_map,List.length_take];omega
        rw [← ht] at hl1
        have hl4:([32]:List UInt8).length=1:=rfl
        (repeat' ((conv=>whnf);first|refine vA ?_|(refine vF ?_ ?_<;>intro hc<;>try simp only [vL] at hc)|refine vT ?_|refine vN ‹_› ?_|((first|refine vO ?_ ?_|refine vP ?_ ?_);·first|omega|(simp only [vM] at *;omega))|refine yD (ztu hT h64 s hsb) ⟨⟨rfl,rfl⟩,⟨rfl,rfl⟩,rfl⟩ rfl ?_|refine yD (hX _) (by (repeat refine ⟨⟨rfl,rfl⟩,?_⟩);rfl) rfl ?_));all_goals try conv=>whnf
        ·refine ⟨(k+1,_),[(0,0),(1,1),(2,2),(3,3),(4,4)],[],?_,?_,by (refine ⟨rfl,rfl,rfl,?_,?_⟩;repeat' first|exact trivial|exact rfl|refine And.intro ?_ ?_|refine ⟨_,rfl,?_⟩|decide)⟩
         ·refine ⟨by (omega),?_⟩
          rw [List.take_add_one,hr,Option.toList_some,List.map_append,List.map_singleton,zwE,← ht,zt5 hs]
         ·((simp only [vM] at *;omega))
        all_goals (try simp only [List.length_append,hl4])
        all_goals omega
       ·have ek:k=m.rel.length:=by omega
        subst ek
        rw [List.take_length] at ht
        have ht:t=bk w:=by rw [ht,hbk];rfl
        subst ht
        subst hes
        have hfd:=zqM (bk w) dl 0
        have hd64:dl.length≤64:=by rw [hdl];have:=zsy bk w;omega
        by_cases hm:bk w∈dl
        ·rw [if_pos hm,Nat.zero_add] at hfd
         have ea:zd0 bk (w+1)=dl:=by rw [zgh,← hdl];exact if_pos hm
         (repeat' ((conv=>whnf);first|refine vA ?_|refine vE ?_|refine vG ?_|(refine vF ?_ ?_<;>intro hc<;>try simp only [vL] at hc)|refine vT ?_|(refine vQ ?_ fun x hx=>?_;·omega)|((first|refine vO ?_ ?_|refine vP ?_ ?_);·omega)|refine zaD.mk _ ‹_› ?_));all_goals try conv=>whnf
         ·omega
         ·refine ⟨(w+1,_,_),[(0,0),(1,1),(2,2),(3,3),(4,4)],[],?_,?_,by (refine ⟨rfl,rfl,rfl,?_,?_⟩;repeat' first|exact trivial|exact rfl|refine And.intro ?_ ?_|refine ⟨_,rfl,?_⟩|decide)⟩
          ·refine ⟨by (omega),by rw [ea],?_⟩
           rw [hz]
           exact zj6 (α:=Nat) (by rw [zdB,ea])
          ·((simp only [vM] at *;omega))
         all_goals omega
        ·rw [if_neg hm] at hfd
         have ea:zd0 bk (w+1)=dl++[bk w]:=by rw [zgh,← hdl];exact if_neg hm
         have eb:zc0 0 (dl++[bk w])=zc0 0 dl++[(.str (bk w),.int .i64 ((zc0 0 dl).length:Int))]:=by rw [zmT,znJ,Nat.zero_add]
         have ec:(dl++[bk w]).idxOf (bk w)=(zc0 0 dl).length:=by rw [znJ,List.idxOf_append,if_neg hm];simp
         have hfn:zq (zc0 0 dl++[(.str (bk w),.int .i64 ((zc0 0 dl).length:Int))]) (.str (bk w))=some (some (.int .i64 ((zc0 0 dl).length:Int))):=by rw [zfg _ _ _ hfd];simp [zq,D.eqk,D.same]
         (repeat' ((conv=>whnf);first|refine vA ?_|(refine vF ?_ ?_<;>intro hc<;>try simp only [vL] at hc)|refine vT ?_|(refine vQ ?_ fun x hx=>?_;·omega)|((first|refine vO ?_ ?_|refine vP ?_ ?_);·omega)|refine zaD.mk _ ‹_› ?_));all_goals try conv=>whnf
         ·omega
         ·refine ⟨(w+1,_,_),[(0,0),(1,1),(2,2),(3,3),(4,4)],[],?_,?_,by (refine ⟨rfl,rfl,rfl,?_,?_⟩;repeat' first|exact trivial|exact rfl|refine And.intro ?_ ?_|refine ⟨_,rfl,?_⟩|decide)⟩
          ·refine ⟨by (omega),by rw [ea,eb],?_⟩
           rw [hz]
           exact zj6 (α:=Nat) (by rw [zdB,ea,ec])
          ·((simp only [vM] at *;omega))
         all_goals omega
      ·omega
     ·have e0:w=m.W.toNat:=by omega
      obtain rfl:zs=(ptL m.W.toNat (zdB bk)).map (D.int .i64):=by
       rw [hz];unfold ptL;rw [List.map_map]
       exact zaj fun u hu=>by rw [if_pos (by omega)];rfl
      have ck:=zwi (T:=T) m h64 i
      rw [← hbk] at ck
      (repeat' ((conv=>whnf);first|refine vA ?_|(refine vF ?_ ?_<;>intro hc<;>try simp only [vL] at hc)|refine vJ fun hg=>?_|refine vT ?_|refine yN ck ⟨⟨rfl,rfl⟩,⟨rfl,rfl⟩,rfl⟩ ?_));all_goals try conv=>whnf
      ·omega
      ·refine ⟨i+1,[(0,0),(1,1),(2,2)],[],?_,?_,by (refine ⟨rfl,rfl,rfl,?_,?_⟩;repeat' first|exact trivial|exact rfl|refine And.intro ?_ ?_|refine ⟨_,rfl,?_⟩|decide)⟩
       ·(omega)
       ·(omega)
    ·have hne:(false || !(zd5 m N (i+1)).isEmpty)=false:=by rw [zyV (m:=m) (i:=i+1) (by omega)];rfl
     rw [hne]
     trivial
   ·(repeat' ((conv=>whnf);first|refine vH ?_|refine vT ?_));all_goals try conv=>whnf
    right;rfl
end Go.Ab
