/- A part of the proofs of this seat: functions and their contracts. -/
import Derived.Test.YtjpgnjhdeikncaaGreatDoorMC
import Derived.Test.YtjpgnjhdeikncaaGreatDoorProg
import Derived.Lib.TrailingZeros
import Derived.Sort.AssemblyPlain
set_option linter.unusedVariables false
set_option linter.unusedSimpArgs false
set_option linter.unusedSectionVars false
namespace Go.Ab.K
open Go
abbrev t:=Arg.t
abbrev c:=Arg.c
abbrev n (x:Int):V := .d (.int .i64 x)
abbrev u (x:BitVec 64):V := .d (.u64 x)
abbrev m (x:Nat):CO := .mv (.t x)
abbrev pf (x y:Nat):CO := .pick (.t x) (.t y) (.c .bf)
abbrev pt (x y:Nat):CO := .pick (.t x) (.c .bt) (.t y)
abbrev b (o:BinOp) (x y:Nat):CO := .bin o (.t x) (.t y)
abbrev bc (o:BinOp) (x:Nat) (y:V):CO := .bin o (.t x) (.c y)
abbrev l (x:Nat):CO := .load none (.t x)
abbrev la (k x:Nat):CO := .load (some k) (.t x)
abbrev f (o x:Nat):CO := .faddr o (.t x)
abbrev ia (s x i:Nat):CO := .iaddr s (.t x) (.t i)
abbrev e (x k:Nat):CO := .ext (.t x) k
abbrev ln (x:Nat):CO := .len (.t x)
abbrev o (d:Nat) (x:CO):COp:=⟨some d,none,x⟩
abbrev w (x:CO):COp:=⟨none,none,x⟩
abbrev g (d k:Nat) (v:Bool) (x:CO):COp:=⟨some d,some (k,v),x⟩
abbrev gw (k:Nat) (v:Bool) (x:CO):COp:=⟨none,some (k,v),x⟩
abbrev i (x:Nat) (p r:CC):CC := .cond (.t x) p r
def q:List CC→CC
 | [] => .skip
 | [x]=>x
 | x::y::r => .seq x (q (y::r))
end Go.Ab.K
namespace Go.Ab
open Go K
def zfj:Nat:=13
def zct:Nat:=14
def zdb:Nat:=19
def zep:Nat:=24
def zdf:Nat:=25
def zeH:Nat:=26
def zeu:Nat:=27
def zfE:Nat:=29
def zdc:Nat:=30
def zdV:Nat:=31
def zdU:Nat:=32
def zhz:Nat:=34
def zeG:Nat:=40
def zfC:Nat:=47
def zdF:Nat:=49
def zev:Nat:=50
def zcv:Nat:=51
def zeK:Nat:=52
def zd7:Nat:=60
def zgf:Nat:=62
def zfB:Nat:=63
def zde:Nat:=64
def zdA:Nat:=65
def zdQ:Nat:=66
def zea:Nat:=67
def zdB:Nat:=68
def zd8:Nat:=69
def zkV:Nat:=73
def zar:Nat:=74
def zgN:Nat:=75
def zaQ:Nat:=76
def zcY:Nat:=77
def zeq:Nat:=78
def zer:Nat:=88
def zfD:Nat:=92
def zfh:Nat:=98
def zdZ:Nat:=99
def zdz:Nat:=100
def zfk:Nat:=101
def zd9:Nat:=102
def zeb:Nat:=103
def zgg:Nat:=105
def zdN:Nat:=107
def zeI:Nat:=108
def zgM:Nat:=109
def zbC:Nat:=110
def zax:Nat:=111
def zfi:Nat:=112
def zdO:Nat:=113
def zdM:Nat:=114
def zet:Nat:=115
def zes:Nat:=116
def za4:Nat:=118
def zcd:Nat:=119
def za9:Nat:=120
def zjH:Nat:=121
def zU:Nat:=133
def zah:Nat:=134
def zI:Nat:=135
def zy:Nat:=136
def zbP:Nat:=137
def zO:Nat:=138
def zcj:Nat:=139
def zcX:Nat:=140
def zeJ:Nat:=141
def zdP:Nat:=142
def zdd:Nat:=143
def zd6:Nat:=144
def zbj:Nat:=147
def zaR:Nat:=159
def zda:Nat:=160
def za8:Nat:=161
def zdy:Nat:=162
def za7:Nat:=163
def zap:Nat:=164
def zgL:Nat:=170
def zcu:Nat:=174
def zas:Nat:=183
def zdY:Nat:=191
def zju:CFn:=⟨41,[.tmp 4],(q [(.reg [o 2 (.box 3 (t 0)),o 4 (.mv (c .bf))]),
 (q [(.reg [o 6 (f 0 2),o 7 (l 6),o 8 (m 1),o 9 (b .gtr 7 8),o 10 (m 9),g 11 10 true (f 0 2),g 12 10 true (l 11),g 13 10 true (bc .leq 12 (n 64)),o 14 (pf 10 13),o 15 (m 14),g 16 15 false (f 1 2),g 17 15 false (l 16),g 18 15 false (ln 17),g 19 15 false (bc .gtr 18 (n 20)),o 20 (pt 15 19),o 21 (m 20),g 22 21 false (f 2 2),g 23 21 false (l 22),g 24 21 false (ln 23),g 25 21 false (bc .gtr 24 (n 10)),o 26 (pt 21 25)]),
 (i 26 (q [(.reg [o 4 (.mv (c .bf))]),
 .ret]) .skip)]),
 (q [(.reg [o 5 (.mv (c (n 0)))]),
 (.block 0 (.loop (q [(q [(.reg [o 27 (m 5),o 28 (f 2 2),o 29 (l 28),o 30 (ln 29),o 31 (b .lss 27 30)]),
 (i 31 .skip (.exit 0))]),
 (.block 1 (q [(.reg [o 34 (f 2 2),o 35 (l 34),o 36 (m 5),o 37 (ia 1 35 36),o 38 (l 37),o 39 (ln 38),o 40 (bc .gtr 39 (n 70))]),
 (i 40 (q [(.reg [o 4 (.mv (c .bf))]),
 .ret]) .skip)])),
 (.reg [o 32 (m 5),o 33 (bc .add 32 (n 1)),o 5 (m 33)])])))]),
 (.reg [o 4 (.mv (c .bt))]),
 .ret])⟩
def zf6:CFn:=⟨26,[.tmp 4],(q [(.reg [o 4 (.mv (c .bf))]),
 (q [(.reg [o 6 (m 0),o 7 (ln 6),o 8 (m 1),o 9 (ln 8),o 10 (b .neq 7 9)]),
 (i 10 (q [(.reg [o 4 (.mv (c .bf))]),
 .ret]) .skip)]),
 (q [(.reg [o 11 (m 0),o 12 (ln 11),o 13 (.mv (c (n 0)))]),
 (.block 0 (.loop (q [(.reg [o 14 (b .lss 13 12)]),
 (i 14 .skip (.exit 0)),
 (.block 1 (q [(.reg [o 15 (m 13),o 5 (m 15)]),
 (.regd [o 16 (m 0),o 17 (m 5),o 18 (ia 1 16 17),o 19 (l 18),o 20 (m 1),o 21 (m 5),o 22 (ia 1 20 21),o 23 (l 22),o 24 (b .neq 19 23)] [0,0,3,7,0,0,48,112,255]),
 (i 24 (q [(.reg [o 4 (.mv (c .bf))]),
 .ret]) .skip)])),
 (.reg [o 25 (bc .add 13 (n 1)),o 13 (m 25)])])))]),
 (.reg [o 4 (.mv (c .bt))]),
 .ret])⟩
def zig:CFn:=⟨95,[.cell 4 (some 3),.tmp 5,.tmp 6],(q [(.reg [o 2 (.box 3 (t 0)),o 4 (.alloc [(n 0),(.nils 1),(.nils 1)]),o 5 (.mv (c (.nils 1))),o 6 (.mv (c (n 0)))]),
 (q [(.reg [o 22 (la 3 2),o 23 (.call 32 [(t 22)]),o 7 (m 23)]),
 (.reg [o 24 (m 7),o 25 (bc .neq 24 (n 0))]),
 (i 25 (q [(.reg [o 26 (.build [(n 0),(.nils 1),(.nils 1)] []),o 27 (m 7),w (.store 3 (t 4) (t 26)),o 5 (.mv (c (.nils 1))),o 6 (m 27)]),
 .ret]) .skip)]),
 (q [(.reg [o 28 (m 1),o 29 (bc .lss 28 (n 0)),o 30 (m 29),g 31 30 false (m 1),g 32 30 false (f 0 2),g 33 30 false (l 32),g 34 30 false (b .geq 31 33),o 35 (pt 30 34)]),
 (i 35 (q [(.reg [o 36 (.build [(n 0),(.nils 1),(.nils 1)] []),w (.store 3 (t 4) (t 36)),o 5 (.mv (c (.nils 1))),o 6 (.mv (c (n 2)))]),
 .ret]) .skip)]),
 (.regd [o 38 (la 3 2),o 39 (m 1),o 40 (.bin .shl (c (u 1)) (t 39)),o 41 (.call 29 [(t 38),(t 40)]),o 37 (m 41),o 42 (e 37 0),o 43 (e 37 1),o 8 (m 42),o 9 (m 43)] [0,0,2,7,15,31,31,63,255]),
 (.reg [o 45 (la 3 2),o 46 (m 8),o 47 (.call 62 [(t 45),(t 46)]),o 44 (m 47),o 48 (e 44 0),o 49 (e 44 1),o 50 (e 44 2),o 10 (.alloc [(n 0),(.nils 1),(.nils 1)]),w (.store 3 (t 10) (t 48)),o 11 (m 49),o 12 (m 50)]),
 (q [(.reg [o 52 (la 3 10),o 53 (.call 63 [(t 52),(c (n (-1)))]),o 51 (m 53),o 54 (e 51 0),o 55 (e 51 1),o 13 (m 54),o 14 (m 55)]),
 (.reg [o 56 (m 14),o 57 (f 0 10),o 58 (l 57),o 59 (b .lss 56 58)]),
 (i 59 (q [(.reg [o 60 (.build [(n 0),(.nils 1),(.nils 1)] []),w (.store 3 (t 4) (t 60)),o 5 (.mv (c (.nils 1))),o 6 (.mv (c (n 16)))]),
 .ret]) .skip)]),
 (.regd [o 62 (la 3 10),o 63 (m 11),o 64 (m 1),o 65 (.call 30 [(t 63),(t 64)]),o 66 (.call 63 [(t 62),(t 65)]),o 61 (m 66),o 67 (e 61 0),o 68 (e 61 1),o 15 (m 67),o 16 (m 68)] [0,0,0,6,15,31,63,63,127,511]),
 (.reg [o 70 (la 3 10),o 71 (m 15),o 72 (.call 34 [(t 70),(t 71)]),o 69 (m 72),o 73 (e 69 0),o 74 (e 69 1),o 17 (.alloc [(n 0),(.nils 1),(.nils 1)]),w (.store 3 (t 17) (t 73)),o 18 (m 74)]),
 (.reg [o 75 (m 15),o 76 (ln 75),o 77 (.mkslice 1 8 [(n 0)] (t 76) (t 76)),o 19 (m 77)]),
 (q [(.reg [o 78 (m 15),o 79 (ln 78),o 80 (.mv (c (n 0)))]),
 (.block 0 (.loop (q [(.reg [o 81 (b .lss 80 79)]),
 (i 81 .skip (.exit 0)),
 (.block 1 (q [(.reg [o 82 (m 80),o 83 (ia 1 78 80),o 84 (l 83),o 20 (m 82),o 21 (m 84)]),
 (.reg [o 85 (m 19),o 86 (m 21),o 87 (m 11),o 88 (m 20),o 89 (ia 1 87 88),o 90 (l 89),o 91 (ia 1 85 86),w (.store 1 (t 91) (t 90))])])),
 (.reg [o 92 (bc .add 80 (n 1)),o 80 (m 92)])])))]),
 (.reg [o 93 (la 3 17),o 94 (m 19),w (.store 3 (t 4) (t 93)),o 5 (m 94),o 6 (.mv (c (n 0)))]),
 .ret])⟩
def zga:CFn:=⟨82,[.cell 4 (some 3),.tmp 5,.tmp 6],(q [(.reg [o 2 (.box 3 (t 0)),o 4 (.alloc [(n 0),(.nils 1),(.nils 1)]),o 5 (.mv (c (.nils 1))),o 6 (.mv (c (n 0)))]),
 (q [(.reg [o 19 (la 3 2),o 20 (.call 27 [(t 19)]),o 7 (m 20)]),
 (.reg [o 21 (m 7),o 22 (bc .neq 21 (n 0))]),
 (i 22 (q [(.reg [o 23 (.build [(n 0),(.nils 1),(.nils 1)] []),o 24 (m 7),w (.store 3 (t 4) (t 23)),o 5 (.mv (c (.nils 1))),o 6 (m 24)]),
 .ret]) .skip)]),
 (q [(.reg [o 25 (m 1),o 26 (bc .lss 25 (n 0)),o 27 (m 26),g 28 27 false (m 1),g 29 27 false (f 0 2),g 30 27 false (l 29),g 31 27 false (b .geq 28 30),o 32 (pt 27 31)]),
 (i 32 (q [(.reg [o 33 (.build [(n 0),(.nils 1),(.nils 1)] []),w (.store 3 (t 4) (t 33)),o 5 (.mv (c (.nils 1))),o 6 (.mv (c (n 2)))]),
 .ret]) .skip)]),
 (.regd [o 35 (la 3 2),o 36 (m 1),o 37 (.bin .shl (c (u 1)) (t 36)),o 38 (.call 64 [(t 35),(t 37)]),o 34 (m 38),o 39 (e 34 0),o 40 (e 34 1),o 8 (m 39),o 9 (m 40)] [0,0,2,7,15,31,31,63,255]),
 (.reg [o 42 (la 3 2),o 43 (m 8),o 44 (.call 65 [(t 42),(t 43)]),o 41 (m 44),o 45 (e 41 0),o 46 (e 41 1),o 47 (e 41 2),o 10 (.alloc [(n 0),(.nils 1),(.nils 1)]),w (.store 3 (t 10) (t 45)),o 11 (m 46),o 12 (m 47)]),
 (q [(.reg [o 48 (la 3 10),o 49 (.call 66 [(t 48)]),o 50 (.un .not (t 49))]),
 (i 50 (q [(.reg [o 51 (.build [(n 0),(.nils 1),(.nils 1)] []),w (.store 3 (t 4) (t 51)),o 5 (.mv (c (.nils 1))),o 6 (.mv (c (n 16)))]),
 .ret]) .skip)]),
 (.reg [o 52 (la 3 10),o 53 (m 11),o 54 (m 1),o 55 (.call 67 [(t 52),(t 53),(t 54)]),o 13 (m 55)]),
 (.reg [o 57 (la 3 10),o 58 (m 13),o 59 (.call 60 [(t 57),(t 58)]),o 56 (m 59),o 60 (e 56 0),o 61 (e 56 1),o 14 (.alloc [(n 0),(.nils 1),(.nils 1)]),w (.store 3 (t 14) (t 60)),o 15 (m 61)]),
 (.reg [o 62 (m 11),o 63 (ln 62),o 64 (.mkslice 1 8 [(n 0)] (t 63) (t 63)),o 16 (m 64)]),
 (q [(.reg [o 65 (m 11),o 66 (ln 65),o 67 (.mv (c (n 0)))]),
 (.block 0 (.loop (q [(.reg [o 68 (b .lss 67 66)]),
 (i 68 .skip (.exit 0)),
 (.block 1 (q [(.reg [o 69 (m 67),o 70 (ia 1 65 67),o 71 (l 70),o 17 (m 69),o 18 (m 71)]),
 (.reg [o 72 (m 16),o 73 (m 13),o 74 (m 17),o 75 (ia 1 73 74),o 76 (l 75),o 77 (m 18),o 78 (ia 1 72 76),w (.store 1 (t 78) (t 77))])])),
 (.reg [o 79 (bc .add 67 (n 1)),o 67 (m 79)])])))]),
 (.reg [o 80 (la 3 14),o 81 (m 16),w (.store 3 (t 4) (t 80)),o 5 (m 81),o 6 (.mv (c (n 0)))]),
 .ret])⟩
def zjb:CFn:=⟨47,[.tmp 4],(q [(.reg [o 2 (.box 3 (t 0)),o 3 (.box 3 (t 1)),o 4 (.mv (c .bf))]),
 (q [(.reg [o 6 (f 0 2),o 7 (l 6),o 8 (f 0 3),o 9 (l 8),o 10 (b .neq 7 9),o 11 (m 10),g 12 11 false (f 1 2),g 13 11 false (l 12),g 14 11 false (f 1 3),g 15 11 false (l 14),g 16 11 false (.call 68 [(t 13),(t 15)]),g 17 11 false (.un .not (t 16)),o 18 (pt 11 17),o 19 (m 18),g 20 19 false (f 2 2),g 21 19 false (l 20),g 22 19 false (ln 21),g 23 19 false (f 2 3),g 24 19 false (l 23),g 25 19 false (ln 24),g 26 19 false (b .neq 22 25),o 27 (pt 19 26)]),
 (i 27 (q [(.reg [o 4 (.mv (c .bf))]),
 .ret]) .skip)]),
 (q [(.reg [o 5 (.mv (c (n 0)))]),
 (.block 0 (.loop (q [(q [(.reg [o 28 (m 5),o 29 (f 2 2),o 30 (l 29),o 31 (ln 30),o 32 (b .lss 28 31)]),
 (i 32 .skip (.exit 0))]),
 (.block 1 (q [(.regd [o 35 (f 2 2),o 36 (l 35),o 37 (m 5),o 38 (ia 1 36 37),o 39 (l 38),o 40 (f 2 3),o 41 (l 40),o 42 (m 5),o 43 (ia 1 41 42),o 44 (l 43),o 45 (.call 68 [(t 39),(t 44)]),o 46 (.un .not (t 45))] [0,1,0,7,15,0,32,0,224,480,1023,2047]),
 (i 46 (q [(.reg [o 4 (.mv (c .bf))]),
 .ret]) .skip)])),
 (.reg [o 33 (m 5),o 34 (bc .add 33 (n 1)),o 5 (m 34)])])))]),
 (.reg [o 4 (.mv (c .bt))]),
 .ret])⟩
def zil:CFn:=⟨59,[.tmp 2],(q [(.reg [o 1 (.box 3 (t 0)),o 2 (.mv (c (n 0)))]),
 (q [(.reg [o 5 (f 0 1),o 6 (l 5),o 7 (bc .lss 6 (n 1)),o 8 (m 7),g 9 8 false (f 0 1),g 10 8 false (l 9),g 11 8 false (bc .gtr 10 (n 64)),o 12 (pt 8 11)]),
 (i 12 (q [(.reg [o 2 (.mv (c (n 2)))]),
 .ret]) .skip)]),
 (q [(.reg [o 13 (f 2 1),o 14 (l 13),o 15 (ln 14),o 16 (bc .gtr 15 (n 4)),o 17 (m 16),g 18 17 false (f 1 1),g 19 17 false (l 18),g 20 17 false (ln 19),g 21 17 false (bc .gtr 20 (n 8)),o 22 (pt 17 21)]),
 (i 22 (q [(.reg [o 2 (.mv (c (n 8)))]),
 .ret]) .skip)]),
 (q [(.reg [o 3 (.mv (c (n 0)))]),
 (.block 0 (.loop (q [(q [(.reg [o 23 (m 3),o 24 (f 2 1),o 25 (l 24),o 26 (ln 25),o 27 (b .lss 23 26)]),
 (i 27 .skip (.exit 0))]),
 (.block 1 (q [(.regd [o 30 (f 2 1),o 31 (l 30),o 32 (m 3),o 33 (ia 1 31 32),o 34 (l 33),o 35 (ln 34),o 36 (f 0 1),o 37 (l 36),o 38 (b .neq 35 37)] [0,1,0,7,15,31,0,64,255]),
 (i 38 (q [(.reg [o 2 (.mv (c (n 3)))]),
 .ret]) .skip)])),
 (.reg [o 28 (m 3),o 29 (bc .add 28 (n 1)),o 3 (m 29)])])))]),
 (q [(.reg [o 39 (f 1 1),o 40 (l 39),o 41 (f 0 1),o 42 (l 41),o 43 (.call 69 [(t 40),(t 42)])]),
 (i 43 (q [(.reg [o 2 (.mv (c (n 2)))]),
 .ret]) .skip)]),
 (q [(.reg [o 4 (.mv (c (n 0)))]),
 (.block 2 (.loop (q [(q [(.reg [o 44 (m 4),o 45 (f 2 1),o 46 (l 45),o 47 (ln 46),o 48 (b .lss 44 47)]),
 (i 48 .skip (.exit 2))]),
 (.block 3 (q [(.regd [o 51 (f 2 1),o 52 (l 51),o 53 (m 4),o 54 (ia 1 52 53),o 55 (l 54),o 56 (f 0 1),o 57 (l 56),o 58 (.call 69 [(t 55),(t 57)])] [0,1,0,7,15,0,32,127]),
 (i 58 (q [(.reg [o 2 (.mv (c (n 2)))]),
 .ret]) .skip)])),
 (.reg [o 49 (m 4),o 50 (bc .add 49 (n 1)),o 4 (m 50)])])))]),
 (.reg [o 2 (.mv (c (n 0)))]),
 .ret])⟩
def zkJ:CFn:=⟨56,[.tmp 4,.tmp 5],(q [(.reg [o 2 (.box 3 (t 0)),o 4 (.mv (c (u 0))),o 5 (.mv (c (n 0)))]),
 (q [(.reg [o 12 (la 3 2),o 13 (.call 32 [(t 12)]),o 6 (m 13)]),
 (.reg [o 14 (m 6),o 15 (bc .neq 14 (n 0))]),
 (i 15 (q [(.reg [o 16 (m 6),o 4 (.mv (c (u 0))),o 5 (m 16)]),
 .ret]) .skip)]),
 (q [(.reg [o 17 (m 1),o 18 (f 0 2),o 19 (l 18),o 20 (.call 73 [(t 19)]),o 21 (b .andNot 17 20),o 22 (bc .neq 21 (u 0))]),
 (i 22 (q [(.reg [o 4 (.mv (c (u 0))),o 5 (.mv (c (n 2)))]),
 .ret]) .skip)]),
 (.reg [o 23 (m 1),o 7 (m 23)]),
 (q [(.reg [o 24 (m 1),o 8 (m 24)]),
 (.block 0 (.loop (q [(q [(.reg [o 25 (m 8),o 26 (bc .neq 25 (u 0))]),
 (i 26 .skip (.exit 0))]),
 (.block 1 (q [(.reg [o 27 (m 8),o 28 (.call 74 [(t 27)]),o 9 (m 28)]),
 (.reg [o 29 (m 8),o 30 (m 8),o 31 (bc .sub 30 (u 1)),o 32 (b .and 29 31),o 8 (m 32)]),
 (.reg [o 33 (f 2 2),o 34 (l 33),o 35 (ln 34),o 36 (.mv (c (n 0)))]),
 (.block 2 (.loop (q [(.reg [o 37 (b .lss 36 35)]),
 (i 37 .skip (.exit 2)),
 (.block 3 (q [(.reg [o 38 (ia 1 34 36),o 39 (l 38),o 11 (m 39)]),
 (.reg [o 40 (m 8),o 41 (m 11),o 42 (m 9),o 43 (ia 1 41 42),o 44 (l 43),o 45 (m 7),o 46 (b .andNot 44 45),o 47 (b .or 40 46),o 8 (m 47)]),
 (.reg [o 48 (m 7),o 49 (m 11),o 50 (m 9),o 51 (ia 1 49 50),o 52 (l 51),o 53 (b .or 48 52),o 7 (m 53)])])),
 (.reg [o 54 (bc .add 36 (n 1)),o 36 (m 54)])])))]))])))]),
 (.reg [o 55 (m 7),o 4 (m 55),o 5 (.mv (c (n 0)))]),
 .ret])⟩
def zf7:CFn:=⟨19,[.tmp 4],(q [(.reg [o 4 (.mv (c (n 0)))]),
 (q [(.reg [o 6 (m 0),o 7 (ln 6),o 8 (.mv (c (n 0)))]),
 (.block 0 (.loop (q [(.reg [o 9 (b .lss 8 7)]),
 (i 9 .skip (.exit 0)),
 (.block 1 (q [(.reg [o 10 (m 8),o 5 (m 10)]),
 (.reg [o 11 (m 1),o 12 (m 0),o 13 (m 5),o 14 (ia 1 12 13),o 15 (l 14),o 16 (b .eql 11 15)]),
 (i 16 (q [(.reg [o 17 (m 5),o 4 (m 17)]),
 .ret]) .skip)])),
 (.reg [o 18 (bc .add 8 (n 1)),o 8 (m 18)])])))]),
 (.reg [o 4 (.mv (c (n (-1))))]),
 .ret])⟩
def zol:CFn:=⟨40,[.tmp 4],(q [(.reg [o 2 (.box 3 (t 0)),o 4 (.mv (c (n 0)))]),
 (q [(.reg [o 8 (la 3 2),o 9 (.call 32 [(t 8)]),o 10 (bc .neq 9 (n 0)),o 11 (m 10),g 12 11 false (m 1),g 13 11 false (bc .lss 12 (n 0)),o 14 (pt 11 13),o 15 (m 14),g 16 15 false (m 1),g 17 15 false (f 0 2),g 18 15 false (l 17),g 19 15 false (b .geq 16 18),o 20 (pt 15 19)]),
 (i 20 (q [(.reg [o 4 (.mv (c (n (-1))))]),
 .ret]) .skip)]),
 (.reg [o 5 (.mv (c (n 0)))]),
 (q [(.reg [o 21 (f 1 2),o 22 (l 21),o 23 (ln 22),o 24 (.mv (c (n 0)))]),
 (.block 0 (.loop (q [(.reg [o 25 (b .lss 24 23)]),
 (i 25 .skip (.exit 0)),
 (.block 1 (q [(.reg [o 26 (m 24),o 27 (ia 1 22 24),o 28 (l 27),o 6 (m 26),o 7 (m 28)]),
 (.reg [o 29 (m 5),o 30 (m 7),o 31 (m 1),o 32 (b .shr 30 31),o 33 (bc .and 32 (u 1)),o 34 (.conv .i64 (t 33)),o 35 (m 6),o 36 (b .shl 34 35),o 37 (b .or 29 36),o 5 (m 37)])])),
 (.reg [o 38 (bc .add 24 (n 1)),o 24 (m 38)])])))]),
 (.reg [o 39 (m 5),o 4 (m 39)]),
 .ret])⟩
def zok:CFn:=⟨47,[.tmp 2],(q [(.reg [o 1 (.box 3 (t 0)),o 2 (.mv (c (n 0)))]),
 (q [(.reg [o 5 (f 0 1),o 6 (l 5),o 7 (bc .lss 6 (n 1)),o 8 (m 7),g 9 8 false (f 0 1),g 10 8 false (l 9),g 11 8 false (bc .gtr 10 (n 64)),o 12 (pt 8 11)]),
 (i 12 (q [(.reg [o 2 (.mv (c (n 2)))]),
 .ret]) .skip)]),
 (q [(.reg [o 13 (f 2 1),o 14 (l 13),o 15 (ln 14),o 16 (bc .gtr 15 (n 4)),o 17 (m 16),g 18 17 false (f 1 1),g 19 17 false (l 18),g 20 17 false (ln 19),g 21 17 false (bc .gtr 20 (n 8)),o 22 (pt 17 21)]),
 (i 22 (q [(.reg [o 2 (.mv (c (n 8)))]),
 .ret]) .skip)]),
 (q [(.reg [o 23 (f 2 1),o 24 (l 23),o 25 (ln 24),o 26 (.mv (c (n 0)))]),
 (.block 0 (.loop (q [(.reg [o 27 (b .lss 26 25)]),
 (i 27 .skip (.exit 0)),
 (.block 1 (q [(.reg [o 28 (ia 1 24 26),o 29 (l 28),o 4 (m 29)]),
 (.reg [o 30 (m 4),o 31 (ln 30),o 32 (f 0 1),o 33 (l 32),o 34 (b .neq 31 33)]),
 (i 34 (q [(.reg [o 2 (.mv (c (n 3)))]),
 .ret]) .skip)])),
 (.reg [o 35 (bc .add 26 (n 1)),o 26 (m 35)])])))]),
 (q [(.reg [o 36 (f 1 1),o 37 (l 36),o 38 (f 0 1),o 39 (l 38),o 40 (.call 75 [(t 37),(t 39)]),o 41 (m 40),g 42 41 false (f 2 1),g 43 41 false (l 42),g 44 41 false (.fnew zcY [(t 1)]),g 45 41 false (.call 76 [(t 43),(t 44)]),o 46 (pt 41 45)]),
 (i 46 (q [(.reg [o 2 (.mv (c (n 2)))]),
 .ret]) .skip)]),
 (.reg [o 2 (.mv (c (n 0)))]),
 .ret])⟩
def zm4:CFn:=⟨61,[.cell 4 (some 3),.tmp 5],(q [(.reg [o 2 (.box 3 (t 0)),o 4 (.alloc [(n 0),(.nils 1),(.nils 1)]),o 5 (.mv (c (n 0)))]),
 (q [(.reg [o 11 (la 3 2),o 12 (.call 32 [(t 11)]),o 6 (m 12)]),
 (.reg [o 13 (m 6),o 14 (bc .neq 13 (n 0))]),
 (i 14 (q [(.reg [o 15 (.build [(n 0),(.nils 1),(.nils 1)] []),o 16 (m 6),w (.store 3 (t 4) (t 15)),o 5 (m 16)]),
 .ret]) .skip)]),
 (q [(.reg [o 17 (m 1),o 18 (ln 17),o 19 (f 0 2),o 20 (l 19),o 21 (b .neq 18 20)]),
 (i 21 (q [(.reg [o 22 (.build [(n 0),(.nils 1),(.nils 1)] []),w (.store 3 (t 4) (t 22)),o 5 (.mv (c (n 1)))]),
 .ret]) .skip)]),
 (.reg [o 23 (m 1),o 24 (ln 23),o 25 (.mkslice 1 8 [(n 0)] (t 24) (t 24)),o 7 (m 25)]),
 (.reg [o 8 (.mv (c (u 0)))]),
 (q [(.reg [o 26 (m 1),o 27 (ln 26),o 28 (.mv (c (n 0)))]),
 (.block 0 (.loop (q [(.reg [o 29 (b .lss 28 27)]),
 (i 29 .skip (.exit 0)),
 (.block 1 (q [(.reg [o 30 (m 28),o 31 (ia 1 26 28),o 32 (l 31),o 9 (m 30),o 10 (m 32)]),
 (q [(.reg [o 33 (m 10),o 34 (bc .lss 33 (n 0)),o 35 (m 34),g 36 35 false (m 10),g 37 35 false (m 1),g 38 35 false (ln 37),g 39 35 false (b .geq 36 38),o 40 (pt 35 39),o 41 (m 40),g 42 41 false (m 8),g 43 41 false (m 10),g 44 41 false (b .shr 42 43),g 45 41 false (bc .and 44 (u 1)),g 46 41 false (bc .eql 45 (u 1)),o 47 (pt 41 46)]),
 (i 47 (q [(.reg [o 48 (.build [(n 0),(.nils 1),(.nils 1)] []),w (.store 3 (t 4) (t 48)),o 5 (.mv (c (n 1)))]),
 .ret]) .skip)]),
 (.reg [o 49 (m 8),o 50 (m 10),o 51 (.bin .shl (c (u 1)) (t 50)),o 52 (b .or 49 51),o 8 (m 52)]),
 (.reg [o 53 (m 7),o 54 (m 10),o 55 (m 9),o 56 (ia 1 53 54),w (.store 1 (t 56) (t 55))])])),
 (.reg [o 57 (bc .add 28 (n 1)),o 28 (m 57)])])))]),
 (.reg [o 58 (la 3 2),o 59 (m 7),o 60 (.call 78 [(t 58),(t 59)]),w (.store 3 (t 4) (t 60)),o 5 (.mv (c (n 0)))]),
 .ret])⟩
def zja:CFn:=⟨26,[.tmp 4],(q [(.reg [o 4 (.mv (c .bf))]),
 (q [(.reg [o 6 (m 0),o 7 (ln 6),o 8 (m 1),o 9 (ln 8),o 10 (b .neq 7 9)]),
 (i 10 (q [(.reg [o 4 (.mv (c .bf))]),
 .ret]) .skip)]),
 (q [(.reg [o 11 (m 0),o 12 (ln 11),o 13 (.mv (c (n 0)))]),
 (.block 0 (.loop (q [(.reg [o 14 (b .lss 13 12)]),
 (i 14 .skip (.exit 0)),
 (.block 1 (q [(.reg [o 15 (m 13),o 5 (m 15)]),
 (.regd [o 16 (m 0),o 17 (m 5),o 18 (ia 1 16 17),o 19 (l 18),o 20 (m 1),o 21 (m 5),o 22 (ia 1 20 21),o 23 (l 22),o 24 (b .neq 19 23)] [0,0,3,7,0,0,48,112,255]),
 (i 24 (q [(.reg [o 4 (.mv (c .bf))]),
 .ret]) .skip)])),
 (.reg [o 25 (bc .add 13 (n 1)),o 13 (m 25)])])))]),
 (.reg [o 4 (.mv (c .bt))]),
 .ret])⟩
def zkH:CFn:=⟨45,[.tmp 4,.tmp 5],(q [(.reg [o 4 (.mv (c (.nils 1))),o 5 (.mv (c (n 0)))]),
 (.reg [o 13 (m 0),o 14 (.call 99 [(t 13)]),o 12 (m 14),o 15 (e 12 0),o 16 (e 12 1),o 6 (m 15),o 7 (m 16)]),
 (.block 0 (.loop (.block 1 (q [(.reg [o 17 (m 6),o 18 (ln 17),o 19 (.mkslice 1 24 [(.nils 1)] (t 18) (t 18)),o 8 (m 19)]),
 (q [(.reg [o 20 (m 8),o 21 (ln 20),o 22 (.mv (c (n 0)))]),
 (.block 2 (.loop (q [(.reg [o 23 (b .lss 22 21)]),
 (i 23 .skip (.exit 2)),
 (.block 3 (q [(.reg [o 24 (m 22),o 9 (m 24)]),
 (.reg [o 25 (m 8),o 26 (m 9),o 27 (m 1),o 28 (m 6),o 29 (m 9),o 30 (.callv (t 27) [(t 28),(t 29)]),o 31 (ia 1 25 26),w (.store 1 (t 31) (t 30))])])),
 (.reg [o 32 (bc .add 22 (n 1)),o 22 (m 32)])])))]),
 (.reg [o 34 (m 8),o 35 (.call 99 [(t 34)]),o 33 (m 35),o 36 (e 33 0),o 37 (e 33 1),o 10 (m 36),o 11 (m 37)]),
 (q [(.reg [o 38 (m 11),o 39 (m 7),o 40 (b .eql 38 39)]),
 (i 40 (q [(.reg [o 41 (m 6),o 42 (m 7),o 4 (m 41),o 5 (m 42)]),
 .ret]) .skip)]),
 (.reg [o 43 (m 10),o 44 (m 11),o 6 (m 43),o 7 (m 44)])]))))])⟩
def zkI:CFn:=⟨26,[.tmp 4],(q [(.reg [o 4 (.mv (c (.nils 1)))]),
 (.reg [o 5 (.mv (c (.nils 1)))]),
 (q [(.reg [o 8 (m 1),o 9 (.call 98 [(t 8)]),o 10 (ln 9),o 11 (.mv (c (n 0)))]),
 (.block 0 (.loop (q [(.reg [o 12 (b .lss 11 10)]),
 (i 12 .skip (.exit 0)),
 (.block 1 (q [(.reg [o 13 (ia 1 9 11),o 14 (l 13),o 7 (m 14)]),
 (.reg [o 15 (m 5),o 16 (m 0),o 17 (m 7),o 18 (ia 1 16 17),o 19 (l 18),o 20 (.bslice 1 1 [(n 0)] [(0,(t 19))]),o 21 (.app 1 8 (t 15) (t 20)),o 5 (m 21)])])),
 (.reg [o 22 (bc .add 11 (n 1)),o 11 (m 22)])])))]),
 (.reg [o 23 (m 5),o 24 (.call 100 [(t 23)])]),
 (.reg [o 25 (m 5),o 4 (m 25)]),
 .ret])⟩
def zim:CFn:=⟨39,[.tmp 4],(q [(.reg [o 2 (.box 3 (t 0)),o 4 (.mv (c (n 0)))]),
 (q [(.reg [o 7 (la 3 2),o 8 (.call 27 [(t 7)]),o 9 (bc .neq 8 (n 0)),o 10 (m 9),g 11 10 false (m 1),g 12 10 false (bc .lss 11 (n 0)),o 13 (pt 10 12),o 14 (m 13),g 15 14 false (m 1),g 16 14 false (f 0 2),g 17 14 false (l 16),g 18 14 false (b .geq 15 17),o 19 (pt 14 18)]),
 (i 19 (q [(.reg [o 4 (.mv (c (n (-1))))]),
 .ret]) .skip)]),
 (.reg [o 5 (.mv (c (n 0)))]),
 (q [(.reg [o 6 (.mv (c (n 0)))]),
 (.block 0 (.loop (q [(q [(.reg [o 20 (m 6),o 21 (f 1 2),o 22 (l 21),o 23 (ln 22),o 24 (b .lss 20 23)]),
 (i 24 .skip (.exit 0))]),
 (.block 1 (q [(.reg [o 27 (f 1 2),o 28 (l 27),o 29 (m 6),o 30 (ia 1 28 29),o 31 (l 30),o 32 (m 1),o 33 (.call 101 [(t 31),(t 32)])]),
 (i 33 (.reg [o 34 (m 5),o 35 (m 6),o 36 (.bin .shl (c (n 1)) (t 35)),o 37 (b .add 34 36),o 5 (m 37)]) .skip)])),
 (.reg [o 25 (m 6),o 26 (bc .add 25 (n 1)),o 6 (m 26)])])))]),
 (.reg [o 38 (m 5),o 4 (m 38)]),
 .ret])⟩
def zin:CFn:=⟨64,[.tmp 2,.tmp 3],(q [(.reg [o 2 (.mv (c (.nils 1))),o 3 (.mv (c (n 0)))]),
 (.reg [o 4 (.mv (c (.nils 1)))]),
 (.reg [o 5 (.mv (c (n 0)))]),
 (q [(.reg [o 11 (m 0),o 12 (ln 11),o 13 (.mv (c (n 0)))]),
 (.block 0 (.loop (q [(.reg [o 14 (b .lss 13 12)]),
 (i 14 .skip (.exit 0)),
 (.block 1 (q [(.reg [o 15 (m 13),o 6 (m 15)]),
 (.reg [o 7 (.mv (c (n 0)))]),
 (q [(.reg [o 16 (m 0),o 17 (ln 16),o 18 (.mv (c (n 0)))]),
 (.block 2 (.loop (q [(.reg [o 19 (b .lss 18 17)]),
 (i 19 .skip (.exit 2)),
 (.block 3 (q [(.reg [o 20 (m 18),o 8 (m 20)]),
 (q [(.regd [o 21 (m 0),o 22 (m 8),o 23 (ia 1 21 22),o 24 (l 23),o 25 (m 0),o 26 (m 6),o 27 (ia 1 25 26),o 28 (l 27),o 29 (.call 102 [(t 24),(t 28)]),o 30 (bc .geq 29 (n 0))] [0,0,3,7,0,0,48,112,255,511]),
 (i 30 (.exit 3) .skip)]),
 (.reg [o 9 (.mv (c .bt))]),
 (q [(.reg [o 10 (.mv (c (n 0)))]),
 (.block 4 (.loop (q [(q [(.reg [o 31 (m 10),o 32 (m 8),o 33 (b .lss 31 32)]),
 (i 33 .skip (.exit 4))]),
 (.block 5 (.regd [o 36 (m 9),o 37 (m 36),g 38 37 true (m 0),g 39 37 true (m 10),g 40 37 true (ia 1 38 39),g 41 37 true (l 40),g 42 37 true (m 0),g 43 37 true (m 8),g 44 37 true (ia 1 42 43),g 45 37 true (l 44),g 46 37 true (.call 102 [(t 41),(t 45)]),g 47 37 true (bc .neq 46 (n 0)),o 48 (pf 37 47),o 9 (m 48)] [0,1,3,3,15,31,3,3,195,451,1023,2047,4095,8191])),
 (.reg [o 34 (m 10),o 35 (bc .add 34 (n 1)),o 10 (m 35)])])))]),
 (.reg [o 49 (m 9)]),
 (i 49 (.reg [o 50 (m 7),o 51 (bc .add 50 (n 1)),o 7 (m 51)]) .skip)])),
 (.reg [o 52 (bc .add 18 (n 1)),o 18 (m 52)])])))]),
 (.reg [o 53 (m 4),o 54 (m 7),o 55 (.bslice 1 1 [(n 0)] [(0,(t 54))]),o 56 (.app 1 8 (t 53) (t 55)),o 4 (m 56)]),
 (.reg [o 57 (m 5),o 58 (m 7),o 59 (bc .add 58 (n 1)),o 60 (.mm true (t 57) (t 59)),o 5 (m 60)])])),
 (.reg [o 61 (bc .add 13 (n 1)),o 13 (m 61)])])))]),
 (.reg [o 62 (m 4),o 63 (m 5),o 2 (m 62),o 3 (m 63)]),
 .ret])⟩
def zje:CFn:=⟨28,[.tmp 6],(q [(.reg [o 6 (.mv (c (.nils 1)))]),
 (.reg [o 7 (.mv (c (.nils 1)))]),
 (q [(.reg [o 9 (m 0),o 10 (ln 9),o 11 (.mv (c (n 0)))]),
 (.block 0 (.loop (q [(.reg [o 12 (b .lss 11 10)]),
 (i 12 .skip (.exit 0)),
 (.block 1 (q [(.reg [o 13 (m 11),o 8 (m 13)]),
 (.reg [o 14 (m 1),o 15 (m 8),o 16 (.call 101 [(t 14),(t 15)])]),
 (i 16 (.reg [o 17 (m 7),o 18 (m 0),o 19 (m 8),o 20 (ia 1 18 19),o 21 (l 20),o 22 (.bslice 1 1 [(n 0)] [(0,(t 21))]),o 23 (.app 1 8 (t 17) (t 22)),o 7 (m 23)]) .skip)])),
 (.reg [o 24 (bc .add 11 (n 1)),o 11 (m 24)])])))]),
 (.reg [o 25 (m 7),o 26 (m 2),o 27 (.call 103 [(t 25),(t 26)]),o 6 (m 27)]),
 .ret])⟩
def zho:CFn:=⟨28,[.cell 4 (some 3),.tmp 5],(q [(.reg [o 2 (.box 3 (t 0)),o 4 (.alloc [(n 0),(.nils 1),(.nils 1)]),o 5 (.mv (c (n 0)))]),
 (.reg [o 9 (la 3 2),o 10 (.call 27 [(t 9)]),o 6 (m 10)]),
 (q [(.reg [o 11 (m 6),o 12 (bc .neq 11 (n 0))]),
 (i 12 (q [(.reg [o 13 (.build [(n 0),(.nils 1),(.nils 1)] []),o 14 (m 6),w (.store 3 (t 4) (t 13)),o 5 (m 14)]),
 .ret]) .skip)]),
 (.reg [o 16 (m 1),o 17 (f 0 2),o 18 (l 17),o 19 (.call 107 [(t 16),(t 18)]),o 15 (m 19),o 20 (e 15 0),o 21 (e 15 1),o 7 (m 20),o 8 (m 21)]),
 (q [(.reg [o 22 (m 8),o 23 (.un .not (t 22))]),
 (i 23 (q [(.reg [o 24 (.build [(n 0),(.nils 1),(.nils 1)] []),w (.store 3 (t 4) (t 24)),o 5 (.mv (c (n 1)))]),
 .ret]) .skip)]),
 (.reg [o 25 (la 3 2),o 26 (m 7),o 27 (.call 108 [(t 25),(t 26)]),w (.store 3 (t 4) (t 27)),o 5 (.mv (c (n 0)))]),
 .ret])⟩
def zlm:CFn:=⟨31,[.cell 4 (some 3),.tmp 5,.tmp 6],(q [(.reg [o 2 (.box 3 (t 0)),o 4 (.alloc [(n 0),(.nils 1),(.nils 1)]),o 5 (.mv (c (.nils 1))),o 6 (.mv (c (n 0)))]),
 (q [(.reg [o 9 (la 3 2),o 10 (.call 32 [(t 9)]),o 7 (m 10)]),
 (.reg [o 11 (m 7),o 12 (bc .neq 11 (n 0))]),
 (i 12 (q [(.reg [o 13 (.build [(n 0),(.nils 1),(.nils 1)] []),o 14 (m 7),w (.store 3 (t 4) (t 13)),o 5 (.mv (c (.nils 1))),o 6 (m 14)]),
 .ret]) .skip)]),
 (q [(.reg [o 15 (m 1),o 16 (f 0 2),o 17 (l 16),o 18 (.call 73 [(t 17)]),o 19 (b .andNot 15 18),o 20 (bc .neq 19 (u 0))]),
 (i 20 (q [(.reg [o 21 (.build [(n 0),(.nils 1),(.nils 1)] []),w (.store 3 (t 4) (t 21)),o 5 (.mv (c (.nils 1))),o 6 (.mv (c (n 2)))]),
 .ret]) .skip)]),
 (q [(.reg [o 22 (m 1),o 23 (bc .eql 22 (u 0))]),
 (i 23 (q [(.reg [o 24 (.build [(n 0),(.nils 1),(.nils 1)] []),w (.store 3 (t 4) (t 24)),o 5 (.mv (c (.nils 1))),o 6 (.mv (c (n 6)))]),
 .ret]) .skip)]),
 (.reg [o 25 (m 1),o 26 (.call 109 [(t 25)]),o 8 (m 26)]),
 (.reg [o 27 (la 3 2),o 28 (m 8),o 29 (.call 78 [(t 27),(t 28)]),o 30 (m 8),w (.store 3 (t 4) (t 29)),o 5 (m 30),o 6 (.mv (c (n 0)))]),
 .ret])⟩
def zkG:CFn:=⟨33,[.tmp 4,.tmp 5],(q [(.reg [o 2 (.box 3 (t 0)),o 4 (.mv (c (.nils 1))),o 5 (.mv (c (n 0)))]),
 (.reg [o 6 (.mv (c (.nils 1)))]),
 (q [(.reg [o 9 (f 0 2),o 10 (l 9),o 11 (.mv (c (n 0)))]),
 (.block 0 (.loop (q [(.reg [o 12 (b .lss 11 10)]),
 (i 12 .skip (.exit 0)),
 (.block 1 (q [(.reg [o 13 (m 11),o 7 (m 13)]),
 (.reg [o 8 (.mv (c (n 1)))]),
 (q [(.reg [o 14 (m 7),o 15 (m 1),o 16 (b .eql 14 15)]),
 (i 16 (.reg [o 8 (.mv (c (n 0)))]) .skip)]),
 (.reg [o 17 (m 6),o 18 (m 8),o 19 (.bslice 1 1 [(n 0)] [(0,(t 18))]),o 20 (la 3 2),o 21 (m 7),o 22 (.call 31 [(t 20),(t 21)]),o 23 (.bslice 1 1 [(n 0)] [(0,(t 22))]),o 24 (.bslice 1 2 [(.nils 1)] [(0,(t 19)),(1,(t 23))]),o 25 (.bslice 1 1 [(.nils 1)] [(0,(t 24))]),o 26 (.app 1 24 (t 17) (t 25)),o 6 (m 26)])])),
 (.reg [o 27 (bc .add 11 (n 1)),o 11 (m 27)])])))]),
 (.reg [o 28 (m 6),o 29 (.fnew zbC [(t 2)]),o 30 (.call 47 [(t 28),(t 29)]),o 31 (e 30 0),o 32 (e 30 1),o 4 (m 31),o 5 (m 32)]),
 .ret])⟩
def zf9:CFn:=⟨58,[.tmp 4,.tmp 5],(q [(.reg [o 2 (.box 3 (t 0)),o 4 (.mv (c (u 0))),o 5 (.mv (c (n 0)))]),
 (.reg [o 11 (la 3 2),o 12 (.call 27 [(t 11)]),o 6 (m 12)]),
 (q [(.reg [o 13 (m 6),o 14 (bc .neq 13 (n 0))]),
 (i 14 (q [(.reg [o 15 (m 6),o 4 (.mv (c (u 0))),o 5 (m 15)]),
 .ret]) .skip)]),
 (q [(.reg [o 16 (m 1),o 17 (f 0 2),o 18 (l 17),o 19 (.call 112 [(t 18)]),o 20 (b .andNot 16 19),o 21 (bc .neq 20 (u 0))]),
 (i 21 (q [(.reg [o 4 (.mv (c (u 0))),o 5 (.mv (c (n 2)))]),
 .ret]) .skip)]),
 (.reg [o 22 (m 1),o 7 (m 22)]),
 (q [(.reg [o 8 (.mv (c (n 0)))]),
 (.block 0 (.loop (q [(q [(.reg [o 23 (m 8),o 24 (f 0 2),o 25 (l 24),o 26 (b .lss 23 25)]),
 (i 26 .skip (.exit 0))]),
 (.block 1 (q [(.reg [o 9 (.mv (c (n 0)))]),
 (.block 2 (.loop (q [(q [(.reg [o 29 (m 9),o 30 (f 0 2),o 31 (l 30),o 32 (b .lss 29 31)]),
 (i 32 .skip (.exit 2))]),
 (.block 3 (q [(.reg [o 10 (.mv (c (n 0)))]),
 (.block 4 (.loop (q [(q [(.reg [o 35 (m 10),o 36 (f 2 2),o 37 (l 36),o 38 (ln 37),o 39 (b .lss 35 38),o 40 (m 39),g 41 40 true (m 7),g 42 40 true (m 9),g 43 40 true (.call 101 [(t 41),(t 42)]),o 44 (pf 40 43)]),
 (i 44 .skip (.exit 4))]),
 (.block 5 (.reg [o 47 (m 7),o 48 (f 2 2),o 49 (l 48),o 50 (m 10),o 51 (ia 1 49 50),o 52 (l 51),o 53 (m 9),o 54 (ia 1 52 53),o 55 (l 54),o 56 (b .or 47 55),o 7 (m 56)])),
 (.reg [o 45 (m 10),o 46 (bc .add 45 (n 1)),o 10 (m 46)])])))])),
 (.reg [o 33 (m 9),o 34 (bc .add 33 (n 1)),o 9 (m 34)])])))])),
 (.reg [o 27 (m 8),o 28 (bc .add 27 (n 1)),o 8 (m 28)])])))]),
 (.reg [o 57 (m 7),o 4 (m 57),o 5 (.mv (c (n 0)))]),
 .ret])⟩
def zgD:CFn:=⟨31,[.cell 4 (some 3),.tmp 5,.tmp 6],(q [(.reg [o 2 (.box 3 (t 0)),o 4 (.alloc [(n 0),(.nils 1),(.nils 1)]),o 5 (.mv (c (.nils 1))),o 6 (.mv (c (n 0)))]),
 (.reg [o 9 (la 3 2),o 10 (.call 27 [(t 9)]),o 7 (m 10)]),
 (q [(.reg [o 11 (m 7),o 12 (bc .neq 11 (n 0))]),
 (i 12 (q [(.reg [o 13 (.build [(n 0),(.nils 1),(.nils 1)] []),o 14 (m 7),w (.store 3 (t 4) (t 13)),o 5 (.mv (c (.nils 1))),o 6 (m 14)]),
 .ret]) .skip)]),
 (q [(.reg [o 15 (m 1),o 16 (f 0 2),o 17 (l 16),o 18 (.call 112 [(t 17)]),o 19 (b .andNot 15 18),o 20 (bc .neq 19 (u 0))]),
 (i 20 (q [(.reg [o 21 (.build [(n 0),(.nils 1),(.nils 1)] []),w (.store 3 (t 4) (t 21)),o 5 (.mv (c (.nils 1))),o 6 (.mv (c (n 2)))]),
 .ret]) .skip)]),
 (q [(.reg [o 22 (m 1),o 23 (bc .eql 22 (u 0))]),
 (i 23 (q [(.reg [o 24 (.build [(n 0),(.nils 1),(.nils 1)] []),w (.store 3 (t 4) (t 24)),o 5 (.mv (c (.nils 1))),o 6 (.mv (c (n 6)))]),
 .ret]) .skip)]),
 (.reg [o 25 (m 1),o 26 (.call 113 [(t 25)]),o 8 (m 26)]),
 (.reg [o 27 (la 3 2),o 28 (m 8),o 29 (.call 108 [(t 27),(t 28)]),o 30 (m 8),w (.store 3 (t 4) (t 29)),o 5 (m 30),o 6 (.mv (c (n 0)))]),
 .ret])⟩
def zg5:CFn:=⟨97,[.tmp 2],(q [(.reg [o 1 (.box 3 (t 0)),o 2 (.mv (c .bf))]),
 (.reg [o 18 (f 0 1),o 19 (l 18),o 20 (.call 114 [(t 19)]),o 17 (m 20),o 21 (e 17 0),o 22 (e 17 1),o 3 (m 21),o 4 (m 22)]),
 (.reg [o 5 (.mv (c (.nils 1)))]),
 (q [(.reg [o 6 (.mv (c (n 0)))]),
 (.block 0 (.loop (q [(q [(.reg [o 23 (m 6),o 24 (f 0 1),o 25 (l 24),o 26 (b .lss 23 25)]),
 (i 26 .skip (.exit 0))]),
 (.block 1 (.reg [o 29 (m 5),o 30 (la 3 1),o 31 (m 6),o 32 (.call 50 [(t 30),(t 31)]),o 33 (.bslice 1 1 [(n 0)] [(0,(t 32))]),o 34 (.app 1 8 (t 29) (t 33)),o 5 (m 34)])),
 (.reg [o 27 (m 6),o 28 (bc .add 27 (n 1)),o 6 (m 28)])])))]),
 (.reg [o 36 (m 3),o 37 (m 5),o 38 (.call 115 [(t 36),(t 37)]),o 35 (m 38),o 39 (e 35 0),o 40 (e 35 1),o 7 (m 39),o 8 (m 40)]),
 (.block 2 (.loop (.block 3 (q [(.reg [o 9 (.mv (c (.nils 1)))]),
 (q [(.reg [o 10 (.mv (c (n 0)))]),
 (.block 4 (.loop (q [(q [(.reg [o 41 (m 10),o 42 (f 0 1),o 43 (l 42),o 44 (b .lss 41 43)]),
 (i 44 .skip (.exit 4))]),
 (.block 5 (q [(.reg [o 47 (m 7),o 48 (m 10),o 49 (ia 1 47 48),o 50 (l 49),o 51 (.bslice 1 1 [(n 0)] [(0,(t 50))]),o 52 (.bslice 1 1 [(.nils 1)] [(0,(t 51))]),o 11 (m 52)]),
 (q [(.reg [o 53 (f 2 1),o 54 (l 53),o 55 (ln 54),o 56 (.mv (c (n 0)))]),
 (.block 6 (.loop (q [(.reg [o 57 (b .lss 56 55)]),
 (i 57 .skip (.exit 6)),
 (.block 7 (q [(.reg [o 58 (m 56),o 12 (m 58)]),
 (.reg [o 59 (m 11),o 60 (m 7),o 61 (f 2 1),o 62 (l 61),o 63 (m 12),o 64 (ia 1 62 63),o 65 (l 64),o 66 (m 10),o 67 (ia 1 65 66),o 68 (l 67),o 69 (.call 52 [(t 60),(t 68),(c .bt)]),o 70 (.bslice 1 1 [(.nils 1)] [(0,(t 69))]),o 71 (.app 1 24 (t 59) (t 70)),o 11 (m 71)])])),
 (.reg [o 72 (bc .add 56 (n 1)),o 56 (m 72)])])))]),
 (.reg [o 73 (m 9),o 74 (m 11),o 75 (.bslice 1 1 [(.nils 1)] [(0,(t 74))]),o 76 (.app 1 24 (t 73) (t 75)),o 9 (m 76)])])),
 (.reg [o 45 (m 10),o 46 (bc .add 45 (n 1)),o 10 (m 46)])])))]),
 (.reg [o 78 (m 9),o 79 (.call 51 [(t 78)]),o 77 (m 79),o 80 (e 77 0),o 81 (e 77 1),o 13 (m 80),o 14 (m 81)]),
 (.reg [o 83 (m 7),o 84 (m 13),o 85 (.call 115 [(t 83),(t 84)]),o 82 (m 85),o 86 (e 82 0),o 87 (e 82 1),o 15 (m 86),o 16 (m 87)]),
 (q [(.reg [o 88 (m 7),o 89 (m 15),o 90 (.call 40 [(t 88),(t 89)])]),
 (i 90 (q [(.regd [o 91 (m 7),o 92 (.call 116 [(t 91)]),o 93 (f 0 1),o 94 (l 93),o 95 (b .eql 92 94),o 2 (m 95)] [0,1,0,4,15,31]),
 .ret]) .skip)]),
 (.reg [o 96 (m 15),o 7 (m 96)])]))))])⟩
def zhr:CFn:=⟨92,[.tmp 6],(q [(.reg [o 3 (.box 3 (t 0)),o 6 (.mv (c (.nils 1)))]),
 (.reg [o 7 (.mv (c (.nils 1)))]),
 (q [(.reg [o 8 (.mv (c (n 0)))]),
 (.block 0 (.loop (q [(q [(.reg [o 18 (m 8),o 19 (f 0 3),o 20 (l 19),o 21 (b .lss 18 20)]),
 (i 21 .skip (.exit 0))]),
 (.block 1 (q [(.reg [o 9 (.mv (c (n 1)))]),
 (q [(.reg [o 24 (m 1),o 25 (m 8),o 26 (ia 1 24 25),o 27 (l 26),o 28 (m 2),o 29 (b .eql 27 28)]),
 (i 29 (.reg [o 9 (.mv (c (n 0)))]) .skip)]),
 (.reg [o 30 (m 7),o 31 (m 9),o 32 (.bslice 1 1 [(n 0)] [(0,(t 31))]),o 33 (la 3 3),o 34 (m 8),o 35 (.call 50 [(t 33),(t 34)]),o 36 (.bslice 1 1 [(n 0)] [(0,(t 35))]),o 37 (.bslice 1 2 [(.nils 1)] [(0,(t 32)),(1,(t 36))]),o 38 (.bslice 1 1 [(.nils 1)] [(0,(t 37))]),o 39 (.app 1 24 (t 30) (t 38)),o 7 (m 39)])])),
 (.reg [o 22 (m 8),o 23 (bc .add 22 (n 1)),o 8 (m 23)])])))]),
 (.reg [o 41 (m 7),o 42 (.call 51 [(t 41)]),o 40 (m 42),o 43 (e 40 0),o 44 (e 40 1),o 10 (m 43),o 11 (m 44)]),
 (.block 2 (.loop (.block 3 (q [(.reg [o 12 (.mv (c (.nils 1)))]),
 (q [(.reg [o 13 (.mv (c (n 0)))]),
 (.block 4 (.loop (q [(q [(.reg [o 45 (m 13),o 46 (f 0 3),o 47 (l 46),o 48 (b .lss 45 47)]),
 (i 48 .skip (.exit 4))]),
 (.block 5 (q [(.reg [o 51 (m 10),o 52 (m 13),o 53 (ia 1 51 52),o 54 (l 53),o 55 (.bslice 1 1 [(n 0)] [(0,(t 54))]),o 56 (.bslice 1 1 [(.nils 1)] [(0,(t 55))]),o 14 (m 56)]),
 (q [(.reg [o 57 (f 2 3),o 58 (l 57),o 59 (ln 58),o 60 (.mv (c (n 0)))]),
 (.block 6 (.loop (q [(.reg [o 61 (b .lss 60 59)]),
 (i 61 .skip (.exit 6)),
 (.block 7 (q [(.reg [o 62 (m 60),o 15 (m 62)]),
 (.reg [o 63 (m 14),o 64 (m 10),o 65 (f 2 3),o 66 (l 65),o 67 (m 15),o 68 (ia 1 66 67),o 69 (l 68),o 70 (m 13),o 71 (ia 1 69 70),o 72 (l 71),o 73 (.call 52 [(t 64),(t 72),(c .bt)]),o 74 (.bslice 1 1 [(.nils 1)] [(0,(t 73))]),o 75 (.app 1 24 (t 63) (t 74)),o 14 (m 75)])])),
 (.reg [o 76 (bc .add 60 (n 1)),o 60 (m 76)])])))]),
 (.reg [o 77 (m 12),o 78 (m 14),o 79 (.bslice 1 1 [(.nils 1)] [(0,(t 78))]),o 80 (.app 1 24 (t 77) (t 79)),o 12 (m 80)])])),
 (.reg [o 49 (m 13),o 50 (bc .add 49 (n 1)),o 13 (m 50)])])))]),
 (.reg [o 82 (m 12),o 83 (.call 51 [(t 82)]),o 81 (m 83),o 84 (e 81 0),o 85 (e 81 1),o 16 (m 84),o 17 (m 85)]),
 (q [(.reg [o 86 (m 17),o 87 (m 11),o 88 (b .eql 86 87)]),
 (i 88 (q [(.reg [o 89 (m 10),o 6 (m 89)]),
 .ret]) .skip)]),
 (.reg [o 90 (m 16),o 91 (m 17),o 10 (m 90),o 11 (m 91)])]))))])⟩
def zgE:CFn:=⟨26,[.tmp 4],(q [(.reg [o 4 (.mv (c .bf))]),
 (q [(.reg [o 6 (m 0),o 7 (ln 6),o 8 (m 1),o 9 (ln 8),o 10 (b .neq 7 9)]),
 (i 10 (q [(.reg [o 4 (.mv (c .bf))]),
 .ret]) .skip)]),
 (q [(.reg [o 5 (.mv (c (n 0)))]),
 (.block 0 (.loop (q [(q [(.reg [o 11 (m 5),o 12 (m 0),o 13 (ln 12),o 14 (b .lss 11 13)]),
 (i 14 .skip (.exit 0))]),
 (.block 1 (q [(.regd [o 17 (m 0),o 18 (m 5),o 19 (ia 1 17 18),o 20 (l 19),o 21 (m 1),o 22 (m 5),o 23 (ia 1 21 22),o 24 (l 23),o 25 (b .neq 20 24)] [0,0,3,7,0,0,48,112,255]),
 (i 25 (q [(.reg [o 4 (.mv (c .bf))]),
 .ret]) .skip)])),
 (.reg [o 15 (m 5),o 16 (bc .add 15 (n 1)),o 5 (m 16)])])))]),
 (.reg [o 4 (.mv (c .bt))]),
 .ret])⟩
def zhp:CFn:=⟨20,[.tmp 4],(q [(.reg [o 4 (.mv (c .bf))]),
 (q [(.reg [o 5 (.mv (c (n 0)))]),
 (.block 0 (.loop (q [(q [(.reg [o 6 (m 5),o 7 (m 0),o 8 (ln 7),o 9 (b .lss 6 8)]),
 (i 9 .skip (.exit 0))]),
 (.block 1 (q [(.regd [o 12 (m 0),o 13 (m 5),o 14 (ia 1 12 13),o 15 (l 14),o 16 (m 1),o 17 (.call 112 [(t 16)]),o 18 (b .andNot 15 17),o 19 (bc .neq 18 (u 0))] [0,0,3,7,0,16,63,127]),
 (i 19 (q [(.reg [o 4 (.mv (c .bt))]),
 .ret]) .skip)])),
 (.reg [o 10 (m 5),o 11 (bc .add 10 (n 1)),o 5 (m 11)])])))]),
 (.reg [o 4 (.mv (c .bf))]),
 .ret])⟩
def zqg:CFn:=⟨8,[.tmp 2],(q [(.reg [o 2 (.mv (c (u 0)))]),
 (q [(.reg [o 3 (m 0),o 4 (bc .geq 3 (n 64))]),
 (i 4 (q [(.reg [o 2 (.mv (c (u 18446744073709551615)))]),
 .ret]) .skip)]),
 (.reg [o 5 (m 0),o 6 (.bin .shl (c (u 1)) (t 5)),o 7 (bc .sub 6 (u 1)),o 2 (m 7)]),
 .ret])⟩
def zme:CFn:=⟨8,[.tmp 4],(q [(.reg [o 3 (.box 1 (t 1)),o 4 (.mv (c .bf))]),
 (.reg [o 5 (m 0),o 6 (.fnew zcd [(t 3)]),o 7 (.call 118 [(t 5),(t 6)]),o 4 (m 7)]),
 .ret])⟩
def zcI:CFn:=⟨9,[.tmp 4],(q [(.reg [o 4 (.mv (c .bf))]),
 (.reg [o 5 (m 0),o 6 (m 1),o 7 (.call 120 [(t 5),(t 6)]),o 8 (bc .geq 7 (n 0)),o 4 (m 8)]),
 .ret])⟩
def zmb:CFn:=⟨8,[.tmp 3],(q [(.reg [o 3 (.mv (c .bf))]),
 (.reg [o 4 (m 0),o 5 (f 0 1),o 6 (l 5),o 7 (.call 75 [(t 4),(t 6)]),o 3 (m 7)]),
 .ret])⟩
def zmc:CFn:=⟨63,[.cell 4 (some 3)],(q [(.reg [o 2 (.box 3 (t 0)),o 4 (.alloc [(n 0),(.nils 1),(.nils 1)])]),
 (.reg [o 13 (m 1),o 14 (ln 13),o 15 (.build [(n 0),(.nils 1),(.nils 1)] [(0,1,(t 14))]),o 5 (.alloc [(n 0),(.nils 1),(.nils 1)]),w (.store 3 (t 5) (t 15))]),
 (q [(.reg [o 16 (f 1 2),o 17 (l 16),o 18 (ln 17),o 19 (.mv (c (n 0)))]),
 (.block 0 (.loop (q [(.reg [o 20 (b .lss 19 18)]),
 (i 20 .skip (.exit 0)),
 (.block 1 (q [(.reg [o 21 (ia 1 17 19),o 22 (l 21),o 7 (m 22)]),
 (.regd [o 23 (f 1 5),o 24 (l 23),o 25 (m 7),o 26 (m 1),o 27 (.call 121 [(t 25),(t 26)]),o 28 (.bslice 1 1 [(u 0)] [(0,(t 27))]),o 29 (.app 1 8 (t 24) (t 28)),o 30 (f 1 5),w (.store 1 (t 30) (t 29))] [0,1,0,0,12,28,63,127,255])])),
 (.reg [o 31 (bc .add 19 (n 1)),o 19 (m 31)])])))]),
 (q [(.reg [o 32 (f 2 2),o 33 (l 32),o 34 (ln 33),o 35 (.mv (c (n 0)))]),
 (.block 2 (.loop (q [(.reg [o 36 (b .lss 35 34)]),
 (i 36 .skip (.exit 2)),
 (.block 3 (q [(.reg [o 37 (ia 1 33 35),o 38 (l 37),o 9 (m 38)]),
 (.reg [o 10 (.mv (c (.nils 1)))]),
 (q [(.reg [o 39 (m 1),o 40 (ln 39),o 41 (.mv (c (n 0)))]),
 (.block 4 (.loop (q [(.reg [o 42 (b .lss 41 40)]),
 (i 42 .skip (.exit 4)),
 (.block 5 (q [(.reg [o 43 (ia 1 39 41),o 44 (l 43),o 12 (m 44)]),
 (.reg [o 45 (m 10),o 46 (m 9),o 47 (m 12),o 48 (ia 1 46 47),o 49 (l 48),o 50 (m 1),o 51 (.call 121 [(t 49),(t 50)]),o 52 (.bslice 1 1 [(u 0)] [(0,(t 51))]),o 53 (.app 1 8 (t 45) (t 52)),o 10 (m 53)])])),
 (.reg [o 54 (bc .add 41 (n 1)),o 41 (m 54)])])))]),
 (.reg [o 55 (f 2 5),o 56 (l 55),o 57 (m 10),o 58 (.bslice 1 1 [(.nils 1)] [(0,(t 57))]),o 59 (.app 1 24 (t 56) (t 58)),o 60 (f 2 5),w (.store 1 (t 60) (t 59))])])),
 (.reg [o 61 (bc .add 35 (n 1)),o 35 (m 61)])])))]),
 (.reg [o 62 (la 3 5),w (.store 3 (t 4) (t 62))]),
 .ret])⟩
def zii:CFn:=⟨31,[.tmp 2],(q [(.reg [o 2 (.mv (c (n 0)))]),
 (q [(.reg [o 5 (m 0),o 6 (ln 5),o 7 (bc .gtr 6 (n 64))]),
 (i 7 (q [(.reg [o 2 (.mv (c (n 8)))]),
 .ret]) .skip)]),
 (q [(.reg [o 8 (m 0),o 9 (ln 8),o 10 (.mv (c (n 0)))]),
 (.block 0 (.loop (q [(.reg [o 11 (b .lss 10 9)]),
 (i 11 .skip (.exit 0)),
 (.block 1 (q [(.reg [o 12 (m 10),o 13 (ia 1 8 10),o 14 (l 13),o 3 (m 12),o 4 (m 14)]),
 (.reg [o 15 (m 4),o 16 (bc .lss 15 (n 0)),o 17 (m 16),g 18 17 false (m 4),g 19 17 false (m 3),g 20 17 false (b .gtr 18 19),o 21 (pt 17 20),o 22 (m 21),g 23 22 false (m 0),g 24 22 false (m 4),g 25 22 false (ia 1 23 24),g 26 22 false (l 25),g 27 22 false (m 4),g 28 22 false (b .neq 26 27),o 29 (pt 22 28)]),
 (i 29 (q [(.reg [o 2 (.mv (c (n 3)))]),
 .ret]) .skip)])),
 (.reg [o 30 (bc .add 10 (n 1)),o 10 (m 30)])])))]),
 (.reg [o 2 (.mv (c (n 0)))]),
 .ret])⟩
def zjq:CFn:=⟨16,[.tmp 2],(q [(.reg [o 2 (.mv (c (.nils 1)))]),
 (.reg [o 3 (.mv (c (.nils 1)))]),
 (.block 0 (.loop (q [(q [(.reg [o 4 (m 0),o 5 (bc .neq 4 (u 0))]),
 (i 5 .skip (.exit 0))]),
 (.block 1 (.reg [o 10 (m 3),o 11 (m 0),o 12 (.call 74 [(t 11)]),o 13 (.bslice 1 1 [(n 0)] [(0,(t 12))]),o 14 (.app 1 8 (t 10) (t 13)),o 3 (m 14)])),
 (.reg [o 6 (m 0),o 7 (m 0),o 8 (bc .sub 7 (u 1)),o 9 (b .and 6 8),o 0 (m 9)])]))),
 (.reg [o 15 (m 3),o 2 (m 15)]),
 .ret])⟩
def zll:CFn:=⟨37,[.tmp 2,.tmp 3],(q [(.reg [o 2 (.mv (c (.nils 1))),o 3 (.mv (c (n 0)))]),
 (.reg [o 8 (m 0),o 9 (.call 133 [(t 8)]),o 4 (m 9)]),
 (.reg [o 10 (m 4),o 11 (.call 134 [(t 10),(c (.fn zI []))])]),
 (.reg [o 12 (m 4),o 13 (.call 136 [(t 12),(c (.fn zbP []))]),o 4 (m 13)]),
 (.reg [o 14 (m 0),o 15 (ln 14),o 16 (.mkslice 1 8 [(n 0)] (t 15) (t 15)),o 5 (m 16)]),
 (q [(.reg [o 17 (m 0),o 18 (ln 17),o 19 (.mv (c (n 0)))]),
 (.block 0 (.loop (q [(.reg [o 20 (b .lss 19 18)]),
 (i 20 .skip (.exit 0)),
 (.block 1 (q [(.reg [o 21 (m 19),o 22 (ia 1 17 19),o 23 (l 22),o 6 (m 21),o 7 (m 23)]),
 (.reg [o 25 (m 5),o 26 (m 6),o 27 (m 4),o 28 (m 7),o 29 (.call 138 [(t 27),(t 28),(c (.fn zI []))]),o 24 (m 29),o 30 (e 24 0),o 31 (e 24 1),o 32 (ia 1 25 26),w (.store 1 (t 32) (t 30))])])),
 (.reg [o 33 (bc .add 19 (n 1)),o 19 (m 33)])])))]),
 (.reg [o 34 (m 5),o 35 (m 4),o 36 (ln 35),o 2 (m 34),o 3 (m 36)]),
 .ret])⟩
def zgC:CFn:=⟨11,[],(q [(.reg [o 3 (m 0),o 4 (ln 3),o 2 (m 4)]),
 (.reg [o 5 (m 0),o 6 (m 2),o 7 (m 2),o 8 (.conv .u64 (t 7)),o 9 (.call 140 [(t 8)]),o 10 (.call 139 [(t 5),(c (n 0)),(t 6),(t 9)])])])⟩
def zjv:CFn:=⟨18,[.tmp 4],(q [(.reg [o 4 (.mv (c .bf))]),
 (.reg [o 5 (m 1),o 6 (bc .geq 5 (n 0)),o 7 (m 6),g 8 7 true (m 1),g 9 7 true (bc .lss 8 (n 64)),o 10 (pf 7 9),o 11 (m 10),g 12 11 true (m 0),g 13 11 true (m 1),g 14 11 true (b .shr 12 13),g 15 11 true (bc .rem 14 (u 2)),g 16 11 true (bc .eql 15 (u 1)),o 17 (pf 11 16),o 4 (m 17)]),
 .ret])⟩
def zhq:CFn:=⟨25,[.tmp 4],(q [(.reg [o 4 (.mv (c (n 0)))]),
 (q [(.reg [o 7 (m 0),o 8 (ln 7),o 9 (.mv (c (n 0)))]),
 (.block 0 (.loop (q [(.reg [o 10 (b .lss 9 8)]),
 (i 10 .skip (.exit 0)),
 (.block 1 (q [(.reg [o 11 (m 9),o 5 (m 11)]),
 (.regd [o 12 (m 0),o 13 (m 5),o 14 (ia 1 12 13),o 15 (l 14),o 16 (m 1),o 17 (m 5),o 18 (ia 1 16 17),o 19 (l 18),o 20 (.call 141 [(t 15),(t 19)]),o 6 (m 20)] [0,0,3,7,0,0,48,112,255,511]),
 (.reg [o 21 (m 6),o 22 (bc .neq 21 (n 0))]),
 (i 22 (q [(.reg [o 23 (m 6),o 4 (m 23)]),
 .ret]) .skip)])),
 (.reg [o 24 (bc .add 9 (n 1)),o 9 (m 24)])])))]),
 (.reg [o 4 (.mv (c (n 0)))]),
 .ret])⟩
def zhs:CFn:=⟨70,[.tmp 4],(q [(.reg [o 4 (.mv (c (.nils 1)))]),
 (.reg [o 5 (.mv (c (.nils 1)))]),
 (q [(.reg [o 10 (m 0),o 11 (ln 10),o 12 (.mv (c (n 0)))]),
 (.block 0 (.loop (q [(.reg [o 13 (b .lss 12 11)]),
 (i 13 .skip (.exit 0)),
 (.block 1 (q [(.reg [o 14 (ia 1 10 12),o 15 (l 14),o 7 (m 15)]),
 (.reg [o 8 (.mv (c (n 0)))]),
 (.block 2 (.loop (q [(q [(.reg [o 16 (m 8),o 17 (m 5),o 18 (ln 17),o 19 (b .lss 16 18),o 20 (m 19),g 21 20 true (m 5),g 22 20 true (m 8),g 23 20 true (ia 1 21 22),g 24 20 true (l 23),g 25 20 true (m 7),g 26 20 true (b .lss 24 25),o 27 (pf 20 26)]),
 (i 27 .skip (.exit 2))]),
 (.block 3 (.reg [o 28 (m 8),o 29 (bc .add 28 (n 1)),o 8 (m 29)]))]))),
 (q [(.reg [o 30 (m 1),o 31 (m 30),g 32 31 true (m 8),g 33 31 true (m 5),g 34 31 true (ln 33),g 35 31 true (b .lss 32 34),o 36 (pf 31 35),o 37 (m 36),g 38 37 true (m 5),g 39 37 true (m 8),g 40 37 true (ia 1 38 39),g 41 37 true (l 40),g 42 37 true (m 7),g 43 37 true (b .eql 41 42),o 44 (pf 37 43)]),
 (i 44 (.exit 1) .skip)]),
 (.reg [o 45 (m 5),o 46 (.bslice 1 1 [(n 0)] [(0,(c (n 0)))]),o 47 (.app 1 8 (t 45) (t 46)),o 5 (m 47)]),
 (q [(.reg [o 48 (m 5),o 49 (ln 48),o 50 (bc .sub 49 (n 1)),o 9 (m 50)]),
 (.block 4 (.loop (q [(q [(.reg [o 51 (m 9),o 52 (m 8),o 53 (b .gtr 51 52)]),
 (i 53 .skip (.exit 4))]),
 (.block 5 (.reg [o 56 (m 5),o 57 (m 9),o 58 (m 5),o 59 (m 9),o 60 (bc .sub 59 (n 1)),o 61 (ia 1 58 60),o 62 (l 61),o 63 (ia 1 56 57),w (.store 1 (t 63) (t 62))])),
 (.reg [o 54 (m 9),o 55 (bc .sub 54 (n 1)),o 9 (m 55)])])))]),
 (.reg [o 64 (m 5),o 65 (m 8),o 66 (m 7),o 67 (ia 1 64 65),w (.store 1 (t 67) (t 66))])])),
 (.reg [o 68 (bc .add 12 (n 1)),o 12 (m 68)])])))]),
 (.reg [o 69 (m 5),o 4 (m 69)]),
 .ret])⟩
def zg2:CFn:=⟨39,[.tmp 4,.tmp 5],(q [(.reg [o 4 (.mv (c (.nils 1))),o 5 (.mv (c .bf))]),
 (q [(.reg [o 9 (m 0),o 10 (ln 9),o 11 (m 1),o 12 (b .neq 10 11)]),
 (i 12 (q [(.reg [o 4 (.mv (c (.nils 1))),o 5 (.mv (c .bf))]),
 .ret]) .skip)]),
 (.reg [o 6 (.mv (c (.nils 1)))]),
 (q [(.reg [o 7 (.mv (c (n 0)))]),
 (.block 0 (.loop (q [(q [(.reg [o 13 (m 7),o 14 (m 1),o 15 (b .lss 13 14)]),
 (i 15 .skip (.exit 0))]),
 (.block 1 (q [(q [(.reg [o 8 (.mv (c (n 0)))]),
 (.block 2 (.loop (q [(q [(.reg [o 18 (m 8),o 19 (m 1),o 20 (b .lss 18 19)]),
 (i 20 .skip (.exit 2))]),
 (.block 3 (q [(.reg [o 23 (m 0),o 24 (m 8),o 25 (ia 1 23 24),o 26 (l 25),o 27 (m 7),o 28 (b .eql 26 27)]),
 (i 28 (.reg [o 29 (m 6),o 30 (m 8),o 31 (.bslice 1 1 [(n 0)] [(0,(t 30))]),o 32 (.app 1 8 (t 29) (t 31)),o 6 (m 32)]) .skip)])),
 (.reg [o 21 (m 8),o 22 (bc .add 21 (n 1)),o 8 (m 22)])])))]),
 (.reg [o 33 (m 6),o 34 (ln 33),o 35 (m 7),o 36 (bc .add 35 (n 1)),o 37 (b .neq 34 36)]),
 (i 37 (q [(.reg [o 4 (.mv (c (.nils 1))),o 5 (.mv (c .bf))]),
 .ret]) .skip)])),
 (.reg [o 16 (m 7),o 17 (bc .add 16 (n 1)),o 7 (m 17)])])))]),
 (.reg [o 38 (m 6),o 4 (m 38),o 5 (.mv (c .bt))]),
 .ret])⟩
def zjc:CFn:=⟨68,[.cell 4 (some 3)],(q [(.reg [o 2 (.box 3 (t 0)),o 4 (.alloc [(n 0),(.nils 1),(.nils 1)])]),
 (.reg [o 10 (m 1),o 11 (ln 10),o 12 (.build [(n 0),(.nils 1),(.nils 1)] [(0,1,(t 11))]),o 5 (.alloc [(n 0),(.nils 1),(.nils 1)]),w (.store 3 (t 5) (t 12))]),
 (q [(.reg [o 6 (.mv (c (n 0)))]),
 (.block 0 (.loop (q [(q [(.reg [o 13 (m 6),o 14 (f 1 2),o 15 (l 14),o 16 (ln 15),o 17 (b .lss 13 16)]),
 (i 17 .skip (.exit 0))]),
 (.block 1 (.regd [o 20 (f 1 5),o 21 (l 20),o 22 (f 1 2),o 23 (l 22),o 24 (m 6),o 25 (ia 1 23 24),o 26 (l 25),o 27 (m 1),o 28 (.call 142 [(t 26),(t 27)]),o 29 (.bslice 1 1 [(u 0)] [(0,(t 28))]),o 30 (.app 1 8 (t 21) (t 29)),o 31 (f 1 5),w (.store 1 (t 31) (t 30))] [0,1,0,4,0,28,60,0,252,508,1023,2047,4095])),
 (.reg [o 18 (m 6),o 19 (bc .add 18 (n 1)),o 6 (m 19)])])))]),
 (q [(.reg [o 7 (.mv (c (n 0)))]),
 (.block 2 (.loop (q [(q [(.reg [o 32 (m 7),o 33 (f 2 2),o 34 (l 33),o 35 (ln 34),o 36 (b .lss 32 35)]),
 (i 36 .skip (.exit 2))]),
 (.block 3 (q [(.reg [o 8 (.mv (c (.nils 1)))]),
 (q [(.reg [o 9 (.mv (c (n 0)))]),
 (.block 4 (.loop (q [(q [(.reg [o 39 (m 9),o 40 (m 1),o 41 (ln 40),o 42 (b .lss 39 41)]),
 (i 42 .skip (.exit 4))]),
 (.block 5 (.regd [o 45 (m 8),o 46 (f 2 2),o 47 (l 46),o 48 (m 7),o 49 (ia 1 47 48),o 50 (l 49),o 51 (m 1),o 52 (m 9),o 53 (ia 1 51 52),o 54 (l 53),o 55 (ia 1 50 54),o 56 (l 55),o 57 (m 1),o 58 (.call 142 [(t 56),(t 57)]),o 59 (.bslice 1 1 [(u 0)] [(0,(t 58))]),o 60 (.app 1 8 (t 45) (t 59)),o 8 (m 60)] [0,0,2,0,14,30,0,0,192,448,1022,2046,0,8190,16382,32767,65535])),
 (.reg [o 43 (m 9),o 44 (bc .add 43 (n 1)),o 9 (m 44)])])))]),
 (.reg [o 61 (f 2 5),o 62 (l 61),o 63 (m 8),o 64 (.bslice 1 1 [(.nils 1)] [(0,(t 63))]),o 65 (.app 1 24 (t 62) (t 64)),o 66 (f 2 5),w (.store 1 (t 66) (t 65))])])),
 (.reg [o 37 (m 7),o 38 (bc .add 37 (n 1)),o 7 (m 38)])])))]),
 (.reg [o 67 (la 3 5),w (.store 3 (t 4) (t 67))]),
 .ret])⟩
def zmd:CFn:=⟨16,[.tmp 2],(q [(.reg [o 2 (.mv (c (.nils 1)))]),
 (.reg [o 3 (.mv (c (.nils 1)))]),
 (.block 0 (.loop (q [(q [(.reg [o 4 (m 0),o 5 (bc .neq 4 (u 0))]),
 (i 5 .skip (.exit 0))]),
 (.block 1 (.reg [o 10 (m 3),o 11 (m 0),o 12 (.call 74 [(t 11)]),o 13 (.bslice 1 1 [(n 0)] [(0,(t 12))]),o 14 (.app 1 8 (t 10) (t 13)),o 3 (m 14)])),
 (.reg [o 6 (m 0),o 7 (m 0),o 8 (bc .sub 7 (u 1)),o 9 (b .and 6 8),o 0 (m 9)])]))),
 (.reg [o 15 (m 3),o 2 (m 15)]),
 .ret])⟩
def zi9:CFn:=⟨34,[.tmp 5],(q [(.reg [o 5 (.mv (c (.nils 1)))]),
 (.reg [o 9 (m 0),o 10 (m 1),o 11 (ia 1 9 10),o 12 (l 11),o 13 (.bslice 1 1 [(n 0)] [(0,(t 12))]),o 14 (.bslice 1 1 [(.nils 1)] [(0,(t 13))]),o 6 (m 14)]),
 (q [(.reg [o 15 (f 2 2),o 16 (l 15),o 17 (ln 16),o 18 (.mv (c (n 0)))]),
 (.block 0 (.loop (q [(.reg [o 19 (b .lss 18 17)]),
 (i 19 .skip (.exit 0)),
 (.block 1 (q [(.reg [o 20 (ia 1 16 18),o 21 (l 20),o 8 (m 21)]),
 (.reg [o 22 (m 6),o 23 (m 0),o 24 (m 8),o 25 (m 1),o 26 (ia 1 24 25),o 27 (l 26),o 28 (.call 49 [(t 23),(t 27)]),o 29 (.call 111 [(t 28)]),o 30 (.bslice 1 1 [(.nils 1)] [(0,(t 29))]),o 31 (.app 1 24 (t 22) (t 30)),o 6 (m 31)])])),
 (.reg [o 32 (bc .add 18 (n 1)),o 18 (m 32)])])))]),
 (.reg [o 33 (m 6),o 5 (m 33)]),
 .ret])⟩
def zfs:CFn:=⟨61,[.tmp 2],(q [(.reg [o 2 (.mv (c (.nils 1)))]),
 (q [(.reg [o 6 (m 0),o 7 (ln 6),o 8 (bc .lss 7 (n 2))]),
 (i 8 (q [(.reg [o 9 (m 0),o 2 (m 9)]),
 .ret]) .skip)]),
 (q [(.reg [o 3 (.mv (c (n 1)))]),
 (.block 0 (.loop (q [(q [(.reg [o 10 (m 3),o 11 (m 0),o 12 (ln 11),o 13 (b .lss 10 12)]),
 (i 13 .skip (.exit 0))]),
 (.block 1 (q [(.regd [o 16 (m 0),o 17 (m 3),o 18 (ia 1 16 17),o 19 (l 18),o 20 (m 0),o 21 (m 3),o 22 (bc .sub 21 (n 1)),o 23 (ia 1 20 22),o 24 (l 23),o 25 (b .eql 19 24)] [0,0,3,7,0,0,32,112,240,511]),
 (i 25 (q [(.reg [o 26 (m 0),o 27 (m 3),o 28 (.slice 1 (t 26) (some (t 27)) none),o 4 (m 28)]),
 (q [(.reg [o 5 (.mv (c (n 1)))]),
 (.block 2 (.loop (q [(q [(.reg [o 29 (m 5),o 30 (m 4),o 31 (ln 30),o 32 (b .lss 29 31)]),
 (i 32 .skip (.exit 2))]),
 (.block 3 (q [(.regd [o 35 (m 4),o 36 (m 5),o 37 (ia 1 35 36),o 38 (l 37),o 39 (m 4),o 40 (m 5),o 41 (bc .sub 40 (n 1)),o 42 (ia 1 39 41),o 43 (l 42),o 44 (b .neq 38 43)] [0,0,3,7,0,0,32,112,240,511]),
 (i 44 (q [(.reg [o 45 (m 0),o 46 (m 3),o 47 (m 4),o 48 (m 5),o 49 (ia 1 47 48),o 50 (l 49),o 51 (ia 1 45 46),w (.store 1 (t 51) (t 50))]),
 (.reg [o 52 (m 3),o 53 (bc .add 52 (n 1)),o 3 (m 53)])]) .skip)])),
 (.reg [o 33 (m 5),o 34 (bc .add 33 (n 1)),o 5 (m 34)])])))]),
 (.reg [o 54 (m 0),o 55 (m 3),o 56 (.slice 1 (t 54) (some (t 55)) none),w (.clear 1 [(n 0)] (t 56))]),
 (.reg [o 57 (m 0),o 58 (m 3),o 59 (.slice 1 (t 57) none (some (t 58))),o 2 (m 59)]),
 .ret]) .skip)])),
 (.reg [o 14 (m 3),o 15 (bc .add 14 (n 1)),o 3 (m 15)])])))]),
 (.reg [o 60 (m 0),o 2 (m 60)]),
 .ret])⟩
def zjt:CFn:=⟨8,[.tmp 2],(q [(.reg [o 2 (.mv (c (u 0)))]),
 (q [(.reg [o 3 (m 0),o 4 (bc .geq 3 (n 64))]),
 (i 4 (q [(.reg [o 2 (.mv (c (u 18446744073709551615)))]),
 .ret]) .skip)]),
 (.reg [o 5 (m 0),o 6 (.bin .shl (c (u 1)) (t 5)),o 7 (bc .sub 6 (u 1)),o 2 (m 7)]),
 .ret])⟩
def zg3:CFn:=⟨17,[.tmp 2],(q [(.reg [o 2 (.mv (c (.nils 1)))]),
 (.reg [o 3 (.mv (c (.nils 1)))]),
 (q [(.reg [o 4 (.mv (c (n 0)))]),
 (.block 0 (.loop (q [(q [(.reg [o 5 (m 4),o 6 (bc .lss 5 (n 64))]),
 (i 6 .skip (.exit 0))]),
 (.block 1 (q [(.reg [o 9 (m 0),o 10 (m 4),o 11 (.call 101 [(t 9),(t 10)])]),
 (i 11 (.reg [o 12 (m 3),o 13 (m 4),o 14 (.bslice 1 1 [(n 0)] [(0,(t 13))]),o 15 (.app 1 8 (t 12) (t 14)),o 3 (m 15)]) .skip)])),
 (.reg [o 7 (m 4),o 8 (bc .add 7 (n 1)),o 4 (m 8)])])))]),
 (.reg [o 16 (m 3),o 2 (m 16)]),
 .ret])⟩
def zg1:CFn:=⟨12,[.tmp 2,.tmp 3],(q [(.reg [o 2 (.mv (c (.nils 1))),o 3 (.mv (c (n 0)))]),
 (q [(.reg [o 4 (m 0),o 5 (bc .lss 4 (n 0)),o 6 (m 5),g 7 6 false (m 0),g 8 6 false (bc .gtr 7 (n 64)),o 9 (pt 6 8)]),
 (i 9 (q [(.reg [o 2 (.mv (c (.nils 1))),o 3 (.mv (c (n 8)))]),
 .ret]) .skip)]),
 (.reg [o 10 (m 0),o 11 (.mkslice 1 8 [(n 0)] (t 10) (t 10)),o 2 (m 11),o 3 (.mv (c (n 0)))]),
 .ret])⟩
def zik:CFn:=⟨20,[.tmp 4,.tmp 5],(q [(.reg [o 4 (.mv (c (.nils 1))),o 5 (.mv (c (n 0)))]),
 (q [(.reg [o 7 (m 0),o 8 (.call 88 [(t 7)]),o 6 (m 8)]),
 (.reg [o 9 (m 6),o 10 (bc .neq 9 (n 0))]),
 (i 10 (q [(.reg [o 11 (m 6),o 4 (.mv (c (.nils 1))),o 5 (m 11)]),
 .ret]) .skip)]),
 (q [(.reg [o 12 (m 1),o 13 (ln 12),o 14 (m 0),o 15 (ln 14),o 16 (b .neq 13 15)]),
 (i 16 (q [(.reg [o 4 (.mv (c (.nils 1))),o 5 (.mv (c (n 3)))]),
 .ret]) .skip)]),
 (.reg [o 17 (m 0),o 18 (m 1),o 19 (.call 143 [(t 17),(t 18)]),o 4 (m 19),o 5 (.mv (c (n 0)))]),
 .ret])⟩
def zij:CFn:=⟨6,[.tmp 2],(q [(.reg [o 2 (.mv (c (n 0)))]),
 (.reg [o 3 (m 0),o 4 (.call 144 [(t 3)]),o 5 (ln 4),o 2 (m 5)]),
 .ret])⟩
def zc1:CFn:=⟨9,[.tmp 4],(q [(.reg [o 4 (.mv (c .bf))]),
 (.reg [o 5 (m 0),o 6 (m 1),o 7 (.call 147 [(t 5),(t 6)]),o 8 (bc .geq 7 (n 0)),o 4 (m 8)]),
 .ret])⟩
def zkK:CFn:=⟨9,[.tmp 3],(q [(.reg [o 3 (.mv (c .bf))]),
 (.reg [o 4 (m 0),o 5 (l 1),o 6 (.call 73 [(t 5)]),o 7 (b .andNot 4 6),o 8 (bc .neq 7 (u 0)),o 3 (m 8)]),
 .ret])⟩
def zc6:CFn:=⟨19,[.tmp 4],(q [(.reg [o 4 (.mv (c (n 0)))]),
 (q [(.reg [o 6 (m 0),o 7 (ln 6),o 8 (.mv (c (n 0)))]),
 (.block 0 (.loop (q [(.reg [o 9 (b .lss 8 7)]),
 (i 9 .skip (.exit 0)),
 (.block 1 (q [(.reg [o 10 (m 8),o 5 (m 10)]),
 (.reg [o 11 (m 1),o 12 (m 0),o 13 (m 5),o 14 (ia 1 12 13),o 15 (l 14),o 16 (.callv (t 11) [(t 15)])]),
 (i 16 (q [(.reg [o 17 (m 5),o 4 (m 17)]),
 .ret]) .skip)])),
 (.reg [o 18 (bc .add 8 (n 1)),o 8 (m 18)])])))]),
 (.reg [o 4 (.mv (c (n (-1))))]),
 .ret])⟩
def zoU:CFn:=⟨25,[.tmp 4],(q [(.reg [o 4 (.mv (c (u 0)))]),
 (.reg [o 5 (.mv (c (u 0)))]),
 (q [(.reg [o 8 (m 1),o 9 (ln 8),o 10 (.mv (c (n 0)))]),
 (.block 0 (.loop (q [(.reg [o 11 (b .lss 10 9)]),
 (i 11 .skip (.exit 0)),
 (.block 1 (q [(.reg [o 12 (m 10),o 13 (ia 1 8 10),o 14 (l 13),o 6 (m 12),o 7 (m 14)]),
 (.reg [o 15 (m 5),o 16 (m 0),o 17 (m 7),o 18 (b .shr 16 17),o 19 (bc .and 18 (u 1)),o 20 (m 6),o 21 (b .shl 19 20),o 22 (b .or 15 21),o 5 (m 22)])])),
 (.reg [o 23 (bc .add 10 (n 1)),o 10 (m 23)])])))]),
 (.reg [o 24 (m 5),o 4 (m 24)]),
 .ret])⟩
def zbF:CFn:=⟨8,[.tmp 2],(q [(.reg [o 2 (.mv (c (.nils 1)))]),
 (q [(.reg [o 3 (m 0),o 4 (.eqN false (t 3) (c (.nils 1)))]),
 (i 4 (q [(.reg [o 2 (.mv (c (.nils 1)))]),
 .ret]) .skip)]),
 (.reg [o 5 (.bslice 1 0 [(.nils 1)] []),o 6 (m 0),o 7 (.app 1 24 (t 5) (t 6)),o 2 (m 7)]),
 .ret])⟩
def zbp:CFn:=⟨14,[],(q [(.reg [o 5 (m 0),o 6 (ln 5),o 4 (m 6)]),
 (.reg [o 7 (m 0),o 8 (m 4),o 9 (m 4),o 10 (.conv .u64 (t 9)),o 11 (.call 140 [(t 10)]),o 12 (m 1),o 13 (.call 159 [(t 7),(c (n 0)),(t 8),(t 11),(t 12)])])])⟩
def zlk:CFn:=⟨8,[.tmp 4],(q [(.reg [o 4 (.mv (c (n 0)))]),
 (.reg [o 5 (m 0),o 6 (m 1),o 7 (.call 160 [(t 5),(t 6),(c (.fn za8 []))]),o 4 (m 7)]),
 .ret])⟩
def zbh:CFn:=⟨66,[.tmp 4],(q [(.reg [o 4 (.mv (c (.nils 1)))]),
 (q [(.reg [o 8 (m 0),o 9 (ln 8),o 10 (bc .lss 9 (n 2))]),
 (i 10 (q [(.reg [o 11 (m 0),o 4 (m 11)]),
 .ret]) .skip)]),
 (q [(.reg [o 5 (.mv (c (n 1)))]),
 (.block 0 (.loop (q [(q [(.reg [o 12 (m 5),o 13 (m 0),o 14 (ln 13),o 15 (b .lss 12 14)]),
 (i 15 .skip (.exit 0))]),
 (.block 1 (q [(.regd [o 18 (m 1),o 19 (m 0),o 20 (m 5),o 21 (ia 1 19 20),o 22 (l 21),o 23 (m 0),o 24 (m 5),o 25 (bc .sub 24 (n 1)),o 26 (ia 1 23 25),o 27 (l 26),o 28 (.callv (t 18) [(t 22),(t 27)])] [0,0,0,6,14,0,0,64,224,480,1023]),
 (i 28 (q [(.reg [o 29 (m 0),o 30 (m 5),o 31 (.slice 1 (t 29) (some (t 30)) none),o 6 (m 31)]),
 (q [(.reg [o 7 (.mv (c (n 1)))]),
 (.block 2 (.loop (q [(q [(.reg [o 32 (m 7),o 33 (m 6),o 34 (ln 33),o 35 (b .lss 32 34)]),
 (i 35 .skip (.exit 2))]),
 (.block 3 (q [(.regd [o 38 (m 1),o 39 (m 6),o 40 (m 7),o 41 (ia 1 39 40),o 42 (l 41),o 43 (m 6),o 44 (m 7),o 45 (bc .sub 44 (n 1)),o 46 (ia 1 43 45),o 47 (l 46),o 48 (.callv (t 38) [(t 42),(t 47)]),o 49 (.un .not (t 48))] [0,0,0,6,14,0,0,64,224,480,1023,2047]),
 (i 49 (q [(.reg [o 50 (m 0),o 51 (m 5),o 52 (m 6),o 53 (m 7),o 54 (ia 1 52 53),o 55 (l 54),o 56 (ia 1 50 51),w (.store 1 (t 56) (t 55))]),
 (.reg [o 57 (m 5),o 58 (bc .add 57 (n 1)),o 5 (m 58)])]) .skip)])),
 (.reg [o 36 (m 7),o 37 (bc .add 36 (n 1)),o 7 (m 37)])])))]),
 (.reg [o 59 (m 0),o 60 (m 5),o 61 (.slice 1 (t 59) (some (t 60)) none),w (.clear 1 [(.nils 1)] (t 61))]),
 (.reg [o 62 (m 0),o 63 (m 5),o 64 (.slice 1 (t 62) none (some (t 63))),o 4 (m 64)]),
 .ret]) .skip)])),
 (.reg [o 16 (m 5),o 17 (bc .add 16 (n 1)),o 5 (m 17)])])))]),
 (.reg [o 65 (m 0),o 4 (m 65)]),
 .ret])⟩
def zjs:CFn:=⟨9,[.tmp 4],(q [(.reg [o 4 (.mv (c .bf))]),
 (.reg [o 5 (m 0),o 6 (m 1),o 7 (.call 135 [(t 5),(t 6)]),o 8 (bc .eql 7 (n 0)),o 4 (m 8)]),
 .ret])⟩
def zai:CFn:=⟨49,[.tmp 6,.tmp 7],(q [(.reg [o 6 (.mv (c (n 0))),o 7 (.mv (c .bf))]),
 (.reg [o 12 (m 0),o 13 (ln 12),o 8 (m 13)]),
 (.reg [o 14 (m 8),o 9 (.mv (c (n 0))),o 10 (m 14)]),
 (.block 0 (.loop (q [(q [(.reg [o 15 (m 9),o 16 (m 10),o 17 (b .lss 15 16)]),
 (i 17 .skip (.exit 0))]),
 (.block 1 (q [(.reg [o 18 (m 9),o 19 (m 10),o 20 (b .add 18 19),o 21 (.conv .u64 (t 20)),o 22 (bc .shr 21 (u 1)),o 23 (.conv .i64 (t 22)),o 11 (m 23)]),
 (.reg [o 24 (m 2),o 25 (m 0),o 26 (m 11),o 27 (ia 1 25 26),o 28 (l 27),o 29 (m 1),o 30 (.callv (t 24) [(t 28),(t 29)]),o 31 (bc .lss 30 (n 0))]),
 (i 31 (.reg [o 32 (m 11),o 33 (bc .add 32 (n 1)),o 9 (m 33)]) (.reg [o 34 (m 11),o 10 (m 34)]))]))]))),
 (.reg [o 35 (m 9),o 36 (m 9),o 37 (m 8),o 38 (b .lss 36 37),o 39 (m 38),g 40 39 true (m 2),g 41 39 true (m 0),g 42 39 true (m 9),g 43 39 true (ia 1 41 42),g 44 39 true (l 43),g 45 39 true (m 1),g 46 39 true (.callv (t 40) [(t 44),(t 45)]),g 47 39 true (bc .eql 46 (n 0)),o 48 (pf 39 47),o 6 (m 35),o 7 (m 48)]),
 .ret])⟩
def zeO:CFn:=⟨134,[],(q [(.reg [o 8 (.mv (c .bt))]),
 (.reg [o 9 (.mv (c .bt))]),
 (.block 0 (.loop (.block 1 (q [(.reg [o 19 (m 2),o 20 (m 1),o 21 (b .sub 19 20),o 10 (m 21)]),
 (q [(.reg [o 22 (m 10),o 23 (bc .leq 22 (n 12))]),
 (i 23 (q [(.reg [o 24 (m 0),o 25 (m 1),o 26 (m 2),o 27 (.call 164 [(t 24),(t 25),(t 26)])]),
 .ret]) .skip)]),
 (q [(.reg [o 28 (m 3),o 29 (bc .eql 28 (n 0))]),
 (i 29 (q [(.reg [o 30 (m 0),o 31 (m 1),o 32 (m 2),o 33 (.call 165 [(t 30),(t 31),(t 32)])]),
 .ret]) .skip)]),
 (q [(.reg [o 34 (m 8),o 35 (.un .not (t 34))]),
 (i 35 (q [(.reg [o 36 (m 0),o 37 (m 1),o 38 (m 2),o 39 (.call 166 [(t 36),(t 37),(t 38)])]),
 (.reg [o 40 (m 3),o 41 (bc .sub 40 (n 1)),o 3 (m 41)])]) .skip)]),
 (.reg [o 43 (m 0),o 44 (m 1),o 45 (m 2),o 46 (.call 167 [(t 43),(t 44),(t 45)]),o 42 (m 46),o 47 (e 42 0),o 48 (e 42 1),o 11 (m 47),o 12 (m 48)]),
 (q [(.reg [o 49 (m 12),o 50 (bc .eql 49 (n 2))]),
 (i 50 (q [(.reg [o 51 (m 0),o 52 (m 1),o 53 (m 2),o 54 (.call 168 [(t 51),(t 52),(t 53)])]),
 (.reg [o 55 (m 2),o 56 (bc .sub 55 (n 1)),o 57 (m 11),o 58 (m 1),o 59 (b .sub 57 58),o 60 (b .sub 56 59),o 11 (m 60)]),
 (.reg [o 12 (.mv (c (n 1)))])]) .skip)]),
 (q [(.reg [o 61 (m 8),o 62 (m 61),g 63 62 true (m 9),o 64 (pf 62 63),o 65 (m 64),g 66 65 true (m 12),g 67 65 true (bc .eql 66 (n 1)),o 68 (pf 65 67)]),
 (i 68 (q [(.reg [o 69 (m 0),o 70 (m 1),o 71 (m 2),o 72 (.call 169 [(t 69),(t 70),(t 71)])]),
 (i 72 .ret .skip)]) .skip)]),
 (q [(.regd [o 73 (m 1),o 74 (bc .gtr 73 (n 0)),o 75 (m 74),g 76 75 true (m 0),g 77 75 true (m 1),g 78 75 true (bc .sub 77 (n 1)),g 79 75 true (ia 1 76 78),g 80 75 true (l 79),g 81 75 true (m 0),g 82 75 true (m 11),g 83 75 true (ia 1 81 82),g 84 75 true (l 83),g 85 75 true (.call 170 [(t 80),(t 84)]),g 86 75 true (.un .not (t 85)),o 87 (pf 75 86)] [0,1,3,7,7,23,63,127,7,7,775,1799,4095,8191,16383]),
 (i 87 (q [(.reg [o 88 (m 0),o 89 (m 1),o 90 (m 2),o 91 (m 11),o 92 (.call 171 [(t 88),(t 89),(t 90),(t 91)]),o 13 (m 92)]),
 (.reg [o 93 (m 13),o 1 (m 93)]),
 (.exit 1)]) .skip)]),
 (.reg [o 95 (m 0),o 96 (m 1),o 97 (m 2),o 98 (m 11),o 99 (.call 172 [(t 95),(t 96),(t 97),(t 98)]),o 94 (m 99),o 100 (e 94 0),o 101 (e 94 1),o 14 (m 100),o 15 (m 101)]),
 (.reg [o 102 (m 15),o 9 (m 102)]),
 (.reg [o 103 (m 14),o 104 (m 1),o 105 (b .sub 103 104),o 106 (m 2),o 107 (m 14),o 108 (b .sub 106 107),o 16 (m 105),o 17 (m 108)]),
 (.reg [o 109 (m 10),o 110 (bc .quo 109 (n 8)),o 18 (m 110)]),
 (.reg [o 111 (m 16),o 112 (m 17),o 113 (b .lss 111 112)]),
 (i 113 (q [(.reg [o 114 (m 16),o 115 (m 18),o 116 (b .geq 114 115),o 8 (m 116)]),
 (.reg [o 117 (m 0),o 118 (m 1),o 119 (m 14),o 120 (m 3),o 121 (.call 139 [(t 117),(t 118),(t 119),(t 120)])]),
 (.reg [o 122 (m 14),o 123 (bc .add 122 (n 1)),o 1 (m 123)])]) (q [(.reg [o 124 (m 17),o 125 (m 18),o 126 (b .geq 124 125),o 8 (m 126)]),
 (.reg [o 127 (m 0),o 128 (m 14),o 129 (bc .add 128 (n 1)),o 130 (m 2),o 131 (m 3),o 132 (.call 139 [(t 127),(t 129),(t 130),(t 131)])]),
 (.reg [o 133 (m 14),o 2 (m 133)])]))]))))])⟩
def zma:CFn:=⟨8,[.tmp 2],(q [(.reg [o 2 (.mv (c (n 0)))]),
 (.cond (c .bf) (q [(.reg [o 3 (m 0),o 4 (.conv .u32 (t 3)),o 5 (.call 173 [(t 4)]),o 2 (m 5)]),
 .ret]) .skip),
 (.reg [o 6 (m 0),o 7 (.call 92 [(t 6)]),o 2 (m 7)]),
 .ret])⟩
def zjd:CFn:=⟨39,[.tmp 4],(q [(.reg [o 4 (.mv (c (n 0)))]),
 (q [(.reg [o 6 (m 0),o 7 (ln 6),o 8 (.mv (c (n 0)))]),
 (.block 0 (.loop (q [(.reg [o 9 (b .lss 8 7)]),
 (i 9 .skip (.exit 0)),
 (.block 1 (q [(.reg [o 10 (m 8),o 5 (m 10)]),
 (q [(.reg [o 11 (m 5),o 12 (m 1),o 13 (ln 12),o 14 (b .geq 11 13)]),
 (i 14 (q [(.reg [o 4 (.mv (c (n 1)))]),
 .ret]) .skip)]),
 (.regd [o 15 (m 0),o 16 (m 5),o 17 (ia 1 15 16),o 18 (l 17),o 19 (m 1),o 20 (m 5),o 21 (ia 1 19 20),o 22 (l 21),o 23 (b .neq 18 22)] [0,0,3,7,0,0,48,112,255]),
 (i 23 (q [(q [(.regd [o 24 (m 0),o 25 (m 5),o 26 (ia 1 24 25),o 27 (l 26),o 28 (m 1),o 29 (m 5),o 30 (ia 1 28 29),o 31 (l 30),o 32 (b .lss 27 31)] [0,0,3,7,0,0,48,112,255]),
 (i 32 (q [(.reg [o 4 (.mv (c (n (-1))))]),
 .ret]) .skip)]),
 (.reg [o 4 (.mv (c (n 1)))]),
 .ret]) .skip)])),
 (.reg [o 33 (bc .add 8 (n 1)),o 8 (m 33)])])))]),
 (q [(.reg [o 34 (m 0),o 35 (ln 34),o 36 (m 1),o 37 (ln 36),o 38 (b .lss 35 37)]),
 (i 38 (q [(.reg [o 4 (.mv (c (n (-1))))]),
 .ret]) .skip)]),
 (.reg [o 4 (.mv (c (n 0)))]),
 .ret])⟩
def zg4:CFn:=⟨24,[.tmp 4],(q [(.reg [o 4 (.mv (c (u 0)))]),
 (.reg [o 5 (.mv (c (u 0)))]),
 (q [(.reg [o 6 (.mv (c (n 0)))]),
 (.block 0 (.loop (q [(q [(.reg [o 7 (m 6),o 8 (m 1),o 9 (ln 8),o 10 (b .lss 7 9)]),
 (i 10 .skip (.exit 0))]),
 (.block 1 (q [(.reg [o 13 (m 0),o 14 (m 1),o 15 (m 6),o 16 (ia 1 14 15),o 17 (l 16),o 18 (.call 101 [(t 13),(t 17)])]),
 (i 18 (.reg [o 19 (m 5),o 20 (m 6),o 21 (.bin .shl (c (u 1)) (t 20)),o 22 (b .or 19 21),o 5 (m 22)]) .skip)])),
 (.reg [o 11 (m 6),o 12 (bc .add 11 (n 1)),o 6 (m 12)])])))]),
 (.reg [o 23 (m 5),o 4 (m 23)]),
 .ret])⟩
def zf8:CFn:=⟨47,[.tmp 4],(q [(.reg [o 4 (.mv (c (.nils 1)))]),
 (.reg [o 5 (.mv (c (.nils 1)))]),
 (q [(.reg [o 9 (m 0),o 10 (ln 9),o 11 (.mv (c (n 0)))]),
 (.block 0 (.loop (q [(.reg [o 12 (b .lss 11 10)]),
 (i 12 .skip (.exit 0)),
 (.block 1 (q [(.reg [o 13 (m 11),o 6 (m 13)]),
 (.reg [o 14 (m 6),o 7 (m 14)]),
 (q [(.reg [o 15 (m 6),o 8 (m 15)]),
 (.block 2 (.loop (q [(q [(.reg [o 16 (m 8),o 17 (bc .geq 16 (n 0))]),
 (i 17 .skip (.exit 2))]),
 (.block 3 (q [(.regd [o 20 (m 0),o 21 (m 8),o 22 (ia 1 20 21),o 23 (l 22),o 24 (m 0),o 25 (m 6),o 26 (ia 1 24 25),o 27 (l 26),o 28 (b .eql 23 27),o 29 (m 28),g 30 29 true (m 1),g 31 29 true (m 8),g 32 29 true (ia 1 30 31),g 33 29 true (l 32),g 34 29 true (m 1),g 35 29 true (m 6),g 36 29 true (ia 1 34 35),g 37 29 true (l 36),g 38 29 true (b .eql 33 37),o 39 (pf 29 38)] [0,0,3,7,0,0,48,112,255,511,1023,1023,4095,8191,1023,1023,50175,115711,262143,524287]),
 (i 39 (.reg [o 40 (m 8),o 7 (m 40)]) .skip)])),
 (.reg [o 18 (m 8),o 19 (bc .sub 18 (n 1)),o 8 (m 19)])])))]),
 (.reg [o 41 (m 5),o 42 (m 7),o 43 (.bslice 1 1 [(n 0)] [(0,(t 42))]),o 44 (.app 1 8 (t 41) (t 43)),o 5 (m 44)])])),
 (.reg [o 45 (bc .add 11 (n 1)),o 11 (m 45)])])))]),
 (.reg [o 46 (m 5),o 4 (m 46)]),
 .ret])⟩
def zhn:CFn:=⟨27,[.tmp 2],(q [(.reg [o 2 (.mv (c (.nils 1)))]),
 (q [(.reg [o 5 (m 0),o 6 (.call 88 [(t 5)]),o 7 (bc .neq 6 (n 0))]),
 (i 7 (q [(.reg [o 2 (.mv (c (.nils 1)))]),
 .ret]) .skip)]),
 (.reg [o 3 (.mv (c (.nils 1)))]),
 (q [(.reg [o 8 (m 0),o 9 (ln 8),o 10 (.mv (c (n 0)))]),
 (.block 0 (.loop (q [(.reg [o 11 (b .lss 10 9)]),
 (i 11 .skip (.exit 0)),
 (.block 1 (q [(.reg [o 12 (m 10),o 4 (m 12)]),
 (.reg [o 13 (m 0),o 14 (m 4),o 15 (ia 1 13 14),o 16 (l 15),o 17 (m 4),o 18 (b .eql 16 17)]),
 (i 18 (.reg [o 19 (m 3),o 20 (m 0),o 21 (m 4),o 22 (.call 174 [(t 20),(t 21)]),o 23 (.bslice 1 1 [(u 0)] [(0,(t 22))]),o 24 (.app 1 8 (t 19) (t 23)),o 3 (m 24)]) .skip)])),
 (.reg [o 25 (bc .add 10 (n 1)),o 10 (m 25)])])))]),
 (.reg [o 26 (m 3),o 2 (m 26)]),
 .ret])⟩
def zdD:CFn:=⟨19,[.tmp 4],(q [(.reg [o 4 (.mv (c (n 0)))]),
 (q [(.reg [o 6 (m 0),o 7 (ln 6),o 8 (.mv (c (n 0)))]),
 (.block 0 (.loop (q [(.reg [o 9 (b .lss 8 7)]),
 (i 9 .skip (.exit 0)),
 (.block 1 (q [(.reg [o 10 (m 8),o 5 (m 10)]),
 (.reg [o 11 (m 1),o 12 (m 0),o 13 (m 5),o 14 (ia 1 12 13),o 15 (l 14),o 16 (.callv (t 11) [(t 15)])]),
 (i 16 (q [(.reg [o 17 (m 5),o 4 (m 17)]),
 .ret]) .skip)])),
 (.reg [o 18 (bc .add 8 (n 1)),o 8 (m 18)])])))]),
 (.reg [o 4 (.mv (c (n (-1))))]),
 .ret])⟩
def zcJ:CFn:=⟨148,[],(q [(.reg [o 10 (.mv (c .bt))]),
 (.reg [o 11 (.mv (c .bt))]),
 (.block 0 (.loop (.block 1 (q [(.reg [o 21 (m 2),o 22 (m 1),o 23 (b .sub 21 22),o 12 (m 23)]),
 (q [(.reg [o 24 (m 12),o 25 (bc .leq 24 (n 12))]),
 (i 25 (q [(.reg [o 26 (m 0),o 27 (m 1),o 28 (m 2),o 29 (m 4),o 30 (.call 183 [(t 26),(t 27),(t 28),(t 29)])]),
 .ret]) .skip)]),
 (q [(.reg [o 31 (m 3),o 32 (bc .eql 31 (n 0))]),
 (i 32 (q [(.reg [o 33 (m 0),o 34 (m 1),o 35 (m 2),o 36 (m 4),o 37 (.call 184 [(t 33),(t 34),(t 35),(t 36)])]),
 .ret]) .skip)]),
 (q [(.reg [o 38 (m 10),o 39 (.un .not (t 38))]),
 (i 39 (q [(.reg [o 40 (m 0),o 41 (m 1),o 42 (m 2),o 43 (m 4),o 44 (.call 185 [(t 40),(t 41),(t 42),(t 43)])]),
 (.reg [o 45 (m 3),o 46 (bc .sub 45 (n 1)),o 3 (m 46)])]) .skip)]),
 (.reg [o 48 (m 0),o 49 (m 1),o 50 (m 2),o 51 (m 4),o 52 (.call 186 [(t 48),(t 49),(t 50),(t 51)]),o 47 (m 52),o 53 (e 47 0),o 54 (e 47 1),o 13 (m 53),o 14 (m 54)]),
 (q [(.reg [o 55 (m 14),o 56 (bc .eql 55 (n 2))]),
 (i 56 (q [(.reg [o 57 (m 0),o 58 (m 1),o 59 (m 2),o 60 (m 4),o 61 (.call 187 [(t 57),(t 58),(t 59),(t 60)])]),
 (.reg [o 62 (m 2),o 63 (bc .sub 62 (n 1)),o 64 (m 13),o 65 (m 1),o 66 (b .sub 64 65),o 67 (b .sub 63 66),o 13 (m 67)]),
 (.reg [o 14 (.mv (c (n 1)))])]) .skip)]),
 (q [(.reg [o 68 (m 10),o 69 (m 68),g 70 69 true (m 11),o 71 (pf 69 70),o 72 (m 71),g 73 72 true (m 14),g 74 72 true (bc .eql 73 (n 1)),o 75 (pf 72 74)]),
 (i 75 (q [(.reg [o 76 (m 0),o 77 (m 1),o 78 (m 2),o 79 (m 4),o 80 (.call 188 [(t 76),(t 77),(t 78),(t 79)])]),
 (i 80 .ret .skip)]) .skip)]),
 (q [(.regd [o 81 (m 1),o 82 (bc .gtr 81 (n 0)),o 83 (m 82),g 84 83 true (m 4),g 85 83 true (m 0),g 86 83 true (m 1),g 87 83 true (bc .sub 86 (n 1)),g 88 83 true (ia 1 85 87),g 89 83 true (l 88),g 90 83 true (m 0),g 91 83 true (m 13),g 92 83 true (ia 1 90 91),g 93 83 true (l 92),g 94 83 true (.callv (t 84) [(t 89),(t 93)]),g 95 83 true (bc .lss 94 (n 0)),g 96 83 true (.un .not (t 95)),o 97 (pf 83 96)] [0,1,3,7,7,7,39,119,247,7,7,1543,3591,8191,16383,32767,65535]),
 (i 97 (q [(.reg [o 98 (m 0),o 99 (m 1),o 100 (m 2),o 101 (m 13),o 102 (m 4),o 103 (.call 189 [(t 98),(t 99),(t 100),(t 101),(t 102)]),o 15 (m 103)]),
 (.reg [o 104 (m 15),o 1 (m 104)]),
 (.exit 1)]) .skip)]),
 (.reg [o 106 (m 0),o 107 (m 1),o 108 (m 2),o 109 (m 13),o 110 (m 4),o 111 (.call 190 [(t 106),(t 107),(t 108),(t 109),(t 110)]),o 105 (m 111),o 112 (e 105 0),o 113 (e 105 1),o 16 (m 112),o 17 (m 113)]),
 (.reg [o 114 (m 17),o 11 (m 114)]),
 (.reg [o 115 (m 16),o 116 (m 1),o 117 (b .sub 115 116),o 118 (m 2),o 119 (m 16),o 120 (b .sub 118 119),o 18 (m 117),o 19 (m 120)]),
 (.reg [o 121 (m 12),o 122 (bc .quo 121 (n 8)),o 20 (m 122)]),
 (.reg [o 123 (m 18),o 124 (m 19),o 125 (b .lss 123 124)]),
 (i 125 (q [(.reg [o 126 (m 18),o 127 (m 20),o 128 (b .geq 126 127),o 10 (m 128)]),
 (.reg [o 129 (m 0),o 130 (m 1),o 131 (m 16),o 132 (m 3),o 133 (m 4),o 134 (.call 159 [(t 129),(t 130),(t 131),(t 132),(t 133)])]),
 (.reg [o 135 (m 16),o 136 (bc .add 135 (n 1)),o 1 (m 136)])]) (q [(.reg [o 137 (m 19),o 138 (m 20),o 139 (b .geq 137 138),o 10 (m 139)]),
 (.reg [o 140 (m 0),o 141 (m 16),o 142 (bc .add 141 (n 1)),o 143 (m 2),o 144 (m 3),o 145 (m 4),o 146 (.call 159 [(t 140),(t 142),(t 143),(t 144),(t 145)])]),
 (.reg [o 147 (m 16),o 2 (m 147)])]))]))))])⟩
def zf5:CFn:=⟨36,[.tmp 6],(q [(.reg [o 6 (.mv (c (n 0)))]),
 (q [(.reg [o 9 (m 0),o 10 (ln 9),o 11 (m 1),o 12 (ln 11),o 13 (.mm false (t 10) (t 12)),o 14 (.mv (c (n 0)))]),
 (.block 0 (.loop (q [(.reg [o 15 (b .lss 14 13)]),
 (i 15 .skip (.exit 0)),
 (.block 1 (q [(.reg [o 16 (m 14),o 7 (m 16)]),
 (.regd [o 17 (m 2),o 18 (m 0),o 19 (m 7),o 20 (ia 1 18 19),o 21 (l 20),o 22 (m 1),o 23 (m 7),o 24 (ia 1 22 23),o 25 (l 24),o 26 (.callv (t 17) [(t 21),(t 25)]),o 8 (m 26)] [0,0,0,6,14,0,0,96,224,511,1023]),
 (.reg [o 27 (m 8),o 28 (bc .neq 27 (n 0))]),
 (i 28 (q [(.reg [o 29 (m 8),o 6 (m 29)]),
 .ret]) .skip)])),
 (.reg [o 30 (bc .add 14 (n 1)),o 14 (m 30)])])))]),
 (.reg [o 31 (m 0),o 32 (ln 31),o 33 (m 1),o 34 (ln 33),o 35 (.call 163 [(t 32),(t 34)]),o 6 (m 35)]),
 .ret])⟩
def zjr:CFn:=⟨8,[.tmp 4],(q [(.reg [o 4 (.mv (c (n 0)))]),
 (.reg [o 5 (m 0),o 6 (m 1),o 7 (.call 162 [(t 5),(t 6),(c (.fn za7 []))]),o 4 (m 7)]),
 .ret])⟩
def zgB:CFn:=⟨36,[.tmp 6],(q [(.reg [o 6 (.mv (c (n 0)))]),
 (q [(.reg [o 9 (m 0),o 10 (ln 9),o 11 (m 1),o 12 (ln 11),o 13 (.mm false (t 10) (t 12)),o 14 (.mv (c (n 0)))]),
 (.block 0 (.loop (q [(.reg [o 15 (b .lss 14 13)]),
 (i 15 .skip (.exit 0)),
 (.block 1 (q [(.reg [o 16 (m 14),o 7 (m 16)]),
 (.regd [o 17 (m 2),o 18 (m 0),o 19 (m 7),o 20 (ia 1 18 19),o 21 (l 20),o 22 (m 1),o 23 (m 7),o 24 (ia 1 22 23),o 25 (l 24),o 26 (.callv (t 17) [(t 21),(t 25)]),o 8 (m 26)] [0,0,0,6,14,0,0,96,224,511,1023]),
 (.reg [o 27 (m 8),o 28 (bc .neq 27 (n 0))]),
 (i 28 (q [(.reg [o 29 (m 8),o 6 (m 29)]),
 .ret]) .skip)])),
 (.reg [o 30 (bc .add 14 (n 1)),o 14 (m 30)])])))]),
 (.reg [o 31 (m 0),o 32 (ln 31),o 33 (m 1),o 34 (ln 33),o 35 (.call 163 [(t 32),(t 34)]),o 6 (m 35)]),
 .ret])⟩
def zjp:CFn:=⟨20,[.tmp 4],(q [(.reg [o 4 (.mv (c (n 0)))]),
 (.reg [o 7 (m 0),o 8 (.call 191 [(t 7)]),o 5 (m 8)]),
 (.reg [o 9 (m 1),o 10 (.call 191 [(t 9)]),o 6 (m 10)]),
 (q [(.reg [o 11 (m 5)]),
 (i 11 (q [(q [(.reg [o 12 (m 6)]),
 (i 12 (q [(.reg [o 4 (.mv (c (n 0)))]),
 .ret]) .skip)]),
 (.reg [o 4 (.mv (c (n (-1))))]),
 .ret]) .skip)]),
 (q [(.reg [o 13 (m 6)]),
 (i 13 (q [(.reg [o 4 (.mv (c (n 1)))]),
 .ret]) .skip)]),
 (q [(.reg [o 14 (m 0),o 15 (m 1),o 16 (b .lss 14 15)]),
 (i 16 (q [(.reg [o 4 (.mv (c (n (-1))))]),
 .ret]) .skip)]),
 (q [(.reg [o 17 (m 0),o 18 (m 1),o 19 (b .gtr 17 18)]),
 (i 19 (q [(.reg [o 4 (.mv (c (n 1)))]),
 .ret]) .skip)]),
 (.reg [o 4 (.mv (c (n 0)))]),
 .ret])⟩
def zdE:CFn:=⟨49,[],(q [(.reg [o 8 (m 1),o 9 (bc .add 8 (n 1)),o 6 (m 9)]),
 (.block 0 (.loop (q [(q [(.reg [o 10 (m 6),o 11 (m 2),o 12 (b .lss 10 11)]),
 (i 12 .skip (.exit 0))]),
 (.block 1 (q [(.reg [o 15 (m 6),o 7 (m 15)]),
 (.block 2 (.loop (q [(q [(.regd [o 16 (m 7),o 17 (m 1),o 18 (b .gtr 16 17),o 19 (m 18),g 20 19 true (m 0),g 21 19 true (m 7),g 22 19 true (ia 1 20 21),g 23 19 true (l 22),g 24 19 true (m 0),g 25 19 true (m 7),g 26 19 true (bc .sub 25 (n 1)),g 27 19 true (ia 1 24 26),g 28 19 true (l 27),g 29 19 true (.call 170 [(t 23),(t 28)]),o 30 (pf 19 29)] [0,0,3,7,15,15,63,127,15,15,527,1807,3855,8191,16383]),
 (i 30 .skip (.exit 2))]),
 (.block 3 (.regd [o 33 (m 0),o 34 (m 7),o 35 (m 0),o 36 (m 7),o 37 (bc .sub 36 (n 1)),o 38 (m 0),o 39 (m 7),o 40 (bc .sub 39 (n 1)),o 41 (ia 1 38 40),o 42 (l 41),o 43 (m 0),o 44 (m 7),o 45 (ia 1 43 44),o 46 (l 45),o 47 (ia 1 33 34),w (.store 1 (t 47) (t 42)),o 48 (ia 1 35 37),w (.store 1 (t 48) (t 46))] [0,0,0,0,8,0,0,64,224,480,0,0,3072,7168,16355,32739,65535,131071])),
 (.reg [o 31 (m 7),o 32 (bc .sub 31 (n 1)),o 7 (m 32)])])))])),
 (.reg [o 13 (m 6),o 14 (bc .add 13 (n 1)),o 6 (m 14)])])))])⟩
def zl9:CFn:=⟨17,[.tmp 4],(q [(.reg [o 4 (.mv (c .bf))]),
 (.reg [o 5 (m 0),o 6 (.call 191 [(t 5)]),o 7 (m 6),g 8 7 true (m 1),g 9 7 true (.call 191 [(t 8)]),g 10 7 true (.un .not (t 9)),o 11 (pf 7 10),o 12 (m 11),g 13 12 false (m 0),g 14 12 false (m 1),g 15 12 false (b .lss 13 14),o 16 (pt 12 15),o 4 (m 16)]),
 .ret])⟩
def zih:CFn:=⟨42,[.tmp 4],(q [(.reg [o 4 (.mv (c (u 0)))]),
 (q [(.reg [o 8 (m 0),o 9 (.call 88 [(t 8)]),o 10 (bc .neq 9 (n 0)),o 11 (m 10),g 12 11 false (m 1),g 13 11 false (bc .lss 12 (n 0)),o 14 (pt 11 13),o 15 (m 14),g 16 15 false (m 1),g 17 15 false (m 0),g 18 15 false (ln 17),g 19 15 false (b .geq 16 18),o 20 (pt 15 19)]),
 (i 20 (q [(.reg [o 4 (.mv (c (u 0)))]),
 .ret]) .skip)]),
 (.reg [o 5 (.mv (c (u 0))),o 6 (.mv (c (u 1)))]),
 (q [(.reg [o 21 (m 0),o 22 (ln 21),o 23 (.mv (c (n 0)))]),
 (.block 0 (.loop (q [(.reg [o 24 (b .lss 23 22)]),
 (i 24 .skip (.exit 0)),
 (.block 1 (q [(.reg [o 25 (m 23),o 7 (m 25)]),
 (q [(.regd [o 26 (m 0),o 27 (m 7),o 28 (ia 1 26 27),o 29 (l 28),o 30 (m 0),o 31 (m 1),o 32 (ia 1 30 31),o 33 (l 32),o 34 (b .eql 29 33)] [0,0,3,7,0,0,48,112,255]),
 (i 34 (.reg [o 35 (m 5),o 36 (m 6),o 37 (b .add 35 36),o 5 (m 37)]) .skip)]),
 (.reg [o 38 (m 6),o 39 (bc .mul 38 (u 2)),o 6 (m 39)])])),
 (.reg [o 40 (bc .add 23 (n 1)),o 23 (m 40)])])))]),
 (.reg [o 41 (m 5),o 4 (m 41)]),
 .ret])⟩
def zbN:CFn:=⟨53,[],(q [(.reg [o 10 (m 1),o 11 (bc .add 10 (n 1)),o 8 (m 11)]),
 (.block 0 (.loop (q [(q [(.reg [o 12 (m 8),o 13 (m 2),o 14 (b .lss 12 13)]),
 (i 14 .skip (.exit 0))]),
 (.block 1 (q [(.reg [o 17 (m 8),o 9 (m 17)]),
 (.block 2 (.loop (q [(q [(.regd [o 18 (m 9),o 19 (m 1),o 20 (b .gtr 18 19),o 21 (m 20),g 22 21 true (m 3),g 23 21 true (m 0),g 24 21 true (m 9),g 25 21 true (ia 1 23 24),g 26 21 true (l 25),g 27 21 true (m 0),g 28 21 true (m 9),g 29 21 true (bc .sub 28 (n 1)),g 30 21 true (ia 1 27 29),g 31 21 true (l 30),g 32 21 true (.callv (t 22) [(t 26),(t 31)]),g 33 21 true (bc .lss 32 (n 0)),o 34 (pf 21 33)] [0,0,3,7,15,15,15,111,239,15,15,1039,3599,7695,16383,32767,65535]),
 (i 34 .skip (.exit 2))]),
 (.block 3 (.regd [o 37 (m 0),o 38 (m 9),o 39 (m 0),o 40 (m 9),o 41 (bc .sub 40 (n 1)),o 42 (m 0),o 43 (m 9),o 44 (bc .sub 43 (n 1)),o 45 (ia 1 42 44),o 46 (l 45),o 47 (m 0),o 48 (m 9),o 49 (ia 1 47 48),o 50 (l 49),o 51 (ia 1 37 38),w (.store 1 (t 51) (t 46)),o 52 (ia 1 39 41),w (.store 1 (t 52) (t 50))] [0,0,0,0,8,0,0,64,224,480,0,0,3072,7168,16355,32739,65535,131071])),
 (.reg [o 35 (m 9),o 36 (bc .sub 35 (n 1)),o 9 (m 36)])])))])),
 (.reg [o 15 (m 8),o 16 (bc .add 15 (n 1)),o 8 (m 16)])])))])⟩
def zlj:CFn:=⟨6,[.tmp 2],(q [(.reg [o 2 (.mv (c .bf))]),
 (.reg [o 3 (m 0),o 4 (m 0),o 5 (b .neq 3 4),o 2 (m 5)]),
 .ret])⟩
end Go.Ab
namespace Go.Ab
open Go Go.Proofs
theorem zw:Tryz.prog.follows .mixedOrders=true:=by kernel_rfl
theorem zjX:zi Tryz.prog zfj=some zju:=by kernel_rfl
theorem zgk:zi Tryz.prog zdb=some zf6:=by kernel_rfl
theorem zcx:zi Tryz.prog zep=some zig:=by kernel_rfl
theorem zbu:zi Tryz.prog zdf=some zga:=by kernel_rfl
theorem zjh:zi Tryz.prog zeH=some zjb:=by kernel_rfl
theorem ziJ:zi Tryz.prog zeu=some zil:=by kernel_rfl
theorem zkO:zi Tryz.prog zfE=some zkJ:=by kernel_rfl
theorem zgl:zi Tryz.prog zdc=some zf7:=by kernel_rfl
theorem zop:zi Tryz.prog zdV=some zol:=by kernel_rfl
theorem zoo:zi Tryz.prog zdU=some zok:=by kernel_rfl
theorem znf:zi Tryz.prog zhz=some zm4:=by kernel_rfl
theorem zjg:zi Tryz.prog zeG=some zja:=by kernel_rfl
theorem zkM:zi Tryz.prog zfC=some zkH:=by kernel_rfl
theorem zkN:zi Tryz.prog zdF=some zkI:=by kernel_rfl
theorem ziK:zi Tryz.prog zev=some zim:=by kernel_rfl
theorem ziL:zi Tryz.prog zcv=some zin:=by kernel_rfl
theorem zjk:zi Tryz.prog zeK=some zje:=by kernel_rfl
theorem zhK:zi Tryz.prog zd7=some zho:=by kernel_rfl
theorem zlE:zi Tryz.prog zgf=some zlm:=by kernel_rfl
theorem zkL:zi Tryz.prog zfB=some zkG:=by kernel_rfl
theorem zgn:zi Tryz.prog zde=some zf9:=by kernel_rfl
theorem zgH:zi Tryz.prog zdA=some zgD:=by kernel_rfl
theorem zhd:zi Tryz.prog zdQ=some zg5:=by kernel_rfl
theorem zhN:zi Tryz.prog zea=some zhr:=by kernel_rfl
theorem zgI:zi Tryz.prog zdB=some zgE:=by kernel_rfl
theorem zhL:zi Tryz.prog zd8=some zhp:=by kernel_rfl
theorem zqE:zi Tryz.prog zkV=some zqg:=by kernel_rfl
theorem zmF:zi Tryz.prog zgN=some zme:=by kernel_rfl
theorem zcL:zi Tryz.prog zaQ=some zcI:=by kernel_rfl
theorem zmC:zi Tryz.prog zcY=some zmb:=by kernel_rfl
theorem zmD:zi Tryz.prog zeq=some zmc:=by kernel_rfl
theorem ziG:zi Tryz.prog zer=some zii:=by kernel_rfl
theorem zjT:zi Tryz.prog zfh=some zjq:=by kernel_rfl
theorem zlD:zi Tryz.prog zdZ=some zll:=by kernel_rfl
theorem zgG:zi Tryz.prog zdz=some zgC:=by kernel_rfl
theorem zjY:zi Tryz.prog zfk=some zjv:=by kernel_rfl
theorem zhM:zi Tryz.prog zd9=some zhq:=by kernel_rfl
theorem zhO:zi Tryz.prog zeb=some zhs:=by kernel_rfl
theorem zha:zi Tryz.prog zdN=some zg2:=by kernel_rfl
theorem zji:zi Tryz.prog zeI=some zjc:=by kernel_rfl
theorem zmE:zi Tryz.prog zgM=some zmd:=by kernel_rfl
theorem zjf:zi Tryz.prog zbC=some zi9:=by kernel_rfl
theorem zcK:zi Tryz.prog zax=some zfs:=by kernel_rfl
theorem zjW:zi Tryz.prog zfi=some zjt:=by kernel_rfl
theorem zhb:zi Tryz.prog zdO=some zg3:=by kernel_rfl
theorem zg9:zi Tryz.prog zdM=some zg1:=by kernel_rfl
theorem ziI:zi Tryz.prog zet=some zik:=by kernel_rfl
theorem ziH:zi Tryz.prog zes=some zij:=by kernel_rfl
theorem zc2:zi Tryz.prog za4=some zc1:=by kernel_rfl
theorem zkP:zi Tryz.prog zcd=some zkK:=by kernel_rfl
theorem zdi:zi Tryz.prog za9=some zc6:=by kernel_rfl
theorem zpv:zi Tryz.prog zjH=some zoU:=by kernel_rfl
theorem zbG:zi Tryz.prog zU=some zbF:=by kernel_rfl
theorem zbq:zi Tryz.prog zah=some zbp:=by kernel_rfl
theorem zlC:zi Tryz.prog zI=some zlk:=by kernel_rfl
theorem zab:zi Tryz.prog zy=some zbh:=by kernel_rfl
theorem zjV:zi Tryz.prog zbP=some zjs:=by kernel_rfl
theorem zaj:zi Tryz.prog zO=some zai:=by kernel_rfl
theorem zeU:zi Tryz.prog zcj=some zeO:=by kernel_rfl
theorem zmB:zi Tryz.prog zcX=some zma:=by kernel_rfl
theorem zjj:zi Tryz.prog zeJ=some zjd:=by kernel_rfl
theorem zhc:zi Tryz.prog zdP=some zg4:=by kernel_rfl
theorem zgm:zi Tryz.prog zdd=some zf8:=by kernel_rfl
theorem zhJ:zi Tryz.prog zd6=some zhn:=by kernel_rfl
theorem zdG:zi Tryz.prog zbj=some zdD:=by kernel_rfl
theorem zcM:zi Tryz.prog zaR=some zcJ:=by kernel_rfl
theorem zgj:zi Tryz.prog zda=some zf5:=by kernel_rfl
theorem zjU:zi Tryz.prog za8=some zjr:=by kernel_rfl
theorem zgF:zi Tryz.prog zdy=some zgB:=by kernel_rfl
theorem zjS:zi Tryz.prog za7=some zjp:=by kernel_rfl
theorem zdH:zi Tryz.prog zap=some zdE:=by kernel_rfl
theorem zmA:zi Tryz.prog zgL=some zl9:=by kernel_rfl
theorem ziF:zi Tryz.prog zcu=some zih:=by kernel_rfl
theorem zbT:zi Tryz.prog zas=some zbN:=by kernel_rfl
theorem zgi:zi Tryz.prog zdY=some zlj:=by kernel_rfl
end Go.Ab
namespace Go.Ab
open Go Go.Proofs
set_option maxRecDepth 10000
set_option maxHeartbeats 4000000
variable {T:Nat→Obj→Prop}
def zf3 (n:Int):BitVec 64:=if n ≥ 64 then -1 else (1#64 <<< n.toNat) - 1#64
def bad (n:Int) (s:BitVec 64):Bool:=s &&& ~~~ (zf3 n)≠0
def ztx (worlds agents:Int) (val:List (BitVec 64)):Int :=
 if worlds < 1∨64 < worlds then 2 else if 8 < val.length∨4 < agents then 8 else if val.any (bad worlds) then 3 else 0
theorem zws (a b:List Int):Fn Tryz.prog T zdb [.d (dI a),.d (dI b)] [] (.d (.bool (a==b))) []:=by
 refine zg zw zgk (by show 2≤26;decide) ?_
 (repeat' ((conv=>whnf);first|refine vA ?_|(refine vD ?_ ?_<;>intro hc<;>try simp only [vL] at hc)|refine vJ fun hg=>?_|refine vT ?_|refine vZ ?_));all_goals try conv=>whnf
 ·have:a≠b:=fun e=>hc (by rw [e])
  simp [this]
 ·refine zW (fun (k:Nat)=>[(0,.d (dI a)),(1,.d (dI b)),(12,.d (.int .i64 ((a.map (D.int .i64)).length:Int))),(13,.d (.int .i64 ((k:Int))))]) (fun (k:Nat)=>k≤a.length∧(a==b)=(a.drop k==b.drop k)) (fun (k:Nat)=>a.length - k) (0) (⟨by simp,by simp⟩) (by (repeat' first|exact trivial|exact rfl|refine And.intro ?_ ?_)) ?_
  rintro k ⟨hk,hI⟩
  (repeat' ((conv=>whnf);first|refine vA ?_|((first|refine vD ?_ ?_|refine vF ?_ ?_)<;>intro hc<;>try simp only [vL] at hc)|refine vT ?_|(refine vQ ?_ fun x hx=>?_;·omega)|(refine vO ?_ ?_;·omega)|(refine vU ?_ ?_;·kernel_rfl)|refine vZ ?_));all_goals try conv=>whnf
  ·rw [hI,zx ‹a[k]? = some _›,zx ‹b[k]? = some _›];simp [hc]
  ·exact ⟨k+1,[],[],⟨by (omega),by rw [hI,zx ‹a[k]? = some _›,zx ‹b[k]? = some _›];simp [hc]⟩,by (omega),by (refine ⟨rfl,rfl,rfl,?_,?_⟩;repeat' first|exact trivial|exact rfl|refine And.intro ?_ ?_)⟩
  ·rw [hI,List.drop_eq_nil_of_le (by omega),List.drop_eq_nil_of_le (by omega)];rfl
structure PM where
 W:Int
 val:List (BitVec 64)
 cell:List (List Int)
 rank:List (List Int)
 deriving DecidableEq
theorem zhm (s:BitVec 64) (n:Nat):(s >>> n)&&&1#64=1#64↔s.getLsbD n=true:=by
 constructor
 ·intro h
  have:=congrArg (fun x=>x.getLsbD 0) h
  simpa using this
 ·intro h
  apply BitVec.eq_of_getLsbD_eq
  intro i hi
  by_cases h0:i=0
  ·subst h0;simpa using h
  ·simp [h0]
theorem zli (s:BitVec 64) (n:Nat):(s >>> n)&&&1#64=0#64↔s.getLsbD n=false:=by
 constructor
 ·intro h
  have:=congrArg (fun x=>x.getLsbD 0) h
  simpa using this
 ·intro h
  apply BitVec.eq_of_getLsbD_eq
  intro i hi
  by_cases h0:i=0
  ·subst h0;simpa using h
  ·simp [h0]
@[irreducible] def bit (s:BitVec 64) (i:Nat):Bool:=s.getLsbD i
def at0 (l:List Int) (i:Nat):Int:=l.getD i 0
theorem zcG {l:List Int} {i:Nat} {x:Int} (h:l[i]? = some x):at0 l i=x:=by simp [at0,List.getD,h]
theorem zdr {l:List Int} {i:Nat} (h:i < l.length):l[i]? = some (at0 l i):=by simp [at0,List.getD,h]
abbrev zwJ (cell:List Int):Prop := ∀ w,w < cell.length→0≤at0 cell w∧at0 cell w≤w∧at0 cell (at0 cell w).toNat=at0 cell w
abbrev zwi (cell rank:List Int):Prop := ∀ w,w < cell.length→0≤at0 rank w∧(at0 rank w=0 ∨ ∃ v,v < cell.length∧at0 cell v=at0 cell w∧at0 rank v=at0 rank w - 1)
end Go.Ab
namespace Go.Ab
open Go Go.Proofs
set_option maxRecDepth 10000
set_option maxHeartbeats 4000000
variable {T:Nat→Obj→Prop}
def zbY (f:Nat→Bool):Nat→BitVec 64
 | 0=>0#64
 | k+1=>if f k then zbY f k|||1#64 <<< k else zbY f k
theorem zm3 (k i:Nat):(1#64 <<< k).getLsbD i=(decide (i < 64)&&decide (i=k)):=by
 rw [BitVec.getLsbD_shiftLeft]
 by_cases h:i < 64
 ·by_cases h1:i < k
  ·simp [h,h1];omega
  ·by_cases h2:i=k
   ·subst h2;simp [h]
   ·have:i - k≠0:=by omega
    simp [h,h1,h2,this]
 ·simp [h]
theorem zn9 (f:Nat→Bool) : ∀ (n i:Nat),(zbY f n).getLsbD i=(decide (i < 64)&&decide (i < n)&&f i)
 | 0,i=>by simp [zbY]
 | n+1,i=>by
  have ih:=zn9 f n i
  unfold zbY
  split
  ·rename_i h
   rw [BitVec.getLsbD_or,ih,zm3]
   by_cases h1:i=n
   ·subst h1;simp [h]
   ·by_cases h2:i < n
    ·simp [h1,h2,show i < n+1 by omega]
    ·simp [h1,h2,show ¬ i < n+1 by omega]
  ·rename_i h
   rw [ih]
   by_cases h1:i=n
   ·subst h1;simp [h]
   ·by_cases h2:i < n
    ·simp [h2,show i < n+1 by omega]
    ·simp [h2,show ¬ i < n+1 by omega]
end Go.Ab
namespace Go.Ab
open Go Go.Proofs
set_option maxRecDepth 10000
set_option maxHeartbeats 4000000
variable {T:Nat→Obj→Prop}
def zmQ (l:List (List Int)) (a:Nat):List Int:=l.getD a []
abbrev zw3 (p:PM):Prop := ∀ a,a < p.cell.length→((zmQ p.cell a).length:Int)=p.W∧((zmQ p.rank a).length:Int)=p.W
abbrev zt2 (p:PM):Prop := ∀ a,a < p.cell.length→zwJ (zmQ p.cell a)
abbrev zsv (p:PM):Prop := ∀ a,a < p.cell.length→zwi (zmQ p.cell a) (zmQ p.rank a)
def zsJ (p:PM):Int :=
 if ztx p.W p.cell.length p.val≠0 then ztx p.W p.cell.length p.val
 else if p.rank.length≠p.cell.length then 3
 else if ¬zw3 p then 3
 else if ¬zt2 p then 1
 else if ¬zsv p then 9
 else 0
end Go.Ab
namespace Go.Ab
open Go Go.Proofs
set_option maxRecDepth 10000
set_option maxHeartbeats 4000000
variable {T:Nat→Obj→Prop}
structure At (p:PM) (a w:Int):Prop where
 ok:zsJ p=0
 a0:0≤a
 a1:a < p.cell.length
 w0:0≤w
 w1:w < p.W
instance (p:PM) (a w:Int):Decidable (At p a w):=decidable_of_iff (zsJ p=0∧0≤a∧a < p.cell.length∧0≤w∧w < p.W) ⟨fun ⟨a,b,c,d,e⟩=>⟨a,b,c,d,e⟩,fun ⟨a,b,c,d,e⟩=>⟨a,b,c,d,e⟩⟩
theorem ztk {k:Nat} (h:k < 18446744073709551616):(BitVec.ofInt 64 (k:Int)).toNat=k:=by
 rw [BitVec.toNat_ofInt,Int.emod_eq_of_lt (by omega) (by omega)];rfl
theorem zdm {β:Type} {g:Nat→β} {n k:Nat} (x:β):((List.range n).map g).set k x=(List.range n).map fun u=>if u=k then x else g u:=by
 refine List.ext_getElem (by simp) fun i h1 h2=>?_
 rw [List.getElem_set]
 by_cases e:k=i
 ·subst e;simp
 ·simp [e,Ne.symm e]
theorem zS {β:Type} {g h:Nat→β} {n:Nat} (e : ∀ u,u < n→g u=h u):(List.range n).map g=(List.range n).map h :=
 List.map_congr_left fun u hu=>e u (List.mem_range.1 hu)
theorem zbg {β:Type} (x:β) (n:Nat):List.replicate n x=(List.range n).map fun _=>x:=by
 refine List.ext_getElem (by simp) fun i h1 h2=>by simp
end Go.Ab
namespace Go.Ab
open Go Go.Proofs
set_option maxRecDepth 10000
set_option maxHeartbeats 4000000
variable {T:Nat→Obj→Prop}
structure KM where
 W:Int
 val:List (BitVec 64)
 rel:List (List (BitVec 64))
 deriving DecidableEq
abbrev dKM (m:KM):D := .agg [.int .i64 m.W,dU m.val,dUU m.rel]
abbrev zac (m:KM):Ob := .box [.d (.int .i64 m.W),.d (dU m.val),.d (dUU m.rel)]
abbrev dKI (x:KM×Int):D := .tup [dKM x.1,.int .i64 x.2]
end Go.Ab
namespace Go.Ab
open Go Go.Proofs
set_option maxRecDepth 10000
set_option maxHeartbeats 4000000
variable {T:Nat→Obj→Prop}
theorem zoK {n:Int} {i:Nat} (h1:0≤n) (hi:i < 64):(zf3 n).getLsbD i=decide ((i:Int) < n):=by
 unfold zf3
 split
 ·rename_i h
  rw [show ((-1:BitVec 64))=BitVec.allOnes 64 from rfl,BitVec.getLsbD_allOnes]
  simp [hi];omega
 ·rename_i h
  obtain ⟨m,rfl⟩:=Int.eq_ofNat_of_zero_le h1
  have hm:m < 64:=by omega
  rw [show (1#64 <<< (m:Int).toNat - 1#64)=BitVec.setWidth 64 (BitVec.allOnes m) from ?_]
  ·rw [BitVec.getLsbD_setWidth,BitVec.getLsbD_allOnes];simp [hi]
  ·apply BitVec.eq_of_toNat_eq
   have h2:2 ^ m < 2 ^ 64:=Nat.pow_lt_pow_right (by omega) hm
   have h3:0 < 2 ^ m:=Nat.two_pow_pos m
   rw [BitVec.toNat_sub,BitVec.toNat_shiftLeft,BitVec.toNat_setWidth,BitVec.toNat_allOnes]
   simp only [Int.toNat_natCast,Nat.shiftLeft_eq]
   rw [show (1#64).toNat=1 from rfl,Nat.one_mul,Nat.mod_eq_of_lt h2,Nat.mod_eq_of_lt (show 2 ^ m - 1 < 2 ^ 64 by omega)]
   omega
end Go.Ab
namespace Go.Ab
open Go Go.Proofs
set_option maxRecDepth 10000
set_option maxHeartbeats 4000000
variable {T:Nat→Obj→Prop}
def zD (s:BitVec 64):List Nat:=(List.range 64).filter fun i=>s.getLsbD i
theorem zjJ {p:Nat→Bool} {k:Nat} (hk:p k=true) (hlow : ∀ i,i < k→p i=false) : ∀ n,k < n→(List.range n).filter p=k::(List.range n).filter fun i=>p i&&i != k
 | 0,h=>by omega
 | n+1,h=>by
  rw [List.range_succ,List.filter_append,List.filter_append]
  by_cases e:k=n
  ·subst e
   have h1:(List.range k).filter p=[]:=by
    rw [List.filter_eq_nil_iff];intro i hi;rw [hlow i (List.mem_range.1 hi)];simp
   have h2:((List.range k).filter fun i=>p i&&i != k)=[]:=by
    rw [List.filter_eq_nil_iff];intro i hi;rw [hlow i (List.mem_range.1 hi)];simp
   rw [h1,h2]
   simp [hk]
  ·rw [zjJ hk hlow n (by omega)]
   have:(n != k)=true:=by simp;omega
   have:List.filter (fun i=>p i&&i != k) [n]=List.filter p [n]:=by
    simp only [List.filter,this,Bool.and_true]
   rw [this];rfl
theorem zrb (s:BitVec 64) (h:s≠0#64):Lib.ctz 64 s.toNat < 64∧s.getLsbD (Lib.ctz 64 s.toNat)=true∧(∀ i,i < Lib.ctz 64 s.toNat→s.getLsbD i=false) ∧
  ∀ i,(s&&&(s - 1#64)).getLsbD i=(s.getLsbD i&&i != Lib.ctz 64 s.toNat):=by
 have h0:s.toNat≠0:=fun e=>h (BitVec.eq_of_toNat_eq (by simpa using e))
 have hc:Lib.ctz 64 s.toNat=Lib.ctzFrom 64 s.toNat:=by rw [Lib.ctz,if_neg h0]
 rw [hc]
 obtain ⟨m,hm,hlt⟩:=Lib.ctzFrom_spec 64 s.toNat (by omega) s.isLt
 generalize Lib.ctzFrom 64 s.toNat=k at hm hlt
 have hp:0 < 2 ^ k:=Nat.two_pow_pos k
 have hs:s.toNat=2 ^ k * (2 * m+1)+0:=hm
 have hbit : ∀ i,s.getLsbD i=if i < k then false else (2 * m+1).testBit (i - k):=fun i=>by
  rw [BitVec.getLsbD,hs,Nat.testBit_two_pow_mul_add _ hp]
  simp
 have hsub:(s - 1#64).toNat=2 ^ k * (2 * m)+(2 ^ k - 1):=by
  rw [BitVec.toNat_sub]
  have hlt':=s.isLt
  rw [hm] at hlt' ⊢
  rw [show (1#64).toNat=1 from rfl,Nat.mul_add,Nat.mul_one]
  rw [Nat.mul_add,Nat.mul_one] at hlt'
  omega
 have hbit' : ∀ i,(s - 1#64).getLsbD i=if i < k then (2 ^ k - 1).testBit i else (2 * m).testBit (i - k):=fun i=>by
  rw [BitVec.getLsbD,hsub,Nat.testBit_two_pow_mul_add _ (by omega)]
 refine ⟨hlt,?_,fun i hi=>?_,fun i=>?_⟩
 ·rw [hbit,if_neg (by omega),Nat.sub_self,Nat.testBit_zero];simp
 ·rw [hbit,if_pos hi]
 ·rw [BitVec.getLsbD_and,hbit,hbit']
  by_cases h1:i < k
  ·simp [h1]
  ·simp only [h1,if_false]
   by_cases h2:i=k
   ·subst h2;simp [Nat.testBit_zero]
   ·obtain ⟨j,hj⟩ : ∃ j,i - k=j+1:=⟨i - k - 1,by omega⟩
    rw [hj,Nat.testBit_succ,Nat.testBit_succ]
    have e1:(2 * m+1) / 2=m:=by omega
    have e2:2 * m / 2=m:=by omega
    rw [e1,e2]
    simp [h2]
theorem zkS (s:BitVec 64) (h:s≠0#64):zD s=Lib.ctz 64 s.toNat::zD (s&&&(s - 1#64)):=by
 obtain ⟨h1,h2,h3,h4⟩:=zrb s h
 rw [zD,zjJ h2 h3 64 h1,zD]
 congr 1
 exact List.filter_congr fun i _=>(h4 i).symm
theorem ze3:zD 0#64=[]:=by decide
def zeM (T:Nat→Obj→Prop):Prop := ∀ x:BitVec 64,Fn Tryz.prog T zar [.d (.u64 x)] [] (.d (.int .i64 (Lib.ctz 64 x.toNat))) []
def rb (r:List (BitVec 64)) (w v:Nat):Bool:=(r.getD w 0#64).getLsbD v
theorem zvs {r:List (BitVec 64)} {w:Nat} {s:BitVec 64} (h:r[w]? = some s) (v:Nat):rb r w v=s.getLsbD v:=by simp [rb,List.getD,h]
theorem zwA {r:List (BitVec 64)} {w v:Nat} (h:r.length≤w):rb r w v=false:=by simp [rb,List.getD,h]
theorem zeA {s:BitVec 64} {v:Nat} : v∈zD s↔s.getLsbD v=true:=by
 rw [zD,List.mem_filter,List.mem_range]
 constructor
 ·exact fun h=>h.2
 ·exact fun h=>⟨BitVec.lt_of_getLsbD h,h⟩
theorem zpJ (s:BitVec 64):(zD s).Nodup:=List.nodup_range.filter _
def zex {α:Type} (p:α→Bool) (l:List α):Int:=if l.findIdx p < l.length then (l.findIdx p:Int) else -1
theorem zgP {α:Type} {p:α→Bool} {l:List α} {k:Nat} {x:α} (h:l[k]? = some x) (hp:p x=true) (hI : ∀ i y,i < k→l[i]? = some y→p y=false):zex p l=k:=by
 obtain ⟨hk,rfl⟩:=List.getElem?_eq_some_iff.1 h
 have:l.findIdx p=k:=by
  rw [List.findIdx_eq hk]
  exact ⟨hp,fun j hj=>by simpa using hI j l[j] hj (List.getElem?_eq_getElem (by omega))⟩
 rw [zex,this,if_pos hk]
theorem ziv {α:Type} {p:α→Bool} {l:List α} (hI : ∀ i y,i < l.length→l[i]? = some y→p y=false):zex p l = -1:=by
 rw [zex,if_neg]
 intro h
 have h1:=List.findIdx_getElem (p:=p) (xs:=l) (w:=h)
 rw [hI _ _ h (List.getElem?_eq_getElem h)] at h1;cases h1
theorem zpb {α:Type} {p:α→Bool} {l:List α} : 0≤zex p l ↔ ∃ x∈l,p x=true:=by
 rw [zex,← List.findIdx_lt_length]
 split<;>omega
theorem zpg (l:List Int) (x:Int):Fn Tryz.prog T zdc [.d (dI l),.d (.int .i64 x)] [] (.d (.int .i64 (zex (fun y=>x==y) l))) []:=by
 refine zg zw zgl (by show 2≤19;decide) ?_
 (repeat' ((conv=>whnf);first|refine vA ?_|refine vJ fun hg=>?_|refine vT ?_));all_goals try conv=>whnf
 refine zW (fun (k:Nat)=>[(0,.d (dI l)),(1,.d (.int .i64 (x))),(7,.d (.int .i64 ((l.map (D.int .i64)).length:Int))),(8,.d (.int .i64 ((k:Int))))]) (fun (k:Nat)=>k≤l.length ∧ ∀ i y,i < k→l[i]? = some y→(x==y)=false) (fun (k:Nat)=>l.length - k) (0) (⟨by simp,by simp⟩) (by (repeat' first|exact trivial|exact rfl|refine And.intro ?_ ?_)) ?_
 rintro k ⟨hk,hI⟩
 (repeat' ((conv=>whnf);first|refine vA ?_|(refine vF ?_ ?_<;>intro hc<;>try simp only [vL] at hc)|refine vT ?_|(refine vQ ?_ fun x hx=>?_;·omega)|(refine vO ?_ ?_;·omega)|refine vX ?_));all_goals try conv=>whnf
 ·exact (zgP hx (by simpa using hc) hI).symm
 ·have hne:=hc
  exact ⟨k+1,[],[],⟨by (omega),fun i y hi hy=>by
   by_cases e:i=k
   ·subst e;rw [hx] at hy;cases hy;simpa using hne
   ·exact hI i y (by omega) hy⟩,by (omega),by (refine ⟨rfl,rfl,rfl,?_,?_⟩;repeat' first|exact trivial|exact rfl|refine And.intro ?_ ?_)⟩
 ·exact (ziv fun i y hi hy=>hI i y (by omega) hy).symm
theorem zsC {n:Int} {s:BitVec 64} (h:0≤n):bad n s=false ↔ ∀ i,s.getLsbD i=true→(i:Int) < n:=by
 rw [bad,decide_eq_false_iff_not,Classical.not_not]
 constructor
 ·intro e i hi
  have hlt:=BitVec.lt_of_getLsbD hi
  have:=congrArg (fun x=>x.getLsbD i) e
  simp only [BitVec.getLsbD_and,BitVec.getLsbD_not,hlt,decide_true,Bool.true_and,hi,zoK h hlt] at this
  simpa using this
 ·intro hs
  apply BitVec.eq_of_getLsbD_eq
  intro i hi
  rw [BitVec.getLsbD_and,BitVec.getLsbD_not,zoK h hi]
  cases hb:s.getLsbD i with
  | false=>simp
  | true=>have:=hs i hb;simp [hi,this]
end Go.Ab
namespace Go.Ab
open Go Go.Proofs
set_option maxRecDepth 10000
set_option maxHeartbeats 4000000
variable {T:Nat→Obj→Prop}
theorem zaU.objs {P:Program} {M:Nat→Option Ob} {n f:Nat} {vs lvs:List V} {obs:List Ob} {lv:V} {obs':List (Option Ob)} {K:V→Upd→Nat→Prop} (js:List Nat) (hf:Fn P T f lvs obs lv obs') (ha:VPasses M js [] 20 lvs vs)
  (ho:zaz M js [] obs js) (hnd:nodup js=true) (hsj:zdK js (zH M vs)=true) (hle:js.length≤obs'.length)
  (hK:K (ziS js n 20 lv) (zfH js [] n obs' false) (obs'.length - js.length)):zaU (zcU P T) M n f vs K :=
 ⟨⟨_,_,_,⟨js,[],false,lvs,obs,lv,obs',hf,ha,ho,hnd,by simp [zc8],hsj,by simp [zdK],hle,nofun,rfl,rfl,rfl⟩,hK⟩⟩
section
variable {α:Type} [Inhabited α]
theorem zbd {d:Array α} {i:Nat} (h:i < d.size):d.toList[i]? = some d[i]! := by
 simp [h]
theorem zaB {d:Array α} {i:Nat} {x:α} (h:d.toList[i]? = some x):d[i]! = x∧i < d.size:=by
 obtain ⟨h1,h2⟩:=List.getElem?_eq_some_iff.1 h
 rw [Array.length_toList] at h1
 exact ⟨by simp [h1];simpa using h2,h1⟩
theorem zrq {enc:α→D} {d:Array α} {i j:Nat} {x y:α} (hi:d.toList[i]? = some x) (hj:d.toList[j]? = some y):((d.toList.map enc).set i (enc y)).set j (enc x)=(Sort.swp d i j).toList.map enc:=by
 obtain ⟨e1,_⟩:=zaB hi
 obtain ⟨e2,_⟩:=zaB hj
 simp [Sort.swp,e1,e2,List.map_set]
theorem zfd {d:Array α} {i:Int} {x:α} (k:Nat) (h:d.toList[i.toNat]? = some x) (hk:i=k):d.toList[k]? = some x:=by subst hk;exact h
theorem zqb (d:Array α) (i j:Nat):(Sort.swp d i j).size=d.size:=by simp [Sort.swp]
variable {lt:α→α→Bool}
theorem zi6 {a j:Nat} {d:Array α} (h : ¬(a < j∧lt d[j]! d[j - 1]! = true)):Sort.insInner lt a j d=d:=by
 cases j with
 | zero=>rfl
 | succ j =>
  unfold Sort.insInner
  rw [if_neg]
  simpa using h
theorem zi5 {a j:Nat} {d:Array α} (h1:a < j) (h2:lt d[j]! d[j - 1]! = true):Sort.insInner lt a j d=Sort.insInner lt a (j - 1) (Sort.swp d j (j - 1)):=by
 cases j with
 | zero=>omega
 | succ j =>
  rw [Sort.insInner,if_pos]
  ·simp
  ·simp at h2 ⊢;exact ⟨by omega,h2⟩
end
end Go.Ab
namespace Go.Ab
open Go
def zY (e:Nat→Nat→Bool) (w:Nat):Nat:=((List.range w).find? fun v=>e v w).getD w
theorem zkz (e:Nat→Nat→Bool) (w:Nat):(zY e w < w∧e (zY e w) w=true∨zY e w=w) ∧ ∀ v,v < zY e w→e v w=false:=by
 unfold zY
 cases h:(List.range w).find? fun v=>e v w with
 | none =>
  refine ⟨.inr rfl,fun v hv=>?_⟩
  have:=List.find?_eq_none.1 h v (List.mem_range.2 hv)
  simpa using this
 | some u =>
  obtain ⟨h1,l1,l2,h2,h3⟩:=List.find?_eq_some_iff_append.1 h
  have hu:u∈List.range w:=by rw [h2];simp
  have hlen:l1.length=u:=by
   have h4:(List.range w)[l1.length]? = some u:=by rw [h2];simp
   rw [List.getElem?_range (by
    have:l1.length < (List.range w).length:=by rw [h2];simp
    simpa using this)] at h4
   exact Option.some.inj h4
  refine ⟨.inl ⟨List.mem_range.1 hu,h1⟩,fun v hv=>?_⟩
  have hv:v < u:=hv
  have hm:v∈l1:=by
   have h4:(List.range w)[v]? = some v:=List.getElem?_range (by have:=List.mem_range.1 hu;omega)
   rw [h2,List.getElem?_append_left (by omega)] at h4
   exact List.mem_of_getElem? h4
  simpa using h3 v hm
theorem zvp (e:Nat→Nat→Bool) (w:Nat):zY e w≤w:=by
 rcases (zkz e w).1 with h|h<;>omega
theorem ztb {e:Nat→Nat→Bool} {w v:Nat} (h:v < zY e w):e v w=false:=(zkz e w).2 v h
structure Eqv (e:Nat→Nat→Bool):Prop where
 refl : ∀ v,e v v=true
 symm : ∀ v w,e v w=true→e w v=true
 trans : ∀ u v w,e u v=true→e v w=true→e u w=true
section
variable {e:Nat→Nat→Bool} (he:Eqv e)
include he
theorem zr6 (w:Nat):e (zY e w) w=true:=by
 rcases (zkz e w).1 with h|h
 ·exact h.2
 ·rw [h];exact he.refl w
theorem zpB {v w:Nat} : zY e v=zY e w↔e v w=true:=by
 constructor
 ·intro h
  have h1:=zr6 he v
  rw [h] at h1
  exact he.trans _ _ _ (he.symm _ _ h1) (zr6 he w)
 ·intro h
  have a : ∀ {v w},e v w=true→zY e w≤zY e v:=by
   intro v w h
   rcases Nat.lt_or_ge (zY e v) (zY e w) with hl|hl
   ·have:=ztb hl
    rw [he.trans _ _ _ (zr6 he v) h] at this;cases this
   ·exact hl
  have:=a h;have:=a (he.symm _ _ h);omega
theorem zwX (w:Nat):zY e (zY e w)=zY e w:=(zpB he).2 (zr6 he w)
end
theorem zpA {e e':Nat→Nat→Bool} {w:Nat} (h : ∀ v,v≤w→e v w=e' v w):zY e w=zY e' w:=by
 have a : ∀ {e e':Nat→Nat→Bool},(∀ v,v≤w→e v w=e' v w)→zY e w≤zY e' w:=by
  intro e e' h
  rcases Nat.lt_or_ge (zY e' w) (zY e w) with hl|hl
  ·have h1:=ztb hl
   have hle:=zvp e w
   rcases (zkz e' w).1 with h2|h2
   ·rw [h _ (by omega),h2.2] at h1;cases h1
   ·omega
  ·exact hl
 have:=a h;have:=a fun v hv=>(h v hv).symm;omega
structure zfr (n:Nat) (q:Nat→Nat):Prop where
 le : ∀ w,w < n→q w≤w
 idem : ∀ w,w < n→q (q w)=q w
theorem zlF {e:Nat→Nat→Bool} (he:Eqv e) (n:Nat):zfr n (zY e):=⟨fun w _=>zvp e w,fun w _=>zwX he w⟩
def zcR {α:Type} [DecidableEq α] (k:Nat→α) (v w:Nat):Bool:=decide (k v=k w)
theorem zgo {α:Type} [DecidableEq α] (k:Nat→α):Eqv (zcR k) :=
 ⟨fun v=>by simp [zcR],fun v w h=>by simp only [zcR,decide_eq_true_eq] at h ⊢;exact h.symm,fun u v w h h'=>by simp only [zcR,decide_eq_true_eq] at h h' ⊢;exact h.trans h'⟩
def zeP (n:Nat) (q:Nat→Nat):Nat:=((List.range n).filter fun w=>decide (q w=w)).length
theorem zgO {p p':Nat→Bool} (hi : ∀ w,p w=true→p' w=true) : ∀ l:List Nat,(l.filter p).length≤(l.filter p').length∧((∃ w∈l,p w=false∧p' w=true)→(l.filter p).length < (l.filter p').length)
 | []=>⟨Nat.le_refl _,fun ⟨w,h,_⟩=>by cases h⟩
 | x::l=>by
  obtain ⟨h1,h2⟩:=zgO hi l
  cases hp:p x with
  | true =>
   rw [List.filter_cons_of_pos hp,List.filter_cons_of_pos (hi x hp)]
   refine ⟨by simpa using h1,fun ⟨w,hw,h3,h4⟩=>?_⟩
   rcases List.mem_cons.1 hw with rfl|hw
   ·rw [hp] at h3;cases h3
   ·have:=h2 ⟨w,hw,h3,h4⟩;simpa using this
  | false =>
   rw [List.filter_cons_of_neg (by simp [hp])]
   cases hp':p' x with
   | true =>
    rw [List.filter_cons_of_pos hp',List.length_cons]
    exact ⟨by omega,fun _=>by omega⟩
   | false =>
    rw [List.filter_cons_of_neg (by simp [hp'])]
    refine ⟨h1,fun ⟨w,hw,h3,h4⟩=>?_⟩
    rcases List.mem_cons.1 hw with rfl|hw
    ·rw [hp'] at h4;cases h4
    ·exact h2 ⟨w,hw,h3,h4⟩
theorem zq0 (n:Nat) (q:Nat→Nat):zeP n q≤n:=by
 unfold zeP
 have:=List.length_filter_le (fun w=>decide (q w=w)) (List.range n)
 simpa using this
end Go.Ab
namespace Go.Ab
open Go Go.Proofs
set_option maxRecDepth 10000
set_option maxHeartbeats 4000000
variable {T:Nat→Obj→Prop}
theorem zvC (s:BitVec 64) (n:Nat):(s >>> n) % 2#64=1#64↔s.getLsbD n=true:=by
 rw [← BitVec.toNat_inj,BitVec.toNat_umod,BitVec.toNat_ushiftRight,← BitVec.testBit_toNat,Nat.shiftRight_eq_div_pow,Nat.testBit_eq_decide_div_mod_eq,decide_eq_true_eq]
 rfl
theorem zhC (s:BitVec 64) (k:Nat):Fn Tryz.prog T zfk [.d (.u64 s),.d (.int .i64 (k:Int))] [] (.d (.bool (s.getLsbD k))) []:=by
 refine zg zw zjY (by show 2≤18;decide) ?_
 (repeat' ((conv=>whnf);first|refine vA ?_|refine vB fun b hb=>?_|refine vC (fun hl=>?_) fun i kv vv hi=>?_|refine vE ?_|refine vG ?_|refine vH ?_|((first|refine vD ?_ ?_|refine vF ?_ ?_|refine vI ?_ ?_)<;>intro hc<;>try simp only [vL] at hc)|refine vJ fun hg=>?_|refine vK fun hg=>?_|refine vT ?_|refine vN ‹_› ?_|(refine vQ ?_ fun x hx=>?_;·first|omega|(simp only [vM] at *;omega))|((first|refine vO ?_ ?_|refine vR ?_ ‹_› ?_|refine vS ?_ fun x hx=>?_|refine vP ?_ ?_);·first|omega|(simp only [vM] at *;omega))|refine vW ⟨by omega,by omega⟩ ?_|(refine vU ?_ ?_;·kernel_rfl)|refine vX ?_|refine vY ?_|refine vZ ?_|refine za.mk _ ‹_› ?_|refine vP (show (_:BitVec 64)≠_ by decide) ?_));all_goals try conv=>whnf
 ·show decide (s >>> k % 2#64=1#64)=_
  rw [Bool.eq_iff_iff,decide_eq_true_eq];exact zvC s k
 ·rw [BitVec.getLsbD_of_ge _ _ (by omega)]
theorem zoQ {x:BitVec 64} {k:Nat} (h:1&&&x.toNat >>> k=0):x.getLsbD k=false:=by
 show (1&&&x.toNat >>> k != 0)=false
 simp [h]
theorem zoR {x:BitVec 64} {k:Nat} (h : ¬1&&&x.toNat >>> k=0):x.getLsbD k=true:=by
 show (1&&&x.toNat >>> k != 0)=true
 rw [bne_iff_ne];exact h
theorem zlu (n:Int) (h:0≤n):Fn Tryz.prog T zfi [.d (.int .i64 n)] [] (.d (.u64 (zf3 n))) []:=by
 refine zg zw zjW (by show 1≤8;decide) ?_
 (repeat' ((conv=>whnf);first|refine vA ?_|refine vB fun b hb=>?_|refine vC (fun hl=>?_) fun i kv vv hi=>?_|refine vE ?_|refine vG ?_|refine vH ?_|((first|refine vD ?_ ?_|refine vF ?_ ?_|refine vI ?_ ?_)<;>intro hc<;>try simp only [vL] at hc)|refine vJ fun hg=>?_|refine vK fun hg=>?_|refine vT ?_|refine vN ‹_› ?_|(refine vQ ?_ fun x hx=>?_;·first|omega|(simp only [vM] at *;omega))|((first|refine vO ?_ ?_|refine vR ?_ ‹_› ?_|refine vS ?_ fun x hx=>?_|refine vP ?_ ?_);·first|omega|(simp only [vM] at *;omega))|refine vW ⟨by omega,by omega⟩ ?_|(refine vU ?_ ?_;·kernel_rfl)|refine vX ?_|refine vY ?_|refine vZ ?_|refine za.mk _ ‹_› ?_|refine vP (show (_:BitVec 64)≠_ by decide) ?_));all_goals try conv=>whnf
 ·rw [zf3,if_pos (by omega)];rfl
 ·rw [zf3,if_neg (by omega)];rfl
theorem znH (l:List (BitVec 64)) (n:Int) (h:0≤n):Fn Tryz.prog T zd8 [.d (dU l),.d (.int .i64 n)] [] (.d (.bool (l.any (bad n)))) []:=by
 refine zg zw zhL (by show 2≤20;decide) ?_
 (repeat' ((conv=>whnf);first|refine vA ?_|refine vB fun b hb=>?_|refine vC (fun hl=>?_) fun i kv vv hi=>?_|refine vE ?_|refine vG ?_|refine vH ?_|((first|refine vD ?_ ?_|refine vF ?_ ?_|refine vI ?_ ?_)<;>intro hc<;>try simp only [vL] at hc)|refine vJ fun hg=>?_|refine vK fun hg=>?_|refine vT ?_|refine vN ‹_› ?_|(refine vQ ?_ fun x hx=>?_;·first|omega|(simp only [vM] at *;omega))|((first|refine vO ?_ ?_|refine vR ?_ ‹_› ?_|refine vS ?_ fun x hx=>?_|refine vP ?_ ?_);·first|omega|(simp only [vM] at *;omega))|refine vW ⟨by omega,by omega⟩ ?_|(refine vU ?_ ?_;·kernel_rfl)|refine vX ?_|refine vY ?_|refine vZ ?_|refine za.mk _ ‹_› ?_|refine vP (show (_:BitVec 64)≠_ by decide) ?_));all_goals try conv=>whnf
 refine zW (fun (k:Nat)=>[(0,.d (dU l)),(1,.d (.int .i64 (n))),(5,.d (.int .i64 ((k:Int))))]) (fun (k:Nat)=>k≤l.length∧l.any (bad n)=(l.drop k).any (bad n)) (fun (k:Nat)=>l.length - k) (0) (⟨by simp,rfl⟩) (by (repeat' first|exact trivial|exact rfl|exact ⟨_,rfl⟩|exact .inl rfl|exact .inr (.inl ⟨rfl,rfl⟩)|exact .inr (.inr ⟨rfl,rfl⟩)|refine And.intro ?_ ?_|refine ⟨_,rfl,?_⟩|decide|exact of_decide_eq_true rfl)) ?_
 rintro k ⟨hk,hI⟩
 (repeat' ((conv=>whnf);first|refine vA ?_|refine vB fun b hb=>?_|refine vC (fun hl=>?_) fun i kv vv hi=>?_|refine vE ?_|refine vG ?_|refine vH ?_|((first|refine vD ?_ ?_|refine vF ?_ ?_|refine vI ?_ ?_)<;>intro hc<;>try simp only [vL] at hc)|refine vJ fun hg=>?_|refine vK fun hg=>?_|refine vT ?_|refine vN ‹_› ?_|(refine vQ ?_ fun x hx=>?_;·first|omega|(simp only [vM] at *;omega))|((first|refine vO ?_ ?_|refine vR ?_ ‹_› ?_|refine vS ?_ fun x hx=>?_|refine vP ?_ ?_);·first|omega|(simp only [vM] at *;omega))|refine vW ⟨by omega,by omega⟩ ?_|(refine vU ?_ ?_;·kernel_rfl)|refine vX ?_|refine vY ?_|refine vZ ?_|refine yD (zlu n h) ⟨⟨rfl,rfl⟩,rfl⟩ rfl ?_|refine za.mk _ ‹_› ?_|refine vP (show (_:BitVec 64)≠_ by decide) ?_));all_goals try conv=>whnf
 ·rw [hI,zx hx,List.any_cons,show bad n x=true from decide_eq_true ‹_›];rfl
 ·exact ⟨k+1,[],[],⟨by (first|omega|(simp only [vM] at *;omega)),by rw [hI,zx hx,List.any_cons,show bad n x=false from decide_eq_false (by simpa using ‹x &&& ~~~zf3 n=0#64›)];rfl⟩,by (first|omega|(simp only [vM] at *;omega)),by (refine ⟨rfl,rfl,rfl,?_,?_⟩;repeat' first|exact trivial|exact rfl|exact ⟨_,rfl⟩|exact .inl rfl|exact .inr (.inl ⟨rfl,rfl⟩)|exact .inr (.inr ⟨rfl,rfl⟩)|refine And.intro ?_ ?_|refine ⟨_,rfl,?_⟩|decide|exact of_decide_eq_true rfl)⟩
 ·rw [hI,List.drop_eq_nil_of_le (by omega)];rfl
def zm (m:KM):Int :=
 if m.W < 1∨64 < m.W then 2 else if 4 < m.rel.length∨8 < m.val.length then 8 else if m.rel.any (fun r=>decide ((r.length:Int)≠m.W)) then 3 else if m.val.any (bad m.W) then 2 else if m.rel.any (fun r=>r.any (bad m.W)) then 2 else 0
structure zos (m:KM):Prop where
 w1:1≤m.W
 w2:m.W≤64
 n4:m.rel.length≤4
 v8:m.val.length≤8
 len : ∀ r∈m.rel,(r.length:Int)=m.W
 val : ∀ s∈m.val,bad m.W s=false
 rel : ∀ r∈m.rel,∀ s∈r,bad m.W s=false
theorem zB {m:KM} (h:zm m=0):zos m:=by
 unfold zm at h
 split at h
 ·cases h
 ·split at h
  ·cases h
  ·split at h
   ·cases h
   ·split at h
    ·cases h
    ·split at h
     ·cases h
     ·rename_i h1 h2 h3 h4 h5
      refine ⟨by omega,by omega,by omega,by omega,fun r hr=>?_,fun s hs=>?_,fun r hr s hs=>?_⟩
      ·simp only [List.any_eq_true,not_exists,not_and] at h3;simpa using h3 r hr
      ·simp only [List.any_eq_true,not_exists,not_and] at h4;simpa using h4 s hs
      ·simp only [List.any_eq_true,not_exists,not_and] at h5;simpa using h5 r hr s hs
theorem zfl (m:KM):Fn Tryz.prog T zeu [.d (dKM m)] [] (.d (.int .i64 (zm m))) []:=by
 refine zg zw ziJ (by show 1≤59;decide) ?_
 (repeat' ((conv=>whnf);first|refine vA ?_|refine vB fun b hb=>?_|refine vC (fun hl=>?_) fun i kv vv hi=>?_|refine vE ?_|refine vG ?_|refine vH ?_|((first|refine vD ?_ ?_|refine vF ?_ ?_|refine vI ?_ ?_)<;>intro hc<;>try simp only [vL] at hc)|refine vJ fun hg=>?_|refine vK fun hg=>?_|refine vT ?_|refine vN ‹_› ?_|(refine vQ ?_ fun x hx=>?_;·first|omega|(simp only [vM] at *;omega))|((first|refine vO ?_ ?_|refine vR ?_ ‹_› ?_|refine vS ?_ fun x hx=>?_|refine vP ?_ ?_);·first|omega|(simp only [vM] at *;omega))|refine vW ⟨by omega,by omega⟩ ?_|(refine vU ?_ ?_;·kernel_rfl)|refine vX ?_|refine vY ?_|refine vZ ?_|refine za.mk _ ‹_› ?_|refine vP (show (_:BitVec 64)≠_ by decide) ?_));all_goals try conv=>whnf
 ·rw [zm,if_pos (by omega)]
 ·rw [zm,if_pos (by omega)]
 ·rw [zm,if_neg (by omega),if_pos (by omega)]
 ·rw [zm,if_neg (by omega),if_pos (by omega)]
 ·have e0:zm m=if m.rel.any (fun r=>decide ((r.length:Int)≠m.W)) then 3 else if m.val.any (bad m.W) then 2 else if m.rel.any (fun r=>r.any (bad m.W)) then 2 else 0:=by rw [zm,if_neg (by omega),if_neg (by omega)]
  refine zj (fun (k:Nat)=>[(1,.ptr 0 0),(3,.d (.int .i64 ((k:Int))))]) (fun (k:Nat)=>[(0,some (zac m))]) 1 (fun (k:Nat)=>k≤m.rel.length∧m.rel.any (fun r=>decide ((r.length:Int)≠m.W))=(m.rel.drop k).any (fun r=>decide ((r.length:Int)≠m.W))) (fun (k:Nat)=>m.rel.length - k) (0) [(0,0)] [] (⟨by simp,rfl⟩) (by (refine ⟨rfl,rfl,rfl,?_,?_⟩;repeat' first|exact trivial|exact rfl|exact ⟨_,rfl⟩|exact .inl rfl|exact .inr (.inl ⟨rfl,rfl⟩)|exact .inr (.inr ⟨rfl,rfl⟩)|refine And.intro ?_ ?_|refine ⟨_,rfl,?_⟩|decide|exact of_decide_eq_true rfl)) ?_
  rintro k ⟨hk,hI⟩
  (repeat' ((conv=>whnf);first|refine vA ?_|refine vB fun b hb=>?_|refine vC (fun hl=>?_) fun i kv vv hi=>?_|refine vE ?_|refine vG ?_|refine vH ?_|((first|refine vD ?_ ?_|refine vF ?_ ?_|refine vI ?_ ?_)<;>intro hc<;>try simp only [vL] at hc)|refine vJ fun hg=>?_|refine vK fun hg=>?_|refine vT ?_|refine vN ‹_› ?_|(refine vQ ?_ fun x hx=>?_;·first|omega|(simp only [vM] at *;omega))|((first|refine vO ?_ ?_|refine vR ?_ ‹_› ?_|refine vS ?_ fun x hx=>?_|refine vP ?_ ?_);·first|omega|(simp only [vM] at *;omega))|refine vW ⟨by omega,by omega⟩ ?_|(refine vU ?_ ?_;·kernel_rfl)|refine vX ?_|refine vY ?_|refine vZ ?_|refine za.mk _ ‹_› ?_|refine vP (show (_:BitVec 64)≠_ by decide) ?_));all_goals try conv=>whnf
  ·rw [e0,if_pos (by rw [hI,zx hx,List.any_cons,decide_eq_true (by simpa using ‹_›)];rfl)]
  ·exact ⟨k+1,[(0,0)],[],⟨by (first|omega|(simp only [vM] at *;omega)),by rw [hI,zx hx,List.any_cons,decide_eq_false (by simpa using ‹_›)];rfl⟩,by (first|omega|(simp only [vM] at *;omega)),by (refine ⟨rfl,rfl,rfl,?_,?_⟩;repeat' first|exact trivial|exact rfl|exact ⟨_,rfl⟩|exact .inl rfl|exact .inr (.inl ⟨rfl,rfl⟩)|exact .inr (.inr ⟨rfl,rfl⟩)|refine And.intro ?_ ?_|refine ⟨_,rfl,?_⟩|decide|exact of_decide_eq_true rfl)⟩
  ·have h1:m.rel.any (fun r=>decide ((r.length:Int)≠m.W))=false:=by rw [hI,List.drop_eq_nil_of_le (by omega)];rfl
   rw [h1,if_neg (by decide)] at e0
   (repeat' ((conv=>whnf);first|refine vA ?_|refine vB fun b hb=>?_|refine vC (fun hl=>?_) fun i kv vv hi=>?_|refine vE ?_|refine vG ?_|refine vH ?_|((first|refine vD ?_ ?_|refine vF ?_ ?_|refine vI ?_ ?_)<;>intro hc<;>try simp only [vL] at hc)|refine vJ fun hg=>?_|refine vK fun hg=>?_|refine vT ?_|refine vN ‹_› ?_|(refine vQ ?_ fun x hx=>?_;·first|omega|(simp only [vM] at *;omega))|((first|refine vO ?_ ?_|refine vR ?_ ‹_› ?_|refine vS ?_ fun x hx=>?_|refine vP ?_ ?_);·first|omega|(simp only [vM] at *;omega))|refine vW ⟨by omega,by omega⟩ ?_|(refine vU ?_ ?_;·kernel_rfl)|refine vX ?_|refine vY ?_|refine vZ ?_|refine yD (znH _ m.W (by omega)) ⟨⟨rfl,rfl⟩,⟨rfl,rfl⟩,rfl⟩ rfl ?_|refine za.mk _ ‹_› ?_|refine vP (show (_:BitVec 64)≠_ by decide) ?_));all_goals try conv=>whnf
   ·rw [e0,if_pos ‹_›]
   ·rw [show m.val.any (bad m.W)=false from ‹_›,if_neg (by decide)] at e0
    refine zj (fun (k:Nat)=>[(1,.ptr 0 0),(4,.d (.int .i64 ((k:Int))))]) (fun (k:Nat)=>[(0,some (zac m))]) 1 (fun (k:Nat)=>k≤m.rel.length∧m.rel.any (fun r=>r.any (bad m.W))=(m.rel.drop k).any (fun r=>r.any (bad m.W))) (fun (k:Nat)=>m.rel.length - k) (0) [(0,0)] [] (⟨by simp,rfl⟩) (by (refine ⟨rfl,rfl,rfl,?_,?_⟩;repeat' first|exact trivial|exact rfl|exact ⟨_,rfl⟩|exact .inl rfl|exact .inr (.inl ⟨rfl,rfl⟩)|exact .inr (.inr ⟨rfl,rfl⟩)|refine And.intro ?_ ?_|refine ⟨_,rfl,?_⟩|decide|exact of_decide_eq_true rfl)) ?_
    clear hI hk
    rintro k ⟨hk,hI⟩
    (repeat' ((conv=>whnf);first|refine vA ?_|refine vB fun b hb=>?_|refine vC (fun hl=>?_) fun i kv vv hi=>?_|refine vE ?_|refine vG ?_|refine vH ?_|((first|refine vD ?_ ?_|refine vF ?_ ?_|refine vI ?_ ?_)<;>intro hc<;>try simp only [vL] at hc)|refine vJ fun hg=>?_|refine vK fun hg=>?_|refine vT ?_|refine vN ‹_› ?_|(refine vQ ?_ fun x hx=>?_;·first|omega|(simp only [vM] at *;omega))|((first|refine vO ?_ ?_|refine vR ?_ ‹_› ?_|refine vS ?_ fun x hx=>?_|refine vP ?_ ?_);·first|omega|(simp only [vM] at *;omega))|refine vW ⟨by omega,by omega⟩ ?_|(refine vU ?_ ?_;·kernel_rfl)|refine vX ?_|refine vY ?_|refine vZ ?_|refine yD (znH _ m.W (by omega)) ⟨⟨rfl,rfl⟩,⟨rfl,rfl⟩,rfl⟩ rfl ?_|refine za.mk _ ‹_› ?_|refine vP (show (_:BitVec 64)≠_ by decide) ?_));all_goals try conv=>whnf
    ·rw [e0,if_pos (by rw [hI,zx hx,List.any_cons,show x.any (bad m.W)=true from ‹_›];rfl)]
    ·exact ⟨k+1,[(0,0)],[],⟨by (first|omega|(simp only [vM] at *;omega)),by rw [hI,zx hx,List.any_cons,show x.any (bad m.W)=false from ‹_›];rfl⟩,by (first|omega|(simp only [vM] at *;omega)),by (refine ⟨rfl,rfl,rfl,?_,?_⟩;repeat' first|exact trivial|exact rfl|exact ⟨_,rfl⟩|exact .inl rfl|exact .inr (.inl ⟨rfl,rfl⟩)|exact .inr (.inr ⟨rfl,rfl⟩)|refine And.intro ?_ ?_|refine ⟨_,rfl,?_⟩|decide|exact of_decide_eq_true rfl)⟩
    ·rw [e0,if_neg]
     rw [hI,List.drop_eq_nil_of_le (by omega)];simp
theorem ztj {k:IntKind} {a:Nat} (h:a < 2 ^ k.bits):(BitVec.ofInt k.bits (a:Int)).toNat=a:=by
 rw [BitVec.toNat_ofInt,Int.emod_eq_of_lt (Int.natCast_nonneg a) (show (a:Int) < ((2 ^ k.bits:Nat):Int) from Int.ofNat_lt.2 h)]
 rfl
theorem zve {a:Nat} (h:a < 2 ^ 63):IntKind.wrap .i64 (a:Int)=a:=zqf ⟨by omega,by omega⟩
theorem zqV {a b:Nat} (ha:a < 2 ^ 63) (hb:b < 2 ^ 63):zcq .i64 (fun p q=>p|||q) (a:Int) (b:Int)=((a|||b:Nat):Int):=by
 unfold zcq
 rw [BitVec.toNat_or,ztj (k := .i64) (by simp [IntKind.bits];omega),ztj (k := .i64) (by simp [IntKind.bits];omega)]
 exact zve (Nat.or_lt_two_pow ha hb)
theorem zsb {x:BitVec 64} {k i:Nat} (hk:k < 64):(x|||1#64 <<< k).getLsbD i=true↔x.getLsbD i=true∨i=k:=by
 rw [BitVec.getLsbD_or,Bool.or_eq_true,zm3]
 constructor
 ·rintro (h|h)
  ·exact .inl h
  ·simp at h;exact .inr h.2
 ·rintro (h|rfl)
  ·exact .inl h
  ·exact .inr (by simp [hk])
def zbk (l:List (BitVec 64)) (w:Nat):Nat→Nat
 | 0=>0
 | k+1=>zbk l w k+if (l.getD k 0#64).getLsbD w=true then 2 ^ k else 0
theorem zlr (l:List (BitVec 64)) (w:Nat) : ∀ k,zbk l w k < 2 ^ k
 | 0=>by simp [zbk]
 | k+1=>by
  have:=zlr l w k
  have h2:=Nat.two_pow_pos k
  rw [zbk,Nat.pow_succ]
  split<;>omega
theorem zvY {x k:Nat} (h:x < 2 ^ k):x|||2 ^ k=x+2 ^ k:=by
 have:=Nat.two_pow_add_eq_or_of_lt (i:=k) h 1
 rw [Nat.or_comm,show 2 ^ k=2 ^ k * 1 by omega,← this];omega
theorem zuo {l:List (BitVec 64)} {w k:Nat} {s:BitVec 64} (hs:l[k]? = some s) (hk:k < 8) :
  zcq .i64 (fun p q=>p|||q) (zbk l w k:Int) ((((s >>> w&&&1#64).toNat:Int)) * 2 ^ (min k IntKind.i64.bits))=(zbk l w (k+1):Int):=by
 have h1:=zlr l w k
 have hp:2 ^ k≤2 ^ 7:=Nat.pow_le_pow_right (by decide) (by omega)
 have hb:min k IntKind.i64.bits=k:=by show min k 64=k;omega
 rw [hb,zbk,show l.getD k 0#64=s by rw [List.getD,hs];rfl]
 by_cases h:s.getLsbD w=true
 ·have e:s >>> w&&&1#64=1#64:=(zhm s w).2 h
  rw [e,if_pos h]
  have:=zqV (a:=zbk l w k) (b:=2 ^ k) (by omega) (by omega)
  rw [show ((1#64).toNat:Int) * 2 ^ k=((2 ^ k:Nat):Int) by simp,this,zvY h1]
 ·have e:s >>> w&&&1#64=0#64:=(zli s w).2 (by simpa using h)
  rw [e,if_neg h]
  have:=zqV (a:=zbk l w k) (b:=0) (by omega) (by omega)
  rw [show ((0#64).toNat:Int) * 2 ^ k=((0:Nat):Int) by simp,this];simp
theorem zsG (s:BitVec 64) (w:Nat):(s >>> w&&&1#64).toNat≤1:=by
 cases h:s.getLsbD w with
 | true=>rw [(zhm s w).2 h];decide
 | false=>rw [(zli s w).2 h];decide
theorem ztz {x k:Nat} (hx:x≤1) (hk:k < 8):0≤(x:Int) * 2 ^ (min (k:Int).toNat IntKind.i64.bits)∧(x:Int) * 2 ^ (min (k:Int).toNat IntKind.i64.bits)≤9223372036854775807:=by
 have hp:2 ^ k≤2 ^ 7:=Nat.pow_le_pow_right (by decide) (by omega)
 have hb:min (k:Int).toNat IntKind.i64.bits=k:=by show min k 64=k;omega
 rw [hb]
 match x,hx with
 | 0,_=>simp
 | 1,_ =>
  rw [show ((1:Nat):Int) * 2 ^ k=((2 ^ k:Nat):Int) by simp]
  have h7:(2:Nat) ^ 7=128:=rfl
  exact ⟨Int.natCast_nonneg _,Int.ofNat_le.2 (show 2 ^ k≤9223372036854775807 by omega)⟩
theorem ztn {i:Int} (h0:0≤i) (h7:i≤7):(-9223372036854775808≤(1:Int) * 2 ^ (min i.toNat IntKind.i64.bits)∧(1:Int) * 2 ^ (min i.toNat IntKind.i64.bits)≤9223372036854775807)∧((2 ^ i.toNat:Nat):Int)=(1:Int) * 2 ^ (min i.toNat IntKind.i64.bits):=by
 have:i=0∨i=1∨i=2∨i=3∨i=4∨i=5∨i=6∨i=7:=by omega
 rcases this with rfl|rfl|rfl|rfl|rfl|rfl|rfl|rfl<;>decide
def ptL (n:Nat) (q:Nat→Nat):List Int:=(List.range n).map fun w=>((q w:Nat):Int)
theorem zaw {n:Nat} {q:Nat→Nat} {w:Nat} (hw:w < n):(ptL n q)[w]? = some ((q w:Nat):Int):=by simp [ptL,hw]
theorem zbJ {n:Nat} {q:Nat→Nat} : (ptL n q).length=n:=by simp [ptL]
theorem zgY {n:Nat} {q q':Nat→Nat} (h : ∀ w,w < n→q w=q' w):ptL n q=ptL n q':=List.map_congr_left fun w hw=>by rw [h w (List.mem_range.1 hw)]
theorem zv0 {n:Nat} {q q':Nat→Nat} (h:ptL n q=ptL n q') {w:Nat} (hw:w < n):q w=q' w:=by
 have:=zaw (q:=q) hw
 rw [h,zaw hw] at this
 have:=Option.some.inj this
 omega
theorem zl2 {l:List Int} {i:Nat} (h:i < l.length):l[i]? = some (at0 l i):=by
 rw [List.getElem?_eq_getElem h];congr 1
 exact (zcG (List.getElem?_eq_getElem h)).symm
theorem zuT {q:Nat→Nat} {k:Nat} : (ptL k q).map (D.int .i64)++[D.int .i64 ((q k:Nat):Int)]=(ptL (k+1) q).map (D.int .i64):=by
 unfold ptL;rw [List.range_succ,List.map_append,List.map_append];rfl
end Go.Ab
namespace Go.Ab
def zN {α:Type} (c:α→α→Int):List α→List α→Int
 | [],[]=>0
 | [],_::_ => -1
 | _::_,[]=>1
 | x::r,y::s=>if c x y=0 then zN c r s else c x y
structure zkl {α:Type} (c:α→α→Int):Prop where
 zero : ∀ {x y},c x y=0↔x=y
 anti : ∀ x y,c y x = - c x y
 tr : ∀ {x y z},c x y < 0→c y z < 0→c x z < 0
theorem zkl.refl {α:Type} {c:α→α→Int} (h:zkl c) (x:α):c x x=0:=h.zero.2 rfl
theorem zqY {α:Type} {c:α→α→Int} (h:zkl c):zkl (zN c) where
 zero:=by
  intro x
  induction x with
  | nil=>intro y;cases y<;>simp [zN]
  | cons a r ih =>
   intro y
   cases y with
   | nil=>simp [zN]
   | cons b s =>
    unfold zN
    by_cases e:c a b=0
    ·rw [if_pos e,ih,h.zero.1 e];simp
    ·rw [if_neg e]
     constructor
     ·intro h';exact absurd h' e
     ·intro h';cases h';exact absurd (h.refl _) e
 anti:=by
  intro x
  induction x with
  | nil=>intro y;cases y<;>simp [zN]
  | cons a r ih =>
   intro y
   cases y with
   | nil=>simp [zN]
   | cons b s =>
    unfold zN
    have:=h.anti a b
    by_cases e:c a b=0
    ·rw [if_pos e,if_pos (by omega),ih]
    ·rw [if_neg e,if_neg (by omega),this]
 tr:=by
  intro x
  induction x with
  | nil =>
   intro y z h1 h2
   cases y with
   | nil=>simp [zN] at h1
   | cons b s=>cases z with
    | nil=>simp [zN] at h2
    | cons d t=>simp [zN]
  | cons a r ih =>
   intro y z h1 h2
   cases y with
   | nil=>simp [zN] at h1
   | cons b s=>cases z with
    | nil=>simp [zN] at h2
    | cons d t =>
     unfold zN at h1 h2 ⊢
     by_cases e1:c a b=0
     ·obtain rfl:=h.zero.1 e1
      rw [if_pos e1] at h1
      by_cases e2:c a d=0
      ·rw [if_pos e2] at h2 ⊢;exact ih h1 h2
      ·rw [if_neg e2] at h2 ⊢;exact h2
     ·rw [if_neg e1] at h1
      by_cases e2:c b d=0
      ·obtain rfl:=h.zero.1 e2
       rw [if_neg e1];exact h1
      ·rw [if_neg e2] at h2
       have h3:=h.tr h1 h2
       rw [if_neg (by omega)];exact h3
def z6 (x y:Int):Int:=if x < y then -1 else if y < x then 1 else 0
theorem zqZ:zkl z6 where
 zero:=by
  intro x y;unfold z6
  by_cases h1:x < y
  ·rw [if_pos h1];omega
  ·rw [if_neg h1]
   by_cases h2:y < x
   ·rw [if_pos h2];omega
   ·rw [if_neg h2];omega
 anti:=by
  intro x y;unfold z6
  by_cases h1:x < y
  ·rw [if_pos h1,if_neg (by omega),if_pos h1];rfl
  ·rw [if_neg h1]
   by_cases h2:y < x
   ·rw [if_pos h2,if_neg h1,if_pos h2]
   ·rw [if_neg h2,if_neg h1,if_neg h2];rfl
 tr:=by
  intro x y z;unfold z6
  by_cases h1:x < y
  ·rw [if_pos h1]
   by_cases h2:y < z
   ·rw [if_pos h2,if_pos (by omega)];simp
   ·rw [if_neg h2]
    by_cases h3:z < y
    ·rw [if_pos h3];intro _ h;omega
    ·rw [if_neg h3];intro _ h;omega
  ·rw [if_neg h1]
   by_cases h2:y < x
   ·rw [if_pos h2];intro h;omega
   ·rw [if_neg h2];intro h;omega
abbrev Tup:=List (List Int)
def z7:Tup→Tup→Int:=zN (zN z6)
theorem zZ:zkl z7:=zqY (zqY zqZ)
def ddT {α:Type} [DecidableEq α]:List α→List α
 | []=>[]
 | x::r=>if x∈r then ddT r else x::ddT r
theorem zV {α:Type} [DecidableEq α] {x:α} : ∀ {l:List α},x∈ddT l↔x∈l
 | []=>Iff.rfl
 | y::r=>by
  unfold ddT
  have ih:=zV (x:=x) (l:=r)
  by_cases h:y∈r
  ·rw [if_pos h,ih,List.mem_cons]
   exact ⟨.inr,fun h'=>h'.elim (fun e=>e▸h) id⟩
  ·rw [if_neg h,List.mem_cons,List.mem_cons,ih]
theorem zba {α:Type} [DecidableEq α] : ∀ l:List α,(ddT l).Nodup
 | []=>List.nodup_nil
 | y::r=>by
  unfold ddT
  by_cases h:y∈r
  ·rw [if_pos h];exact zba r
  ·rw [if_neg h];exact List.nodup_cons.2 ⟨fun h'=>h (zV.1 h'),zba r⟩
def rkN (ts:List Tup) (t:Tup):Nat:=((ddT ts).filter fun s=>decide (z7 s t < 0)).length
def cnN (ts:List Tup):Nat:=(ddT ts).length
theorem zeB {α:Type} [DecidableEq α] {l l':List α} (h:l.Nodup) (h':l'.Nodup) (hm : ∀ x,x∈l↔x∈l'):l.Perm l':=by
 rw [List.perm_iff_count]
 intro a
 have c : ∀ l:List α,l.Nodup→l.count a=if a∈l then 1 else 0:=fun l hl=>by
  by_cases ha:a∈l
  ·rw [if_pos ha]
   have h1:=List.nodup_iff_count.1 hl a
   have h2:=List.count_pos_iff.2 ha
   omega
  ·rw [if_neg ha];exact List.count_eq_zero.2 ha
 rw [c l h,c l' h']
 by_cases ha:a∈l
 ·rw [if_pos ha,if_pos ((hm a).1 ha)]
 ·rw [if_neg ha,if_neg (fun h=>ha ((hm a).2 h))]
theorem zsj {ts S:List Tup} (hn:S.Nodup) (hm : ∀ x,x∈S↔x∈ts) (t:Tup):(S.filter fun s=>decide (z7 s t < 0)).length=rkN ts t :=
 ((zeB hn (zba _) fun x=>by rw [hm,zV]).filter _).length_eq
theorem zvk {ts S:List Tup} (hn:S.Nodup) (hm : ∀ x,x∈S↔x∈ts):S.length=cnN ts :=
 (zeB hn (zba _) fun x=>by rw [hm,zV]).length_eq
theorem zuV {ts ts':List Tup} (hm : ∀ x,x∈ts↔x∈ts') (t:Tup):rkN ts t=rkN ts' t :=
 zsj (zba _) (fun x=>by rw [zV];exact hm x) t
theorem zuk {ts ts':List Tup} (hm : ∀ x,x∈ts↔x∈ts'):cnN ts=cnN ts' :=
 zvk (zba _) (fun x=>by rw [zV];exact hm x)
theorem zn6 {ts:List Tup} {s t:Tup} (hs:s∈ts) (ht:t∈ts):rkN ts s < rkN ts t↔z7 s t < 0:=by
 have key : ∀ {s t:Tup},s∈ts→z7 s t < 0→rkN ts s < rkN ts t:=by
  intro s t hs h
  unfold rkN
  have h1 : ∀ x,decide (z7 x s < 0)=true→decide (z7 x t < 0)=true:=fun x hx=>decide_eq_true (zZ.tr (of_decide_eq_true hx) h)
  have h2:s∈(ddT ts):=zV.2 hs
  generalize (ddT ts)=l at h2
  induction l with
  | nil=>cases h2
  | cons a r ih =>
   have hle:(r.filter fun x=>decide (z7 x s < 0)).length≤(r.filter fun x=>decide (z7 x t < 0)).length:=by
    clear ih h2
    induction r with
    | nil=>simp
    | cons b r ih =>
     simp only [List.filter_cons]
     by_cases hb:decide (z7 b s < 0)=true
     ·rw [if_pos hb,if_pos (h1 b hb)];simpa using ih
     ·rw [if_neg hb]
      split
      ·rw [List.length_cons];omega
      ·exact ih
   simp only [List.filter_cons]
   by_cases hb:decide (z7 a s < 0)=true
   ·rw [if_pos hb,if_pos (h1 a hb)]
    rcases List.mem_cons.1 h2 with rfl|h2
    ·have:=zZ.refl s;have:=of_decide_eq_true hb;omega
    ·simpa using ih h2
   ·rw [if_neg hb]
    rcases List.mem_cons.1 h2 with rfl|h2
    ·rw [if_pos (decide_eq_true h)];simp;omega
    ·have:=ih h2
     split
     ·rw [List.length_cons];omega
     ·exact this
 refine ⟨fun h=>?_,key hs⟩
 have ha:=zZ.anti s t
 rcases Int.lt_trichotomy (z7 s t) 0 with h'|h'|h'
 ·exact h'
 ·rw [zZ.zero.1 h'] at h;omega
 ·have:=key (s:=t) (t:=s) ht (by omega);omega
theorem zj9 {ts:List Tup} {s t:Tup} (hs:s∈ts) (ht:t∈ts) (h:rkN ts s=rkN ts t):s=t:=by
 have h1:=zn6 hs ht
 have h2:=zn6 ht hs
 have h3:=zZ.anti s t
 exact zZ.zero.1 (by omega)
theorem zgt {ts:List Tup} {t:Tup} (ht:t∈ts):rkN ts t < cnN ts:=by
 unfold rkN cnN
 have h2:t∈(ddT ts):=zV.2 ht
 refine Nat.lt_of_le_of_ne (List.length_filter_le _ _) fun h=>?_
 have:=List.length_filter_eq_length_iff.1 h t h2
 have h3:=zZ.refl t
 have:=of_decide_eq_true this
 omega
end Go.Ab
namespace Go.Ab
theorem zaL {α:Type} [DecidableEq α] : ∀ {l l':List α},l.Nodup→(∀ x∈l,x∈l')→l.length≤l'.length
 | [],_,_,_=>Nat.zero_le _
 | x::t,l',h,hs=>by
  obtain ⟨h1,h2⟩:=List.nodup_cons.1 h
  have:=zaL (l:=t) (l':=l'.erase x) h2 fun y hy=>by
   have hne:y≠x:=fun e=>h1 (e▸hy)
   exact (List.mem_erase_of_ne hne).2 (hs y (List.mem_cons_of_mem _ hy))
  have hx:=hs x (by simp)
  rw [List.length_erase_of_mem hx] at this
  have:=List.length_pos_of_mem hx
  rw [List.length_cons];omega
def dcN (n:Nat) (q:Nat→Nat):Nat:=(ddT ((List.range n).map q)).length
theorem zgc (n:Nat) (q:Nat→Nat):dcN n q≤n:=by
 have:=zaL (zba ((List.range n).map q)) (l':=(List.range n).map q) fun x hx=>zV.1 hx
 rwa [List.length_map,List.length_range] at this
theorem zkq {α β:Type} [DecidableEq α] [DecidableEq β] {n:Nat} {f:Nat→α} {g:Nat→β} (h : ∀ v w,v < n→w < n→f v=f w→g v=g w):(ddT ((List.range n).map g)).length≤(ddT ((List.range n).map f)).length:=by
 classical
 by_cases h0:n=0
 ·subst h0;exact Nat.le_refl _
 let pick:α→β:=fun a=>g (((List.range n).find? fun w=>decide (f w=a)).getD 0)
 have:=zaL (zba ((List.range n).map g)) (l':=(ddT ((List.range n).map f)).map pick) fun x hx=>by
  obtain ⟨w,hw,rfl⟩:=List.mem_map.1 (zV.1 hx)
  have hw':=List.mem_range.1 hw
  refine List.mem_map.2 ⟨f w,zV.2 (List.mem_map.2 ⟨w,hw,rfl⟩),?_⟩
  show g (((List.range n).find? fun u=>decide (f u=f w)).getD 0)=g w
  cases hf:(List.range n).find? fun u=>decide (f u=f w) with
  | none =>
   have:=List.find?_eq_none.1 hf w hw
   simp at this
  | some u =>
   have h1:=List.find?_some hf
   have h2:=List.mem_range.1 (List.mem_of_find?_eq_some hf)
   exact h u w h2 hw' (of_decide_eq_true h1)
 rwa [List.length_map] at this
section
variable (n:Nat) (next:(Nat→Nat)→Nat→Tup)
def rfT (q:Nat→Nat):List Tup:=(List.range n).map (next q)
def zcm (q:Nat→Nat):Nat→Nat:=fun w=>rkN (rfT n next q) (next q w)
def zam (q:Nat→Nat):Nat:=cnN (rfT n next q)
def zaM:Nat→(Nat→Nat)→Nat→(Nat→Nat)×Nat
 | 0,q,k=>(q,k)
 | f+1,q,k=>if zam n next q=k then (q,k) else zaM f (zcm n next q) (zam n next q)
end
section
variable {n:Nat} {next:(Nat→Nat)→Nat→Tup} (hF : ∀ q v w,v < n→w < n→next q v=next q w→q v=q w)
theorem zh4 {q:Nat→Nat} {w:Nat} (hw:w < n):next q w∈rfT n next q:=List.mem_map.2 ⟨w,List.mem_range.2 hw,rfl⟩
theorem ziX {q:Nat→Nat} {v w:Nat} (hv:v < n) (hw:w < n):zcm n next q v=zcm n next q w↔next q v=next q w :=
 ⟨fun h=>zj9 (zh4 hv) (zh4 hw) h,fun h=>by unfold zcm;rw [h]⟩
theorem zca (q:Nat→Nat):dcN n (zcm n next q)=zam n next q:=by
 have h1:=zkq (n:=n) (f:=next q) (g:=zcm n next q) fun v w hv hw h=>(ziX hv hw).2 h
 have h2:=zkq (n:=n) (f:=zcm n next q) (g:=next q) fun v w hv hw h=>(ziX hv hw).1 h
 exact Nat.le_antisymm h1 h2
theorem zoX (q:Nat→Nat):zam n next q≤n:=by rw [← zca];exact zgc _ _
include hF
theorem zmh (q:Nat→Nat):dcN n q≤zam n next q:=zkq fun v w hv hw h=>hF q v w hv hw h
theorem znn : ∀ (f g:Nat) (q:Nat→Nat),n < f+dcN n q→n < g+dcN n q→zaM n next f q (dcN n q)=zaM n next g q (dcN n q)
 | 0,g,q,h,_=>by have:=zgc n q;omega
 | f+1,0,q,_,h=>by have:=zgc n q;omega
 | f+1,g+1,q,h1,h2=>by
  unfold zaM
  by_cases h:zam n next q=dcN n q
  ·rw [if_pos h,if_pos h]
  ·rw [if_neg h,if_neg h]
   have h3:=zmh hF q
   have h4:=znn f g (zcm n next q) (by rw [zca];omega) (by rw [zca];omega)
   rwa [zca] at h4
theorem zn5 : ∀ (f:Nat) (q:Nat→Nat),n < f+dcN n q → ∃ q',zaM n next f q (dcN n q)=(q',dcN n q')∧zam n next q'=dcN n q'∧(∀ v w,v < n→w < n→q' v=q' w→q v=q w)
 | 0,q,h=>by have:=zgc n q;omega
 | f+1,q,h=>by
  unfold zaM
  by_cases he:zam n next q=dcN n q
  ·rw [if_pos he];exact ⟨q,rfl,he,fun v w _ _ h=>h⟩
  ·rw [if_neg he]
   have h3:=zmh hF q
   obtain ⟨q',h4,h5,h6⟩:=zn5 f (zcm n next q) (by rw [zca];omega)
   rw [zca] at h4
   exact ⟨q',h4,h5,fun v w hv hw e=>hF q v w hv hw ((ziX hv hw).1 (h6 v w hv hw e))⟩
end
theorem zq4 {α β:Type} [DecidableEq α] [DecidableEq β] {n:Nat} {f:Nat→α} {g:Nat→β} (h : ∀ v w,v < n→w < n→f v=f w→g v=g w) (he:(ddT ((List.range n).map g)).length=(ddT ((List.range n).map f)).length) :
  ∀ v w,v < n→w < n→g v=g w→f v=f w:=by
 classical
 intro v w hv hw hg
 refine Classical.byContradiction fun hne=>?_
 have h1:=zkq (n:=n) (f:=f) (g:=fun u=>(g u,decide (f u=f v))) fun a b ha hb e=>by rw [h a b ha hb e,e]
 have h2:(ddT ((List.range n).map g)).length+1≤(ddT ((List.range n).map fun u=>(g u,decide (f u=f v)))).length:=by
  have:=zaL (l:=(g v,false)::(ddT ((List.range n).map g)).map fun y=>(y,decide (∃ u,u < n∧g u=y∧f u=f v) )) (l':=ddT ((List.range n).map fun u=>(g u,decide (f u=f v)))) ?_ ?_
  ·simpa using this
  ·refine List.nodup_cons.2 ⟨fun hm=>?_,?_⟩
   ·obtain ⟨y,hy,e⟩:=List.mem_map.1 hm
    simp only [Prod.mk.injEq] at e
    obtain ⟨rfl,e⟩:=e
    exact absurd (of_decide_eq_false e) (not_not_intro ⟨v,hv,rfl,rfl⟩)
   ·exact List.Pairwise.map _ (fun a b hab e=>hab (by simp only [Prod.mk.injEq] at e;exact e.1)) (zba _)
  ·intro x hx
   refine zV.2 (List.mem_map.2 ?_)
   rcases List.mem_cons.1 hx with rfl|hx
   ·exact ⟨w,List.mem_range.2 hw,by simp only [Prod.mk.injEq];exact ⟨hg.symm,decide_eq_false fun e=>hne e.symm⟩⟩
   ·obtain ⟨y,hy,rfl⟩:=List.mem_map.1 hx
    obtain ⟨u,hu,rfl⟩:=List.mem_map.1 (zV.1 hy)
    by_cases hex : ∃ u',u' < n∧g u'=g u∧f u'=f v
    ·obtain ⟨u',h1,h2,h3⟩:=hex
     exact ⟨u',List.mem_range.2 h1,by simp only [Prod.mk.injEq];exact ⟨h2,by rw [decide_eq_true h3,decide_eq_true ⟨u',h1,h2,h3⟩]⟩⟩
    ·exact ⟨u,hu,by simp only [Prod.mk.injEq];exact ⟨trivial,by rw [decide_eq_false hex,decide_eq_false fun e=>hex ⟨u,List.mem_range.1 hu,rfl,e⟩]⟩⟩
 omega
end Go.Ab
namespace Go.Ab
structure Ren (n:Nat) (f:Nat→Nat):Prop where
 lt : ∀ w,w < n→f w < n
 inj : ∀ v w,v < n→w < n→f v=f w→v=w
theorem Ren.surj {n:Nat} {f:Nat→Nat} (h:Ren n f) {x:Nat} (hx:x < n) : ∃ w,w < n∧f w=x:=by
 refine Classical.byContradiction fun hn=>?_
 have:=zaL (l:=x::(List.range n).map f) (l':=List.range n) (List.nodup_cons.2 ⟨fun hm=>?_,?_⟩) fun y hy=>?_
 ·simp at this
  omega
 ·obtain ⟨w,hw,e⟩:=List.mem_map.1 hm
  exact hn ⟨w,List.mem_range.1 hw,e⟩
 ·rw [List.Nodup,List.pairwise_map]
  exact List.Pairwise.imp_of_mem (fun {a b} ha hb hab e=>hab (h.inj a b (List.mem_range.1 ha) (List.mem_range.1 hb) e)) List.nodup_range
 ·rcases List.mem_cons.1 hy with rfl|hy
  ·exact List.mem_range.2 hx
  ·obtain ⟨w,hw,rfl⟩:=List.mem_map.1 hy
   exact List.mem_range.2 (h.lt w (List.mem_range.1 hw))
section
variable {n:Nat} {f:Nat→Nat} (hf:Ren n f) {t t':Nat→Tup} (ht : ∀ w,w < n→t' (f w)=t w)
include hf ht
theorem zrh (x:Tup):x∈(List.range n).map t'↔x∈(List.range n).map t:=by
 constructor
 ·intro h
  obtain ⟨y,hy,rfl⟩:=List.mem_map.1 h
  obtain ⟨w,hw,rfl⟩:=hf.surj (List.mem_range.1 hy)
  exact List.mem_map.2 ⟨w,List.mem_range.2 hw,(ht w hw).symm⟩
 ·intro h
  obtain ⟨w,hw,rfl⟩:=List.mem_map.1 h
  exact List.mem_map.2 ⟨f w,List.mem_range.2 (hf.lt w (List.mem_range.1 hw)),ht w (List.mem_range.1 hw)⟩
theorem ztr {w:Nat} (hw:w < n):rkN ((List.range n).map t') (t' (f w))=rkN ((List.range n).map t) (t w):=by
 rw [ht w hw];exact zuV (zrh hf ht) _
theorem ztq:cnN ((List.range n).map t')=cnN ((List.range n).map t):=zuk (zrh hf ht)
end
theorem zpY {n:Nat} {f:Nat→Nat} (hf:Ren n f) {next next':(Nat→Nat)→Nat→Tup} (hn : ∀ q q',(∀ w,w < n→q' (f w)=q w) → ∀ w,w < n→next' q' (f w)=next q w) :
  ∀ (k:Nat) (q q':Nat→Nat) (c:Nat),(∀ w,w < n→q' (f w)=q w)→(∀ w,w < n→(zaM n next' k q' c).1 (f w)=(zaM n next k q c).1 w)∧(zaM n next' k q' c).2=(zaM n next k q c).2
 | 0,q,q',c,h=>⟨h,rfl⟩
 | k+1,q,q',c,h=>by
  have ht:=hn q q' h
  have hc:zam n next' q'=zam n next q:=ztq hf ht
  unfold zaM
  rw [hc]
  by_cases he:zam n next q=c
  ·rw [if_pos he,if_pos he];exact ⟨h,rfl⟩
  ·rw [if_neg he,if_neg he]
   exact zpY hf hn k _ _ _ fun w hw=>ztr hf ht hw
def leI (x y:Int):Bool:=decide (x≤y)
theorem zww (a b c:Int) (h1:leI a b=true) (h2:leI b c=true):leI a c=true:=by simp [leI] at *;omega
theorem zvQ (a b:Int):(leI a b||leI b a)=true:=by simp [leI];omega
def zbi (l:List Int):List Int:=l.mergeSort leI
theorem za2 (l:List Int):(zbi l).Perm l:=List.mergeSort_perm l leI
theorem zcD (l:List Int):(zbi l).Pairwise (· ≤ ·):=(List.pairwise_mergeSort zww zvQ l).imp fun h=>by simpa [leI] using h
theorem zcO : ∀ {l l':List Int},l.Pairwise (· ≤ ·)→l'.Pairwise (· ≤ ·)→l.Perm l'→l=l'
 | [],l',_,_,h=>(List.nil_perm.1 h).symm
 | a::r,[],_,_,h=>by cases List.perm_nil.1 h
 | a::r,b::s,h1,h2,h=>by
  obtain ⟨h3,h4⟩:=List.pairwise_cons.1 h1
  obtain ⟨h5,h6⟩:=List.pairwise_cons.1 h2
  have e:a=b:=by
   have hb:b∈a::r:=h.mem_iff.2 (by simp)
   have ha:a∈b::s:=h.mem_iff.1 (by simp)
   rcases List.mem_cons.1 hb with e|hb
   ·exact e.symm
   ·rcases List.mem_cons.1 ha with e|ha
    ·exact e
    ·have:=h3 b hb;have:=h5 a ha;omega
  subst e
  rw [zcO h4 h6 ((List.perm_cons a).1 h)]
theorem zof {l l':List Int} (h:l.Perm l'):zbi l=zbi l':=zcO (zcD l) (zcD l') (((za2 l).trans h).trans (za2 l').symm)
theorem ztU {l s:List Int} (hs:s.Pairwise (· ≤ ·)) (hp:s.Perm l):s=zbi l:=zcO hs (zcD l) (hp.trans (za2 l).symm)
def zdJ (l:List Int):List Int:=zbi (ddT l)
theorem zun {α:Type} [DecidableEq α] {l l':List α} (h : ∀ x,x∈l↔x∈l'):(ddT l).Perm (ddT l'):=by
 rw [List.perm_iff_count]
 intro a
 have c : ∀ l:List α,(ddT l).count a=if a∈l then 1 else 0:=fun l=>by
  by_cases ha:a∈l
  ·rw [if_pos ha]
   have h1:=List.nodup_iff_count.1 (zba l) a
   have h2:=List.count_pos_iff.2 (zV.2 ha)
   omega
  ·rw [if_neg ha];exact List.count_eq_zero.2 (fun h=>ha (zV.1 h))
 rw [c,c]
 by_cases ha:a∈l
 ·rw [if_pos ha,if_pos ((h a).1 ha)]
 ·rw [if_neg ha,if_neg (fun h'=>ha ((h a).2 h'))]
theorem zmV {l l':List Int} (h : ∀ x,x∈l↔x∈l'):zdJ l=zdJ l':=zof (zun h)
abbrev zaa:=List (Nat→Nat→Bool)
def zby (n:Nat) (r:Nat→Nat→Bool) (q:Nat→Nat) (w:Nat):List Int:=((List.range n).filter fun v=>r w v).map fun v=>(q v:Int)
def zgX (n:Nat) (R:zaa) (q:Nat→Nat) (w:Nat):Tup:=[(q w:Int)]::R.map fun r=>zbi (zby n r q w)
def zq (n:Nat) (R:zaa) (q:Nat→Nat) (w:Nat):Tup:=[(q w:Int)]::R.map fun r=>zdJ (zby n r q w)
theorem zcy {n:Nat} {R:zaa} (q:Nat→Nat) (v w:Nat) (_:v < n) (_:w < n) (h:zq n R q v=zq n R q w):q v=q w:=by
 unfold zq at h
 have:=(List.cons.inj h).1
 simp at this;omega
structure zru (n:Nat) (f:Nat→Nat) (R R':zaa):Prop where
 len:R'.length=R.length
 rel : ∀ (i:Nat) (r r':Nat→Nat→Bool),R[i]? = some r→R'[i]? = some r' → ∀ v w,v < n→w < n→r' (f v) (f w)=r v w
theorem zu0 {n:Nat} {f:Nat→Nat} (hf:Ren n f) {r r':Nat→Nat→Bool} (h : ∀ v w,v < n→w < n→r' (f v) (f w)=r v w) {q q':Nat→Nat} (hq : ∀ w,w < n→q' (f w)=q w) {w:Nat} (hw:w < n):(zby n r' q' (f w)).Perm (zby n r q w):=by
 have h1:((List.range n).filter fun v=>r' (f w) v).Perm (((List.range n).filter fun v=>r w v).map f):=by
  refine zeB (List.Nodup.sublist List.filter_sublist List.nodup_range) ?_ fun x=>?_
  ·rw [List.Nodup,List.pairwise_map]
   refine List.Pairwise.imp_of_mem (fun {a b} ha hb hab e=>hab (hf.inj a b ?_ ?_ e)) (List.Nodup.sublist List.filter_sublist List.nodup_range)
   ·exact List.mem_range.1 (List.mem_filter.1 ha).1
   ·exact List.mem_range.1 (List.mem_filter.1 hb).1
  ·constructor
   ·intro hx
    obtain ⟨h1,h2⟩:=List.mem_filter.1 hx
    obtain ⟨v,hv,rfl⟩:=hf.surj (List.mem_range.1 h1)
    exact List.mem_map.2 ⟨v,List.mem_filter.2 ⟨List.mem_range.2 hv,by rw [← h w v hw hv];exact h2⟩,rfl⟩
   ·intro hx
    obtain ⟨v,hv,rfl⟩:=List.mem_map.1 hx
    obtain ⟨h1,h2⟩:=List.mem_filter.1 hv
    have h1:=List.mem_range.1 h1
    exact List.mem_filter.2 ⟨List.mem_range.2 (hf.lt v h1),by rw [h w v hw h1];exact h2⟩
 unfold zby
 refine (h1.map _).trans ?_
 rw [List.map_map]
 refine List.Perm.of_eq (List.map_congr_left fun v hv=>?_)
 have:=List.mem_range.1 (List.mem_filter.1 hv).1
 show ((q' (f v):Nat):Int)=_
 rw [hq v this]
theorem zpI {n:Nat} {f:Nat→Nat} (hf:Ren n f) {R R':zaa} (hR:zru n f R R') {q q':Nat→Nat} (hq : ∀ w,w < n→q' (f w)=q w) {w:Nat} (hw:w < n):zgX n R' q' (f w)=zgX n R q w∧zq n R' q' (f w)=zq n R q w:=by
 have key : ∀ (g:List Int→List Int),(∀ l l':List Int,l.Perm l'→g l=g l')→(R'.map fun r=>g (zby n r q' (f w)))=R.map fun r=>g (zby n r q w):=by
  intro g hg
  refine List.ext_getElem? fun i=>?_
  rw [List.getElem?_map,List.getElem?_map]
  by_cases hi:i < R.length
  ·obtain ⟨r,hr⟩ : ∃ r,R[i]? = some r:=⟨_,List.getElem?_eq_getElem hi⟩
   obtain ⟨r',hr'⟩ : ∃ r',R'[i]? = some r':=⟨_,List.getElem?_eq_getElem (by rw [hR.len];exact hi)⟩
   rw [hr,hr']
   exact congrArg some (hg _ _ (zu0 hf (hR.rel i r r' hr hr') hq hw))
  ·rw [List.getElem?_eq_none (by rw [hR.len];omega),List.getElem?_eq_none (by omega)];rfl
 exact ⟨by unfold zgX;rw [hq w hw,key zbi fun l l' h=>zof h],by unfold zq;rw [hq w hw,key zdJ fun l l' h=>zmV fun x=>h.mem_iff]⟩
def zpV (n:Nat) (R:zaa) (first:Nat→Tup):(Nat→Nat)×Nat:=zaM n (zgX n R) (n+1) (fun w=>rkN ((List.range n).map first) (first w)) (cnN ((List.range n).map first))
def zbw (n:Nat) (R:zaa) (first:Nat→Tup):(Nat→Nat)×Nat:=zaM n (zq n R) (n+1) (fun w=>rkN ((List.range n).map first) (first w)) (cnN ((List.range n).map first))
theorem zrg {n:Nat} {f:Nat→Nat} (hf:Ren n f) {R R':zaa} (hR:zru n f R R') {first first':Nat→Tup} (h1 : ∀ w,w < n→first' (f w)=first w) :
  (∀ w,w < n→(zpV n R' first').1 (f w)=(zpV n R first).1 w)∧(zpV n R' first').2=(zpV n R first).2∧(∀ w,w < n→(zbw n R' first').1 (f w)=(zbw n R first).1 w)∧(zbw n R' first').2=(zbw n R first).2:=by
 have hc:=ztq hf h1
 have hr : ∀ w,w < n→(fun w=>rkN ((List.range n).map first') (first' w)) (f w)=(fun w=>rkN ((List.range n).map first) (first w)) w:=fun w hw=>ztr hf h1 hw
 have ha:=zpY hf (next:=zgX n R) (next':=zgX n R') (fun q q' hq w hw=>(zpI hf hR hq hw).1) (n+1) (fun w=>rkN ((List.range n).map first) (first w)) (fun w=>rkN ((List.range n).map first') (first' w)) (cnN ((List.range n).map first)) hr
 have ho:=zpY hf (next:=zq n R) (next':=zq n R') (fun q q' hq w hw=>(zpI hf hR hq hw).2) (n+1) (fun w=>rkN ((List.range n).map first) (first w)) (fun w=>rkN ((List.range n).map first') (first' w)) (cnN ((List.range n).map first)) hr
 unfold zpV zbw
 rw [hc]
 exact ⟨ha.1,ha.2,ho.1,ho.2⟩
end Go.Ab
namespace Go.Ab
def zcQ (n:Nat) (f:Nat→Nat) (x:Nat):Nat:=((List.range n).find? fun w=>decide (f w=x)).getD 0
theorem zkx {n:Nat} {f:Nat→Nat} (hf:Ren n f) {w:Nat} (hw:w < n):zcQ n f (f w)=w:=by
 unfold zcQ
 cases h:(List.range n).find? fun u=>decide (f u=f w) with
 | none=>have:=List.find?_eq_none.1 h w (List.mem_range.2 hw);simp at this
 | some u =>
  have h1:=List.find?_some h
  exact hf.inj u w (List.mem_range.1 (List.mem_of_find?_eq_some h)) hw (of_decide_eq_true h1)
theorem ziu {n:Nat} {f:Nat→Nat} (hf:Ren n f) {x:Nat} (hx:x < n):zcQ n f x < n∧f (zcQ n f x)=x:=by
 obtain ⟨w,hw,rfl⟩:=hf.surj hx
 rw [zkx hf hw];exact ⟨hw,rfl⟩
theorem Ren.inv {n:Nat} {f:Nat→Nat} (hf:Ren n f):Ren n (zcQ n f) :=
 ⟨fun x hx=>(ziu hf hx).1,fun x y hx hy e=>by rw [← (ziu hf hx).2,← (ziu hf hy).2,e]⟩
end Go.Ab
namespace Go.Ab
def zlY (n:Nat) (R:zaa) (q:Nat→Nat):Prop := ∀ v w,v < n→w < n→q v=q w→zq n R q v=zq n R q w
theorem zgr {l:List Int} {x:Int} : x∈zdJ l↔x∈l:=by
 unfold zdJ;rw [(za2 _).mem_iff];exact zV
theorem znj {n:Nat} {r:Nat→Nat→Bool} {q:Nat→Nat} {w:Nat} {x:Int} : x∈zby n r q w ↔ ∃ v,v < n∧r w v=true∧(q v:Int)=x:=by
 unfold zby
 rw [List.mem_map]
 constructor
 ·rintro ⟨v,hv,e⟩
  obtain ⟨h1,h2⟩:=List.mem_filter.1 hv
  exact ⟨v,List.mem_range.1 h1,h2,e⟩
 ·rintro ⟨v,h1,h2,e⟩
  exact ⟨v,List.mem_filter.2 ⟨List.mem_range.2 h1,h2⟩,e⟩
theorem znX {n:Nat} {R:zaa} {q:Nat→Nat} {v w:Nat} : zq n R q v=zq n R q w↔q v=q w ∧ ∀ r∈R,∀ x:Nat,(∃ u,u < n∧r v u=true∧q u=x) ↔ ∃ u,u < n∧r w u=true∧q u=x:=by
 have cast : ∀ (r:Nat→Nat→Bool) (a:Nat) (x:Nat),((x:Int)∈zby n r q a) ↔ ∃ u,u < n∧r a u=true∧q u=x:=fun r a x=>by
  rw [znj]
  exact ⟨fun ⟨u,h1,h2,h3⟩=>⟨u,h1,h2,by omega⟩,fun ⟨u,h1,h2,h3⟩=>⟨u,h1,h2,by omega⟩⟩
 constructor
 ·intro h
  obtain ⟨h1,h2⟩:=List.cons.inj h
  refine ⟨by simp at h1;omega,fun r hr x=>?_⟩
  rw [← cast,← cast,← zgr,← zgr (l:=zby n r q w)]
  have:=(List.map_inj_left.1 h2) r hr
  rw [this]
 ·rintro ⟨h1,h2⟩
  unfold zq
  rw [h1]
  congr 1
  refine List.map_congr_left fun r hr=>zmV fun x=>?_
  constructor
  ·intro hx
   obtain ⟨u,a,b,rfl⟩:=znj.1 hx
   exact (cast r w (q u)).2 ((h2 r hr (q u)).1 ⟨u,a,b,rfl⟩)
  ·intro hx
   obtain ⟨u,a,b,rfl⟩:=znj.1 hx
   exact (cast r v (q u)).2 ((h2 r hr (q u)).2 ⟨u,a,b,rfl⟩)
theorem zmW {n:Nat} {R:zaa} {q:Nat→Nat} (hs:zlY n R q) {p:Nat→Nat} (hp : ∀ v w,v < n→w < n→q v=q w→p v=p w) : ∀ v w,v < n→w < n→q v=q w→zq n R p v=zq n R p w:=by
 intro v w hv hw h
 obtain ⟨-,h2⟩:=znX.1 (hs v w hv hw h)
 refine znX.2 ⟨hp v w hv hw h,fun r hr x=>?_⟩
 constructor
 ·rintro ⟨u,a,b,rfl⟩
  obtain ⟨u',a',b',e⟩:=(h2 r hr (q u)).1 ⟨u,a,b,rfl⟩
  exact ⟨u',a',b',hp u' u a' a e⟩
 ·rintro ⟨u,a,b,rfl⟩
  obtain ⟨u',a',b',e⟩:=(h2 r hr (q u)).2 ⟨u,a,b,rfl⟩
  exact ⟨u',a',b',hp u' u a' a e⟩
theorem znr {n:Nat} {R:zaa} {q:Nat→Nat} (hs:zlY n R q) : ∀ (k:Nat) (p:Nat→Nat) (c:Nat),(∀ v w,v < n→w < n→q v=q w→p v=p w) → ∀ v w,v < n→w < n→q v=q w→(zaM n (zq n R) k p c).1 v=(zaM n (zq n R) k p c).1 w
 | 0,p,c,hp=>hp
 | k+1,p,c,hp=>by
  unfold zaM
  by_cases h:zam n (zq n R) p=c
  ·rw [if_pos h];exact hp
  ·rw [if_neg h]
   refine znr hs k _ _ fun v w hv hw e=>?_
   exact (ziX hv hw).2 (zmW hs hp v w hv hw e)
theorem zj6 {n:Nat} {R:zaa} {first:Nat→Tup} : ∃ q,zbw n R first=(q,dcN n q)∧zlY n R q∧(∀ v w,v < n→w < n→q v=q w→first v=first w):=by
 have hd:dcN n (fun w=>rkN ((List.range n).map first) (first w))=cnN ((List.range n).map first):=by
  have hm : ∀ w,w < n→first w∈(List.range n).map first:=fun w hw=>List.mem_map.2 ⟨w,List.mem_range.2 hw,rfl⟩
  exact Nat.le_antisymm (zkq (f:=first) fun v w _ _ h=>by rw [h]) (zkq (g:=first) fun v w hv hw h=>zj9 (hm v hv) (hm w hw) h)
 obtain ⟨q,h1,h2,h3⟩:=zn5 (next:=zq n R) (fun q v w hv hw h=>zcy q v w hv hw h) (n+1) (fun w=>rkN ((List.range n).map first) (first w)) (by omega)
 rw [hd] at h1
 refine ⟨q,h1,zq4 (fun v w hv hw h=>zcy q v w hv hw h) h2.symm,fun v w hv hw h=>?_⟩
 exact zj9 (List.mem_map.2 ⟨v,List.mem_range.2 hv,rfl⟩) (List.mem_map.2 ⟨w,List.mem_range.2 hw,rfl⟩) (h3 v w hv hw h)
theorem zm6 {n:Nat} {q:Nat→Nat} : dcN n q=n ↔ ∀ v w,v < n→w < n→q v=q w→v=w:=by
 constructor
 ·intro h
  refine zq4 (f:=fun w=>w) (g:=q) (fun v w _ _ e=>by rw [e]) ?_
  have:(ddT ((List.range n).map fun w=>w)).length=n:=by
   have h1:=zaL (l:=(List.range n).map fun w=>w) (l':=ddT ((List.range n).map fun w=>w)) (by simpa using List.nodup_range) fun x hx=>zV.2 hx
   have h2:=zgc n fun w=>w
   unfold dcN at h2
   rw [List.length_map,List.length_range] at h1
   omega
  rw [this];exact h
 ·intro h
  have h1:=zaL (l:=(List.range n).map q) (l':=ddT ((List.range n).map q)) (by
   rw [List.Nodup,List.pairwise_map]
   exact List.Pairwise.imp_of_mem (fun {a b} ha hb hab e=>hab (h a b (List.mem_range.1 ha) (List.mem_range.1 hb) e)) List.nodup_range) fun x hx=>zV.2 hx
  have h2:=zgc n q
  rw [List.length_map,List.length_range] at h1
  unfold dcN at h2 ⊢
  omega
theorem zsh {n:Nat} {R:zaa} {f g:Nat→Tup} (h : ∀ v w,v < n→w < n→f v=f w→g v=g w) : ∀ v w,v < n→w < n→(zbw n R f).1 v=(zbw n R f).1 w→(zbw n R g).1 v=(zbw n R g).1 w:=by
 obtain ⟨q,h1,h2,h3⟩:=zj6 (n:=n) (R:=R) (first:=f)
 rw [h1]
 intro v w hv hw e
 exact znr h2 (n+1) _ _ (fun v w hv hw e=>by rw [h v w hv hw (h3 v w hv hw e)]) v w hv hw e
theorem zlL {n:Nat} {R:zaa} {first:Nat→Tup} : (zbw n R first).2=dcN n (zbw n R first).1:=by
 obtain ⟨q,h1,-⟩:=zj6 (n:=n) (R:=R) (first:=first)
 rw [h1]
theorem ztp {n:Nat} {R:zaa} {f g:Nat→Tup} (h : ∀ v w,v < n→w < n→f v=f w→g v=g w) (hg:(zbw n R g).2=n):(zbw n R f).2=n∧Ren n (zbw n R f).1:=by
 have h1 : ∀ v w,v < n→w < n→(zbw n R f).1 v=(zbw n R f).1 w→v=w:=fun v w hv hw e=>by
  rw [zlL] at hg
  exact zm6.1 hg v w hv hw (zsh h v w hv hw e)
 refine ⟨by rw [zlL];exact zm6.2 h1,⟨fun w hw=>?_,h1⟩⟩
 have key : ∀ (k:Nat) (q:Nat→Nat) (c:Nat),(∀ w,w < n→q w < n) → ∀ w,w < n→(zaM n (zq n R) k q c).1 w < n:=by
  intro k
  induction k with
  | zero=>intro q c hq;exact hq
  | succ k ih =>
   intro q c hq
   unfold zaM
   by_cases e:zam n (zq n R) q=c
   ·rw [if_pos e];exact hq
   ·rw [if_neg e]
    refine ih _ _ fun w hw=>?_
    have:=zgt (zh4 (next:=zq n R) (q:=q) hw)
    have h2:=zoX (n:=n) (next:=zq n R) q
    exact Nat.lt_of_lt_of_le this h2
 refine key (n+1) _ _ (fun w hw=>?_) w hw
 have h2:=zgt (ts:=(List.range n).map f) (t:=f w) (List.mem_map.2 ⟨w,List.mem_range.2 hw,rfl⟩)
 have h3:cnN ((List.range n).map f)≤n:=by
  have:=zaL (zba ((List.range n).map f)) (l':=(List.range n).map f) fun x hx=>zV.1 hx
  rwa [List.length_map,List.length_range] at this
 exact Nat.lt_of_lt_of_le h2 h3
end Go.Ab
namespace Go.Ab
def za1 (n:Nat) (R:zaa) (p:Nat→Nat):Nat→Nat:=zY (zcR (zq n R p))
theorem ziN {n:Nat} {R:zaa} {p:Nat→Nat} {v w:Nat} : za1 n R p v=za1 n R p w↔zq n R p v=zq n R p w:=by
 unfold za1;rw [zpB (zgo _)];simp [zcR]
theorem zds (n:Nat) (R:zaa) (p:Nat→Nat) (m:Nat):zfr m (za1 n R p):=zlF (zgo _) m
def ze9 (n:Nat) (R:zaa):Nat→(Nat→Nat)→Nat→Nat
 | 0,p=>p
 | k+1,p=>if (List.range n).map (za1 n R p)=(List.range n).map p then p else ze9 n R k (za1 n R p)
theorem zdX {n:Nat} {p q:Nat→Nat} : (List.range n).map p=(List.range n).map q ↔ ∀ w,w < n→p w=q w:=by
 rw [List.map_inj_left]
 exact ⟨fun h w hw=>h w (List.mem_range.2 hw),fun h w hw=>h w (List.mem_range.1 hw)⟩
theorem znS {n:Nat} {R:zaa} {p:Nat→Nat} (hp:zfr n p) (h : ∃ w,w < n∧za1 n R p w≠p w):zeP n p < zeP n (za1 n R p):=by
 have fine : ∀ v w,v < n→w < n→za1 n R p v=za1 n R p w→p v=p w:=fun v w hv hw e=>zcy p v w hv hw (ziN.1 e)
 have rep : ∀ w,w < n→p w=w→za1 n R p w=w:=fun w hw e=>by
  have h1:=(zds n R p n).le w hw
  have h2:=(zds n R p n).idem w hw
  have h3:=fine (za1 n R p w) w (by omega) hw h2
  have h4:=hp.le (za1 n R p w) (by omega)
  omega
 unfold zeP
 have e1 : ∀ f:Nat→Nat,(List.range n).filter (fun w=>decide (f w=w))=(List.range n).filter fun w=>decide (w < n∧f w=w):=fun f=>List.filter_congr fun w hw=>by
  have:=List.mem_range.1 hw
  simp [this]
 rw [e1,e1]
 refine (zgO (fun w hw=>?_) _).2 ?_
 ·simp only [decide_eq_true_eq] at hw ⊢
  exact ⟨hw.1,rep w hw.1 hw.2⟩
 ·obtain ⟨w,hw,hne⟩:=h
  refine Classical.byContradiction fun hn=>hne ?_
  have hall : ∀ u,u < n→za1 n R p u=u→p u=u:=fun u hu e=>Classical.byContradiction fun h=>hn ⟨u,List.mem_range.2 hu,by simp [h],by simp [hu,e]⟩
  have h1:=(zds n R p n).le w hw
  have h2:=(zds n R p n).idem w hw
  have h3:=hall _ (by omega) h2
  rw [← h3]
  exact fine _ w (by omega) hw h2
theorem zpE {n:Nat} {R:zaa} : ∀ (k:Nat) (p:Nat→Nat),zfr n p→n < k+zeP n p → ∃ q,ze9 n R k p=q∧zfr n q∧(∀ w,w < n→za1 n R q w=q w)∧(∀ v w,v < n→w < n→q v=q w→p v=p w) ∧
  ∀ Q:Nat→Nat,zlY n R Q→(∀ v w,v < n→w < n→Q v=Q w→p v=p w) → ∀ v w,v < n→w < n→Q v=Q w→q v=q w
 | 0,p,hp,h=>by have:=zq0 n p;omega
 | k+1,p,hp,h=>by
  unfold ze9
  by_cases he:(List.range n).map (za1 n R p)=(List.range n).map p
  ·rw [if_pos he]
   exact ⟨p,rfl,hp,zdX.1 he,fun _ _ _ _ h=>h,fun Q _ h=>h⟩
  ·rw [if_neg he]
   have hne : ∃ w,w < n∧za1 n R p w≠p w:=Classical.byContradiction fun hn=>he (zdX.2 fun w hw=>Classical.byContradiction fun h=>hn ⟨w,hw,h⟩)
   have hg:=znS hp hne
   obtain ⟨q,h1,h2,h3,h4,h5⟩:=zpE k (za1 n R p) (zds n R p n) (by omega)
   exact ⟨q,h1,h2,h3,fun v w hv hw e=>zcy p v w hv hw (ziN.1 (h4 v w hv hw e)),fun Q hQ hQp=>h5 Q hQ fun v w hv hw e=>ziN.2 (zmW hQ hQp v w hv hw e)⟩
theorem zuC {n:Nat} {R:zaa} {fa:Nat→Int} {first:Nat→Tup} (hfst : ∀ v w,v < n→w < n→(first v=first w↔fa v=fa w)):zeP n (ze9 n R (n+1) (zY (zcR fa)))=n↔(zbw n R first).2=n:=by
 obtain ⟨q,h1,h2,h3,h4,h5⟩:=zpE (R:=R) (n+1) (zY (zcR fa)) (zlF (zgo fa) n) (by omega)
 rw [h1]
 have hfa : ∀ v w,zY (zcR fa) v=zY (zcR fa) w↔fa v=fa w:=fun v w=>by rw [zpB (zgo fa)];simp [zcR]
 have hq:zlY n R q:=fun v w hv hw e=>ziN.1 (by rw [h3 v hv,h3 w hw,e])
 obtain ⟨Q,g1,g2,g3⟩:=zj6 (n:=n) (R:=R) (first:=first)
 have hQq:=h5 Q g2 fun v w hv hw e=>(hfa v w).2 ((hfst v w hv hw).1 (g3 v w hv hw e))
 have hqQ : ∀ v w,v < n→w < n→q v=q w→Q v=Q w:=by
  have:=znr hq (n+1) (fun w=>rkN ((List.range n).map first) (first w)) (cnN ((List.range n).map first)) fun v w hv hw e=>by
   rw [(hfst v w hv hw).2 ((hfa v w).1 (h4 v w hv hw e))]
  intro v w hv hw e
  have h:=this v w hv hw e
  have e1:(zaM n (zq n R) (n+1) (fun w=>rkN ((List.range n).map first) (first w)) (cnN ((List.range n).map first))).1=Q:=by
   have:=congrArg Prod.fst g1
   exact this
  rw [e1] at h
  exact h
 rw [g1]
 show zeP n q=n↔dcN n Q=n
 rw [zm6]
 have hc:zeP n q=n ↔ ∀ w,w < n→q w=w:=by
  unfold zeP
  constructor
  ·intro h w hw
   have:=List.length_filter_eq_length_iff.1 (h.trans List.length_range.symm) w (List.mem_range.2 hw)
   exact of_decide_eq_true this
  ·intro h
   exact (List.length_filter_eq_length_iff.2 fun w hw=>decide_eq_true (h w (List.mem_range.1 hw))).trans List.length_range
 rw [hc]
 constructor
 ·intro h v w hv hw e
  have:=hQq v w hv hw e
  rw [h v hv,h w hw] at this
  exact this
 ·intro h w hw
  have h6:=h2.le w hw
  exact h _ w (by omega) hw (hqQ _ w (by omega) hw (h2.idem w hw))
end Go.Ab
namespace Go.Ab
def zmI (l:List Nat) (R:zaa):zaa:=R.map fun r=>fun i j=>r (l.getD i 0) (l.getD j 0)
def zsd (l:List Nat) (fa:Nat→Int):Nat→Int:=fun i=>fa (l.getD i 0)
def zoA (l:List Nat) (fa:Nat→Int) (root:Nat) (i:Nat):Tup:=[if l.getD i 0=root then (0:Int) else 1]::[[zsd l fa i]]
def znk (l:List Nat) (R:zaa) (fa:Nat→Int) (root:Nat):(Nat→Nat)×Nat:=zbw l.length (zmI l R) (zoA l fa root)
def zwn (l:List Nat) (R:zaa) (fa:Nat→Int) (root:Nat):List Nat:=(List.range l.length).map fun k=>l.getD (zcQ l.length (znk l R fa root).1 k) 0
theorem ziz {l:List Nat} {i:Nat} (h:i < l.length):l.getD i 0∈l:=by
 rw [List.getD,List.getElem?_eq_getElem h];exact List.getElem_mem h
theorem zpp {l:List Nat} (hn:l.Nodup) {i j:Nat} (hi:i < l.length) (hj:j < l.length) (h:l.getD i 0=l.getD j 0):i=j:=by
 rw [List.getD,List.getD,List.getElem?_eq_getElem hi,List.getElem?_eq_getElem hj] at h
 have h:l[i]=l[j]:=by simpa using h
 rcases Nat.lt_trichotomy i j with hlt|e|hlt
 ·exact absurd h (List.pairwise_iff_getElem.1 hn i j hi hj hlt)
 ·exact e
 ·exact absurd h.symm (List.pairwise_iff_getElem.1 hn j i hj hi hlt)
theorem zlH {l:List Nat} {x:Nat} (h:x∈l) : ∃ i,i < l.length∧l.getD i 0=x:=by
 obtain ⟨i,hi,rfl⟩:=List.mem_iff_getElem.1 h
 exact ⟨i,hi,by simp [List.getD,hi]⟩
end Go.Ab
namespace Go.Ab
inductive Rch (n:Nat) (R:zaa) (S:Nat→Prop):Nat→Prop where
 | base {v:Nat} : v < n→S v→Rch n R S v
 | step {v u:Nat} : Rch n R S v→u < n→(∃ r,r∈R∧r v u=true)→Rch n R S u
theorem Rch.lt {n:Nat} {R:zaa} {S:Nat→Prop} {v:Nat} (h:Rch n R S v):v < n:=by cases h<;>assumption
noncomputable def zcw (n:Nat) (R:zaa) (root:Nat):List Nat:=(List.range n).filter fun w => @decide (Rch n R (· = root) w) (Classical.propDecidable _)
theorem zku {n:Nat} {R:zaa} {root w:Nat} : w∈zcw n R root↔Rch n R (· = root) w:=by
 unfold zcw
 rw [List.mem_filter,List.mem_range,@decide_eq_true_eq _ (Classical.propDecidable _)]
 exact ⟨fun h=>h.2,fun h=>⟨h.lt,h⟩⟩
theorem zgS (n:Nat) (R:zaa) (root:Nat):(zcw n R root).Nodup:=List.Nodup.sublist List.filter_sublist List.nodup_range
theorem zlw {n:Nat} {R:zaa} {root:Nat} (h:root < n):root∈zcw n R root:=zku.2 (.base h rfl)
end Go.Ab
namespace Go.Ab
theorem zly {l:List Nat} {x:Nat} (h:x∈l):l.idxOf x < l.length∧l.getD (l.idxOf x) 0=x:=by
 have h1:=List.idxOf_lt_length_of_mem h
 exact ⟨h1,by simp [List.getD,h1]⟩
end Go.Ab
namespace Go.Ab
theorem zke {n:Nat} (hn:n≤64) {f:Nat→Bool} {w:Nat} : (zbY f n).getLsbD w=true↔w < n∧f w=true:=by
 rw [zn9];simp only [Bool.and_eq_true,decide_eq_true_eq]
 exact ⟨fun h=>⟨h.1.2,h.2⟩,fun h=>⟨⟨by omega,h.1⟩,h.2⟩⟩
theorem zk8 {f g:Nat→Bool} : ∀ {n:Nat},(∀ i,i < n→f i=g i)→zbY f n=zbY g n
 | 0,_=>rfl
 | n+1,h=>by rw [zbY,zbY,h n (by omega),zk8 fun i hi=>h i (by omega)]
def zu (m:KM):zaa:=m.rel.map fun r=>fun v w=>rb r v w
def zaT (m:KM) (w:Nat):Int:=(zbk m.val w m.val.length:Int)
def zP (s:BitVec 64) (l:List Nat):BitVec 64:=zbY (fun i=>s.getLsbD (l.getD i 0)) l.length
def zA (m:KM) (l:List Nat):KM:=⟨l.length,m.val.map fun s=>zP s l,m.rel.map fun r=>l.map fun w=>zP (r.getD w 0#64) l⟩
theorem ziR {s:BitVec 64} {l:List Nat} (hl:l.length≤64) {i:Nat} : (zP s l).getLsbD i=true↔i < l.length∧s.getLsbD (l.getD i 0)=true:=zke hl
theorem zkn {n:Int} {s:BitVec 64} (h:0≤n):bad n s=false ↔ ∀ i,s.getLsbD i=true→i < n.toNat:=by
 rw [zsC h]
 exact ⟨fun k i hi=>by have:=k i hi;omega,fun k i hi=>by have:=k i hi;omega⟩
theorem zr1 {m:KM} (h:zos m):zm m=0:=by
 obtain ⟨h1,h2,h3,h4,h5,h6,h7⟩:=h
 unfold zm
 rw [if_neg (by omega),if_neg (by omega),if_neg,if_neg,if_neg]
 ·simp only [List.any_eq_true,not_exists,not_and]
  intro r hr s hs e
  rw [h7 r hr s hs] at e;cases e
 ·simp only [List.any_eq_true,not_exists,not_and]
  intro s hs e
  rw [h6 s hs] at e;cases e
 ·simp only [List.any_eq_true,not_exists,not_and,decide_eq_true_eq]
  intro r hr e
  exact e (h5 r hr)
theorem zud {m:KM} (hm:zos m) {l:List Nat} (h1:1≤l.length) (h2:l.length≤64):zos (zA m l) where
 w1:=by show (1:Int)≤(l.length:Int);omega
 w2:=by show (l.length:Int)≤64;omega
 n4:=by have:=hm.n4;simpa [zA] using this
 v8:=by have:=hm.v8;simpa [zA] using this
 len:=fun r hr=>by
  obtain ⟨r',-,rfl⟩:=List.mem_map.1 hr
  simp [zA]
 val:=fun s hs=>by
  obtain ⟨s',-,rfl⟩:=List.mem_map.1 hs
  rw [zkn (by show (0:Int)≤(l.length:Int);omega)]
  intro i hi
  exact ((ziR h2).1 hi).1
 rel:=fun r hr s hs=>by
  obtain ⟨r',-,rfl⟩:=List.mem_map.1 hr
  obtain ⟨w,-,rfl⟩:=List.mem_map.1 hs
  rw [zkn (by show (0:Int)≤(l.length:Int);omega)]
  intro i hi
  exact ((ziR h2).1 hi).1
theorem zsz {m:KM} (hc:zm m=0) {l:List Nat} (h1:1≤l.length) (h2:l.length≤64):zm (zA m l)=0:=zr1 (zud (zB hc) h1 h2)
theorem zvA {m:KM} {l:List Nat} (h2:l.length≤64) {i:Nat} {r r':Nat→Nat→Bool} (h:(zu (zA m l))[i]? = some r) (h':(zmI l (zu m))[i]? = some r') {v w:Nat} (hv:v < l.length) (hw:w < l.length):r v w=r' v w:=by
 unfold zu zA at h
 unfold zmI zu at h'
 rw [List.map_map,List.getElem?_map,Option.map_eq_some_iff] at h
 rw [List.map_map,List.getElem?_map,Option.map_eq_some_iff] at h'
 obtain ⟨a,ha,rfl⟩:=h
 obtain ⟨b,hb,rfl⟩:=h'
 rw [ha] at hb;cases hb
 show rb (l.map fun w=>zP (a.getD w 0#64) l) v w=rb a (l.getD v 0) (l.getD w 0)
 unfold rb
 rw [show (l.map fun w=>zP (a.getD w 0#64) l).getD v 0#64=zP (a.getD (l.getD v 0) 0#64) l by
  simp [List.getD,List.getElem?_map,List.getElem?_eq_getElem hv]]
 rw [Bool.eq_iff_iff,ziR h2]
 exact ⟨fun h=>h.2,fun h=>⟨hw,h⟩⟩
theorem zuc {m:KM} {l:List Nat} (h2:l.length≤64):zru l.length (fun w=>w) (zmI l (zu m)) (zu (zA m l)) :=
 ⟨by simp [zmI,zu,zA],fun i r r' h1 h2' v w hv hw=>zvA h2 h2' h1 hv hw⟩
theorem zmn (vl:List (BitVec 64)) {l:List Nat} (h2:l.length≤64) {i:Nat} (hi:i < l.length) : ∀ k,zbk (vl.map fun s=>zP s l) i k=zbk vl (l.getD i 0) k
 | 0=>rfl
 | k+1=>by
  rw [zbk,zbk,zmn vl h2 hi k]
  have e:((vl.map fun s=>zP s l).getD k 0#64).getLsbD i=(vl.getD k 0#64).getLsbD (l.getD i 0):=by
   simp only [List.getD,List.getElem?_map]
   cases hk:vl[k]? with
   | none=>simp
   | some s =>
    show (zP s l).getLsbD i=s.getLsbD (l.getD i 0)
    rw [Bool.eq_iff_iff,ziR h2]
    exact ⟨fun h=>h.2,fun h=>⟨hi,h⟩⟩
  rw [e]
theorem zvz {m:KM} {l:List Nat} (h2:l.length≤64) {i:Nat} (hi:i < l.length):zaT (zA m l) i=zsd l (zaT m) i:=by
 unfold zaT zsd zA
 rw [List.length_map,zmn _ h2 hi]
theorem zuv {l:List (BitVec 64)} {W:Int} (hW:0≤W) (h : ∀ s∈l,bad W s=false) (i w:Nat) (hw:(l.getD i 0#64).getLsbD w=true):w < W.toNat:=by
 cases hi:l[i]? with
 | none=>rw [List.getD,hi] at hw;simp at hw
 | some s =>
  rw [List.getD,hi] at hw
  exact (zkn hW).1 (h s (List.mem_of_getElem? hi)) w hw
theorem zaZ {α:Type} {l:List α} {i:Nat} {d:α} (h:i < l.length):l[i]? = some (l.getD i d):=by simp [List.getD,h]
theorem zdW {α:Type} {a b:List α} {d:α} (hl:a.length=b.length) (h : ∀ i,i < a.length→a.getD i d=b.getD i d):a=b:=by
 refine List.ext_getElem hl fun i h1 h2=>?_
 have:=h i h1
 rw [List.getD,List.getD,List.getElem?_eq_getElem h1,List.getElem?_eq_getElem h2] at this
 exact this
def zaD (to:List Int) (n:Nat):Bool:=decide (to.length=n∧(∀ x∈to,0≤x∧x < n)∧to.Nodup)
def zck (to:List Int) (n:Nat):List Nat:=(List.range n).map fun (i:Nat)=>to.idxOf (i:Int)
def zfq:KM:=⟨0,[],[]⟩
def zfz (m:KM) (to:List Int):KM×Int:=if zm m≠0 then (zfq,zm m) else if zaD to m.W.toNat=true then (zA m (zck to m.W.toNat),0) else (zfq,1)
theorem zb8 {to:List Int} {n:Nat} : zaD to n=true↔to.length=n∧(∀ x∈to,0≤x∧x < n)∧to.Nodup:=by simp only [zaD,decide_eq_true_eq]
theorem zpR {to:List Int} {n:Nat} (h:zaD to n=true) {i:Nat} (hi:i < n):(i:Int)∈to:=by
 obtain ⟨h1,h2,h3⟩:=zb8.1 h
 have key : ∀ x∈to,x∈(List.range n).map fun (i:Nat)=>(i:Int):=fun x hx=>List.mem_map.2 ⟨x.toNat,List.mem_range.2 (by have:=h2 x hx;omega),by have:=h2 x hx;omega⟩
 apply Classical.byContradiction
 intro hn
 have:=zaL (l:=(i:Int)::to) (l':=(List.range n).map fun (i:Nat)=>(i:Int)) (List.nodup_cons.2 ⟨hn,h3⟩) fun x hx=>by
  rcases List.mem_cons.1 hx with rfl|hx
  ·exact List.mem_map.2 ⟨i,List.mem_range.2 hi,rfl⟩
  ·exact key x hx
 simp at this;omega
abbrev toF (to:List Int) (w:Nat):Nat:=(at0 to w).toNat
theorem zpS {to:List Int} {n:Nat} (h:zaD to n=true):Ren n (toF to):=by
 obtain ⟨h1,h2,h3⟩:=zb8.1 h
 refine ⟨fun w hw=>?_,fun v w hv hw e=>?_⟩
 ·have:=h2 (at0 to w) (List.mem_of_getElem? (zdr (by omega)))
  unfold toF;omega
 ·have a1:=h2 (at0 to v) (List.mem_of_getElem? (zdr (by omega)))
  have a2:=h2 (at0 to w) (List.mem_of_getElem? (zdr (by omega)))
  have e':at0 to v=at0 to w:=by unfold toF at e;omega
  have g1:=zdr (l:=to) (i:=v) (by omega)
  have g2:=zdr (l:=to) (i:=w) (by omega)
  rw [e'] at g1
  obtain ⟨p1,q1⟩:=List.getElem?_eq_some_iff.1 g1
  obtain ⟨p2,q2⟩:=List.getElem?_eq_some_iff.1 g2
  exact (List.getElem_inj h3).1 (q1.trans q2.symm)
theorem zwt {to:List Int} {n:Nat} (h:zaD to n=true) {w:Nat} (hw:w < n):to.idxOf ((toF to w:Nat):Int)=w:=by
 obtain ⟨h1,h2,h3⟩:=zb8.1 h
 have g:=zdr (l:=to) (i:=w) (by omega)
 have a:=h2 (at0 to w) (List.mem_of_getElem? g)
 rw [show ((toF to w:Nat):Int)=at0 to w by unfold toF;omega]
 obtain ⟨p,q⟩:=List.getElem?_eq_some_iff.1 g
 rw [← q]
 exact h3.idxOf_getElem w p
theorem zhI (to:List Int) (n:Nat):(zck to n).length=n:=by simp [zck]
theorem zux {to:List Int} {n i:Nat} (hi:i < n):(zck to n).getD i 0=to.idxOf (i:Int):=by simp [zck,List.getD,hi]
theorem zs4 {to:List Int} {n:Nat} (h:zaD to n=true) {w:Nat} (hw:w < n):(zck to n).getD (toF to w) 0=w:=by
 rw [zux ((zpS h).lt w hw),zwt h hw]
theorem zpu {to:List Int} {n:Nat} (h:zaD to n=true) {i:Nat} (hi:i < n):(zck to n).getD i 0 < n:=by
 obtain ⟨w,hw,rfl⟩:=(zpS h).surj hi
 rw [zs4 h hw];exact hw
end Go.Ab
namespace Go.Ab
noncomputable def zeS (m:KM) (s:BitVec 64):BitVec 64:=zbY (fun w => @decide (Rch m.W.toNat (zu m) (fun v=>s.getLsbD v=true) w) (Classical.propDecidable _)) 64
theorem zfS {m:KM} (hc:zm m=0) {s:BitVec 64} {w:Nat} : (zeS m s).getLsbD w=true↔Rch m.W.toNat (zu m) (fun v=>s.getLsbD v=true) w:=by
 have w2:=(zB hc).w2
 unfold zeS
 rw [zke (Nat.le_refl _),@decide_eq_true_eq _ (Classical.propDecidable _)]
 exact ⟨fun h=>h.2,fun h=>⟨by have:=h.lt;omega,h⟩⟩
def Clo (m:KM) (s:BitVec 64):Prop := ∀ v,s.getLsbD v=true → ∀ r∈m.rel,∀ u,rb r v u=true→s.getLsbD u=true
structure zm1 (m:KM) (f s:BitVec 64):Prop where
 sub : ∀ v,f.getLsbD v=true→s.getLsbD v=true
 inn : ∀ v,s.getLsbD v=true→Rch m.W.toNat (zu m) (fun v=>f.getLsbD v=true) v
theorem zvr {m:KM} (hc:zm m=0) {r:List (BitVec 64)} (hr:r∈m.rel) {v u:Nat} (h:rb r v u=true):v < m.W.toNat∧u < m.W.toNat:=by
 have hg:=zB hc
 have w1:=hg.w1
 refine ⟨?_,zuv (by omega) (hg.rel r hr) v u h⟩
 apply Classical.byContradiction
 intro hn
 have:=hg.len r hr
 rw [zwA (by omega)] at h;cases h
theorem zpU {m:KM} (hc:zm m=0) {S:Nat→Prop} {v u:Nat} (h:Rch m.W.toNat (zu m) S v) {r:List (BitVec 64)} (hr:r∈m.rel) (e:rb r v u=true):Rch m.W.toNat (zu m) S u :=
 .step h (zvr hc hr e).2 ⟨fun v w=>rb r v w,List.mem_map.2 ⟨r,hr,rfl⟩,e⟩
theorem zm1.done {m:KM} (hc:zm m=0) {f s:BitVec 64} (h:zm1 m f s) (hcl:Clo m s):s=zeS m f:=by
 have hin : ∀ v,Rch m.W.toNat (zu m) (fun v=>f.getLsbD v=true) v→s.getLsbD v=true:=fun v hv=>by
  induction hv with
  | base _ h1=>exact h.sub _ h1
  | step _ hu hr ih =>
   obtain ⟨r',hr',e⟩:=hr
   obtain ⟨r,hr,rfl⟩:=List.mem_map.1 hr'
   exact hcl _ ih r hr _ e
 refine BitVec.eq_of_getLsbD_eq fun i _=>?_
 rw [Bool.eq_iff_iff,zfS hc]
 exact ⟨h.inn i,hin i⟩
structure zm0 (m:KM) (f out todo:BitVec 64):Prop where
 gs:zm1 m f out
 tod : ∀ v,todo.getLsbD v=true→out.getLsbD v=true
 clo : ∀ v,out.getLsbD v=true→todo.getLsbD v=false → ∀ r∈m.rel,∀ u,rb r v u=true→out.getLsbD u=true
theorem zrX {m:KM} {f:BitVec 64} (hf : ∀ v,f.getLsbD v=true→v < m.W.toNat):zm0 m f f f :=
 ⟨⟨fun _ h=>h,fun v h => .base (hf v h) h⟩,fun _ h=>h,fun v h h'=>by rw [h] at h';cases h'⟩
theorem zm0.done {m:KM} (hc:zm m=0) {f out:BitVec 64} (h:zm0 m f out 0#64):out=zeS m f :=
 h.gs.done hc fun v hv=>h.clo v hv (by simp)
def zjy (a b:BitVec 64):Nat:=((List.range 64).filter fun v=>a.getLsbD v && !b.getLsbD v).length
theorem zvG (a b:BitVec 64):zjy a b≤64:=by
 have:=List.length_filter_le (fun v=>a.getLsbD v && !b.getLsbD v) (List.range 64)
 simpa [zjy] using this
theorem zwm {s:BitVec 64} {w:Nat} (h:s.getLsbD w=true):w < 64:=by
 apply Classical.byContradiction
 intro hn
 rw [BitVec.getLsbD_of_ge _ _ (by omega)] at h;cases h
structure zlc (m:KM) (out todo:BitVec 64) (w k:Nat) (o t:BitVec 64):Prop where
 o : ∀ v,o.getLsbD v=true↔out.getLsbD v=true ∨ ∃ r∈m.rel.take k,rb r w v=true
 t : ∀ v,t.getLsbD v=true↔(todo.getLsbD v=true∧v≠w)∨(out.getLsbD v=false ∧ ∃ r∈m.rel.take k,rb r w v=true)
theorem zrY {m:KM} {out todo t:BitVec 64} {w:Nat} (ht : ∀ v,t.getLsbD v=(todo.getLsbD v&&v != w)):zlc m out todo w 0 out t :=
 ⟨fun v=>by simp,fun v=>by rw [ht];simp⟩
theorem zfw {α:Type} {l:List α} {k:Nat} {x:α} (h:l[k]? = some x) (p:α→Prop):(∃ r∈l.take (k+1),p r)↔(∃ r∈l.take k,p r)∨p x:=by
 rw [List.take_add_one,h]
 simp only [Option.toList_some,List.mem_append,List.mem_singleton]
 constructor
 ·rintro ⟨r,h1|rfl,h2⟩
  ·exact .inl ⟨r,h1,h2⟩
  ·exact .inr h2
 ·rintro (⟨r,h1,h2⟩|h2)
  ·exact ⟨r,.inl h1,h2⟩
  ·exact ⟨x,.inr rfl,h2⟩
theorem zlc.next {m:KM} {out todo:BitVec 64} {w k:Nat} {o t:BitVec 64} (h:zlc m out todo w k o t) {r:List (BitVec 64)} {x:BitVec 64} (hr:m.rel[k]? = some r) (hx:r[w]? = some x):zlc m out todo w (k+1) (o|||x) (t|||(x &&& ~~~o)):=by
 have e : ∀ v,rb r w v=x.getLsbD v:=fun v=>zvs hx v
 refine ⟨fun v=>?_,fun v=>?_⟩
 ·rw [zfw hr,BitVec.getLsbD_or,Bool.or_eq_true,h.o v,e]
  simp only [or_assoc]
 ·rw [zfw hr,BitVec.getLsbD_or,Bool.or_eq_true,h.t v,BitVec.getLsbD_and,Bool.and_eq_true,BitVec.getLsbD_not,e]
  have ho:=h.o v
  by_cases hv:v < 64
  ·simp only [hv,decide_true,Bool.true_and,Bool.not_eq_true']
   by_cases h1:out.getLsbD v=true
   ·have:o.getLsbD v=true:=ho.2 (.inl h1)
    simp [h1,this]
   ·simp only [Bool.not_eq_true] at h1
    by_cases h2 : ∃ r∈m.rel.take k,rb r w v=true
    ·have:o.getLsbD v=true:=ho.2 (.inr h2)
     simp [h1,h2,this]
    ·have:o.getLsbD v=false:=by rw [← Bool.not_eq_true];intro h3;rcases ho.1 h3 with h3|h3; (rw [h1] at h3;cases h3);exact h2 h3
     simp [h1,h2,this]
  ·have:x.getLsbD v=false:=BitVec.getLsbD_of_ge _ _ (by omega)
   simp [hv,this]
theorem zlc.end' {m:KM} (hc:zm m=0) {f out todo:BitVec 64} {w:Nat} {o t:BitVec 64} (h:zm0 m f out todo) (hw:todo.getLsbD w=true) (hK:zlc m out todo w m.rel.length o t):zm0 m f o t∧zjy out todo < zjy o t:=by
 have ho:=hK.o;have ht:=hK.t
 simp only [List.take_length] at ho ht
 have how:=h.tod w hw
 have hr : ∀ {r v},r∈m.rel→rb r w v=true→o.getLsbD v=true:=fun h1 h2=>(ho _).2 (.inr ⟨_,h1,h2⟩)
 refine ⟨⟨⟨fun v hv=>(ho v).2 (.inl (h.gs.sub v hv)),fun v hv=>?_⟩,fun v hv=>?_,fun v hv hv' r hr' u hu=>?_⟩,?_⟩
 ·rcases (ho v).1 hv with h1|⟨r,h1,h2⟩
  ·exact h.gs.inn v h1
  ·exact zpU hc (h.gs.inn w how) h1 h2
 ·rcases (ht v).1 hv with ⟨h1,-⟩|⟨-,h2⟩
  ·exact (ho v).2 (.inl (h.tod v h1))
  ·exact (ho v).2 (.inr h2)
 ·by_cases e:v=w
  ·subst e;exact hr hr' hu
  ·have h1:out.getLsbD v=true:=by
    rcases (ho v).1 hv with h1|h1
    ·exact h1
    ·cases h2:out.getLsbD v with
     | true=>rfl
     | false=>rw [(ht v).2 (.inr ⟨h2,h1⟩)] at hv';cases hv'
   have h2:todo.getLsbD v=false:=by
    rw [← Bool.not_eq_true];intro h2
    rw [(ht v).2 (.inl ⟨h2,e⟩)] at hv';cases hv'
   exact (ho u).2 (.inl (h.clo v h1 h2 r hr' u hu))
 ·unfold zjy
  refine (zgO (fun v hv=>?_) _).2 ⟨w,List.mem_range.2 (zwm hw),by rw [hw];simp,?_⟩
  ·simp only [Bool.and_eq_true,Bool.not_eq_true'] at hv ⊢
   refine ⟨(ho v).2 (.inl hv.1),?_⟩
   rw [← Bool.not_eq_true];intro h1
   rcases (ht v).1 h1 with ⟨h2,-⟩|⟨h2,-⟩
   ·rw [h2] at hv;cases hv.2
   ·rw [h2] at hv;cases hv.1
  ·rw [(ho w).2 (.inl how)]
   simp only [Bool.true_and,Bool.not_eq_true']
   rw [← Bool.not_eq_true];intro h1
   rcases (ht w).1 h1 with ⟨-,h2⟩|⟨h2,-⟩
   ·exact h2 rfl
   ·rw [how] at h2;cases h2
def zm5 (s:BitVec 64):Nat:=(zD s).length
theorem zq1 {n:Nat} {s:BitVec 64} (h : ∀ v,s.getLsbD v=true→v < n):zm5 s≤n:=by
 have:=zaL (zpJ s) (l':=List.range n) fun v hv=>List.mem_range.2 (h v (zeA.1 hv))
 simpa [zm5] using this
theorem zq2 {s t:BitVec 64} (h : ∀ v,s.getLsbD v=true→t.getLsbD v=true) (hne:t≠s):zm5 s < zm5 t:=by
 unfold zm5 zD
 refine (zgO (fun v hv=>h v hv) _).2 ?_
 apply Classical.byContradiction
 intro hn
 refine hne (BitVec.eq_of_getLsbD_eq fun i hi=>?_)
 rw [Bool.eq_iff_iff]
 refine ⟨fun h1=>?_,h i⟩
 rw [← Bool.not_eq_false];intro h2
 exact hn ⟨i,List.mem_range.2 hi,h2,h1⟩
structure zfZ (m:KM) (f s0:BitVec 64) (w:Nat) (s:BitVec 64):Prop where
 gs:zm1 m f s
 sub : ∀ v,s0.getLsbD v=true→s.getLsbD v=true
 clo : ∀ v,v < w→s0.getLsbD v=true → ∀ r∈m.rel,∀ u,rb r v u=true→s.getLsbD u=true
theorem zr0 {m:KM} {f s0:BitVec 64} (h:zm1 m f s0):zfZ m f s0 0 s0:=⟨h,fun _ h=>h,fun v hv=>by omega⟩
theorem zfZ.skip {m:KM} {f s0 s:BitVec 64} {w:Nat} (h:zfZ m f s0 w s) (hw:s.getLsbD w=false):zfZ m f s0 (w+1) s :=
 ⟨h.gs,h.sub,fun v hv h1=>by
  by_cases e:v=w
  ·subst e;rw [h.sub _ h1] at hw;cases hw
  ·exact h.clo v (by omega) h1⟩
structure zlb (m:KM) (f s0:BitVec 64) (w k:Nat) (s:BitVec 64):Prop where
 gw:zfZ m f s0 w s
 has:s.getLsbD w=true
 clo : ∀ r∈m.rel.take k,∀ u,rb r w u=true→s.getLsbD u=true
theorem zrW {m:KM} {f s0 s:BitVec 64} {w:Nat} (h:zfZ m f s0 w s) (hw:s.getLsbD w=true):zlb m f s0 w 0 s:=⟨h,hw,fun r hr=>by simp at hr⟩
theorem zlb.next {m:KM} (hc:zm m=0) {f s0 s:BitVec 64} {w k:Nat} (h:zlb m f s0 w k s) {r:List (BitVec 64)} {x:BitVec 64} (hr:m.rel[k]? = some r) (hx:r[w]? = some x):zlb m f s0 w (k+1) (s|||x):=by
 have e : ∀ v,rb r w v=x.getLsbD v:=fun v=>zvs hx v
 have up : ∀ v,s.getLsbD v=true→(s|||x).getLsbD v=true:=fun v hv=>by rw [BitVec.getLsbD_or,hv];rfl
 refine ⟨⟨⟨fun v hv=>up v (h.gw.gs.sub v hv),fun v hv=>?_⟩,fun v hv=>up v (h.gw.sub v hv),fun v h1 h2 r' h3 u h4=>up u (h.gw.clo v h1 h2 r' h3 u h4)⟩,up w h.has,fun r' hr' u hu=>?_⟩
 ·rw [BitVec.getLsbD_or,Bool.or_eq_true] at hv
  rcases hv with hv|hv
  ·exact h.gw.gs.inn v hv
  ·exact zpU hc (h.gw.gs.inn w h.has) (List.mem_of_getElem? hr) (by rw [e];exact hv)
 ·rcases (zfw hr (· = r')).1 ⟨r',hr',rfl⟩ with ⟨q,h1,rfl⟩|rfl
  ·exact up u (h.clo q h1 u hu)
  ·rw [BitVec.getLsbD_or,← e,hu];simp
theorem zlb.end' {m:KM} {f s0 s:BitVec 64} {w:Nat} (h:zlb m f s0 w m.rel.length s):zfZ m f s0 (w+1) s :=
 ⟨h.gw.gs,h.gw.sub,fun v hv h1 r hr u hu=>by
  by_cases e:v=w
  ·subst e;exact h.clo r (by rw [List.take_length];exact hr) u hu
  ·exact h.gw.clo v (by omega) h1 r hr u hu⟩
structure zld (m:KM) (f:BitVec 64) (i:Nat) (s:BitVec 64):Prop where
 gs:zm1 m f s
 more:Clo m s∨i < zm5 s
theorem zrZ {m:KM} {f:BitVec 64} (hf : ∀ v,f.getLsbD v=true→v < m.W.toNat):zld m f 0 f:=by
 refine ⟨⟨fun _ h=>h,fun v h => .base (hf v h) h⟩,?_⟩
 by_cases h:f=0#64
 ·subst h;exact .inl fun v hv=>by simp at hv
 ·refine .inr ?_
  have:=zq2 (s:=0#64) (t:=f) (fun v hv=>by simp at hv) h
  omega
theorem zld.next {m:KM} (hc:zm m=0) {f s0 s:BitVec 64} {i:Nat} (h:zld m f i s0) (hW:zfZ m f s0 m.W.toNat s):zld m f (i+1) s:=by
 refine ⟨hW.gs,?_⟩
 have hlt : ∀ v,s0.getLsbD v=true→v < m.W.toNat:=fun v hv=>(h.gs.inn v hv).lt
 by_cases e:s=s0
 ·subst e
  exact .inl fun v hv r hr u hu=>hW.clo v (hlt v hv) hv r hr u hu
 ·have hl:=zq2 hW.sub e
  rcases h.more with h1|h1
  ·refine absurd ?_ e
   have a:=h.gs.done hc h1
   refine BitVec.eq_of_getLsbD_eq fun v _=>?_
   rw [Bool.eq_iff_iff]
   refine ⟨fun hv=>?_,hW.sub v⟩
   rw [a];exact (zfS hc).2 (hW.gs.inn v hv)
  ·exact .inr (by omega)
theorem zld.done {m:KM} (hc:zm m=0) {f s:BitVec 64} (h:zld m f m.W.toNat s):s=zeS m f:=by
 refine h.gs.done hc ?_
 rcases h.more with h1|h1
 ·exact h1
 ·have:=zq1 (n:=m.W.toNat) fun v hv=>(h.gs.inn v hv).lt
  omega
theorem zkC {w v:Nat} (hw:w < 64):(1#64 <<< w).getLsbD v=true↔v=w:=by
 rw [zm3];simp only [Bool.and_eq_true,decide_eq_true_eq];omega
theorem zn4 {n:Nat} {R:zaa} {S S':Nat→Prop} (h : ∀ v,S v→S' v) {v:Nat} (hv:Rch n R S v):Rch n R S' v:=by
 induction hv with
 | base h1 h2=>exact .base h1 (h _ h2)
 | step _ h2 h3 ih=>exact .step ih h2 h3
theorem zew {p:Nat→Bool} {n:Nat} (h : ∀ v,p v=true→v < n) : ∀ k,n≤k→(List.range k).filter p=(List.range n).filter p
 | 0,hk=>by rw [show n=0 by omega]
 | k+1,hk=>by
  by_cases e:n=k+1
  ·rw [e]
  ·rw [List.range_succ,List.filter_append,zew h k (by omega)]
   have:p k=false:=by rw [← Bool.not_eq_true];intro hp;have:=h k hp;omega
   simp [this]
theorem zpo {m:KM} (hc:zm m=0) {w:Nat} (hw:w < m.W.toNat):zD (zeS m (1#64 <<< w))=zcw m.W.toNat (zu m) w:=by
 have w2:=(zB hc).w2
 unfold zD zcw
 have key : ∀ v,(zeS m (1#64 <<< w)).getLsbD v = @decide (Rch m.W.toNat (zu m) (· = w) v) (Classical.propDecidable _):=fun v=>by
  rw [Bool.eq_iff_iff,zfS hc,@decide_eq_true_eq _ (Classical.propDecidable _)]
  exact ⟨fun h=>zn4 (fun v hv=>(zkC (by omega)).1 hv) h,fun h=>zn4 (fun v hv=>(zkC (by omega)).2 hv) h⟩
 rw [zew (n:=m.W.toNat) (fun v hv=>((zfS hc).1 hv).lt) 64 (by omega)]
 exact List.filter_congr fun v _=>key v
end Go.Ab
namespace Go.Ab
open Go Go.Proofs
set_option maxRecDepth 10000
set_option maxHeartbeats 4000000
variable {T:Nat→Obj→Prop}
theorem znc (n:Int) (h:0≤n):Fn Tryz.prog T zkV [.d (.int .i64 n)] [] (.d (.u64 (zf3 n))) []:=by
 refine zg zw zqE (by show 1≤8;decide) ?_
 (repeat' ((conv=>whnf);first|refine vA ?_|refine vB fun b hb=>?_|refine vC (fun hl=>?_) fun i kv vv hi=>?_|refine vE ?_|refine vG ?_|refine vH ?_|((first|refine vD ?_ ?_|refine vF ?_ ?_|refine vI ?_ ?_)<;>intro hc<;>try simp only [vL] at hc)|refine vJ fun hg=>?_|refine vK fun hg=>?_|refine vT ?_|refine vN ‹_› ?_|(refine vQ ?_ fun x hx=>?_;·first|omega|(simp only [vM] at *;omega))|((first|refine vO ?_ ?_|refine vR ?_ ‹_› ?_|refine vS ?_ fun x hx=>?_|refine vP ?_ ?_);·first|omega|(simp only [vM] at *;omega))|refine vW ⟨by omega,by omega⟩ ?_|(refine vU ?_ ?_;·kernel_rfl)|refine vX ?_|refine vY ?_|refine vZ ?_|refine za.mk _ ‹_› ?_|refine vP (show (_:BitVec 64)≠_ by decide) ?_));all_goals try conv=>whnf
 ·simp [zf3, *]
 ·rw [zf3,if_neg (by omega)];rfl
theorem zvJ (l:List (BitVec 64)) (g:Nat) (y:D) (p:BitVec 64→Bool) (hF : ∀ x,Fn Tryz.prog T g [.d (.u64 x),.d y] [] (.d (.bool (p x))) []):Fn Tryz.prog T zbj [.d (dU l),.d (.fn g [y])] [] (.d (.int .i64 (zex p l))) []:=by
 refine zg zw zdG (by show 2≤19;decide) ?_
 (repeat' ((conv=>whnf);first|refine vA ?_|refine vB fun b hb=>?_|refine vC (fun hl=>?_) fun i kv vv hi=>?_|refine vE ?_|refine vG ?_|refine vH ?_|((first|refine vD ?_ ?_|refine vF ?_ ?_|refine vI ?_ ?_)<;>intro hc<;>try simp only [vL] at hc)|refine vJ fun hg=>?_|refine vK fun hg=>?_|refine vT ?_|refine vN ‹_› ?_|(refine vQ ?_ fun x hx=>?_;·first|omega|(simp only [vM] at *;omega))|((first|refine vO ?_ ?_|refine vR ?_ ‹_› ?_|refine vS ?_ fun x hx=>?_|refine vP ?_ ?_);·first|omega|(simp only [vM] at *;omega))|refine vW ⟨by omega,by omega⟩ ?_|(refine vU ?_ ?_;·kernel_rfl)|refine vX ?_|refine vY ?_|refine vZ ?_|refine za.mk _ ‹_› ?_|refine vP (show (_:BitVec 64)≠_ by decide) ?_));all_goals try conv=>whnf
 refine zW (fun (k:Nat)=>[(0,.d (dU l)),(1,.d (.fn g [y])),(7,.d (.int .i64 ((l.map D.u64).length:Int))),(8,.d (.int .i64 ((k:Int))))]) (fun (k:Nat)=>k≤l.length ∧ ∀ (i:Nat) x,i < k→l[i]? = some x→p x=false) (fun (k:Nat)=>l.length - k) (0) (⟨by simp,fun i x h=>by omega⟩) (by (repeat' first|exact trivial|exact rfl|exact ⟨_,rfl⟩|exact .inl rfl|exact .inr (.inl ⟨rfl,rfl⟩)|exact .inr (.inr ⟨rfl,rfl⟩)|refine And.intro ?_ ?_|refine ⟨_,rfl,?_⟩|decide|exact of_decide_eq_true rfl)) ?_
 rintro k ⟨hk,hI⟩
 (repeat' ((conv=>whnf);first|refine vA ?_|refine vB fun b hb=>?_|refine vC (fun hl=>?_) fun i kv vv hi=>?_|refine vE ?_|refine vG ?_|refine vH ?_|((first|refine vD ?_ ?_|refine vF ?_ ?_|refine vI ?_ ?_)<;>intro hc<;>try simp only [vL] at hc)|refine vJ fun hg=>?_|refine vK fun hg=>?_|refine vT ?_|refine vN ‹_› ?_|(refine vQ ?_ fun x hx=>?_;·first|omega|(simp only [vM] at *;omega))|((first|refine vO ?_ ?_|refine vR ?_ ‹_› ?_|refine vS ?_ fun x hx=>?_|refine vP ?_ ?_);·first|omega|(simp only [vM] at *;omega))|refine vW ⟨by omega,by omega⟩ ?_|(refine vU ?_ ?_;·kernel_rfl)|refine vX ?_|refine vY ?_|refine vZ ?_|refine yD (hF _) (by (repeat refine ⟨⟨rfl,rfl⟩,?_⟩);rfl) rfl ?_|refine yN (hF _) (by (repeat refine ⟨⟨rfl,rfl⟩,?_⟩);rfl) ?_|refine za.mk _ ‹_› ?_|refine vP (show (_:BitVec 64)≠_ by decide) ?_));all_goals try conv=>whnf
 ·rw [zgP hx ‹_› hI]
 ·exact ⟨k+1,[],[],⟨by (first|omega|(simp only [vM] at *;omega)),fun i z hi hz=>by
   by_cases e:i=k
   ·subst e;rw [hx] at hz;cases hz;assumption
   ·exact hI i z (by omega) hz⟩,by (first|omega|(simp only [vM] at *;omega)),by (refine ⟨rfl,rfl,rfl,?_,?_⟩;repeat' first|exact trivial|exact rfl|exact ⟨_,rfl⟩|exact .inl rfl|exact .inr (.inl ⟨rfl,rfl⟩)|exact .inr (.inr ⟨rfl,rfl⟩)|refine And.intro ?_ ?_|refine ⟨_,rfl,?_⟩|decide|exact of_decide_eq_true rfl)⟩
 ·rw [ziv fun i x hi hx=>hI i x (by omega) hx]
theorem zus (l:List (List (BitVec 64))) (g:Nat) (y:D) (p:List (BitVec 64)→Bool) (hF : ∀ x,Fn Tryz.prog T g [.d (dU x),.d y] [] (.d (.bool (p x))) []):Fn Tryz.prog T za9 [.d (dUU l),.d (.fn g [y])] [] (.d (.int .i64 (zex p l))) []:=by
 refine zg zw zdi (by show 2≤19;decide) ?_
 (repeat' ((conv=>whnf);first|refine vA ?_|refine vB fun b hb=>?_|refine vC (fun hl=>?_) fun i kv vv hi=>?_|refine vE ?_|refine vG ?_|refine vH ?_|((first|refine vD ?_ ?_|refine vF ?_ ?_|refine vI ?_ ?_)<;>intro hc<;>try simp only [vL] at hc)|refine vJ fun hg=>?_|refine vK fun hg=>?_|refine vT ?_|refine vN ‹_› ?_|(refine vQ ?_ fun x hx=>?_;·first|omega|(simp only [vM] at *;omega))|((first|refine vO ?_ ?_|refine vR ?_ ‹_› ?_|refine vS ?_ fun x hx=>?_|refine vP ?_ ?_);·first|omega|(simp only [vM] at *;omega))|refine vW ⟨by omega,by omega⟩ ?_|(refine vU ?_ ?_;·kernel_rfl)|refine vX ?_|refine vY ?_|refine vZ ?_|refine za.mk _ ‹_› ?_|refine vP (show (_:BitVec 64)≠_ by decide) ?_));all_goals try conv=>whnf
 refine zW (fun (k:Nat)=>[(0,.d (dUU l)),(1,.d (.fn g [y])),(7,.d (.int .i64 ((l.map dU).length:Int))),(8,.d (.int .i64 ((k:Int))))]) (fun (k:Nat)=>k≤l.length ∧ ∀ (i:Nat) x,i < k→l[i]? = some x→p x=false) (fun (k:Nat)=>l.length - k) (0) (⟨by simp,fun i x h=>by omega⟩) (by (repeat' first|exact trivial|exact rfl|exact ⟨_,rfl⟩|exact .inl rfl|exact .inr (.inl ⟨rfl,rfl⟩)|exact .inr (.inr ⟨rfl,rfl⟩)|refine And.intro ?_ ?_|refine ⟨_,rfl,?_⟩|decide|exact of_decide_eq_true rfl)) ?_
 rintro k ⟨hk,hI⟩
 (repeat' ((conv=>whnf);first|refine vA ?_|refine vB fun b hb=>?_|refine vC (fun hl=>?_) fun i kv vv hi=>?_|refine vE ?_|refine vG ?_|refine vH ?_|((first|refine vD ?_ ?_|refine vF ?_ ?_|refine vI ?_ ?_)<;>intro hc<;>try simp only [vL] at hc)|refine vJ fun hg=>?_|refine vK fun hg=>?_|refine vT ?_|refine vN ‹_› ?_|(refine vQ ?_ fun x hx=>?_;·first|omega|(simp only [vM] at *;omega))|((first|refine vO ?_ ?_|refine vR ?_ ‹_› ?_|refine vS ?_ fun x hx=>?_|refine vP ?_ ?_);·first|omega|(simp only [vM] at *;omega))|refine vW ⟨by omega,by omega⟩ ?_|(refine vU ?_ ?_;·kernel_rfl)|refine vX ?_|refine vY ?_|refine vZ ?_|refine yD (hF _) (by (repeat refine ⟨⟨rfl,rfl⟩,?_⟩);rfl) rfl ?_|refine yN (hF _) (by (repeat refine ⟨⟨rfl,rfl⟩,?_⟩);rfl) ?_|refine za.mk _ ‹_› ?_|refine vP (show (_:BitVec 64)≠_ by decide) ?_));all_goals try conv=>whnf
 ·rw [zgP hx ‹_› hI]
 ·exact ⟨k+1,[],[],⟨by (first|omega|(simp only [vM] at *;omega)),fun i z hi hz=>by
   by_cases e:i=k
   ·subst e;rw [hx] at hz;cases hz;assumption
   ·exact hI i z (by omega) hz⟩,by (first|omega|(simp only [vM] at *;omega)),by (refine ⟨rfl,rfl,rfl,?_,?_⟩;repeat' first|exact trivial|exact rfl|exact ⟨_,rfl⟩|exact .inl rfl|exact .inr (.inl ⟨rfl,rfl⟩)|exact .inr (.inr ⟨rfl,rfl⟩)|refine And.intro ?_ ?_|refine ⟨_,rfl,?_⟩|decide|exact of_decide_eq_true rfl)⟩
 ·rw [ziv fun i x hi hx=>hI i x (by omega) hx]
theorem znE {α:Type} {p:α→Bool} {l:List α} : decide (0≤zex p l)=l.any p:=by
 rw [Bool.eq_iff_iff,decide_eq_true_eq,zpb,List.any_eq_true]
theorem zqy (n:Int) (h:0≤n) (s:BitVec 64):Fn Tryz.prog T zcd [.d (.u64 s),.d (.box [.int .i64 n])] [] (.d (.bool (bad n s))) []:=by
 refine zg zw zkP (by show 2≤9;decide) ?_
 (repeat' ((conv=>whnf);first|refine vA ?_|refine vB fun b hb=>?_|refine vC (fun hl=>?_) fun i kv vv hi=>?_|refine vE ?_|refine vG ?_|refine vH ?_|((first|refine vD ?_ ?_|refine vF ?_ ?_|refine vI ?_ ?_)<;>intro hc<;>try simp only [vL] at hc)|refine vJ fun hg=>?_|refine vK fun hg=>?_|refine vT ?_|refine vN ‹_› ?_|(refine vQ ?_ fun x hx=>?_;·first|omega|(simp only [vM] at *;omega))|((first|refine vO ?_ ?_|refine vR ?_ ‹_› ?_|refine vS ?_ fun x hx=>?_|refine vP ?_ ?_);·first|omega|(simp only [vM] at *;omega))|refine vW ⟨by omega,by omega⟩ ?_|(refine vU ?_ ?_;·kernel_rfl)|refine vX ?_|refine vY ?_|refine vZ ?_|refine yD (znc n h) ⟨⟨rfl,rfl⟩,rfl⟩ rfl ?_|refine za.mk _ ‹_› ?_|refine vP (show (_:BitVec 64)≠_ by decide) ?_));all_goals try conv=>whnf
 rfl
theorem zkZ (l:List (BitVec 64)) (n:Int) (h:0≤n):Fn Tryz.prog T zgN [.d (dU l),.d (.int .i64 n)] [] (.d (.bool (l.any (bad n)))) []:=by
 have c1:Fn Tryz.prog T za4 [.d (dU l),.d (.fn zcd [.box [.int .i64 n]])] [] (.d (.bool (l.any (bad n)))) []:=by
  refine zg zw zc2 (by show 2≤9;decide) ?_
  (repeat' ((conv=>whnf);first|refine vA ?_|refine vB fun b hb=>?_|refine vC (fun hl=>?_) fun i kv vv hi=>?_|refine vE ?_|refine vG ?_|refine vH ?_|((first|refine vD ?_ ?_|refine vF ?_ ?_|refine vI ?_ ?_)<;>intro hc<;>try simp only [vL] at hc)|refine vJ fun hg=>?_|refine vK fun hg=>?_|refine vT ?_|refine vN ‹_› ?_|(refine vQ ?_ fun x hx=>?_;·first|omega|(simp only [vM] at *;omega))|((first|refine vO ?_ ?_|refine vR ?_ ‹_› ?_|refine vS ?_ fun x hx=>?_|refine vP ?_ ?_);·first|omega|(simp only [vM] at *;omega))|refine vW ⟨by omega,by omega⟩ ?_|(refine vU ?_ ?_;·kernel_rfl)|refine vX ?_|refine vY ?_|refine vZ ?_|refine yD (zvJ l _ _ (bad n) (zqy n h)) ⟨⟨rfl,rfl⟩,⟨rfl,rfl⟩,rfl⟩ rfl ?_|refine za.mk _ ‹_› ?_|refine vP (show (_:BitVec 64)≠_ by decide) ?_));all_goals try conv=>whnf
  exact znE
 refine zg zw zmF (by show 2≤8;decide) ?_
 (repeat' ((conv=>whnf);first|refine vA ?_|refine vB fun b hb=>?_|refine vC (fun hl=>?_) fun i kv vv hi=>?_|refine vE ?_|refine vG ?_|refine vH ?_|((first|refine vD ?_ ?_|refine vF ?_ ?_|refine vI ?_ ?_)<;>intro hc<;>try simp only [vL] at hc)|refine vJ fun hg=>?_|refine vK fun hg=>?_|refine vT ?_|refine vN ‹_› ?_|(refine vQ ?_ fun x hx=>?_;·first|omega|(simp only [vM] at *;omega))|((first|refine vO ?_ ?_|refine vR ?_ ‹_› ?_|refine vS ?_ fun x hx=>?_|refine vP ?_ ?_);·first|omega|(simp only [vM] at *;omega))|refine vW ⟨by omega,by omega⟩ ?_|(refine vU ?_ ?_;·kernel_rfl)|refine vX ?_|refine vY ?_|refine vZ ?_|refine yD c1 (by (repeat refine ⟨⟨rfl,rfl⟩,?_⟩);rfl) rfl ?_|refine yN c1 (by (repeat refine ⟨⟨rfl,rfl⟩,?_⟩);rfl) ?_|refine za.mk _ ‹_› ?_|refine vP (show (_:BitVec 64)≠_ by decide) ?_));all_goals try conv=>whnf
abbrev bKM (m:KM):D := .box [.int .i64 m.W,dU m.val,dUU m.rel]
theorem zec (m:KM):Fn Tryz.prog T zdU [.d (dKM m)] [] (.d (.int .i64 (zm m))) []:=by
 have c1:0≤m.W → ∀ x:List (BitVec 64),Fn Tryz.prog T zcY [.d (dU x),.d (bKM m)] [] (.d (.bool (x.any (bad m.W)))) []:=fun h x=>by
  refine zg zw zmC (by show 2≤8;decide) ?_
  (repeat' ((conv=>whnf);first|refine vA ?_|refine vB fun b hb=>?_|refine vC (fun hl=>?_) fun i kv vv hi=>?_|refine vE ?_|refine vG ?_|refine vH ?_|((first|refine vD ?_ ?_|refine vF ?_ ?_|refine vI ?_ ?_)<;>intro hc<;>try simp only [vL] at hc)|refine vJ fun hg=>?_|refine vK fun hg=>?_|refine vT ?_|refine vN ‹_› ?_|(refine vQ ?_ fun x hx=>?_;·first|omega|(simp only [vM] at *;omega))|((first|refine vO ?_ ?_|refine vR ?_ ‹_› ?_|refine vS ?_ fun x hx=>?_|refine vP ?_ ?_);·first|omega|(simp only [vM] at *;omega))|refine vW ⟨by omega,by omega⟩ ?_|(refine vU ?_ ?_;·kernel_rfl)|refine vX ?_|refine vY ?_|refine vZ ?_|refine yD (zkZ x m.W h) ⟨⟨rfl,rfl⟩,⟨rfl,rfl⟩,rfl⟩ rfl ?_|refine za.mk _ ‹_› ?_|refine vP (show (_:BitVec 64)≠_ by decide) ?_));all_goals try conv=>whnf
 have c2:0≤m.W→Fn Tryz.prog T zaQ [.d (dUU m.rel),.d (.fn zcY [bKM m])] [] (.d (.bool (m.rel.any fun x=>x.any (bad m.W)))) []:=fun h=>by
  refine zg zw zcL (by show 2≤9;decide) ?_
  (repeat' ((conv=>whnf);first|refine vA ?_|refine vB fun b hb=>?_|refine vC (fun hl=>?_) fun i kv vv hi=>?_|refine vE ?_|refine vG ?_|refine vH ?_|((first|refine vD ?_ ?_|refine vF ?_ ?_|refine vI ?_ ?_)<;>intro hc<;>try simp only [vL] at hc)|refine vJ fun hg=>?_|refine vK fun hg=>?_|refine vT ?_|refine vN ‹_› ?_|(refine vQ ?_ fun x hx=>?_;·first|omega|(simp only [vM] at *;omega))|((first|refine vO ?_ ?_|refine vR ?_ ‹_› ?_|refine vS ?_ fun x hx=>?_|refine vP ?_ ?_);·first|omega|(simp only [vM] at *;omega))|refine vW ⟨by omega,by omega⟩ ?_|(refine vU ?_ ?_;·kernel_rfl)|refine vX ?_|refine vY ?_|refine vZ ?_|refine yD (zus m.rel _ _ (fun x=>x.any (bad m.W)) (c1 h)) ⟨⟨rfl,rfl⟩,⟨rfl,rfl⟩,rfl⟩ rfl ?_|refine za.mk _ ‹_› ?_|refine vP (show (_:BitVec 64)≠_ by decide) ?_));all_goals try conv=>whnf
  exact znE
 refine zg zw zoo (by show 1≤47;decide) ?_
 (repeat' ((conv=>whnf);first|refine vA ?_|refine vB fun b hb=>?_|refine vC (fun hl=>?_) fun i kv vv hi=>?_|refine vE ?_|refine vG ?_|refine vH ?_|((first|refine vD ?_ ?_|refine vF ?_ ?_|refine vI ?_ ?_)<;>intro hc<;>try simp only [vL] at hc)|refine vJ fun hg=>?_|refine vK fun hg=>?_|refine vT ?_|refine vN ‹_› ?_|(refine vQ ?_ fun x hx=>?_;·first|omega|(simp only [vM] at *;omega))|((first|refine vO ?_ ?_|refine vR ?_ ‹_› ?_|refine vS ?_ fun x hx=>?_|refine vP ?_ ?_);·first|omega|(simp only [vM] at *;omega))|refine vW ⟨by omega,by omega⟩ ?_|(refine vU ?_ ?_;·kernel_rfl)|refine vX ?_|refine vY ?_|refine vZ ?_|refine za.mk _ ‹_› ?_|refine vP (show (_:BitVec 64)≠_ by decide) ?_));all_goals try conv=>whnf
 ·rw [zm,if_pos (by omega)]
 ·rw [zm,if_pos (by omega)]
 ·rw [zm,if_neg (by omega),if_pos (by omega)]
 ·rw [zm,if_neg (by omega),if_pos (by omega)]
 ·have e0:zm m=if m.rel.any (fun r=>decide ((r.length:Int)≠m.W)) then 3 else if m.val.any (bad m.W) then 2 else if m.rel.any (fun r=>r.any (bad m.W)) then 2 else 0:=by rw [zm,if_neg (by omega),if_neg (by omega)]
  refine zj (fun (k:Nat)=>[(1,.ptr 0 0),(24,.d (dUU m.rel)),(25,.d (.int .i64 ((m.rel.map dU).length:Int))),(26,.d (.int .i64 ((k:Int))))]) (fun (k:Nat)=>[(0,some (zac m))]) 1 (fun (k:Nat)=>k≤m.rel.length∧m.rel.any (fun r=>decide ((r.length:Int)≠m.W))=(m.rel.drop k).any (fun r=>decide ((r.length:Int)≠m.W))) (fun (k:Nat)=>m.rel.length - k) (0) [(0,0)] [] (⟨by simp,rfl⟩) (by (refine ⟨rfl,rfl,rfl,?_,?_⟩;repeat' first|exact trivial|exact rfl|exact ⟨_,rfl⟩|exact .inl rfl|exact .inr (.inl ⟨rfl,rfl⟩)|exact .inr (.inr ⟨rfl,rfl⟩)|refine And.intro ?_ ?_|refine ⟨_,rfl,?_⟩|decide|exact of_decide_eq_true rfl)) ?_
  rintro k ⟨hk,hI⟩
  (repeat' ((conv=>whnf);first|refine vA ?_|refine vB fun b hb=>?_|refine vC (fun hl=>?_) fun i kv vv hi=>?_|refine vE ?_|refine vG ?_|refine vH ?_|((first|refine vD ?_ ?_|refine vF ?_ ?_|refine vI ?_ ?_)<;>intro hc<;>try simp only [vL] at hc)|refine vJ fun hg=>?_|refine vK fun hg=>?_|refine vT ?_|refine vN ‹_› ?_|(refine vQ ?_ fun x hx=>?_;·first|omega|(simp only [vM] at *;omega))|((first|refine vO ?_ ?_|refine vR ?_ ‹_› ?_|refine vS ?_ fun x hx=>?_|refine vP ?_ ?_);·first|omega|(simp only [vM] at *;omega))|refine vW ⟨by omega,by omega⟩ ?_|(refine vU ?_ ?_;·kernel_rfl)|refine vX ?_|refine vY ?_|refine vZ ?_|refine za.mk _ ‹_› ?_|refine vP (show (_:BitVec 64)≠_ by decide) ?_));all_goals try conv=>whnf
  ·rw [e0,if_pos (by rw [hI,zx hx,List.any_cons,decide_eq_true (by simpa using ‹_›)];rfl)]
  ·exact ⟨k+1,[(0,0)],[],⟨by (first|omega|(simp only [vM] at *;omega)),by rw [hI,zx hx,List.any_cons,decide_eq_false (by simpa using ‹_›)];rfl⟩,by (first|omega|(simp only [vM] at *;omega)),by (refine ⟨rfl,rfl,rfl,?_,?_⟩;repeat' first|exact trivial|exact rfl|exact ⟨_,rfl⟩|exact .inl rfl|exact .inr (.inl ⟨rfl,rfl⟩)|exact .inr (.inr ⟨rfl,rfl⟩)|refine And.intro ?_ ?_|refine ⟨_,rfl,?_⟩|decide|exact of_decide_eq_true rfl)⟩
  ·have h1:m.rel.any (fun r=>decide ((r.length:Int)≠m.W))=false:=by rw [hI,List.drop_eq_nil_of_le (by omega)];rfl
   rw [h1,if_neg (by decide)] at e0
   have co:=zkZ (T:=T) m.val m.W (by omega)
   have c2:=c2 (by omega)
   (repeat' ((conv=>whnf);first|refine vA ?_|refine vB fun b hb=>?_|refine vC (fun hl=>?_) fun i kv vv hi=>?_|refine vE ?_|refine vG ?_|refine vH ?_|((first|refine vD ?_ ?_|refine vF ?_ ?_|refine vI ?_ ?_)<;>intro hc<;>try simp only [vL] at hc)|refine vJ fun hg=>?_|refine vK fun hg=>?_|refine vT ?_|refine vN ‹_› ?_|(refine vQ ?_ fun x hx=>?_;·first|omega|(simp only [vM] at *;omega))|((first|refine vO ?_ ?_|refine vR ?_ ‹_› ?_|refine vS ?_ fun x hx=>?_|refine vP ?_ ?_);·first|omega|(simp only [vM] at *;omega))|refine vW ⟨by omega,by omega⟩ ?_|(refine vU ?_ ?_;·kernel_rfl)|refine vX ?_|refine vY ?_|refine vZ ?_|refine yD co ⟨⟨rfl,rfl⟩,⟨rfl,rfl⟩,rfl⟩ rfl ?_|refine yD c2 (by (repeat refine ⟨⟨rfl,rfl⟩,?_⟩);rfl) rfl ?_|refine yN c2 (by (repeat refine ⟨⟨rfl,rfl⟩,?_⟩);rfl) ?_|refine za.mk _ ‹_› ?_|refine vP (show (_:BitVec 64)≠_ by decide) ?_));all_goals try conv=>whnf
   ·rw [e0,if_pos ‹_›]
   ·rw [e0,if_neg (by simp [‹m.val.any (bad m.W)=false›]),if_pos ‹_›]
   ·rw [e0,if_neg (by simp [‹m.val.any (bad m.W)=false›]),if_neg (by simp [‹(m.rel.any fun x=>x.any (bad m.W))=false›])]
def zeR (m:KM) (w:Int):Int:=if zm m≠0∨w < 0∨m.W≤w then -1 else zaT m w.toNat
theorem zna {m:KM} (hc:zm m=0) {w:Nat} (hw:w < m.W.toNat):zeR m (w:Int)=zaT m w:=by
 unfold zeR;rw [if_neg (by omega)];rfl
theorem znI (m:KM) (w:Int):Fn Tryz.prog T zdV [.d (dKM m),.d (.int .i64 w)] [] (.d (.int .i64 (zeR m w))) []:=by
 refine zg zw zop (by show 2≤40;decide) ?_
 (repeat' ((conv=>whnf);first|refine vA ?_|refine vB fun b hb=>?_|refine vC (fun hl=>?_) fun i kv vv hi=>?_|refine vE ?_|refine vG ?_|refine vH ?_|((first|refine vD ?_ ?_|refine vF ?_ ?_|refine vI ?_ ?_)<;>intro hc<;>try simp only [vL] at hc)|refine vJ fun hg=>?_|refine vK fun hg=>?_|refine vT ?_|refine vN ‹_› ?_|(refine vQ ?_ fun x hx=>?_;·first|omega|(simp only [vM] at *;omega))|((first|refine vO ?_ ?_|refine vR ?_ ‹_› ?_|refine vS ?_ fun x hx=>?_|refine vP ?_ ?_);·first|omega|(simp only [vM] at *;omega))|refine vW ⟨by omega,by omega⟩ ?_|(refine vU ?_ ?_;·kernel_rfl)|refine vX ?_|refine vY ?_|refine vZ ?_|refine yD (zec m) ⟨⟨rfl,rfl⟩,rfl⟩ rfl ?_|refine za.mk _ ‹_› ?_|refine vP (show (_:BitVec 64)≠_ by decide) ?_));all_goals try conv=>whnf
 ·rw [zeR,if_pos (by omega)]
 ·rw [zeR,if_pos (by omega)]
 ·rw [zeR,if_pos (by omega)]
 ·have hc0:zm m=0:=by omega
  have hg0:=zB hc0
  have w2:=hg0.w2
  have v8:=hg0.v8
  refine zj (fun ((k,f):Nat×Int)=>[(1,.d (.int .i64 (w))),(5,.d (.int .i64 (f))),(22,.d (dU m.val)),(23,.d (.int .i64 ((m.val.map D.u64).length:Int))),(24,.d (.int .i64 ((k:Int))))]) (fun ((k,f):Nat×Int)=>[(0,some (zac m))]) 1 (fun ((k,f):Nat×Int)=>k≤m.val.length∧f=(zbk m.val w.toNat k:Int)) (fun ((k,f):Nat×Int)=>m.val.length - k) ((0,0)) [(0,0)] [] (⟨by simp,rfl⟩) (by (refine ⟨rfl,rfl,rfl,?_,?_⟩;repeat' first|exact trivial|exact rfl|exact ⟨_,rfl⟩|exact .inl rfl|exact .inr (.inl ⟨rfl,rfl⟩)|exact .inr (.inr ⟨rfl,rfl⟩)|refine And.intro ?_ ?_|refine ⟨_,rfl,?_⟩|decide|exact of_decide_eq_true rfl)) ?_
  rintro ⟨k,f⟩ ⟨hk,hI⟩
  subst hI
  by_cases hkl:k < m.val.length
  ·obtain ⟨s,hs⟩ : ∃ s,m.val[k]? = some s:=⟨_,List.getElem?_eq_getElem hkl⟩
   have hw:w=((w.toNat:Nat):Int):=by omega
   have bs:(s >>> w.toNat&&&(1:BitVec 64)).toNat≤1:=zsG s _
   have hor:=zuo (w:=w.toNat) hs (by omega)
   have hsh:0≤(((s >>> w.toNat&&&(1:BitVec 64)).toNat:Int)) * 2 ^ (min (k:Int).toNat IntKind.i64.bits)∧(((s >>> w.toNat&&&(1:BitVec 64)).toNat:Int)) * 2 ^ (min (k:Int).toNat IntKind.i64.bits)≤9223372036854775807:=ztz bs (by omega)
   (repeat' ((conv=>whnf);first|refine vA ?_|refine vB fun b hb=>?_|refine vC (fun hl=>?_) fun i kv vv hi=>?_|refine vE ?_|refine vG ?_|refine vH ?_|((first|refine vD ?_ ?_|refine vF ?_ ?_|refine vI ?_ ?_)<;>intro hc<;>try simp only [vL] at hc)|refine vJ fun hg=>?_|refine vK fun hg=>?_|refine vT ?_|refine vN ‹_› ?_|(refine vQ ?_ fun x hx=>?_;·first|omega|(simp only [vM] at *;omega))|((first|refine vO ?_ ?_|refine vR ?_ ‹_› ?_|refine vS ?_ fun x hx=>?_|refine vP ?_ ?_);·first|omega|(simp only [vM] at *;omega))|refine vW ⟨by omega,by omega⟩ ?_|(refine vU ?_ ?_;·kernel_rfl)|refine vX ?_|refine vY ?_|refine vZ ?_|refine za.mk _ ‹_› ?_|refine vP (show (_:BitVec 64)≠_ by decide) ?_));all_goals try conv=>whnf
   ·refine ⟨(k+1,_),[(0,0)],[],?_,?_,by (refine ⟨rfl,rfl,rfl,?_,?_⟩;repeat' first|exact trivial|exact rfl|exact ⟨_,rfl⟩|exact .inl rfl|exact .inr (.inl ⟨rfl,rfl⟩)|exact .inr (.inr ⟨rfl,rfl⟩)|refine And.intro ?_ ?_|refine ⟨_,rfl,?_⟩|decide|exact of_decide_eq_true rfl)⟩
    ·exact ⟨by (first|omega|(simp only [vM] at *;omega)),hor⟩
    ·(first|omega|(simp only [vM] at *;omega))
   all_goals omega
  ·(repeat' ((conv=>whnf);first|refine vA ?_|refine vB fun b hb=>?_|refine vC (fun hl=>?_) fun i kv vv hi=>?_|refine vE ?_|refine vG ?_|refine vH ?_|((first|refine vD ?_ ?_|refine vF ?_ ?_|refine vI ?_ ?_)<;>intro hc<;>try simp only [vL] at hc)|refine vJ fun hg=>?_|refine vK fun hg=>?_|refine vT ?_|refine vN ‹_› ?_|(refine vQ ?_ fun x hx=>?_;·first|omega|(simp only [vM] at *;omega))|((first|refine vO ?_ ?_|refine vR ?_ ‹_› ?_|refine vS ?_ fun x hx=>?_|refine vP ?_ ?_);·first|omega|(simp only [vM] at *;omega))|refine vW ⟨by omega,by omega⟩ ?_|(refine vU ?_ ?_;·kernel_rfl)|refine vX ?_|refine vY ?_|refine vZ ?_|refine za.mk _ ‹_› ?_|refine vP (show (_:BitVec 64)≠_ by decide) ?_));all_goals try conv=>whnf
   ·omega
   ·unfold zeR
    rw [if_neg (by omega),show k=m.val.length by omega];rfl
abbrev dN (l:List Nat):D:=dI (l.map fun (x:Nat)=>(x:Int))
theorem zqw (hT:zeM T) (s:BitVec 64):Fn Tryz.prog T zgM [.d (.u64 s)] [] (.d (dN (zD s))) []:=by
 refine zg zw zmE (by show 1≤16;decide) ?_
 (repeat' ((conv=>whnf);first|refine vA ?_|refine vB fun b hb=>?_|refine vC (fun hl=>?_) fun i kv vv hi=>?_|refine vE ?_|refine vG ?_|refine vH ?_|((first|refine vD ?_ ?_|refine vF ?_ ?_|refine vI ?_ ?_)<;>intro hc<;>try simp only [vL] at hc)|refine vJ fun hg=>?_|refine vK fun hg=>?_|refine vT ?_|refine vN ‹_› ?_|(refine vQ ?_ fun x hx=>?_;·first|omega|(simp only [vM] at *;omega))|((first|refine vO ?_ ?_|refine vR ?_ ‹_› ?_|refine vS ?_ fun x hx=>?_|refine vP ?_ ?_);·first|omega|(simp only [vM] at *;omega))|refine vW ⟨by omega,by omega⟩ ?_|(refine vU ?_ ?_;·kernel_rfl)|refine vX ?_|refine vY ?_|refine vZ ?_|refine za.mk _ ‹_› ?_|refine vP (show (_:BitVec 64)≠_ by decide) ?_));all_goals try conv=>whnf
 refine zj (fun ((r,zs):BitVec 64×List D)=>[(0,.d (.u64 (r))),(3,.own 0)]) (fun ((r,zs):BitVec 64×List D)=>[(0,some (.row 1 zs))]) 1 (fun ((r,zs):BitVec 64×List D) => ∃ l:List Nat,zs=l.map (fun (x:Nat)=>D.int .i64 (x:Int))∧zD s=l++zD r) (fun ((r,zs):BitVec 64×List D)=>(zD r).length) ((s,[])) []   [0] (⟨[],rfl,rfl⟩) (by (refine ⟨rfl,rfl,rfl,?_,?_⟩;repeat' first|exact trivial|exact rfl|exact ⟨_,rfl⟩|exact .inl rfl|exact .inr (.inl ⟨rfl,rfl⟩)|exact .inr (.inr ⟨rfl,rfl⟩)|refine And.intro ?_ ?_|refine ⟨_,rfl,?_⟩|decide|exact of_decide_eq_true rfl)) ?_
 rintro ⟨r,zs⟩ ⟨l,rfl,hI⟩
 by_cases hr:r=0#64
 ·subst hr
  (repeat' ((conv=>whnf);first|refine vA ?_|refine vB fun b hb=>?_|refine vC (fun hl=>?_) fun i kv vv hi=>?_|refine vE ?_|refine vG ?_|refine vH ?_|((first|refine vD ?_ ?_|refine vF ?_ ?_|refine vI ?_ ?_)<;>intro hc<;>try simp only [vL] at hc)|refine vJ fun hg=>?_|refine vK fun hg=>?_|refine vT ?_|refine vN ‹_› ?_|(refine vQ ?_ fun x hx=>?_;·first|omega|(simp only [vM] at *;omega))|((first|refine vO ?_ ?_|refine vR ?_ ‹_› ?_|refine vS ?_ fun x hx=>?_|refine vP ?_ ?_);·first|omega|(simp only [vM] at *;omega))|refine vW ⟨by omega,by omega⟩ ?_|(refine vU ?_ ?_;·kernel_rfl)|refine vX ?_|refine vY ?_|refine vZ ?_|refine za.mk _ ‹_› ?_|refine vP (show (_:BitVec 64)≠_ by decide) ?_));all_goals try conv=>whnf
  rw [hI,ze3,List.append_nil]
  show some (D.arr 1 _)=some (D.arr 1 _)
  rw [List.map_map];rfl
 ·have hb:=zkS r hr
  have hl:=congrArg List.length hI
  have hlen:(zD s).length≤64:=by unfold zD;have:=List.length_filter_le (fun i=>s.getLsbD i) (List.range 64);simpa using this
  rw [List.length_append] at hl
  (repeat' ((conv=>whnf);first|refine vA ?_|refine vB fun b hb=>?_|refine vC (fun hl=>?_) fun i kv vv hi=>?_|refine vE ?_|refine vG ?_|refine vH ?_|((first|refine vD ?_ ?_|refine vF ?_ ?_|refine vI ?_ ?_)<;>intro hc<;>try simp only [vL] at hc)|refine vJ fun hg=>?_|refine vK fun hg=>?_|refine vT ?_|refine vN ‹_› ?_|(refine vQ ?_ fun x hx=>?_;·first|omega|(simp only [vM] at *;omega))|((first|refine vO ?_ ?_|refine vR ?_ ‹_› ?_|refine vS ?_ fun x hx=>?_|refine vP ?_ ?_);·first|omega|(simp only [vM] at *;omega))|refine vW ⟨by omega,by omega⟩ ?_|(refine vU ?_ ?_;·kernel_rfl)|refine vX ?_|refine vY ?_|refine vZ ?_|refine yD (hT r) (by (repeat refine ⟨⟨rfl,rfl⟩,?_⟩);rfl) rfl ?_|refine yN (hT r) (by (repeat refine ⟨⟨rfl,rfl⟩,?_⟩);rfl) ?_|refine za.mk _ ‹_› ?_|refine vP (show (_:BitVec 64)≠_ by decide) ?_));all_goals try conv=>whnf
  ·refine ⟨(r&&&(r - 1#64),_),[(0,2)],[],?_,?_,by (refine ⟨rfl,rfl,rfl,?_,?_⟩;repeat' first|exact trivial|exact rfl|exact ⟨_,rfl⟩|exact .inl rfl|exact .inr (.inl ⟨rfl,rfl⟩)|exact .inr (.inr ⟨rfl,rfl⟩)|refine And.intro ?_ ?_|refine ⟨_,rfl,?_⟩|decide|exact of_decide_eq_true rfl)⟩
   ·exact ⟨l++[Lib.ctz 64 r.toNat],by simp,by rw [hI,hb];simp⟩
   ·show (zD (r&&&(r - 1#64))).length < (zD r).length
    rw [hb];simp
  ·exact absurd ‹r=0› hr
theorem zpm (s:BitVec 64) (l:List Nat) (hl:l.length≤64):Fn Tryz.prog T zjH [.d (.u64 s),.d (dN l)] [] (.d (.u64 (zP s l))) []:=by
 refine zg zw zpv (by show 2≤25;decide) ?_
 (repeat' ((conv=>whnf);first|refine vA ?_|refine vB fun b hb=>?_|refine vC (fun hl=>?_) fun i kv vv hi=>?_|refine vE ?_|refine vG ?_|refine vH ?_|((first|refine vD ?_ ?_|refine vF ?_ ?_|refine vI ?_ ?_)<;>intro hc<;>try simp only [vL] at hc)|refine vJ fun hg=>?_|refine vK fun hg=>?_|refine vT ?_|refine vN ‹_› ?_|(refine vQ ?_ fun x hx=>?_;·first|omega|(simp only [vM] at *;omega))|((first|refine vO ?_ ?_|refine vR ?_ ‹_› ?_|refine vS ?_ fun x hx=>?_|refine vP ?_ ?_);·first|omega|(simp only [vM] at *;omega))|refine vW ⟨by omega,by omega⟩ ?_|(refine vU ?_ ?_;·kernel_rfl)|refine vX ?_|refine vY ?_|refine vZ ?_|refine za.mk _ ‹_› ?_|refine vP (show (_:BitVec 64)≠_ by decide) ?_));all_goals try conv=>whnf
 refine zW (fun ((k,o):Nat×BitVec 64)=>[(0,.d (.u64 (s))),(5,.d (.u64 (o))),(8,.d (dN l)),(9,.d (.int .i64 (((l.map fun (x:Nat)=>(x:Int)).map (D.int .i64)).length:Int))),(10,.d (.int .i64 ((k:Int))))]) (fun ((k,o):Nat×BitVec 64)=>k≤l.length∧o=zbY (fun i=>s.getLsbD (l.getD i 0)) k) (fun ((k,o):Nat×BitVec 64)=>l.length - k) ((0,0#64)) (⟨by simp,rfl⟩) (by (repeat' first|exact trivial|exact rfl|exact ⟨_,rfl⟩|exact .inl rfl|exact .inr (.inl ⟨rfl,rfl⟩)|exact .inr (.inr ⟨rfl,rfl⟩)|refine And.intro ?_ ?_|refine ⟨_,rfl,?_⟩|decide|exact of_decide_eq_true rfl)) ?_
 rintro ⟨k,o⟩ ⟨hk,hI⟩
 by_cases hkl:k < l.length
 ·have e1:(l.map fun (x:Nat)=>(x:Int))[k]? = some ((l.getD k 0:Nat):Int):=by simp [hkl]
  (repeat' ((conv=>whnf);first|refine vA ?_|refine vB fun b hb=>?_|refine vC (fun hl=>?_) fun i kv vv hi=>?_|refine vE ?_|refine vG ?_|refine vH ?_|((first|refine vD ?_ ?_|refine vF ?_ ?_|refine vI ?_ ?_)<;>intro hc<;>try simp only [vL] at hc)|refine vJ fun hg=>?_|refine vK fun hg=>?_|refine vT ?_|refine vN ‹_› ?_|(refine vQ ?_ fun x hx=>?_;·first|omega|(simp only [vM] at *;omega))|((first|refine vO ?_ ?_|refine vR ?_ ‹_› ?_|refine vS ?_ fun x hx=>?_|refine vP ?_ ?_);·first|omega|(simp only [vM] at *;omega))|refine vW ⟨by omega,by omega⟩ ?_|(refine vU ?_ ?_;·kernel_rfl)|refine vX ?_|refine vY ?_|refine vZ ?_|refine za.mk _ ‹_› ?_|refine vP (show (_:BitVec 64)≠_ by decide) ?_));all_goals try conv=>whnf
  ·refine ⟨(k+1,_),[],[],?_,?_,by (refine ⟨rfl,rfl,rfl,?_,?_⟩;repeat' first|exact trivial|exact rfl|exact ⟨_,rfl⟩|exact .inl rfl|exact .inr (.inl ⟨rfl,rfl⟩)|exact .inr (.inr ⟨rfl,rfl⟩)|refine And.intro ?_ ?_|refine ⟨_,rfl,?_⟩|decide|exact of_decide_eq_true rfl)⟩
   ·refine ⟨by omega,?_⟩
    rw [zbY,hI]
    show _|||(s >>> (l.getD k 0)&&&1#64) <<< k=_
    by_cases hb:s.getLsbD (l.getD k 0)=true
    ·rw [(zhm _ _).2 hb,if_pos hb]
    ·rw [(zli _ _).2 (by simpa using hb),if_neg hb,BitVec.zero_shiftLeft,BitVec.or_zero]
   ·(first|omega|(simp only [vM] at *;omega))
  ·omega
 ·(repeat' ((conv=>whnf);first|refine vA ?_|refine vB fun b hb=>?_|refine vC (fun hl=>?_) fun i kv vv hi=>?_|refine vE ?_|refine vG ?_|refine vH ?_|((first|refine vD ?_ ?_|refine vF ?_ ?_|refine vI ?_ ?_)<;>intro hc<;>try simp only [vL] at hc)|refine vJ fun hg=>?_|refine vK fun hg=>?_|refine vT ?_|refine vN ‹_› ?_|(refine vQ ?_ fun x hx=>?_;·first|omega|(simp only [vM] at *;omega))|((first|refine vO ?_ ?_|refine vR ?_ ‹_› ?_|refine vS ?_ fun x hx=>?_|refine vP ?_ ?_);·first|omega|(simp only [vM] at *;omega))|refine vW ⟨by omega,by omega⟩ ?_|(refine vU ?_ ?_;·kernel_rfl)|refine vX ?_|refine vY ?_|refine vZ ?_|refine za.mk _ ‹_› ?_|refine vP (show (_:BitVec 64)≠_ by decide) ?_));all_goals try conv=>whnf
  ·omega
  ·rw [hI,show k=l.length by omega];rfl
theorem zee {l:List Nat} {k:Nat} (h:k < l.length):(l.map fun (x:Nat)=>(x:Int))[k]? = some ((l.getD k 0:Nat):Int):=by simp [h]
abbrev zgp (l:List Nat):Nat:=((l.map fun (x:Nat)=>(x:Int)).map (D.int .i64)).length
theorem zng (l:List Nat):zgp l=l.length:=by simp [zgp]
theorem zrO (m:KM) (l:List Nat) (hl:l.length≤64) (hr : ∀ r∈m.rel,∀ w∈l,w < r.length) (hv:m.val.length≤8) (hrl:m.rel.length≤4):Fn Tryz.prog T zeq [.d (dKM m),.d (dN l)] [] (.d (dKM (zA m l))) []:=by
 refine zg zw zmD (by show 2≤63;decide) ?_
 (repeat' ((conv=>whnf);first|refine vA ?_|refine vB fun b hb=>?_|refine vC (fun hl=>?_) fun i kv vv hi=>?_|refine vE ?_|refine vG ?_|refine vH ?_|((first|refine vD ?_ ?_|refine vF ?_ ?_|refine vI ?_ ?_)<;>intro hc<;>try simp only [vL] at hc)|refine vJ fun hg=>?_|refine vK fun hg=>?_|refine vT ?_|refine vN ‹_› ?_|(refine vQ ?_ fun x hx=>?_;·first|omega|(simp only [vM] at *;omega))|((first|refine vO ?_ ?_|refine vR ?_ ‹_› ?_|refine vS ?_ fun x hx=>?_|refine vP ?_ ?_);·first|omega|(simp only [vM] at *;omega))|refine vW ⟨by omega,by omega⟩ ?_|(refine vU ?_ ?_;·kernel_rfl)|refine vX ?_|refine vY ?_|refine vZ ?_|refine za.mk _ ‹_› ?_|refine vP (show (_:BitVec 64)≠_ by decide) ?_));all_goals try conv=>whnf
 refine zj (fun ((k,zs):Nat×List D)=>[(1,.d (dN l)),(2,.ptr 0 0),(4,.ptr 1 0),(5,.ptr 2 0),(17,.d (dU m.val)),(18,.d (.int .i64 ((m.val.map D.u64).length:Int))),(19,.d (.int .i64 ((k:Int))))]) (fun ((k,zs):Nat×List D)=>[(0,some (zac m)),(1,some (.box [.d (.int .i64 0),.nils 1,.nils 1])),(2,some (.box [.d (.int .i64 (zgp l:Int)),.own 3,.nils 1])),(3,some (.row 1 zs))]) 4 (fun ((k,zs):Nat×List D)=>k≤m.val.length∧zs=(m.val.take k).map fun s=>D.u64 (zP s l)) (fun ((k,zs):Nat×List D)=>m.val.length - k) ((0,[])) [(0,0),(1,1),(2,2)]   [3] (⟨by simp,by simp⟩) (by (refine ⟨rfl,rfl,rfl,?_,?_⟩;repeat' first|exact trivial|exact rfl|exact ⟨_,rfl⟩|exact .inl rfl|exact .inr (.inl ⟨rfl,rfl⟩)|exact .inr (.inr ⟨rfl,rfl⟩)|refine And.intro ?_ ?_|refine ⟨_,rfl,?_⟩|decide|exact of_decide_eq_true rfl)) ?_
 rintro ⟨k,zs⟩ ⟨hk,hz⟩
 have hzl:zs.length≤8:=by rw [hz];simp;omega
 by_cases hkl:k < m.val.length
 ·obtain ⟨s,hs⟩ : ∃ s,m.val[k]? = some s:=⟨_,List.getElem?_eq_getElem hkl⟩
  (repeat' ((conv=>whnf);first|refine vA ?_|refine vB fun b hb=>?_|refine vC (fun hl=>?_) fun i kv vv hi=>?_|refine vE ?_|refine vG ?_|refine vH ?_|((first|refine vD ?_ ?_|refine vF ?_ ?_|refine vI ?_ ?_)<;>intro hc<;>try simp only [vL] at hc)|refine vJ fun hg=>?_|refine vK fun hg=>?_|refine vT ?_|refine vN ‹_› ?_|(refine vQ ?_ fun x hx=>?_;·first|omega|(simp only [vM] at *;omega))|((first|refine vO ?_ ?_|refine vR ?_ ‹_› ?_|refine vS ?_ fun x hx=>?_|refine vP ?_ ?_);·first|omega|(simp only [vM] at *;omega))|refine vW ⟨by omega,by omega⟩ ?_|(refine vU ?_ ?_;·kernel_rfl)|refine vX ?_|refine vY ?_|refine vZ ?_|refine yD (zpm s l hl) ⟨⟨rfl,rfl⟩,⟨rfl,rfl⟩,rfl⟩ rfl ?_|refine za.mk _ ‹_› ?_|refine vP (show (_:BitVec 64)≠_ by decide) ?_));all_goals try conv=>whnf
  ·refine ⟨(k+1,_),[(0,0),(1,1),(2,2),(3,5)],[],?_,?_,by (refine ⟨rfl,rfl,rfl,?_,?_⟩;repeat' first|exact trivial|exact rfl|exact ⟨_,rfl⟩|exact .inl rfl|exact .inr (.inl ⟨rfl,rfl⟩)|exact .inr (.inr ⟨rfl,rfl⟩)|refine And.intro ?_ ?_|refine ⟨_,rfl,?_⟩|decide|exact of_decide_eq_true rfl)⟩
   ·exact ⟨by omega,by rw [List.take_add_one,hs,hz];simp⟩
   ·(first|omega|(simp only [vM] at *;omega))
  all_goals omega
 ·have hzz:zs=m.val.map fun s=>D.u64 (zP s l):=by rw [hz,List.take_of_length_le (by omega)]
  clear hz
  subst hzz
  (repeat' ((conv=>whnf);first|refine vA ?_|refine vB fun b hb=>?_|refine vC (fun hl=>?_) fun i kv vv hi=>?_|refine vE ?_|refine vG ?_|refine vH ?_|((first|refine vD ?_ ?_|refine vF ?_ ?_|refine vI ?_ ?_)<;>intro hc<;>try simp only [vL] at hc)|refine vJ fun hg=>?_|refine vK fun hg=>?_|refine vT ?_|refine vN ‹_› ?_|(refine vQ ?_ fun x hx=>?_;·first|omega|(simp only [vM] at *;omega))|((first|refine vO ?_ ?_|refine vR ?_ ‹_› ?_|refine vS ?_ fun x hx=>?_|refine vP ?_ ?_);·first|omega|(simp only [vM] at *;omega))|refine vW ⟨by omega,by omega⟩ ?_|(refine vU ?_ ?_;·kernel_rfl)|refine vX ?_|refine vY ?_|refine vZ ?_|refine za.mk _ ‹_› ?_|refine vP (show (_:BitVec 64)≠_ by decide) ?_));all_goals try conv=>whnf
  ·omega
  refine zj (fun ((k,zs):Nat×List D)=>[(1,.d (dN l)),(4,.ptr 1 0),(5,.ptr 2 0),(33,.d (dUU m.rel)),(34,.d (.int .i64 ((m.rel.map dU).length:Int))),(35,.d (.int .i64 ((k:Int))))]) (fun ((k,zs):Nat×List D)=>[(1,some (.box [.d (.int .i64 0),.nils 1,.nils 1])),(2,some (.box [.d (.int .i64 (zgp l:Int)),.own 3,.own 4])),(3,some (.row 1 (m.val.map fun s=>D.u64 (zP s l)))),(4,some (.row 1 zs))]) 5 (fun ((k,zs):Nat×List D)=>k≤m.rel.length∧zs=(m.rel.take k).map fun r=>dU (l.map fun w=>zP (r.getD w 0#64) l)) (fun ((k,zs):Nat×List D)=>m.rel.length - k) ((0,[])) [(1,1),(2,2),(3,3)]   [4] (⟨by simp,by simp⟩) (by (refine ⟨rfl,rfl,rfl,?_,?_⟩;repeat' first|exact trivial|exact rfl|exact ⟨_,rfl⟩|exact .inl rfl|exact .inr (.inl ⟨rfl,rfl⟩)|exact .inr (.inr ⟨rfl,rfl⟩)|refine And.intro ?_ ?_|refine ⟨_,rfl,?_⟩|decide|exact of_decide_eq_true rfl)) ?_
  rintro ⟨k,zs⟩ ⟨hk,hz⟩
  have hzl:zs.length≤4:=by rw [hz];simp;omega
  by_cases hkl:k < m.rel.length
  ·obtain ⟨r,hrr⟩ : ∃ r,m.rel[k]? = some r:=⟨_,List.getElem?_eq_getElem hkl⟩
   have hrw:=hr r (List.mem_of_getElem? hrr)
   (repeat' ((conv=>whnf);first|refine vA ?_|refine vB fun b hb=>?_|refine vC (fun hl=>?_) fun i kv vv hi=>?_|refine vE ?_|refine vG ?_|refine vH ?_|((first|refine vD ?_ ?_|refine vF ?_ ?_|refine vI ?_ ?_)<;>intro hc<;>try simp only [vL] at hc)|refine vJ fun hg=>?_|refine vK fun hg=>?_|refine vT ?_|refine vN ‹_› ?_|(refine vQ ?_ fun x hx=>?_;·first|omega|(simp only [vM] at *;omega))|((first|refine vO ?_ ?_|refine vR ?_ ‹_› ?_|refine vS ?_ fun x hx=>?_|refine vP ?_ ?_);·first|omega|(simp only [vM] at *;omega))|refine vW ⟨by omega,by omega⟩ ?_|(refine vU ?_ ?_;·kernel_rfl)|refine vX ?_|refine vY ?_|refine vZ ?_|refine za.mk _ ‹_› ?_|refine vP (show (_:BitVec 64)≠_ by decide) ?_));all_goals try conv=>whnf
   ·refine zj (fun ((j,ys):Nat×List D)=>[(1,.d (dN l)),(4,.ptr 1 0),(5,.ptr 2 0),(9,.d (dU r)),(10,.own 5),(33,.d (dUU m.rel)),(34,.d (.int .i64 ((m.rel.map dU).length:Int))),(35,.d (.int .i64 ((k:Int)))),(39,.d (dN l)),(40,.d (.int .i64 (((l.map fun (x:Nat)=>(x:Int)).map (D.int .i64)).length:Int))),(41,.d (.int .i64 ((j:Int))))]) (fun ((j,ys):Nat×List D)=>[(1,some (.box [.d (.int .i64 0),.nils 1,.nils 1])),(2,some (.box [.d (.int .i64 (zgp l:Int)),.own 3,.own 4])),(3,some (.row 1 (m.val.map fun s=>D.u64 (zP s l)))),(4,some (.row 1 zs)),(5,some (.row 1 ys))]) 6 (fun ((j,ys):Nat×List D)=>j≤l.length∧ys=(l.take j).map fun w=>D.u64 (zP (r.getD w 0#64) l)) (fun ((j,ys):Nat×List D)=>l.length - j) ((0,[])) [(1,1),(2,2),(3,3),(4,4)]   [5] (⟨by simp,by simp⟩) (by (refine ⟨rfl,rfl,rfl,?_,?_⟩;repeat' first|exact trivial|exact rfl|exact ⟨_,rfl⟩|exact .inl rfl|exact .inr (.inl ⟨rfl,rfl⟩)|exact .inr (.inr ⟨rfl,rfl⟩)|refine And.intro ?_ ?_|refine ⟨_,rfl,?_⟩|decide|exact of_decide_eq_true rfl)) ?_
    rintro ⟨j,ys⟩ ⟨hj,hy⟩
    have hyl:ys.length≤64:=by rw [hy];simp;omega
    by_cases hjl:j < l.length
    ·have e1:=zee hjl
     have e2:=hrw _ (ziz hjl)
     have e3:r[l.getD j 0]? = some (r.getD (l.getD j 0) 0#64):=zaZ e2
     (repeat' ((conv=>whnf);first|refine vA ?_|refine vB fun b hb=>?_|refine vC (fun hl=>?_) fun i kv vv hi=>?_|refine vE ?_|refine vG ?_|refine vH ?_|((first|refine vD ?_ ?_|refine vF ?_ ?_|refine vI ?_ ?_)<;>intro hc<;>try simp only [vL] at hc)|refine vJ fun hg=>?_|refine vK fun hg=>?_|refine vT ?_|refine vN ‹_› ?_|(refine vQ ?_ fun x hx=>?_;·first|omega|(simp only [vM] at *;omega))|((first|refine vO ?_ ?_|refine vR ?_ ‹_› ?_|refine vS ?_ fun x hx=>?_|refine vP ?_ ?_);·first|omega|(simp only [vM] at *;omega))|refine vW ⟨by omega,by omega⟩ ?_|(refine vU ?_ ?_;·kernel_rfl)|refine vX ?_|refine vY ?_|refine vZ ?_|refine yD (zpm (r.getD (l.getD j 0) 0#64) l hl) ⟨⟨rfl,rfl⟩,⟨rfl,rfl⟩,rfl⟩ rfl ?_|refine za.mk _ ‹_› ?_|refine vP (show (_:BitVec 64)≠_ by decide) ?_));all_goals try conv=>whnf
     ·refine ⟨(j+1,_),[(1,1),(2,2),(3,3),(4,4),(5,7)],[],?_,?_,by (refine ⟨rfl,rfl,rfl,?_,?_⟩;repeat' first|exact trivial|exact rfl|exact ⟨_,rfl⟩|exact .inl rfl|exact .inr (.inl ⟨rfl,rfl⟩)|exact .inr (.inr ⟨rfl,rfl⟩)|refine And.intro ?_ ?_|refine ⟨_,rfl,?_⟩|decide|exact of_decide_eq_true rfl)⟩
      ·exact ⟨by omega,by rw [List.take_add_one,hy,zaZ (d:=0) hjl];simp⟩
      ·(first|omega|(simp only [vM] at *;omega))
     ·omega
    ·(repeat' ((conv=>whnf);first|refine vA ?_|refine vB fun b hb=>?_|refine vC (fun hl=>?_) fun i kv vv hi=>?_|refine vE ?_|refine vG ?_|refine vH ?_|((first|refine vD ?_ ?_|refine vF ?_ ?_|refine vI ?_ ?_)<;>intro hc<;>try simp only [vL] at hc)|refine vJ fun hg=>?_|refine vK fun hg=>?_|refine vT ?_|refine vN ‹_› ?_|(refine vQ ?_ fun x hx=>?_;·first|omega|(simp only [vM] at *;omega))|((first|refine vO ?_ ?_|refine vR ?_ ‹_› ?_|refine vS ?_ fun x hx=>?_|refine vP ?_ ?_);·first|omega|(simp only [vM] at *;omega))|refine vW ⟨by omega,by omega⟩ ?_|(refine vU ?_ ?_;·kernel_rfl)|refine vX ?_|refine vY ?_|refine vZ ?_|refine za.mk _ ‹_› ?_|refine vP (show (_:BitVec 64)≠_ by decide) ?_));all_goals try conv=>whnf
     ·omega
     ·have hyy:ys=l.map fun w=>D.u64 (zP (r.getD w 0#64) l):=by rw [hy,List.take_of_length_le (by omega)]
      refine ⟨(k+1,_),[(1,1),(2,2),(3,3),(4,7)],[],?_,?_,by (refine ⟨rfl,rfl,rfl,?_,?_⟩;repeat' first|exact trivial|exact rfl|exact ⟨_,rfl⟩|exact .inl rfl|exact .inr (.inl ⟨rfl,rfl⟩)|exact .inr (.inr ⟨rfl,rfl⟩)|refine And.intro ?_ ?_|refine ⟨_,rfl,?_⟩|decide|exact of_decide_eq_true rfl)⟩
      ·refine ⟨by omega,?_⟩
       rw [List.take_add_one,hrr,hz,hyy];simp
      ·(first|omega|(simp only [vM] at *;omega))
   all_goals omega
  ·(repeat' ((conv=>whnf);first|refine vA ?_|refine vB fun b hb=>?_|refine vC (fun hl=>?_) fun i kv vv hi=>?_|refine vE ?_|refine vG ?_|refine vH ?_|((first|refine vD ?_ ?_|refine vF ?_ ?_|refine vI ?_ ?_)<;>intro hc<;>try simp only [vL] at hc)|refine vJ fun hg=>?_|refine vK fun hg=>?_|refine vT ?_|refine vN ‹_› ?_|(refine vQ ?_ fun x hx=>?_;·first|omega|(simp only [vM] at *;omega))|((first|refine vO ?_ ?_|refine vR ?_ ‹_› ?_|refine vS ?_ fun x hx=>?_|refine vP ?_ ?_);·first|omega|(simp only [vM] at *;omega))|refine vW ⟨by omega,by omega⟩ ?_|(refine vU ?_ ?_;·kernel_rfl)|refine vX ?_|refine vY ?_|refine vZ ?_|refine za.mk _ ‹_› ?_|refine vP (show (_:BitVec 64)≠_ by decide) ?_));all_goals try conv=>whnf
   ·omega
   ·have hzz:zs=m.rel.map fun r=>dU (l.map fun w=>zP (r.getD w 0#64) l):=by rw [hz,List.take_of_length_le (by omega)]
    subst hzz
    refine congrArg some (show D.agg [.int .i64 (zgp l:Int),.arr 1 (m.val.map fun s=>D.u64 (zP s l)),.arr 1 (m.rel.map fun r=>dU (l.map fun w=>zP (r.getD w 0#64) l))]=dKM (zA m l) from ?_)
    rw [zng]
    simp [zA,Function.comp_def]
theorem zpq {m:KM} (hc:zm m=0) {l:List Nat} (h : ∀ w∈l,w < m.W.toNat) : ∀ r∈m.rel,∀ w∈l,w < r.length:=fun r hr w hw=>by
 have hg:=zB hc
 have:=hg.len r hr
 have:=h w hw
 have:=hg.w1
 omega
theorem zg6 {m:KM} (hc:zm m=0) {l:List Nat} (hl:l.length≤64) (h : ∀ w∈l,w < m.W.toNat):Fn Tryz.prog T zeq [.d (dKM m),.d (dN l)] [] (.d (dKM (zA m l))) [] :=
 zrO m l hl (zpq hc h) (zB hc).v8 (zB hc).n4
theorem zfF (s:BitVec 64):(zD s).length≤64:=by
 unfold zD;have:=List.length_filter_le (fun i=>s.getLsbD i) (List.range 64);simpa using this
theorem zmw {m:KM} (hc:zm m=0) {s:BitVec 64} (hs : ∀ v,s.getLsbD v=true→v < m.W.toNat):s &&& ~~~(zf3 m.W)=0#64:=by
 have w1:=(zB hc).w1
 have:=(zkn (n:=m.W) (s:=s) (by omega)).2 hs
 simpa [bad] using this
theorem zpl (hT:zeM T) {m:KM} (hk0:zm m=0) {s:BitVec 64} (h0:s≠0#64) (hs : ∀ v,s.getLsbD v=true→v < m.W.toNat):Fn Tryz.prog T zgf [.d (dKM m),.d (.u64 s)] [] (.d (.tup [dKM (zA m (zD s)),dN (zD s),.int .i64 0])) []:=by
 have w1:=(zB hk0).w1
 have h1:=zmw hk0 hs
 have cc:=zec (T:=T) m
 rw [hk0] at cc
 refine zg zw zlE (by show 2≤31;decide) ?_
 (repeat' ((conv=>whnf);first|refine vA ?_|refine vB fun b hb=>?_|refine vC (fun hl=>?_) fun i kv vv hi=>?_|refine vE ?_|refine vG ?_|refine vH ?_|((first|refine vD ?_ ?_|refine vF ?_ ?_|refine vI ?_ ?_)<;>intro hc<;>try simp only [vL] at hc)|refine vJ fun hg=>?_|refine vK fun hg=>?_|refine vT ?_|refine vN ‹_› ?_|(refine vQ ?_ fun x hx=>?_;·first|omega|(simp only [vM] at *;omega))|((first|refine vO ?_ ?_|refine vR ?_ ‹_› ?_|refine vS ?_ fun x hx=>?_|refine vP ?_ ?_);·first|omega|(simp only [vM] at *;omega))|refine vW ⟨by omega,by omega⟩ ?_|(refine vU ?_ ?_;·kernel_rfl)|refine vX ?_|refine vY ?_|refine vZ ?_|refine yD cc ⟨⟨rfl,rfl⟩,rfl⟩ rfl ?_|refine yD (znc m.W (by omega)) ⟨⟨rfl,rfl⟩,rfl⟩ rfl ?_|refine yN (zqw hT s) ⟨⟨rfl,rfl⟩,rfl⟩ ?_|refine yD (zg6 hk0 (zfF s) (fun w hw=>hs w (zeA.1 hw))) (by (repeat refine ⟨⟨rfl,rfl⟩,?_⟩);rfl) rfl ?_|refine yN (zg6 hk0 (zfF s) (fun w hw=>hs w (zeA.1 hw))) (by (repeat refine ⟨⟨rfl,rfl⟩,?_⟩);rfl) ?_|refine za.mk _ ‹_› ?_|refine vP (show (_:BitVec 64)≠_ by decide) ?_));all_goals try conv=>whnf
 ·exact absurd h1 ‹_›
 ·exact absurd ‹s=0› h0
 ·rfl
theorem zom (hT:zeM T) {m:KM} (hk0:zm m=0) {f:BitVec 64} (hf : ∀ v,f.getLsbD v=true→v < m.W.toNat):Fn Tryz.prog T zfE [.d (dKM m),.d (.u64 f)] [] (.d (.tup [.u64 (zeS m f),.int .i64 0])) []:=by
 have hg0:=zB hk0
 have w1:=hg0.w1
 have w2:=hg0.w2
 have n4:=hg0.n4
 have h1:=zmw hk0 hf
 have cc:=zec (T:=T) m
 rw [hk0] at cc
 refine zg zw zkO (by show 2≤56;decide) ?_
 (repeat' ((conv=>whnf);first|refine vA ?_|refine vB fun b hb=>?_|refine vC (fun hl=>?_) fun i kv vv hi=>?_|refine vE ?_|refine vG ?_|refine vH ?_|((first|refine vD ?_ ?_|refine vF ?_ ?_|refine vI ?_ ?_)<;>intro hc<;>try simp only [vL] at hc)|refine vJ fun hg=>?_|refine vK fun hg=>?_|refine vT ?_|refine vN ‹_› ?_|(refine vQ ?_ fun x hx=>?_;·first|omega|(simp only [vM] at *;omega))|((first|refine vO ?_ ?_|refine vR ?_ ‹_› ?_|refine vS ?_ fun x hx=>?_|refine vP ?_ ?_);·first|omega|(simp only [vM] at *;omega))|refine vW ⟨by omega,by omega⟩ ?_|(refine vU ?_ ?_;·kernel_rfl)|refine vX ?_|refine vY ?_|refine vZ ?_|refine yD cc ⟨⟨rfl,rfl⟩,rfl⟩ rfl ?_|refine yD (znc m.W (by omega)) ⟨⟨rfl,rfl⟩,rfl⟩ rfl ?_|refine za.mk _ ‹_› ?_|refine vP (show (_:BitVec 64)≠_ by decide) ?_));all_goals try conv=>whnf
 ·exact absurd h1 ‹_›
 refine zj (fun ((o,t):BitVec 64×BitVec 64)=>[(2,.ptr 0 0),(7,.d (.u64 (o))),(8,.d (.u64 (t)))]) (fun ((o,t):BitVec 64×BitVec 64)=>[(0,some (zac m))]) 1 (fun ((o,t):BitVec 64×BitVec 64)=>zm0 m f o t) (fun ((o,t):BitVec 64×BitVec 64)=>64 - zjy o t) ((f,f)) [(0,0)] [] (zrX hf) (by (refine ⟨rfl,rfl,rfl,?_,?_⟩;repeat' first|exact trivial|exact rfl|exact ⟨_,rfl⟩|exact .inl rfl|exact .inr (.inl ⟨rfl,rfl⟩)|exact .inr (.inr ⟨rfl,rfl⟩)|refine And.intro ?_ ?_|refine ⟨_,rfl,?_⟩|decide|exact of_decide_eq_true rfl)) ?_
 rintro ⟨o,t⟩ hI
 by_cases ht:t=0#64
 ·subst ht
  (repeat' ((conv=>whnf);first|refine vA ?_|refine vB fun b hb=>?_|refine vC (fun hl=>?_) fun i kv vv hi=>?_|refine vE ?_|refine vG ?_|refine vH ?_|((first|refine vD ?_ ?_|refine vF ?_ ?_|refine vI ?_ ?_)<;>intro hc<;>try simp only [vL] at hc)|refine vJ fun hg=>?_|refine vK fun hg=>?_|refine vT ?_|refine vN ‹_› ?_|(refine vQ ?_ fun x hx=>?_;·first|omega|(simp only [vM] at *;omega))|((first|refine vO ?_ ?_|refine vR ?_ ‹_› ?_|refine vS ?_ fun x hx=>?_|refine vP ?_ ?_);·first|omega|(simp only [vM] at *;omega))|refine vW ⟨by omega,by omega⟩ ?_|(refine vU ?_ ?_;·kernel_rfl)|refine vX ?_|refine vY ?_|refine vZ ?_|refine za.mk _ ‹_› ?_|refine vP (show (_:BitVec 64)≠_ by decide) ?_));all_goals try conv=>whnf
  rw [hI.done hk0];rfl
 ·obtain ⟨l1,l2,l3,l4⟩:=zrb t ht
  have hwo:=hI.tod _ l2
  have hwn:=(hI.gs.inn _ hwo).lt
  have cz:=hT t
  generalize Lib.ctz 64 t.toNat=w at l1 l2 l3 l4 hwo hwn cz
  (repeat' ((conv=>whnf);first|refine vA ?_|refine vB fun b hb=>?_|refine vC (fun hl=>?_) fun i kv vv hi=>?_|refine vE ?_|refine vG ?_|refine vH ?_|((first|refine vD ?_ ?_|refine vF ?_ ?_|refine vI ?_ ?_)<;>intro hc<;>try simp only [vL] at hc)|refine vJ fun hg=>?_|refine vK fun hg=>?_|refine vT ?_|refine vN ‹_› ?_|(refine vQ ?_ fun x hx=>?_;·first|omega|(simp only [vM] at *;omega))|((first|refine vO ?_ ?_|refine vR ?_ ‹_› ?_|refine vS ?_ fun x hx=>?_|refine vP ?_ ?_);·first|omega|(simp only [vM] at *;omega))|refine vW ⟨by omega,by omega⟩ ?_|(refine vU ?_ ?_;·kernel_rfl)|refine vX ?_|refine vY ?_|refine vZ ?_|refine yD cz (by (repeat refine ⟨⟨rfl,rfl⟩,?_⟩);rfl) rfl ?_|refine yN cz (by (repeat refine ⟨⟨rfl,rfl⟩,?_⟩);rfl) ?_|refine za.mk _ ‹_› ?_|refine vP (show (_:BitVec 64)≠_ by decide) ?_));all_goals try conv=>whnf
  ·refine zj (fun ((k,o2,t2):Nat×BitVec 64×BitVec 64)=>[(2,.ptr 0 0),(7,.d (.u64 (o2))),(8,.d (.u64 (t2))),(9,.d (.int .i64 ((w:Int)))),(34,.d (dUU m.rel)),(35,.d (.int .i64 ((m.rel.map dU).length:Int))),(36,.d (.int .i64 ((k:Int))))]) (fun ((k,o2,t2):Nat×BitVec 64×BitVec 64)=>[(0,some (zac m))]) 1 (fun ((k,o2,t2):Nat×BitVec 64×BitVec 64)=>k≤m.rel.length∧zlc m o t w k o2 t2) (fun ((k,o2,t2):Nat×BitVec 64×BitVec 64)=>m.rel.length - k) ((0,o,t&&&t - 1#64)) [(0,0)] [] (⟨by simp,zrY l4⟩) (by (refine ⟨rfl,rfl,rfl,?_,?_⟩;repeat' first|exact trivial|exact rfl|exact ⟨_,rfl⟩|exact .inl rfl|exact .inr (.inl ⟨rfl,rfl⟩)|exact .inr (.inr ⟨rfl,rfl⟩)|refine And.intro ?_ ?_|refine ⟨_,rfl,?_⟩|decide|exact of_decide_eq_true rfl)) ?_
   rintro ⟨k,o2,t2⟩ ⟨hk,hK⟩
   by_cases hkl:k < m.rel.length
   ·obtain ⟨r,hr⟩ : ∃ r,m.rel[k]? = some r:=⟨_,List.getElem?_eq_getElem hkl⟩
    have hrl:=hg0.len r (List.mem_of_getElem? hr)
    obtain ⟨x,hx⟩ : ∃ x,r[w]? = some x:=⟨_,List.getElem?_eq_getElem (by omega)⟩
    (repeat' ((conv=>whnf);first|refine vA ?_|refine vB fun b hb=>?_|refine vC (fun hl=>?_) fun i kv vv hi=>?_|refine vE ?_|refine vG ?_|refine vH ?_|((first|refine vD ?_ ?_|refine vF ?_ ?_|refine vI ?_ ?_)<;>intro hc<;>try simp only [vL] at hc)|refine vJ fun hg=>?_|refine vK fun hg=>?_|refine vT ?_|refine vN ‹_› ?_|(refine vQ ?_ fun x hx=>?_;·first|omega|(simp only [vM] at *;omega))|((first|refine vO ?_ ?_|refine vR ?_ ‹_› ?_|refine vS ?_ fun x hx=>?_|refine vP ?_ ?_);·first|omega|(simp only [vM] at *;omega))|refine vW ⟨by omega,by omega⟩ ?_|(refine vU ?_ ?_;·kernel_rfl)|refine vX ?_|refine vY ?_|refine vZ ?_|refine za.mk _ ‹_› ?_|refine vP (show (_:BitVec 64)≠_ by decide) ?_));all_goals try conv=>whnf
    ·refine ⟨(k+1,_,_),[(0,0)],[],?_,?_,by (refine ⟨rfl,rfl,rfl,?_,?_⟩;repeat' first|exact trivial|exact rfl|exact ⟨_,rfl⟩|exact .inl rfl|exact .inr (.inl ⟨rfl,rfl⟩)|exact .inr (.inr ⟨rfl,rfl⟩)|refine And.intro ?_ ?_|refine ⟨_,rfl,?_⟩|decide|exact of_decide_eq_true rfl)⟩
     ·exact ⟨by omega,hK.next hr hx⟩
     ·(first|omega|(simp only [vM] at *;omega))
    ·omega
   ·(repeat' ((conv=>whnf);first|refine vA ?_|refine vB fun b hb=>?_|refine vC (fun hl=>?_) fun i kv vv hi=>?_|refine vE ?_|refine vG ?_|refine vH ?_|((first|refine vD ?_ ?_|refine vF ?_ ?_|refine vI ?_ ?_)<;>intro hc<;>try simp only [vL] at hc)|refine vJ fun hg=>?_|refine vK fun hg=>?_|refine vT ?_|refine vN ‹_› ?_|(refine vQ ?_ fun x hx=>?_;·first|omega|(simp only [vM] at *;omega))|((first|refine vO ?_ ?_|refine vR ?_ ‹_› ?_|refine vS ?_ fun x hx=>?_|refine vP ?_ ?_);·first|omega|(simp only [vM] at *;omega))|refine vW ⟨by omega,by omega⟩ ?_|(refine vU ?_ ?_;·kernel_rfl)|refine vX ?_|refine vY ?_|refine vZ ?_|refine za.mk _ ‹_› ?_|refine vP (show (_:BitVec 64)≠_ by decide) ?_));all_goals try conv=>whnf
    ·omega
    ·have e0:k=m.rel.length:=by omega
     subst e0
     have hE:=hK.end' hk0 hI l2
     have hb:=zvG o2 t2
     refine ⟨(_,_),[(0,0)],[],?_,?_,by (refine ⟨rfl,rfl,rfl,?_,?_⟩;repeat' first|exact trivial|exact rfl|exact ⟨_,rfl⟩|exact .inl rfl|exact .inr (.inl ⟨rfl,rfl⟩)|exact .inr (.inr ⟨rfl,rfl⟩)|refine And.intro ?_ ?_|refine ⟨_,rfl,?_⟩|decide|exact of_decide_eq_true rfl)⟩
     ·exact hE.1
     ·have:=hE.2
      show 64 - zjy o2 t2 < 64 - zjy o t
      omega
  ·exact absurd ‹t=0› ht
theorem zr2 {to:List Int} {k:Nat} (hk:k < to.length) (hn:at0 to k ∉ to.take k):to.idxOf (at0 to k)=k:=by
 have e:to=to.take k++at0 to k::to.drop (k+1):=by
  rw [← zx (zdr hk),List.take_append_drop]
 have hl:(to.take k).length=k:=by simp;omega
 generalize at0 to k=x at e hn
 generalize to.take k=a at e hn hl
 rw [e,List.idxOf_append,if_neg hn,List.idxOf_cons_self,hl];simp
structure zjn (to:List Int) (k:Nat) (s:BitVec 64) (zs:List D):Prop where
 le:k≤to.length
 rng : ∀ x∈to.take k,0≤x∧x < to.length
 nd:(to.take k).Nodup
 bit : ∀ x:Nat,x < 64→(s.getLsbD x=true↔(x:Int)∈to.take k)
 row:zs=(List.range to.length).map fun (x:Nat)=>D.int .i64 (if (x:Int)∈to.take k then (to.idxOf (x:Int):Int) else 0)
theorem zjn.next {to:List Int} (h64:to.length≤64) {k:Nat} {s:BitVec 64} {zs:List D} (h:zjn to k s zs) (hk:k < to.length) {x:Nat} (hx:to[k]? = some (x:Int)) (hx1:x < to.length) (hx2:s.getLsbD x=false) :
  zjn to (k+1) (s|||1#64 <<< x) (zs.set x (.int .i64 (k:Int))):=by
 have e0:at0 to k=(x:Int):=zcG hx
 have hn:(x:Int) ∉ to.take k:=fun hm=>by rw [(h.bit x (by omega)).2 hm] at hx2;cases hx2
 have hi:to.idxOf (x:Int)=k:=by rw [← e0];exact zr2 hk (by rw [e0];exact hn)
 have ht:to.take (k+1)=to.take k++[(x:Int)]:=by rw [List.take_add_one,hx];rfl
 refine ⟨by omega,fun y hy=>?_,?_,fun y hy=>?_,?_⟩
 ·rw [ht] at hy
  rcases List.mem_append.1 hy with hy|hy
  ·exact h.rng y hy
  ·simp only [List.mem_singleton] at hy;omega
 ·rw [ht]
  refine List.nodup_append.2 ⟨h.nd,by simp,fun a ha b hb e=>?_⟩
  simp only [List.mem_singleton] at hb
  subst hb;subst e;exact hn ha
 ·rw [ht,zsb (by omega),h.bit y hy,List.mem_append,List.mem_singleton]
  exact ⟨fun h=>h.elim .inl fun e => .inr (by omega),fun h=>h.elim .inl fun e => .inr (by omega)⟩
 ·rw [h.row]
  refine (zdm _).trans (zS fun u hu=>?_)
  rw [ht]
  by_cases e:u=x
  ·subst e;rw [if_pos rfl,if_pos (by simp),hi]
  ·rw [if_neg e]
   have:((u:Int)∈to.take k++[(x:Int)])↔(u:Int)∈to.take k:=by
    rw [List.mem_append,List.mem_singleton]
    exact ⟨fun h=>h.elim id fun e'=>absurd (by omega) e,.inl⟩
   by_cases h2:(u:Int)∈to.take k
   ·rw [if_pos h2,if_pos (this.2 h2)]
   ·rw [if_neg h2,if_neg (fun h=>h2 (this.1 h))]
theorem zjn.done {to:List Int} {s:BitVec 64} {zs:List D} (h:zjn to to.length s zs):zaD to to.length=true∧zs=(zck to to.length).map fun (x:Nat)=>D.int .i64 (x:Int):=by
 have h1:=h.rng;have h2:=h.nd;have h3:=h.row
 rw [List.take_length] at h1 h2 h3
 have hp:zaD to to.length=true:=zb8.2 ⟨rfl,h1,h2⟩
 refine ⟨hp,?_⟩
 rw [h3]
 unfold zck
 rw [List.map_map]
 exact zS fun u hu=>by rw [if_pos (zpR hp hu)];rfl
theorem zjn.bad {to:List Int} {k:Nat} {s:BitVec 64} {zs:List D} (h:zjn to k s zs) (h64:to.length≤64) {x:Int} (hx:to[k]? = some x) (hb:x < 0∨(to.length:Int)≤x∨s.getLsbD x.toNat=true):zaD to to.length=false:=by
 rw [← Bool.not_eq_true]
 intro hp
 obtain ⟨h1,h2,h3⟩:=zb8.1 hp
 have hr:=h2 x (List.mem_of_getElem? hx)
 rcases hb with hb|hb|hb
 ·omega
 ·omega
 ·have hm:=(h.bit x.toNat (by omega)).1 hb
  rw [show ((x.toNat:Nat):Int)=x by omega] at hm
  obtain ⟨j,hj⟩:=List.getElem?_of_mem hm
  rw [List.getElem?_take] at hj
  split at hj
  ·rename_i hlt
   obtain ⟨a,a'⟩:=List.getElem?_eq_some_iff.1 hj
   obtain ⟨c,c'⟩:=List.getElem?_eq_some_iff.1 hx
   have:=(List.getElem_inj h3).1 (a'.trans c'.symm)
   omega
  ·cases hj
theorem zrQ (m:KM) (to:List Int):Fn Tryz.prog T zhz [.d (dKM m),.d (dI to)] [] (.d (dKI (zfz m to))) []:=by
 have cc:=zec (T:=T) m
 refine zg zw znf (by show 2≤61;decide) ?_
 (repeat' ((conv=>whnf);first|refine vA ?_|refine vB fun b hb=>?_|refine vC (fun hl=>?_) fun i kv vv hi=>?_|refine vE ?_|refine vG ?_|refine vH ?_|((first|refine vD ?_ ?_|refine vF ?_ ?_|refine vI ?_ ?_)<;>intro hc<;>try simp only [vL] at hc)|refine vJ fun hg=>?_|refine vK fun hg=>?_|refine vT ?_|refine vN ‹_› ?_|(refine vQ ?_ fun x hx=>?_;·first|omega|(simp only [vM] at *;omega))|((first|refine vO ?_ ?_|refine vR ?_ ‹_› ?_|refine vS ?_ fun x hx=>?_|refine vP ?_ ?_);·first|omega|(simp only [vM] at *;omega))|refine vW ⟨by omega,by omega⟩ ?_|(refine vU ?_ ?_;·kernel_rfl)|refine vX ?_|refine vY ?_|refine vZ ?_|refine yD cc ⟨⟨rfl,rfl⟩,rfl⟩ rfl ?_|refine za.mk _ ‹_› ?_|refine vP (show (_:BitVec 64)≠_ by decide) ?_));all_goals try conv=>whnf
 ·rw [zfz,if_pos (by omega)];rfl
 ·have hk0:zm m=0:=by omega
  have w1:=(zB hk0).w1
  rw [zfz,if_neg (by omega),if_neg (fun h=>by have:=(zb8.1 h).1;omega)];rfl
 ·have hk0:zm m=0:=by omega
  have hg0:=zB hk0
  have w1:=hg0.w1
  have w2:=hg0.w2
  have h64:to.length≤64:=by omega
  have hW:m.W.toNat=to.length:=by omega
  (repeat' ((conv=>whnf);first|refine vA ?_|refine vB fun b hb=>?_|refine vC (fun hl=>?_) fun i kv vv hi=>?_|refine vE ?_|refine vG ?_|refine vH ?_|((first|refine vD ?_ ?_|refine vF ?_ ?_|refine vI ?_ ?_)<;>intro hc<;>try simp only [vL] at hc)|refine vJ fun hg=>?_|refine vK fun hg=>?_|refine vT ?_|refine vN ‹_› ?_|(refine vQ ?_ fun x hx=>?_;·first|omega|(simp only [vM] at *;omega))|((first|refine vO ?_ ?_|refine vR ?_ ‹_› ?_|refine vS ?_ fun x hx=>?_|refine vP ?_ ?_);·first|omega|(simp only [vM] at *;omega))|refine vW ⟨by omega,by omega⟩ ?_|(refine vU ?_ ?_;·kernel_rfl)|refine vX ?_|refine vY ?_|refine vZ ?_|refine za.mk _ ‹_› ?_|refine vP (show (_:BitVec 64)≠_ by decide) ?_));all_goals try conv=>whnf
  refine zj (fun ((k,s,zs):Nat×BitVec 64×List D)=>[(1,.d (dI to)),(2,.ptr 0 0),(4,.ptr 1 0),(7,.own 2),(8,.d (.u64 (s))),(26,.d (dI to)),(27,.d (.int .i64 ((to.map (D.int .i64)).length:Int))),(28,.d (.int .i64 ((k:Int))))]) (fun ((k,s,zs):Nat×BitVec 64×List D)=>[(0,some (zac m)),(1,some (.box [.d (.int .i64 0),.nils 1,.nils 1])),(2,some (.row 1 zs))]) 3 (fun ((k,s,zs):Nat×BitVec 64×List D)=>zjn to k s zs) (fun ((k,s,zs):Nat×BitVec 64×List D)=>to.length - k) ((0,0#64,List.replicate (((to.map (D.int .i64)).length:Int)).toNat (D.int .i64 0))) [(0,0),(1,1),(2,2)] [] (⟨by simp,by simp,by simp,by simp,by rw [List.length_map,Int.toNat_natCast,zbg];simp⟩) (by (refine ⟨rfl,rfl,rfl,?_,?_⟩;repeat' first|exact trivial|exact rfl|exact ⟨_,rfl⟩|exact .inl rfl|exact .inr (.inl ⟨rfl,rfl⟩)|exact .inr (.inr ⟨rfl,rfl⟩)|refine And.intro ?_ ?_|refine ⟨_,rfl,?_⟩|decide|exact of_decide_eq_true rfl)) ?_
  rintro ⟨k,s,zs⟩ hI
  have hle:=hI.le
  have hzl:zs.length=to.length:=by rw [hI.row];simp
  by_cases hkl:k < to.length
  ·obtain ⟨x,hx⟩ : ∃ x,to[k]? = some x:=⟨_,List.getElem?_eq_getElem hkl⟩
   have hb:(x < 0∨(to.length:Int)≤x∨s.getLsbD x.toNat=true)→(zfq,(1:Int))=zfz m to:=fun h=>by
    have:=hI.bad h64 hx h
    rw [zfz,if_neg (by omega),if_neg (by rw [hW,this];decide)]
   (repeat' ((conv=>whnf);first|refine vA ?_|refine vB fun b hb=>?_|refine vC (fun hl=>?_) fun i kv vv hi=>?_|refine vE ?_|refine vG ?_|refine vH ?_|((first|refine vD ?_ ?_|refine vF ?_ ?_|refine vI ?_ ?_)<;>intro hc<;>try simp only [vL] at hc)|refine vJ fun hg=>?_|refine vK fun hg=>?_|refine vT ?_|refine vN ‹_› ?_|(refine vQ ?_ fun x hx=>?_;·first|omega|(simp only [vM] at *;omega))|((first|refine vO ?_ ?_|refine vR ?_ ‹_› ?_|refine vS ?_ fun x hx=>?_|refine vP ?_ ?_);·first|omega|(simp only [vM] at *;omega))|refine vW ⟨by omega,by omega⟩ ?_|(refine vU ?_ ?_;·kernel_rfl)|refine vX ?_|refine vY ?_|refine vZ ?_|refine za.mk _ ‹_› ?_|refine vP (show (_:BitVec 64)≠_ by decide) ?_));all_goals try conv=>whnf
   ·rw [← hb (.inl ‹_›)];rfl
   ·rw [← hb (.inr (.inl ‹_›))];rfl
   ·rw [← hb (.inr (.inr ((zhm _ _).1 ‹_›)))];rfl
   ·obtain ⟨y,rfl⟩ : ∃ y:Nat,x=(y:Int):=⟨x.toNat,by omega⟩
    refine ⟨(k+1,_,_),[(0,0),(1,1),(2,2)],[],?_,?_,by (refine ⟨rfl,rfl,rfl,?_,?_⟩;repeat' first|exact trivial|exact rfl|exact ⟨_,rfl⟩|exact .inl rfl|exact .inr (.inl ⟨rfl,rfl⟩)|exact .inr (.inr ⟨rfl,rfl⟩)|refine And.intro ?_ ?_|refine ⟨_,rfl,?_⟩|decide|exact of_decide_eq_true rfl)⟩
    ·exact hI.next h64 hkl hx (by omega) (by rw [← Bool.not_eq_true];exact fun h=>absurd ((zhm _ _).2 h) ‹¬_=(1:BitVec 64)›)
    ·(first|omega|(simp only [vM] at *;omega))
   ·omega
  ·have e0:k=to.length:=by omega
   subst e0
   obtain ⟨d1,d2⟩:=hI.done
   have ca:=zg6 (T:=T) hk0 (l:=zck to to.length) (by rw [zhI];omega) (fun w hw=>by
    obtain ⟨i,hi,rfl⟩:=zlH hw
    rw [zhI] at hi
    have:=zpu d1 hi;omega)
   have hz:zs=((zck to to.length).map fun (x:Nat)=>(x:Int)).map (D.int .i64):=by rw [d2,List.map_map];rfl
   clear d2 hI
   subst hz
   (repeat' ((conv=>whnf);first|refine vA ?_|refine vB fun b hb=>?_|refine vC (fun hl=>?_) fun i kv vv hi=>?_|refine vE ?_|refine vG ?_|refine vH ?_|((first|refine vD ?_ ?_|refine vF ?_ ?_|refine vI ?_ ?_)<;>intro hc<;>try simp only [vL] at hc)|refine vJ fun hg=>?_|refine vK fun hg=>?_|refine vT ?_|refine vN ‹_› ?_|(refine vQ ?_ fun x hx=>?_;·first|omega|(simp only [vM] at *;omega))|((first|refine vO ?_ ?_|refine vR ?_ ‹_› ?_|refine vS ?_ fun x hx=>?_|refine vP ?_ ?_);·first|omega|(simp only [vM] at *;omega))|refine vW ⟨by omega,by omega⟩ ?_|(refine vU ?_ ?_;·kernel_rfl)|refine vX ?_|refine vY ?_|refine vZ ?_|refine yN ca ⟨⟨rfl,rfl⟩,⟨rfl,rfl⟩,rfl⟩ ?_|refine za.mk _ ‹_› ?_|refine vP (show (_:BitVec 64)≠_ by decide) ?_));all_goals try conv=>whnf
   all_goals try (exfalso;omega)
   rw [zfz,if_neg (by omega),if_pos (by rw [hW];exact d1),hW];rfl
end Go.Ab
