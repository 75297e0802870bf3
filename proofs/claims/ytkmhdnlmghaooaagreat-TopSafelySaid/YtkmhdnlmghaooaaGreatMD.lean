/- A part of the proofs of this seat: functions and their contracts. -/
import Derived.Test.YtkmhdnlmghaooaaGreatMC
import Derived.Test.YtkmhdnlmghaooaaGreatProg
import Derived.Lib.TrailingZeros
import Derived.Sort.AssemblyPlain
set_option linter.unusedVariables false
set_option linter.unusedSimpArgs false
set_option linter.unusedSectionVars false
namespace Go.Ab.K
open Go
abbrev t:=Arg.t
abbrev c:=Arg.c
abbrev n (x:Int):V := .d (.int .i64 x)
abbrev u (x:BitVec 64):V := .d (.u64 x)
abbrev m (x:Nat):CO := .mv (.t x)
abbrev pf (x y:Nat):CO := .pick (.t x) (.t y) (.c .bf)
abbrev pt (x y:Nat):CO := .pick (.t x) (.c .bt) (.t y)
abbrev b (o:BinOp) (x y:Nat):CO := .bin o (.t x) (.t y)
abbrev bc (o:BinOp) (x:Nat) (y:V):CO := .bin o (.t x) (.c y)
abbrev l (x:Nat):CO := .load none (.t x)
abbrev la (k x:Nat):CO := .load (some k) (.t x)
abbrev f (o x:Nat):CO := .faddr o (.t x)
abbrev ia (s x i:Nat):CO := .iaddr s (.t x) (.t i)
abbrev e (x k:Nat):CO := .ext (.t x) k
abbrev ln (x:Nat):CO := .len (.t x)
abbrev o (d:Nat) (x:CO):COp:=⟨some d,none,x⟩
abbrev w (x:CO):COp:=⟨none,none,x⟩
abbrev g (d k:Nat) (v:Bool) (x:CO):COp:=⟨some d,some (k,v),x⟩
abbrev gw (k:Nat) (v:Bool) (x:CO):COp:=⟨none,some (k,v),x⟩
abbrev i (x:Nat) (p r:CC):CC := .cond (.t x) p r
def q:List CC→CC
 | [] => .skip
 | [x]=>x
 | x::y::r => .seq x (q (y::r))
end Go.Ab.K
namespace Go.Ab
open Go K
def zgb:Nat:=4
def zgr:Nat:=5
def zhX:Nat:=6
def ziO:Nat:=7
def zc2:Nat:=8
def zgI:Nat:=9
def zhu:Nat:=10
def ziR:Nat:=11
def zhy:Nat:=12
def ziS:Nat:=13
def ziQ:Nat:=14
def ziU:Nat:=15
def zhU:Nat:=16
def ziP:Nat:=17
def zkq:Nat:=18
def zeJ:Nat:=19
def zhZ:Nat:=20
def zeu:Nat:=21
def zeN:Nat:=22
def zhV:Nat:=23
def zhx:Nat:=24
def zhW:Nat:=25
def zgJ:Nat:=28
def zdB:Nat:=29
def zgE:Nat:=30
def zeM:Nat:=31
def zhY:Nat:=32
def ziY:Nat:=33
def zdh:Nat:=34
def ziW:Nat:=35
def ziX:Nat:=36
def ziM:Nat:=37
def zmJ:Nat:=38
def zbX:Nat:=40
def zZ:Nat:=41
def zdA:Nat:=42
def zdV:Nat:=43
def zet:Nat:=44
def zbq:Nat:=46
def zaZ:Nat:=47
def za0:Nat:=48
def zkm:Nat:=49
def zf9:Nat:=50
def zc7:Nat:=51
def zdW:Nat:=52
def zkn:Nat:=53
def ziN:Nat:=54
def zhw:Nat:=55
def zhv:Nat:=56
def zgC:Nat:=57
def zfw:Nat:=58
def zgD:Nat:=59
def zgF:Nat:=60
def zgB:Nat:=61
def zfi:Nat:=62
def zdH:Nat:=64
def zgG:Nat:=65
def zc0:Nat:=66
def zht:Nat:=70
def zc1:Nat:=71
def zdg:Nat:=72
def zcw:Nat:=73
def zla:Nat:=74
def zbQ:Nat:=75
def zk9:Nat:=76
def ziV:Nat:=77
def zcm:Nat:=78
def zk:Nat:=79
def zko:Nat:=80
def ziZ:Nat:=81
def zga:Nat:=82
def zk8:Nat:=83
def zkp:Nat:=84
def zhs:Nat:=85
def zgH:Nat:=96
def zaR:Nat:=97
def zcQ:Nat:=98
def zb1:Nat:=99
def zcc:Nat:=100
def zb6:Nat:=101
def zbk:Nat:=102
def zbS:Nat:=103
def zcx:Nat:=104
def zgs:Nat:=105
def zh0:Nat:=106
def zbx:Nat:=107
def zdI:Nat:=108
def zeO:Nat:=109
def zi0:Nat:=110
def ziT:Nat:=111
def zfD:Nat:=112
def zfj:Nat:=113
def zem:Nat:=115
def zdG:Nat:=116
def zby:Nat:=119
def zbR:Nat:=120
def zc8:Nat:=121
def zbF:Nat:=122
def zcS:Nat:=123
def zmI:Nat:=124
def zbK:Nat:=125
def zc9:Nat:=127
def zb0:Nat:=128
def zkU:CFn:=⟨49,[.tmp 2],(q [(.reg [o 1 (.box 4 (t 0)),o 2 (.mv (c .bf))]),
 (q [(.reg [o 5 (f 1 1),o 6 (l 5),o 7 (ln 6),o 8 (bc .gtr 7 (n 20)),o 9 (m 8),g 10 9 false (f 2 1),g 11 9 false (l 10),g 12 9 false (ln 11),g 13 9 false (bc .gtr 12 (n 8)),o 14 (pt 9 13),o 15 (m 14),g 16 15 false (f 3 1),g 17 15 false (l 16),g 18 15 false (ln 17),g 19 15 false (bc .gtr 18 (n 8)),o 20 (pt 15 19)]),
 (i 20 (q [(.reg [o 2 (.mv (c .bf))]),
 .ret]) .skip)]),
 (q [(.reg [o 3 (.mv (c (n 0)))]),
 (.block 0 (.loop (q [(q [(.reg [o 21 (m 3),o 22 (f 2 1),o 23 (l 22),o 24 (ln 23),o 25 (b .lss 21 24)]),
 (i 25 .skip (.exit 0))]),
 (.block 1 (q [(.reg [o 28 (f 2 1),o 29 (l 28),o 30 (m 3),o 31 (ia 1 29 30),o 32 (l 31),o 33 (ln 32),o 34 (bc .gtr 33 (n 20))]),
 (i 34 (q [(.reg [o 2 (.mv (c .bf))]),
 .ret]) .skip)])),
 (.reg [o 26 (m 3),o 27 (bc .add 26 (n 1)),o 3 (m 27)])])))]),
 (q [(.reg [o 4 (.mv (c (n 0)))]),
 (.block 2 (.loop (q [(q [(.reg [o 35 (m 4),o 36 (f 3 1),o 37 (l 36),o 38 (ln 37),o 39 (b .lss 35 38)]),
 (i 39 .skip (.exit 2))]),
 (.block 3 (q [(.reg [o 42 (f 3 1),o 43 (l 42),o 44 (m 4),o 45 (ia 1 43 44),o 46 (l 45),o 47 (ln 46),o 48 (bc .gtr 47 (n 20))]),
 (i 48 (q [(.reg [o 2 (.mv (c .bf))]),
 .ret]) .skip)])),
 (.reg [o 40 (m 4),o 41 (bc .add 40 (n 1)),o 4 (m 41)])])))]),
 (.reg [o 2 (.mv (c .bt))]),
 .ret])⟩
def zrB:CFn:=⟨123,[.tmp 2],(q [(.reg [o 1 (.box 4 (t 0)),o 2 (.mv (c (n 0)))]),
 (q [(.reg [o 14 (f 0 1),o 15 (l 14),o 16 (f 2 1),o 17 (l 16),o 18 (ln 17),o 19 (f 1 1),o 20 (l 19),o 21 (.call 18 [(t 15),(t 18),(t 20)]),o 3 (m 21)]),
 (.reg [o 22 (m 3),o 23 (bc .neq 22 (n 0))]),
 (i 23 (q [(.reg [o 24 (m 3),o 2 (m 24)]),
 .ret]) .skip)]),
 (q [(.reg [o 25 (f 3 1),o 26 (l 25),o 27 (ln 26),o 28 (f 2 1),o 29 (l 28),o 30 (ln 29),o 31 (b .neq 27 30)]),
 (i 31 (q [(.reg [o 2 (.mv (c (n 3)))]),
 .ret]) .skip)]),
 (q [(.reg [o 32 (f 2 1),o 33 (l 32),o 34 (ln 33),o 35 (.mv (c (n 0)))]),
 (.block 0 (.loop (q [(.reg [o 36 (b .lss 35 34)]),
 (i 36 .skip (.exit 0)),
 (.block 1 (q [(.reg [o 37 (m 35),o 4 (m 37)]),
 (.regd [o 38 (f 2 1),o 39 (l 38),o 40 (m 4),o 41 (ia 1 39 40),o 42 (l 41),o 43 (ln 42),o 44 (f 0 1),o 45 (l 44),o 46 (b .neq 43 45),o 47 (m 46),g 48 47 false (f 3 1),g 49 47 false (l 48),g 50 47 false (m 4),g 51 47 false (ia 1 49 50),g 52 47 false (l 51),g 53 47 false (ln 52),g 54 47 false (f 0 1),g 55 47 false (l 54),g 56 47 false (b .neq 53 55),o 57 (pt 47 56)] [0,1,0,7,15,31,0,64,255,511,1023,2047,1023,8191,16383,32767,1023,66559,262143,524287]),
 (i 57 (q [(.reg [o 2 (.mv (c (n 3)))]),
 .ret]) .skip)])),
 (.reg [o 58 (bc .add 35 (n 1)),o 35 (m 58)])])))]),
 (q [(.reg [o 59 (f 2 1),o 60 (l 59),o 61 (ln 60),o 62 (.mv (c (n 0)))]),
 (.block 2 (.loop (q [(.reg [o 63 (b .lss 62 61)]),
 (i 63 .skip (.exit 2)),
 (.block 3 (q [(.reg [o 64 (ia 1 60 62),o 65 (l 64),o 6 (m 65)]),
 (.reg [o 66 (m 6),o 67 (ln 66),o 68 (.mv (c (n 0)))]),
 (.block 4 (.loop (q [(.reg [o 69 (b .lss 68 67)]),
 (i 69 .skip (.exit 4)),
 (.block 5 (q [(.reg [o 70 (m 68),o 71 (ia 1 66 68),o 72 (l 71),o 7 (m 70),o 8 (m 72)]),
 (.reg [o 73 (m 8),o 74 (bc .lss 73 (n 0)),o 75 (m 74),g 76 75 false (m 8),g 77 75 false (m 7),g 78 75 false (b .gtr 76 77),o 79 (pt 75 78),o 80 (m 79),g 81 80 false (m 6),g 82 80 false (m 8),g 83 80 false (ia 1 81 82),g 84 80 false (l 83),g 85 80 false (m 8),g 86 80 false (b .neq 84 85),o 87 (pt 80 86)]),
 (i 87 (q [(.reg [o 2 (.mv (c (n 1)))]),
 .ret]) .skip)])),
 (.reg [o 88 (bc .add 68 (n 1)),o 68 (m 88)])])))])),
 (.reg [o 89 (bc .add 62 (n 1)),o 62 (m 89)])])))]),
 (q [(.reg [o 90 (f 2 1),o 91 (l 90),o 92 (ln 91),o 93 (.mv (c (n 0)))]),
 (.block 6 (.loop (q [(.reg [o 94 (b .lss 93 92)]),
 (i 94 .skip (.exit 6)),
 (.block 7 (q [(.reg [o 95 (m 93),o 96 (ia 1 91 93),o 97 (l 96),o 9 (m 95),o 10 (m 97)]),
 (.reg [o 98 (m 10),o 99 (f 3 1),o 100 (l 99),o 101 (m 9),o 102 (ia 1 100 101),o 103 (l 102),o 104 (.call 19 [(t 98),(t 103)]),o 105 (.range (t 104))]),
 (.block 8 (.loop (q [(.reg [o 106 (.next (t 105)),o 107 (e 106 0)]),
 (i 107 .skip (.exit 8)),
 (.block 9 (q [(.reg [o 108 (.entry (t 105)),o 109 (e 108 1),o 12 (m 109)]),
 (.reg [o 110 (m 12),o 111 (ln 110),o 112 (.mv (c (n 0)))]),
 (.block 10 (.loop (q [(.reg [o 113 (b .lss 112 111)]),
 (i 113 .skip (.exit 10)),
 (.block 11 (q [(.reg [o 114 (m 112),o 13 (m 114)]),
 (.reg [o 115 (m 12),o 116 (m 13),o 117 (ia 1 115 116),o 118 (l 117),o 119 (m 13),o 120 (b .neq 118 119)]),
 (i 120 (q [(.reg [o 2 (.mv (c (n 9)))]),
 .ret]) .skip)])),
 (.reg [o 121 (bc .add 112 (n 1)),o 112 (m 121)])])))]))])))])),
 (.reg [o 122 (bc .add 93 (n 1)),o 93 (m 122)])])))]),
 (.reg [o 2 (.mv (c (n 0)))]),
 .ret])⟩
def zoq:CFn:=⟨5,[.tmp 2],(q [(.reg [o 2 (.mv (c (n 0)))]),
 (.reg [o 3 (m 0),o 4 (.call 20 [(t 3),(c (.fn zeu []))]),o 2 (m 4)]),
 .ret])⟩
def zpy:CFn:=⟨25,[.tmp 6],(q [(.reg [o 6 (.mv (c .bf))]),
 (.reg [o 7 (.mv (c (.fn zeN [])))]),
 (.reg [o 8 (m 0),o 9 (.call 23 [(t 8)]),o 10 (bc .eql 9 (n 0)),o 11 (m 10),g 12 11 true (m 7),g 13 11 true (m 0),g 14 11 true (.call 24 [(t 13)]),g 15 11 true (m 1),g 16 11 true (.callv (t 12) [(t 14),(t 15)]),o 17 (pf 11 16),o 18 (m 17),g 19 18 true (m 7),g 20 18 true (m 0),g 21 18 true (.call 25 [(t 20)]),g 22 18 true (m 2),g 23 18 true (.callv (t 19) [(t 21),(t 22)]),o 24 (pf 18 23),o 6 (m 24)]),
 .ret])⟩
def zmp:CFn:=⟨11,[.cell 4 (some 4),.tmp 5],(q [(.reg [o 2 (.box 4 (t 0)),o 4 (.alloc [(n 0),(.nils 1),(.nils 1),(.nils 1)]),o 5 (.mv (c (n 0)))]),
 (.reg [o 6 (la 4 2),o 7 (m 1),o 8 (.call 28 [(t 6),(t 7),(c (.fn zdB []))]),o 9 (e 8 0),o 10 (e 8 1),w (.store 4 (t 4) (t 9)),o 5 (m 10)]),
 .ret])⟩
def znb:CFn:=⟨71,[.tmp 4,.tmp 5],(q [(.reg [o 2 (.box 4 (t 0)),o 4 (.mv (c (u 0))),o 5 (.mv (c (n 0)))]),
 (q [(.reg [o 13 (la 4 2),o 14 (.call 5 [(t 13)]),o 6 (m 14)]),
 (.reg [o 15 (m 6),o 16 (bc .neq 15 (n 0))]),
 (i 16 (q [(.reg [o 17 (m 6),o 4 (.mv (c (u 0))),o 5 (m 17)]),
 .ret]) .skip)]),
 (q [(.reg [o 18 (m 1),o 19 (.call 23 [(t 18)]),o 7 (m 19)]),
 (.reg [o 20 (m 7),o 21 (bc .neq 20 (n 0))]),
 (i 21 (q [(.reg [o 22 (m 7),o 4 (.mv (c (u 0))),o 5 (m 22)]),
 .ret]) .skip)]),
 (q [(.reg [o 23 (m 1),o 24 (.call 6 [(t 23)]),o 25 (bc .andNot 24 (n 59)),o 26 (bc .neq 25 (n 0))]),
 (i 26 (q [(.reg [o 4 (.mv (c (u 0))),o 5 (.mv (c (n 10)))]),
 .ret]) .skip)]),
 (q [(.reg [o 27 (m 1),o 28 (f 2 2),o 29 (l 28),o 30 (ln 29),o 31 (f 1 2),o 32 (l 31),o 33 (ln 32),o 34 (.call 7 [(t 27),(t 30),(t 33)]),o 35 (.un .not (t 34))]),
 (i 35 (q [(.reg [o 4 (.mv (c (u 0))),o 5 (.mv (c (n 2)))]),
 .ret]) .skip)]),
 (.reg [o 8 (.mv (c (.nils 1)))]),
 (q [(.reg [o 36 (m 1),o 37 (.call 30 [(t 36)]),o 38 (ln 37),o 39 (.mv (c (n 0)))]),
 (.block 0 (.loop (q [(.reg [o 40 (b .lss 39 38)]),
 (i 40 .skip (.exit 0)),
 (.block 1 (q [(.reg [o 41 (ia 6 37 39),o 42 (la 6 41),o 10 (.alloc [(n 0),(n 0),(n 0),(n 0),(n 0),(n 0)]),w (.store 6 (t 10) (t 42))]),
 (.reg [o 11 (.mv (c (u 0))),o 12 (.mv (c (u 0)))]),
 (q [(.reg [o 43 (m 8),o 44 (ln 43),o 45 (bc .gtr 44 (n 0))]),
 (i 45 (.regd [o 46 (m 8),o 47 (f 4 10),o 48 (l 47),o 49 (ia 1 46 48),o 50 (l 49),o 51 (m 8),o 52 (f 5 10),o 53 (l 52),o 54 (ia 1 51 53),o 55 (l 54),o 11 (m 50),o 12 (m 55)] [0,0,2,7,15,0,0,64,224,480,31,2047]) .skip)]),
 (.reg [o 56 (m 8),o 57 (la 4 2),o 58 (la 6 10),o 59 (m 11),o 60 (m 12),o 61 (.call 31 [(t 57),(t 58),(t 59),(t 60)]),o 62 (.bslice 1 1 [(u 0)] [(0,(t 61))]),o 63 (.app 1 8 (t 56) (t 62)),o 8 (m 63)])])),
 (.reg [o 64 (bc .add 39 (n 1)),o 39 (m 64)])])))]),
 (.reg [o 65 (m 8),o 66 (m 8),o 67 (ln 66),o 68 (bc .sub 67 (n 1)),o 69 (ia 1 65 68),o 70 (l 69),o 4 (m 70),o 5 (.mv (c (n 0)))]),
 .ret])⟩
def zpB:CFn:=⟨10,[.tmp 4],(q [(.reg [o 4 (.mv (c (.nils 6)))]),
 (.reg [o 5 (m 0),o 6 (.build [(n 0),(n 0),(n 0),(n 0),(n 0),(n 0)] [(0,1,(c (n 15))),(1,1,(t 5))]),o 7 (m 1),o 8 (.bslice 1 1 [(.nils 6)] [(0,(t 7))]),o 9 (.call 32 [(t 6),(t 8)]),o 4 (m 9)]),
 .ret])⟩
def znh:CFn:=⟨13,[.tmp 6],(q [(.reg [o 6 (.mv (c (.nils 6)))]),
 (.reg [o 7 (m 0),o 8 (.build [(n 0),(n 0),(n 0),(n 0),(n 0),(n 0)] [(0,1,(c (n 14))),(1,1,(t 7))]),o 9 (m 1),o 10 (m 2),o 11 (.bslice 1 2 [(.nils 6)] [(0,(t 9)),(1,(t 10))]),o 12 (.call 32 [(t 8),(t 11)]),o 6 (m 12)]),
 .ret])⟩
def zpC:CFn:=⟨3,[.tmp 0],(q [(.reg [o 0 (.mv (c (.nils 6)))]),
 (.reg [o 1 (.build [(n 0),(n 0),(n 0),(n 0),(n 0),(n 0)] [(0,1,(c (n 1)))]),o 2 (.call 32 [(t 1),(c (.nils 1))]),o 0 (m 2)]),
 .ret])⟩
def zpA:CFn:=⟨10,[.tmp 4],(q [(.reg [o 4 (.mv (c (.nils 6)))]),
 (.reg [o 5 (m 0),o 6 (.build [(n 0),(n 0),(n 0),(n 0),(n 0),(n 0)] [(0,1,(c (n 10))),(1,1,(t 5))]),o 7 (m 1),o 8 (.bslice 1 1 [(.nils 6)] [(0,(t 7))]),o 9 (.call 32 [(t 6),(t 8)]),o 4 (m 9)]),
 .ret])⟩
def zpG:CFn:=⟨9,[.cell 2 (some 3),.tmp 3],(q [(.reg [o 1 (.box 4 (t 0)),o 2 (.alloc [(n 0),(.nils 1),(.nils 1)]),o 3 (.mv (c (n 0)))]),
 (.reg [o 4 (la 4 1),o 5 (.fnew zdh [(t 1)]),o 6 (.call 33 [(t 4),(t 5)]),o 7 (e 6 0),o 8 (e 6 1),w (.store 3 (t 2) (t 7)),o 3 (m 8)]),
 .ret])⟩
def zom:CFn:=⟨23,[.tmp 4,.tmp 5],(q [(.reg [o 2 (.box 3 (t 0)),o 4 (.mv (c (u 0))),o 5 (.mv (c (n 0)))]),
 (.reg [o 9 (la 3 2),o 10 (m 1),o 11 (.call 37 [(t 9),(t 10)]),o 8 (m 11),o 12 (e 8 0),o 13 (e 8 1),o 6 (m 12),o 7 (m 13)]),
 (q [(.reg [o 14 (m 7),o 15 (bc .neq 14 (n 0))]),
 (i 15 (q [(.reg [o 16 (m 7),o 4 (.mv (c (u 0))),o 5 (m 16)]),
 .ret]) .skip)]),
 (.reg [o 17 (m 6),o 18 (m 6),o 19 (ln 18),o 20 (bc .sub 19 (n 1)),o 21 (ia 1 17 20),o 22 (l 21),o 4 (m 22),o 5 (.mv (c (n 0)))]),
 .ret])⟩
def zpz:CFn:=⟨10,[.tmp 4],(q [(.reg [o 4 (.mv (c (.nils 6)))]),
 (.reg [o 5 (m 0),o 6 (.build [(n 0),(n 0),(n 0),(n 0),(n 0),(n 0)] [(0,1,(c (n 9))),(1,1,(t 5))]),o 7 (m 1),o 8 (.bslice 1 1 [(.nils 6)] [(0,(t 7))]),o 9 (.call 32 [(t 6),(t 8)]),o 4 (m 9)]),
 .ret])⟩
def zrD:CFn:=⟨34,[.tmp 6],(q [(.reg [o 6 (.mv (c (n 0)))]),
 (q [(.reg [o 9 (m 0),o 10 (bc .lss 9 (n 1)),o 11 (m 10),g 12 11 false (m 0),g 13 11 false (bc .gtr 12 (n 64)),o 14 (pt 11 13)]),
 (i 14 (q [(.reg [o 6 (.mv (c (n 2)))]),
 .ret]) .skip)]),
 (q [(.reg [o 15 (m 2),o 16 (ln 15),o 17 (bc .gtr 16 (n 8)),o 18 (m 17),g 19 18 false (m 1),g 20 18 false (bc .gtr 19 (n 4)),o 21 (pt 18 20)]),
 (i 21 (q [(.reg [o 6 (.mv (c (n 8)))]),
 .ret]) .skip)]),
 (q [(.reg [o 22 (m 2),o 23 (ln 22),o 24 (.mv (c (n 0)))]),
 (.block 0 (.loop (q [(.reg [o 25 (b .lss 24 23)]),
 (i 25 .skip (.exit 0)),
 (.block 1 (q [(.reg [o 26 (ia 1 22 24),o 27 (l 26),o 8 (m 27)]),
 (.reg [o 28 (m 8),o 29 (m 0),o 30 (.call 38 [(t 29)]),o 31 (b .andNot 28 30),o 32 (bc .neq 31 (u 0))]),
 (i 32 (q [(.reg [o 6 (.mv (c (n 3)))]),
 .ret]) .skip)])),
 (.reg [o 33 (bc .add 24 (n 1)),o 24 (m 33)])])))]),
 (.reg [o 6 (.mv (c (n 0)))]),
 .ret])⟩
def zos:CFn:=⟨31,[.tmp 4],(q [(.reg [o 4 (.mv (c (n 0)))]),
 (.reg [o 5 (.mv (c (n 0)))]),
 (q [(.reg [o 10 (m 0),o 11 (.call 30 [(t 10)]),o 12 (ln 11),o 13 (.mv (c (n 0)))]),
 (.block 0 (.loop (q [(.reg [o 14 (b .lss 13 12)]),
 (i 14 .skip (.exit 0)),
 (.block 1 (q [(.reg [o 15 (ia 6 11 13),o 16 (la 6 15),o 7 (.alloc [(n 0),(n 0),(n 0),(n 0),(n 0),(n 0)]),w (.store 6 (t 7) (t 16))]),
 (.reg [o 18 (f 0 7),o 19 (l 18),o 20 (.call 41 [(t 19)]),o 17 (m 20),o 21 (e 17 0),o 22 (e 17 1),o 8 (.alloc [.bf,.bf,.bf,.bf,.bf,.bf,(n 0)]),w (.store 7 (t 8) (t 21)),o 9 (m 22)]),
 (.reg [o 23 (m 5),o 24 (m 1),o 25 (la 6 7),o 26 (la 7 8),o 27 (.callv (t 24) [(t 25),(t 26)]),o 28 (b .or 23 27),o 5 (m 28)])])),
 (.reg [o 29 (bc .add 13 (n 1)),o 13 (m 29)])])))]),
 (.reg [o 30 (m 5),o 4 (m 30)]),
 .ret])⟩
def zml:CFn:=⟨7,[.tmp 4],(q [(.reg [o 2 (.box 6 (t 0)),o 3 (.box 7 (t 1)),o 4 (.mv (c (n 0)))]),
 (.reg [o 5 (f 6 3),o 6 (l 5),o 4 (m 6)]),
 .ret])⟩
def zni:CFn:=⟨14,[.tmp 4],(q [(.reg [o 4 (.mv (c .bf))]),
 (.reg [o 5 (m 1),o 6 (bc .geq 5 (n 31)),o 7 (m 6),g 8 7 false (m 0),g 9 7 false (m 1),g 10 7 false (.mm true (t 9) (c (n 0))),g 11 7 false (b .shr 8 10),g 12 7 false (bc .eql 11 (n 0)),o 13 (pt 7 12),o 4 (m 13)]),
 .ret])⟩
def zoo:CFn:=⟨26,[.tmp 2],(q [(.reg [o 2 (.mv (c (n 0)))]),
 (q [(.reg [o 6 (m 0),o 7 (ln 6),o 8 (bc .eql 7 (n 0))]),
 (i 8 (q [(.reg [o 2 (.mv (c (n 3)))]),
 .ret]) .skip)]),
 (q [(.reg [o 9 (m 0),o 10 (ln 9),o 11 (bc .gtr 10 (n 200))]),
 (i 11 (q [(.reg [o 2 (.mv (c (n 8)))]),
 .ret]) .skip)]),
 (q [(.reg [o 12 (m 0),o 13 (ln 12),o 14 (.mv (c (n 0)))]),
 (.block 0 (.loop (q [(.reg [o 15 (b .lss 14 13)]),
 (i 15 .skip (.exit 0)),
 (.block 1 (q [(.reg [o 16 (m 14),o 17 (ia 6 12 14),o 18 (la 6 17),o 4 (.alloc [(n 0),(n 0),(n 0),(n 0),(n 0),(n 0)]),o 3 (m 16),w (.store 6 (t 4) (t 18))]),
 (.reg [o 19 (la 6 4),o 20 (m 3),o 21 (.call 42 [(t 19),(t 20)]),o 5 (m 21)]),
 (.reg [o 22 (m 5),o 23 (bc .neq 22 (n 0))]),
 (i 23 (q [(.reg [o 24 (m 5),o 2 (m 24)]),
 .ret]) .skip)])),
 (.reg [o 25 (bc .add 14 (n 1)),o 14 (m 25)])])))]),
 (.reg [o 2 (.mv (c (n 0)))]),
 .ret])⟩
def zng:CFn:=⟨5,[.tmp 2],(q [(.reg [o 2 (.mv (c (n 0)))]),
 (.reg [o 3 (m 0),o 4 (.call 20 [(t 3),(c (.fn zdV []))]),o 2 (m 4)]),
 .ret])⟩
def zop:CFn:=⟨5,[.tmp 2],(q [(.reg [o 2 (.mv (c (n 0)))]),
 (.reg [o 3 (m 0),o 4 (.call 20 [(t 3),(c (.fn zet []))]),o 2 (m 4)]),
 .ret])⟩
def zmq:CFn:=⟨140,[.cell 6 (some 4),.tmp 7],(q [(.reg [o 3 (.box 4 (t 0)),o 5 (.box 1 (t 2)),o 6 (.alloc [(n 0),(.nils 1),(.nils 1),(.nils 1)]),o 7 (.mv (c (n 0)))]),
 (.reg [o 20 (la 4 3),o 21 (m 1),o 22 (.call 10 [(t 20),(t 21)]),o 19 (m 22),o 23 (e 19 0),o 24 (e 19 1),o 8 (.alloc [(u 0)]),w (.store 1 (t 8) (t 23)),o 9 (m 24)]),
 (q [(.reg [o 25 (m 9),o 26 (bc .neq 25 (n 0))]),
 (i 26 (q [(.reg [o 27 (.build [(n 0),(.nils 1),(.nils 1),(.nils 1)] []),o 28 (m 9),w (.store 4 (t 6) (t 27)),o 7 (m 28)]),
 .ret]) .skip)]),
 (.regd [o 29 (f 0 3),o 30 (l 29),o 31 (f 1 3),o 32 (l 31),o 33 (.call 46 [(t 32)]),o 34 (.build [(n 0),(.nils 1),(.nils 1),(.nils 1)] [(0,1,(t 30)),(1,1,(t 33))]),o 10 (.alloc [(n 0),(.nils 1),(.nils 1),(.nils 1)]),w (.store 4 (t 10) (t 34))] [0,1,0,4,12,31,0,127]),
 (q [(.reg [o 35 (f 2 3),o 36 (l 35),o 37 (ln 36),o 38 (.mv (c (n 0)))]),
 (.block 0 (.loop (q [(.reg [o 39 (b .lss 38 37)]),
 (i 39 .skip (.exit 0)),
 (.block 1 (q [(.reg [o 40 (m 38),o 11 (.alloc [(n 0)]),w (.store 1 (t 11) (t 40))]),
 (.reg [o 41 (.fnew zaZ [(t 3),(t 11),(t 5),(t 8)]),o 12 (.alloc [(.d .nil)]),w (.store 1 (t 12) (t 41))]),
 (.reg [o 42 (.fnew za0 [(t 12),(t 3),(t 11)]),o 13 (m 42)]),
 (.reg [o 43 (f 0 3),o 44 (l 43),o 45 (.mkslice 1 8 [(n 0)] (t 44) (t 44)),o 14 (m 45)]),
 (q [(.reg [o 46 (m 14),o 47 (ln 46),o 48 (.mv (c (n 0)))]),
 (.block 2 (.loop (q [(.reg [o 49 (b .lss 48 47)]),
 (i 49 .skip (.exit 2)),
 (.block 3 (q [(.reg [o 50 (m 48),o 15 (m 50)]),
 (.reg [o 51 (m 14),o 52 (m 15),o 53 (m 15),o 54 (ia 1 51 52),w (.store 1 (t 54) (t 53))])])),
 (.reg [o 55 (bc .add 48 (n 1)),o 48 (m 55)])])))]),
 (.reg [o 56 (m 14),o 57 (m 13),o 58 (.call 51 [(t 56),(t 57)])]),
 (.reg [o 59 (f 0 3),o 60 (l 59),o 61 (.mkslice 1 8 [(n 0)] (t 60) (t 60)),o 16 (m 61)]),
 (q [(.reg [o 62 (m 14),o 63 (ln 62),o 64 (.mv (c (n 0)))]),
 (.block 4 (.loop (q [(.reg [o 65 (b .lss 64 63)]),
 (i 65 .skip (.exit 4)),
 (.block 5 (q [(.reg [o 66 (m 64),o 67 (ia 1 62 64),o 68 (l 67),o 17 (m 66),o 18 (m 68)]),
 (q [(.regd [o 69 (m 17),o 70 (bc .eql 69 (n 0)),o 71 (m 70),g 72 71 false (f 2 3),g 73 71 false (l 72),g 74 71 false (l 11),g 75 71 false (ia 1 73 74),g 76 71 false (l 75),g 77 71 false (m 14),g 78 71 false (m 17),g 79 71 false (bc .sub 78 (n 1)),g 80 71 false (ia 1 77 79),g 81 71 false (l 80),g 82 71 false (ia 1 76 81),g 83 71 false (l 82),g 84 71 false (f 2 3),g 85 71 false (l 84),g 86 71 false (l 11),g 87 71 false (ia 1 85 86),g 88 71 false (l 87),g 89 71 false (m 18),g 90 71 false (ia 1 88 89),g 91 71 false (l 90),g 92 71 false (b .neq 83 91),o 93 (pt 71 92)] [0,1,3,7,15,7,63,127,7,7,519,1799,3847,8191,16383,7,32775,7,229383,491527,7,2064391,4161543,8388607,16777215]),
 (i 93 (.exit 5) .skip)]),
 (.reg [o 94 (m 16),o 95 (m 18),o 96 (m 16),o 97 (m 14),o 98 (m 17),o 99 (bc .sub 98 (n 1)),o 100 (ia 1 97 99),o 101 (l 100),o 102 (ia 1 96 101),o 103 (l 102),o 104 (ia 1 94 95),w (.store 1 (t 104) (t 103))]),
 (.reg [o 105 (m 13),o 106 (m 14),o 107 (m 17),o 108 (bc .sub 107 (n 1)),o 109 (ia 1 106 108),o 110 (l 109),o 111 (m 18),o 112 (.callv (t 105) [(t 110),(t 111)]),o 113 (bc .neq 112 (n 0))]),
 (i 113 (.reg [o 114 (m 16),o 115 (m 18),o 116 (ia 1 114 115),o 117 (l 116),o 118 (bc .add 117 (n 1)),o 119 (ia 1 114 115),w (.store 1 (t 119) (t 118))]) .skip)])),
 (.reg [o 120 (bc .add 64 (n 1)),o 64 (m 120)])])))]),
 (.regd [o 121 (f 2 10),o 122 (l 121),o 123 (f 2 3),o 124 (l 123),o 125 (l 11),o 126 (ia 1 124 125),o 127 (l 126),o 128 (.call 52 [(t 127)]),o 129 (.bslice 1 1 [(.nils 1)] [(0,(t 128))]),o 130 (.app 1 24 (t 122) (t 129)),o 131 (f 3 10),o 132 (l 131),o 133 (m 16),o 134 (.bslice 1 1 [(.nils 1)] [(0,(t 133))]),o 135 (.app 1 24 (t 132) (t 134)),o 136 (f 2 10),w (.store 1 (t 136) (t 130)),o 137 (f 3 10),w (.store 1 (t 137) (t 135))] [0,1,0,4,0,28,60,124,252,511,0,1024,0,4096,16383,4095,65535,131071,262143])])),
 (.reg [o 138 (bc .add 38 (n 1)),o 38 (m 138)])])))]),
 (.reg [o 139 (la 4 10),w (.store 4 (t 6) (t 139)),o 7 (.mv (c (n 0)))]),
 .ret])⟩
def zkz:CFn:=⟨8,[.tmp 6],(q [(.reg [o 6 (.mv (c (u 0)))]),
 (.reg [o 7 (m 2),o 6 (m 7)]),
 .ret])⟩
def zmj:CFn:=⟨8,[.tmp 2],(q [(.reg [o 2 (.mv (c (.nils 6)))]),
 (.reg [o 3 (m 0),o 4 (m 0),o 5 (ln 4),o 6 (bc .sub 5 (n 1)),o 7 (.call 53 [(t 3),(t 6)]),o 2 (m 7)]),
 .ret])⟩
def zne:CFn:=⟨105,[.tmp 8],(q [(.reg [o 4 (.box 4 (t 0)),o 5 (.box 6 (t 1)),o 8 (.mv (c (u 0)))]),
 (q [(.reg [o 9 (f 0 5),o 10 (l 9)]),
 (.block 0 (q [(.reg [o 12 (bc .eql 10 (n 1)),o 11 (m 12)]),
 (i 11 (q [(.reg [o 13 (la 4 4),o 14 (.call 54 [(t 13)]),o 8 (m 14)]),
 .ret]) (q [(.reg [o 16 (bc .eql 10 (n 3)),o 15 (m 16)]),
 (i 15 (q [(.reg [o 17 (f 1 4),o 18 (l 17),o 19 (f 1 5),o 20 (l 19),o 21 (ia 1 18 20),o 22 (l 21),o 8 (m 22)]),
 .ret]) (q [(.reg [o 24 (bc .eql 10 (n 4)),o 23 (m 24)]),
 (i 23 (q [(.reg [o 25 (la 4 4),o 26 (.call 54 [(t 25)]),o 27 (m 2),o 28 (b .andNot 26 27),o 8 (m 28)]),
 .ret]) (q [(.reg [o 30 (bc .eql 10 (n 5)),o 29 (m 30)]),
 (i 29 (q [(.reg [o 31 (m 2),o 32 (m 3),o 33 (b .and 31 32),o 8 (m 33)]),
 .ret]) (q [(.reg [o 35 (bc .eql 10 (n 6)),o 34 (m 35)]),
 (i 34 (q [(.reg [o 36 (m 2),o 37 (m 3),o 38 (b .or 36 37),o 8 (m 38)]),
 .ret]) (q [(.reg [o 40 (bc .eql 10 (n 7)),o 39 (m 40)]),
 (i 39 (q [(.reg [o 41 (la 4 4),o 42 (.call 54 [(t 41)]),o 43 (m 2),o 44 (b .andNot 42 43),o 45 (m 3),o 46 (b .or 44 45),o 8 (m 46)]),
 .ret]) (q [(.reg [o 48 (bc .eql 10 (n 8)),o 47 (m 48)]),
 (i 47 (q [(.reg [o 49 (la 4 4),o 50 (.call 54 [(t 49)]),o 51 (m 2),o 52 (m 3),o 53 (b .xor 51 52),o 54 (b .andNot 50 53),o 8 (m 54)]),
 .ret]) (q [(.reg [o 56 (bc .eql 10 (n 9)),o 55 (m 56)]),
 (i 55 (q [(.reg [o 57 (la 4 4),o 58 (f 1 5),o 59 (l 58),o 60 (m 2),o 61 (.call 55 [(t 57),(t 59),(t 60)]),o 8 (m 61)]),
 .ret]) (q [(.reg [o 63 (bc .eql 10 (n 10)),o 62 (m 63)]),
 (i 62 (q [(.regd [o 64 (la 4 4),o 65 (.call 54 [(t 64)]),o 66 (la 4 4),o 67 (f 1 5),o 68 (l 67),o 69 (la 4 4),o 70 (.call 54 [(t 69)]),o 71 (m 2),o 72 (b .andNot 70 71),o 73 (.call 55 [(t 66),(t 68),(t 72)]),o 74 (b .andNot 65 73),o 8 (m 74)] [0,1,0,0,8,0,35,0,227,511,1023,2047]),
 .ret]) (q [(.reg [o 76 (bc .eql 10 (n 11)),o 75 (m 76)]),
 (i 75 (q [(.reg [o 77 (la 4 4),o 78 (f 3 5),o 79 (l 78),o 80 (m 2),o 81 (.call 56 [(t 77),(t 79),(t 80)]),o 8 (m 81)]),
 .ret]) (q [(.reg [o 83 (bc .eql 10 (n 13)),o 82 (m 83)]),
 (i 82 (q [(.reg [o 84 (la 4 4),o 85 (f 3 5),o 86 (l 85),o 87 (m 2),o 88 (m 3),o 89 (.call 57 [(t 84),(t 86),(t 87),(t 88)]),o 8 (m 89)]),
 .ret]) (q [(.reg [o 91 (bc .eql 10 (n 14)),o 90 (m 91)]),
 (i 90 (q [(.reg [o 92 (la 4 4),o 93 (f 1 5),o 94 (l 93),o 95 (m 2),o 96 (m 3),o 97 (.call 58 [(t 92),(t 94),(t 95),(t 96)]),o 8 (m 97)]),
 .ret]) (q [(.reg [o 99 (bc .eql 10 (n 15)),o 98 (m 99)]),
 (i 98 (q [(.reg [o 100 (la 4 4),o 101 (f 1 5),o 102 (l 101),o 103 (m 2),o 104 (.call 59 [(t 100),(t 102),(t 103)]),o 8 (m 104)]),
 .ret]) .skip)]))]))]))]))]))]))]))]))]))]))]))]))]))]),
 (.reg [o 8 (.mv (c (u 0)))]),
 .ret])⟩
def zor:CFn:=⟨85,[.tmp 4],(q [(.reg [o 2 (.box 6 (t 0)),o 4 (.mv (c (.nils 6)))]),
 (.reg [o 5 (.mv (c (.nils 6)))]),
 (q [(.reg [o 14 (m 1),o 15 (ln 14),o 16 (.mv (c (n 0)))]),
 (.block 0 (.loop (q [(.reg [o 17 (b .lss 16 15)]),
 (i 17 .skip (.exit 0)),
 (.block 1 (q [(.reg [o 18 (m 16),o 19 (ia 1 14 16),o 20 (l 19),o 6 (m 18),o 7 (m 20)]),
 (q [(.reg [o 21 (m 7),o 22 (.call 23 [(t 21)]),o 23 (bc .neq 22 (n 0))]),
 (i 23 (q [(.reg [o 4 (.mv (c (.nils 6)))]),
 .ret]) .skip)]),
 (.reg [o 24 (m 5),o 25 (ln 24),o 8 (m 25)]),
 (q [(.reg [o 26 (m 7),o 27 (.call 30 [(t 26)]),o 28 (ln 27),o 29 (.mv (c (n 0)))]),
 (.block 2 (.loop (q [(.reg [o 30 (b .lss 29 28)]),
 (i 30 .skip (.exit 2)),
 (.block 3 (q [(.reg [o 31 (ia 6 27 29),o 32 (la 6 31),o 10 (.alloc [(n 0),(n 0),(n 0),(n 0),(n 0),(n 0)]),w (.store 6 (t 10) (t 32))]),
 (.reg [o 34 (f 0 10),o 35 (l 34),o 36 (.call 41 [(t 35)]),o 33 (m 36),o 37 (e 33 0),o 38 (e 33 1),o 11 (.alloc [.bf,.bf,.bf,.bf,.bf,.bf,(n 0)]),w (.store 7 (t 11) (t 37)),o 12 (m 38)]),
 (q [(.reg [o 39 (f 0 11),o 40 (l 39)]),
 (i 40 (.reg [o 41 (f 4 10),o 42 (l 41),o 43 (m 8),o 44 (b .add 42 43),o 45 (f 4 10),w (.store 1 (t 45) (t 44))]) .skip)]),
 (q [(.reg [o 46 (f 1 11),o 47 (l 46)]),
 (i 47 (.reg [o 48 (f 5 10),o 49 (l 48),o 50 (m 8),o 51 (b .add 49 50),o 52 (f 5 10),w (.store 1 (t 52) (t 51))]) .skip)]),
 (.reg [o 53 (m 5),o 54 (la 6 10),o 55 (.bslice 6 1 [(n 0),(n 0),(n 0),(n 0),(n 0),(n 0)] [(0,(t 54))]),o 56 (.app 6 48 (t 53) (t 55)),o 5 (m 56)])])),
 (.reg [o 57 (bc .add 29 (n 1)),o 29 (m 57)])])))]),
 (.reg [o 58 (m 6),o 59 (bc .eql 58 (n 0))]),
 (i 59 (.reg [o 60 (m 5),o 61 (ln 60),o 62 (bc .sub 61 (n 1)),o 63 (f 4 2),w (.store 1 (t 63) (t 62))]) (.reg [o 64 (m 5),o 65 (ln 64),o 66 (bc .sub 65 (n 1)),o 67 (f 5 2),w (.store 1 (t 67) (t 66))]))])),
 (.reg [o 68 (bc .add 16 (n 1)),o 16 (m 68)])])))]),
 (q [(.reg [o 69 (la 6 2),o 70 (m 5),o 71 (ln 70),o 72 (.call 42 [(t 69),(t 71)]),o 73 (bc .neq 72 (n 0))]),
 (i 73 (q [(.reg [o 4 (.mv (c (.nils 6)))]),
 .ret]) .skip)]),
 (.reg [o 74 (m 5),o 75 (la 6 2),o 76 (.bslice 6 1 [(n 0),(n 0),(n 0),(n 0),(n 0),(n 0)] [(0,(t 75))]),o 77 (.app 6 48 (t 74) (t 76)),o 78 (m 5),o 79 (ln 78),o 80 (.call 60 [(t 77),(t 79)]),o 13 (m 80)]),
 (q [(.reg [o 81 (m 13),o 82 (ln 81),o 83 (bc .gtr 82 (n 200))]),
 (i 83 (q [(.reg [o 4 (.mv (c (.nils 6)))]),
 .ret]) .skip)]),
 (.reg [o 84 (m 13),o 4 (m 84)]),
 .ret])⟩
def zpK:CFn:=⟨53,[.cell 4 (some 3),.tmp 5],(q [(.reg [o 2 (.box 4 (t 0)),o 4 (.alloc [(n 0),(.nils 1),(.nils 1)]),o 5 (.mv (c (n 0)))]),
 (q [(.reg [o 11 (la 4 2),o 12 (.call 5 [(t 11)]),o 6 (m 12)]),
 (.reg [o 13 (m 6),o 14 (bc .neq 13 (n 0))]),
 (i 14 (q [(.reg [o 15 (.build [(n 0),(.nils 1),(.nils 1)] []),o 16 (m 6),w (.store 3 (t 4) (t 15)),o 5 (m 16)]),
 .ret]) .skip)]),
 (.regd [o 17 (f 0 2),o 18 (l 17),o 19 (f 1 2),o 20 (l 19),o 21 (.call 46 [(t 20)]),o 22 (.build [(n 0),(.nils 1),(.nils 1)] [(0,1,(t 18)),(1,1,(t 21))]),o 7 (.alloc [(n 0),(.nils 1),(.nils 1)]),w (.store 3 (t 7) (t 22))] [0,1,0,4,12,31,0,127]),
 (q [(.reg [o 23 (f 2 2),o 24 (l 23),o 25 (ln 24),o 26 (.mv (c (n 0)))]),
 (.block 0 (.loop (q [(.reg [o 27 (b .lss 26 25)]),
 (i 27 .skip (.exit 0)),
 (.block 1 (q [(.reg [o 28 (m 26),o 8 (m 28)]),
 (.reg [o 29 (f 0 2),o 30 (l 29),o 31 (.mkslice 1 8 [(u 0)] (t 30) (t 30)),o 9 (m 31)]),
 (q [(.reg [o 32 (m 9),o 33 (ln 32),o 34 (.mv (c (n 0)))]),
 (.block 2 (.loop (q [(.reg [o 35 (b .lss 34 33)]),
 (i 35 .skip (.exit 2)),
 (.block 3 (q [(.reg [o 36 (m 34),o 10 (m 36)]),
 (.reg [o 37 (m 9),o 38 (m 10),o 39 (m 1),o 40 (m 8),o 41 (m 10),o 42 (.callv (t 39) [(t 40),(t 41)]),o 43 (ia 1 37 38),w (.store 1 (t 43) (t 42))])])),
 (.reg [o 44 (bc .add 34 (n 1)),o 34 (m 44)])])))]),
 (.reg [o 45 (f 2 7),o 46 (l 45),o 47 (m 9),o 48 (.bslice 1 1 [(.nils 1)] [(0,(t 47))]),o 49 (.app 1 24 (t 46) (t 48)),o 50 (f 2 7),w (.store 1 (t 50) (t 49))])])),
 (.reg [o 51 (bc .add 26 (n 1)),o 26 (m 51)])])))]),
 (.reg [o 52 (la 3 7),w (.store 3 (t 4) (t 52)),o 5 (.mv (c (n 0)))]),
 .ret])⟩
def znj:CFn:=⟨16,[.tmp 5],(q [(.reg [o 5 (.mv (c (u 0)))]),
 (.regd [o 6 (f 3 2),o 7 (l 6),o 8 (m 0),o 9 (ia 1 7 8),o 10 (l 9),o 11 (la 4 2),o 12 (m 0),o 13 (m 1),o 14 (.call 36 [(t 11),(t 12),(t 13)]),o 15 (.call 35 [(t 10),(t 14)]),o 5 (m 15)] [0,1,0,7,15,0,0,0,224,511,1023]),
 .ret])⟩
def zpI:CFn:=⟨43,[.tmp 4],(q [(.reg [o 4 (.mv (c (u 0)))]),
 (.reg [o 5 (.mv (c (u 0))),o 6 (.mv (c (n 0)))]),
 (q [(.reg [o 9 (m 0),o 10 (ln 9),o 11 (.mv (c (n 0)))]),
 (.block 0 (.loop (q [(.reg [o 12 (b .lss 11 10)]),
 (i 12 .skip (.exit 0)),
 (.block 1 (q [(.reg [o 13 (m 11),o 14 (ia 1 9 11),o 15 (l 14),o 7 (m 13),o 8 (m 15)]),
 (.block 2 (q [(.reg [o 17 (m 1),o 18 (m 7),o 19 (b .shr 17 18),o 20 (bc .and 19 (u 1)),o 21 (bc .eql 20 (u 0)),o 16 (m 21)]),
 (i 16 .skip (q [(.reg [o 23 (m 5),o 24 (bc .eql 23 (u 0)),o 25 (m 24),g 26 25 false (m 8),g 27 25 false (m 6),g 28 25 false (b .lss 26 27),o 29 (pt 25 28),o 22 (m 29)]),
 (i 22 (.reg [o 30 (m 7),o 31 (.bin .shl (c (u 1)) (t 30)),o 32 (m 8),o 5 (m 31),o 6 (m 32)]) (q [(.reg [o 34 (m 8),o 35 (m 6),o 36 (b .eql 34 35),o 33 (m 36)]),
 (i 33 (.reg [o 37 (m 5),o 38 (m 7),o 39 (.bin .shl (c (u 1)) (t 38)),o 40 (b .or 37 39),o 5 (m 40)]) .skip)]))]))]))])),
 (.reg [o 41 (bc .add 11 (n 1)),o 11 (m 41)])])))]),
 (.reg [o 42 (m 5),o 4 (m 42)]),
 .ret])⟩
def zpJ:CFn:=⟨37,[.tmp 6],(q [(.reg [o 3 (.box 4 (t 0)),o 6 (.mv (c (u 0)))]),
 (.reg [o 7 (.mv (c (u 0)))]),
 (q [(.reg [o 10 (f 2 3),o 11 (l 10),o 12 (m 1),o 13 (ia 1 11 12),o 14 (l 13),o 15 (ln 14),o 16 (.mv (c (n 0)))]),
 (.block 0 (.loop (q [(.reg [o 17 (b .lss 16 15)]),
 (i 17 .skip (.exit 0)),
 (.block 1 (q [(.reg [o 18 (m 16),o 19 (ia 1 14 16),o 20 (l 19),o 8 (m 18),o 9 (m 20)]),
 (.reg [o 21 (m 9),o 22 (f 2 3),o 23 (l 22),o 24 (m 1),o 25 (ia 1 23 24),o 26 (l 25),o 27 (m 2),o 28 (ia 1 26 27),o 29 (l 28),o 30 (b .eql 21 29)]),
 (i 30 (.reg [o 31 (m 7),o 32 (m 8),o 33 (.bin .shl (c (u 1)) (t 32)),o 34 (b .or 31 33),o 7 (m 34)]) .skip)])),
 (.reg [o 35 (bc .add 16 (n 1)),o 16 (m 35)])])))]),
 (.reg [o 36 (m 7),o 6 (m 36)]),
 .ret])⟩
def zpw:CFn:=⟨85,[.tmp 4,.tmp 5],(q [(.reg [o 2 (.box 3 (t 0)),o 4 (.mv (c (.nils 1))),o 5 (.mv (c (n 0)))]),
 (q [(.reg [o 12 (la 3 2),o 13 (m 1),o 14 (.call 61 [(t 12),(t 13)]),o 6 (m 14)]),
 (.reg [o 15 (m 6),o 16 (bc .neq 15 (n 0))]),
 (i 16 (q [(.reg [o 17 (m 6),o 4 (.mv (c (.nils 1))),o 5 (m 17)]),
 .ret]) .skip)]),
 (.reg [o 18 (m 1),o 19 (ln 18),o 20 (.mkslice 1 8 [(u 0)] (t 19) (t 19)),o 7 (m 20)]),
 (.reg [o 21 (m 1),o 22 (ln 21),o 23 (.mkslice 1 1 [.bf] (t 22) (t 22)),o 8 (m 23)]),
 (q [(.reg [o 24 (m 1),o 25 (ln 24),o 26 (.mv (c (n 0)))]),
 (.block 0 (.loop (q [(.reg [o 27 (b .lss 26 25)]),
 (i 27 .skip (.exit 0)),
 (.block 1 (q [(.reg [o 28 (m 26),o 29 (ia 6 24 26),o 30 (la 6 29),o 10 (.alloc [(n 0),(n 0),(n 0),(n 0),(n 0),(n 0)]),o 9 (m 28),w (.store 6 (t 10) (t 30))]),
 (.reg [o 11 (.mv (c .bt))]),
 (q [(.reg [o 31 (f 0 10),o 32 (l 31),o 33 (bc .geq 32 (n 4))]),
 (i 33 (.reg [o 34 (m 8),o 35 (f 4 10),o 36 (l 35),o 37 (ia 1 34 36),o 38 (l 37),o 11 (m 38)]) .skip)]),
 (q [(.reg [o 39 (f 0 10),o 40 (l 39),o 41 (bc .geq 40 (n 5)),o 42 (m 41),g 43 42 true (f 0 10),g 44 42 true (l 43),g 45 42 true (bc .leq 44 (n 8)),o 46 (pf 42 45),o 47 (m 46),g 48 47 false (f 0 10),g 49 47 false (l 48),g 50 47 false (bc .eql 49 (n 13)),o 51 (pt 47 50)]),
 (i 51 (.reg [o 52 (m 11),o 53 (m 52),g 54 53 true (m 8),g 55 53 true (f 5 10),g 56 53 true (l 55),g 57 53 true (ia 1 54 56),g 58 53 true (l 57),o 59 (pf 53 58),o 11 (m 59)]) .skip)]),
 (.reg [o 60 (m 11)]),
 (i 60 (.regd [o 62 (m 7),o 63 (m 9),o 64 (m 8),o 65 (m 9),o 66 (la 3 2),o 67 (la 6 10),o 68 (m 7),o 69 (f 4 10),o 70 (l 69),o 71 (ia 1 68 70),o 72 (l 71),o 73 (m 7),o 74 (f 5 10),o 75 (l 74),o 76 (ia 1 73 75),o 77 (l 76),o 78 (.call 62 [(t 66),(t 67),(t 72),(t 77)]),o 61 (m 78),o 79 (e 61 0),o 80 (e 61 1),o 81 (ia 1 62 63),w (.store 1 (t 81) (t 79)),o 82 (ia 1 64 65),w (.store 1 (t 82) (t 80))] [0,0,0,0,0,0,0,0,128,448,960,0,0,4096,14336,30720,65520,131056,262128,262128,524275,1572851,4194303,8388607]) .skip)])),
 (.reg [o 83 (bc .add 26 (n 1)),o 26 (m 83)])])))]),
 (.reg [o 84 (m 7),o 4 (m 84),o 5 (.mv (c (n 0)))]),
 .ret])⟩
def ztN:CFn:=⟨8,[.tmp 2],(q [(.reg [o 2 (.mv (c (u 0)))]),
 (q [(.reg [o 3 (m 0),o 4 (bc .geq 3 (n 64))]),
 (i 4 (q [(.reg [o 2 (.mv (c (u 18446744073709551615)))]),
 .ret]) .skip)]),
 (.reg [o 5 (m 0),o 6 (.bin .shl (c (u 1)) (t 5)),o 7 (bc .sub 6 (u 1)),o 2 (m 7)]),
 .ret])⟩
def zgq:CFn:=⟨61,[.tmp 2],(q [(.reg [o 2 (.mv (c (.nils 1)))]),
 (q [(.reg [o 6 (m 0),o 7 (ln 6),o 8 (bc .lss 7 (n 2))]),
 (i 8 (q [(.reg [o 9 (m 0),o 2 (m 9)]),
 .ret]) .skip)]),
 (q [(.reg [o 3 (.mv (c (n 1)))]),
 (.block 0 (.loop (q [(q [(.reg [o 10 (m 3),o 11 (m 0),o 12 (ln 11),o 13 (b .lss 10 12)]),
 (i 13 .skip (.exit 0))]),
 (.block 1 (q [(.regd [o 16 (m 0),o 17 (m 3),o 18 (ia 1 16 17),o 19 (l 18),o 20 (m 0),o 21 (m 3),o 22 (bc .sub 21 (n 1)),o 23 (ia 1 20 22),o 24 (l 23),o 25 (b .eql 19 24)] [0,0,3,7,0,0,32,112,240,511]),
 (i 25 (q [(.reg [o 26 (m 0),o 27 (m 3),o 28 (.slice 1 (t 26) (some (t 27)) none),o 4 (m 28)]),
 (q [(.reg [o 5 (.mv (c (n 1)))]),
 (.block 2 (.loop (q [(q [(.reg [o 29 (m 5),o 30 (m 4),o 31 (ln 30),o 32 (b .lss 29 31)]),
 (i 32 .skip (.exit 2))]),
 (.block 3 (q [(.regd [o 35 (m 4),o 36 (m 5),o 37 (ia 1 35 36),o 38 (l 37),o 39 (m 4),o 40 (m 5),o 41 (bc .sub 40 (n 1)),o 42 (ia 1 39 41),o 43 (l 42),o 44 (b .neq 38 43)] [0,0,3,7,0,0,32,112,240,511]),
 (i 44 (q [(.reg [o 45 (m 0),o 46 (m 3),o 47 (m 4),o 48 (m 5),o 49 (ia 1 47 48),o 50 (l 49),o 51 (ia 1 45 46),w (.store 1 (t 51) (t 50))]),
 (.reg [o 52 (m 3),o 53 (bc .add 52 (n 1)),o 3 (m 53)])]) .skip)])),
 (.reg [o 33 (m 5),o 34 (bc .add 33 (n 1)),o 5 (m 34)])])))]),
 (.reg [o 54 (m 0),o 55 (m 3),o 56 (.slice 1 (t 54) (some (t 55)) none),w (.clear 1 [(n 0)] (t 56))]),
 (.reg [o 57 (m 0),o 58 (m 3),o 59 (.slice 1 (t 57) none (some (t 58))),o 2 (m 59)]),
 .ret]) .skip)])),
 (.reg [o 14 (m 3),o 15 (bc .add 14 (n 1)),o 3 (m 15)])])))]),
 (.reg [o 60 (m 0),o 2 (m 60)]),
 .ret])⟩
def zpD:CFn:=⟨55,[.cell 2 (some 7),.tmp 3],(q [(.reg [o 2 (.alloc [.bf,.bf,.bf,.bf,.bf,.bf,(n 0)]),o 3 (.mv (c .bf))]),
 (q [(.reg [o 4 (m 0)]),
 (.block 0 (q [(q [(.reg [o 6 (bc .eql 4 (n 1)),o 5 (m 6)]),
 (i 5 .skip (.reg [o 7 (bc .eql 4 (n 2)),o 5 (m 7)]))]),
 (i 5 (q [(.reg [o 8 (.build [.bf,.bf,.bf,.bf,.bf,.bf,(n 0)] []),w (.store 7 (t 2) (t 8)),o 3 (.mv (c .bt))]),
 .ret]) (q [(.reg [o 10 (bc .eql 4 (n 3)),o 9 (m 10)]),
 (i 9 (q [(.reg [o 11 (.build [.bf,.bf,.bf,.bf,.bf,.bf,(n 0)] [(2,1,(c .bt))]),w (.store 7 (t 2) (t 11)),o 3 (.mv (c .bt))]),
 .ret]) (q [(.reg [o 13 (bc .eql 4 (n 4)),o 12 (m 13)]),
 (i 12 (q [(.reg [o 14 (.build [.bf,.bf,.bf,.bf,.bf,.bf,(n 0)] [(0,1,(c .bt))]),w (.store 7 (t 2) (t 14)),o 3 (.mv (c .bt))]),
 .ret]) (q [(q [(.reg [o 16 (bc .eql 4 (n 5)),o 15 (m 16)]),
 (i 15 .skip (q [(.reg [o 17 (bc .eql 4 (n 6)),o 15 (m 17)]),
 (i 15 .skip (q [(.reg [o 18 (bc .eql 4 (n 7)),o 15 (m 18)]),
 (i 15 .skip (.reg [o 19 (bc .eql 4 (n 8)),o 15 (m 19)]))]))]))]),
 (i 15 (q [(.reg [o 20 (.build [.bf,.bf,.bf,.bf,.bf,.bf,(n 0)] [(0,1,(c .bt)),(1,1,(c .bt))]),w (.store 7 (t 2) (t 20)),o 3 (.mv (c .bt))]),
 .ret]) (q [(q [(.reg [o 22 (bc .eql 4 (n 9)),o 21 (m 22)]),
 (i 21 .skip (.reg [o 23 (bc .eql 4 (n 10)),o 21 (m 23)]))]),
 (i 21 (q [(.reg [o 24 (.build [.bf,.bf,.bf,.bf,.bf,.bf,(n 0)] [(0,1,(c .bt)),(3,1,(c .bt)),(6,1,(c (n 1)))]),w (.store 7 (t 2) (t 24)),o 3 (.mv (c .bt))]),
 .ret]) (q [(.reg [o 26 (bc .eql 4 (n 11)),o 25 (m 26)]),
 (i 25 (q [(.reg [o 27 (.build [.bf,.bf,.bf,.bf,.bf,.bf,(n 0)] [(0,1,(c .bt)),(4,1,(c .bt)),(6,1,(c (n 2)))]),w (.store 7 (t 2) (t 27)),o 3 (.mv (c .bt))]),
 .ret]) (q [(.reg [o 29 (bc .eql 4 (n 12)),o 28 (m 29)]),
 (i 28 (q [(.reg [o 30 (.build [.bf,.bf,.bf,.bf,.bf,.bf,(n 0)] [(0,1,(c .bt)),(4,1,(c .bt)),(6,1,(c (n 4)))]),w (.store 7 (t 2) (t 30)),o 3 (.mv (c .bt))]),
 .ret]) (q [(.reg [o 32 (bc .eql 4 (n 13)),o 31 (m 32)]),
 (i 31 (q [(.reg [o 33 (.build [.bf,.bf,.bf,.bf,.bf,.bf,(n 0)] [(0,1,(c .bt)),(1,1,(c .bt)),(4,1,(c .bt)),(6,1,(c (n 8)))]),w (.store 7 (t 2) (t 33)),o 3 (.mv (c .bt))]),
 .ret]) (q [(.reg [o 35 (bc .eql 4 (n 14)),o 34 (m 35)]),
 (i 34 (q [(.reg [o 36 (.build [.bf,.bf,.bf,.bf,.bf,.bf,(n 0)] [(0,1,(c .bt)),(1,1,(c .bt)),(3,1,(c .bt)),(6,1,(c (n 16)))]),w (.store 7 (t 2) (t 36)),o 3 (.mv (c .bt))]),
 .ret]) (q [(.reg [o 38 (bc .eql 4 (n 15)),o 37 (m 38)]),
 (i 37 (q [(.reg [o 39 (.build [.bf,.bf,.bf,.bf,.bf,.bf,(n 0)] [(0,1,(c .bt)),(3,1,(c .bt)),(6,1,(c (n 32)))]),w (.store 7 (t 2) (t 39)),o 3 (.mv (c .bt))]),
 .ret]) (q [(.reg [o 41 (bc .eql 4 (n 16)),o 40 (m 41)]),
 (i 40 (q [(.reg [o 42 (.build [.bf,.bf,.bf,.bf,.bf,.bf,(n 0)] [(0,1,(c .bt)),(1,1,(c .bt)),(6,1,(c (n 64)))]),w (.store 7 (t 2) (t 42)),o 3 (.mv (c .bt))]),
 .ret]) (q [(.reg [o 44 (bc .eql 4 (n 17)),o 43 (m 44)]),
 (i 43 (q [(.reg [o 45 (.build [.bf,.bf,.bf,.bf,.bf,.bf,(n 0)] [(0,1,(c .bt)),(5,1,(c .bt)),(6,1,(c (n 128)))]),w (.store 7 (t 2) (t 45)),o 3 (.mv (c .bt))]),
 .ret]) (q [(q [(.reg [o 47 (bc .eql 4 (n 18)),o 46 (m 47)]),
 (i 46 .skip (.reg [o 48 (bc .eql 4 (n 20)),o 46 (m 48)]))]),
 (i 46 (q [(.reg [o 49 (.build [.bf,.bf,.bf,.bf,.bf,.bf,(n 0)] [(0,1,(c .bt)),(6,1,(c (n 256)))]),w (.store 7 (t 2) (t 49)),o 3 (.mv (c .bt))]),
 .ret]) (q [(q [(.reg [o 51 (bc .eql 4 (n 19)),o 50 (m 51)]),
 (i 50 .skip (.reg [o 52 (bc .eql 4 (n 21)),o 50 (m 52)]))]),
 (i 50 (q [(.reg [o 53 (.build [.bf,.bf,.bf,.bf,.bf,.bf,(n 0)] [(0,1,(c .bt)),(1,1,(c .bt)),(6,1,(c (n 256)))]),w (.store 7 (t 2) (t 53)),o 3 (.mv (c .bt))]),
 .ret]) .skip)]))]))]))]))]))]))]))]))]))]))]))]))]))]))]),
 (.reg [o 54 (.build [.bf,.bf,.bf,.bf,.bf,.bf,(n 0)] []),w (.store 7 (t 2) (t 54)),o 3 (.mv (c .bf))]),
 .ret])⟩
def zky:CFn:=⟨106,[.tmp 4],(q [(.reg [o 2 (.box 6 (t 0)),o 4 (.mv (c (n 0)))]),
 (.reg [o 9 (f 0 2),o 10 (l 9),o 11 (.call 41 [(t 10)]),o 8 (m 11),o 12 (e 8 0),o 13 (e 8 1),o 5 (.alloc [.bf,.bf,.bf,.bf,.bf,.bf,(n 0)]),w (.store 7 (t 5) (t 12)),o 6 (m 13)]),
 (q [(.reg [o 14 (m 6),o 15 (.un .not (t 14))]),
 (i 15 (q [(.reg [o 4 (.mv (c (n 10)))]),
 .ret]) .skip)]),
 (q [(.reg [o 16 (f 0 5),o 17 (l 16),o 18 (f 4 2),o 19 (l 18),o 20 (m 1),o 21 (.call 65 [(t 17),(t 19),(t 20)]),o 22 (.un .not (t 21)),o 23 (m 22),g 24 23 false (f 1 5),g 25 23 false (l 24),g 26 23 false (f 5 2),g 27 23 false (l 26),g 28 23 false (m 1),g 29 23 false (.call 65 [(t 25),(t 27),(t 28)]),g 30 23 false (.un .not (t 29)),o 31 (pt 23 30)]),
 (i 31 (q [(.reg [o 4 (.mv (c (n 3)))]),
 .ret]) .skip)]),
 (q [(.reg [o 32 (f 2 5),o 33 (l 32),o 34 (m 33),g 35 34 false (f 3 5),g 36 34 false (l 35),o 37 (pt 34 36),o 38 (m 37),g 39 38 false (f 5 5),g 40 38 false (l 39),o 41 (pt 38 40),o 42 (.un .not (t 41)),o 43 (m 42),g 44 43 true (f 1 2),g 45 43 true (l 44),g 46 43 true (bc .neq 45 (n 0)),o 47 (pf 43 46),o 48 (m 47),g 49 48 false (f 5 5),g 50 48 false (l 49),g 51 48 false (.un .not (t 50)),g 52 48 false (m 51),g 53 52 true (f 2 2),g 54 52 true (l 53),g 55 52 true (bc .neq 54 (n 0)),g 56 48 false (pf 52 55),o 57 (pt 48 56),o 58 (m 57),g 59 58 false (f 4 5),g 60 58 false (l 59),g 61 58 false (.un .not (t 60)),g 62 58 false (m 61),g 63 62 true (f 3 2),g 64 62 true (l 63),g 65 62 true (bc .neq 64 (n 0)),g 66 58 false (pf 62 65),o 67 (pt 58 66)]),
 (i 67 (q [(.reg [o 4 (.mv (c (n 3)))]),
 .ret]) .skip)]),
 (.reg [o 7 (.mv (c (.fn zc0 [])))]),
 (q [(.reg [o 68 (m 7),o 69 (f 2 5),o 70 (l 69),o 71 (f 1 2),o 72 (l 71),o 73 (.callv (t 68) [(t 70),(t 72),(c (n 0)),(c (n 7))]),o 74 (m 73),g 75 74 false (m 7),g 76 74 false (f 3 5),g 77 74 false (l 76),g 78 74 false (f 1 2),g 79 74 false (l 78),g 80 74 false (.callv (t 75) [(t 77),(t 79),(c (n 0)),(c (n 3))]),o 81 (pt 74 80),o 82 (m 81),g 83 82 false (m 7),g 84 82 false (f 5 5),g 85 82 false (l 84),g 86 82 false (f 1 2),g 87 82 false (l 86),g 88 82 false (.callv (t 83) [(t 85),(t 87),(c (n 0)),(c (n 7))]),o 89 (pt 82 88),o 90 (m 89),g 91 90 false (m 7),g 92 90 false (f 5 5),g 93 90 false (l 92),g 94 90 false (f 2 2),g 95 90 false (l 94),g 96 90 false (.callv (t 91) [(t 93),(t 95),(c (n 0)),(c (n 7))]),o 97 (pt 90 96),o 98 (m 97),g 99 98 false (m 7),g 100 98 false (f 4 5),g 101 98 false (l 100),g 102 98 false (f 3 2),g 103 98 false (l 102),g 104 98 false (.callv (t 99) [(t 101),(t 103),(c (n 1)),(c (n 15))]),o 105 (pt 98 104)]),
 (i 105 (q [(.reg [o 4 (.mv (c (n 2)))]),
 .ret]) .skip)]),
 (.reg [o 4 (.mv (c (n 0)))]),
 .ret])⟩
def zkS:CFn:=⟨12,[.tmp 4],(q [(.reg [o 2 (.box 6 (t 0)),o 3 (.box 7 (t 1)),o 4 (.mv (c (n 0)))]),
 (q [(.reg [o 5 (f 3 3),o 6 (l 5)]),
 (i 6 (q [(.reg [o 7 (f 1 2),o 8 (l 7),o 9 (.bin .shl (c (n 1)) (t 8)),o 4 (m 9)]),
 .ret]) .skip)]),
 (.reg [o 10 (f 3 2),o 11 (l 10),o 4 (m 11)]),
 .ret])⟩
def zmk:CFn:=⟨10,[.tmp 4],(q [(.reg [o 2 (.box 6 (t 0)),o 3 (.box 7 (t 1)),o 4 (.mv (c (n 0)))]),
 (q [(.reg [o 5 (f 2 3),o 6 (l 5)]),
 (i 6 (q [(.reg [o 7 (f 1 2),o 8 (l 7),o 9 (.bin .shl (c (n 1)) (t 8)),o 4 (m 9)]),
 .ret]) .skip)]),
 (.reg [o 4 (.mv (c (n 0)))]),
 .ret])⟩
def zfc:CFn:=⟨8,[.tmp 2],(q [(.reg [o 2 (.mv (c (.nils 1)))]),
 (q [(.reg [o 3 (m 0),o 4 (.eqN false (t 3) (c (.nils 1)))]),
 (i 4 (q [(.reg [o 2 (.mv (c (.nils 1)))]),
 .ret]) .skip)]),
 (.reg [o 5 (.bslice 1 0 [(u 0)] []),o 6 (m 0),o 7 (.app 1 8 (t 5) (t 6)),o 2 (m 7)]),
 .ret])⟩
def zkA:CFn:=⟨28,[.cell 6 (some 2)],(q [(.reg [o 6 (.alloc [(n 0),(n 0)])]),
 (.reg [o 8 (f 3 1),o 9 (l 8),o 10 (l 2),o 11 (ia 1 9 10),o 12 (l 11),o 13 (m 0),o 14 (ia 1 12 13),o 15 (l 14),o 16 (.build [(n 0),(n 0)] [(0,1,(c (n 1))),(1,1,(t 15))]),o 7 (.alloc [(n 0),(n 0)]),w (.store 2 (t 7) (t 16))]),
 (q [(.reg [o 17 (l 3),o 18 (l 2),o 19 (m 0),o 20 (l 4),o 21 (.callv (t 17) [(t 18),(t 19),(t 20)]),o 22 (m 0),o 23 (b .shr 21 22),o 24 (bc .and 23 (u 1)),o 25 (bc .eql 24 (u 1))]),
 (i 25 (.reg [o 26 (.iaddrA 2 1 (t 7) (c (n 0))),w (.store 1 (t 26) (c (n 0)))]) .skip)]),
 (.reg [o 27 (la 2 7),w (.store 2 (t 6) (t 27))]),
 .ret])⟩
def zkB:CFn:=⟨45,[.tmp 7],(q [(.reg [o 7 (.mv (c (n 0)))]),
 (.regd [o 10 (l 2),o 11 (m 0),o 12 (.callv (t 10) [(t 11)]),o 13 (l 2),o 14 (m 1),o 15 (.callv (t 13) [(t 14)]),o 8 (.alloc [(n 0),(n 0)]),o 9 (.alloc [(n 0),(n 0)]),w (.store 2 (t 8) (t 12)),w (.store 2 (t 9) (t 15))] [0,0,3,0,0,31,0,0,255,511]),
 (.regd [o 16 (f 2 3),o 17 (l 16),o 18 (l 4),o 19 (ia 1 17 18),o 20 (l 19),o 21 (m 0),o 22 (ia 1 20 21),o 23 (l 22),o 24 (f 2 3),o 25 (l 24),o 26 (l 4),o 27 (ia 1 25 26),o 28 (l 27),o 29 (m 1),o 30 (ia 1 28 29),o 31 (l 30),o 32 (.call 50 [(t 23),(t 31)]),o 33 (.iaddrA 2 1 (t 8) (c (n 0))),o 34 (l 33),o 35 (.iaddrA 2 1 (t 9) (c (n 0))),o 36 (l 35),o 37 (.call 50 [(t 34),(t 36)]),o 38 (.iaddrA 2 1 (t 8) (c (n 1))),o 39 (l 38),o 40 (.iaddrA 2 1 (t 9) (c (n 1))),o 41 (l 40),o 42 (.call 50 [(t 39),(t 41)]),o 43 (.bslice 1 3 [(n 0)] [(0,(t 32)),(1,(t 37)),(2,(t 42))]),o 44 (.call 49 [(t 43)]),o 7 (m 44)] [0,1,0,7,15,0,63,127,0,256,0,1792,3840,0,16128,32512,65535,0,131072,0,524288,2097151,0,4194304,0,16777216,67108863,134217727,268435455,536870911]),
 .ret])⟩
def zrx:CFn:=⟨18,[.tmp 2],(q [(.reg [o 2 (.mv (c (n 0)))]),
 (.reg [o 3 (.mv (c (n 0)))]),
 (q [(.reg [o 6 (m 0),o 7 (ln 6),o 8 (.mv (c (n 0)))]),
 (.block 0 (.loop (q [(.reg [o 9 (b .lss 8 7)]),
 (i 9 .skip (.exit 0)),
 (.block 1 (q [(.reg [o 10 (ia 1 6 8),o 11 (l 10),o 5 (m 11)]),
 (.reg [o 12 (m 5),o 13 (m 3),o 14 (b .neq 12 13)]),
 (i 14 (q [(.reg [o 15 (m 5),o 2 (m 15)]),
 .ret]) .skip)])),
 (.reg [o 16 (bc .add 8 (n 1)),o 8 (m 16)])])))]),
 (.reg [o 17 (m 3),o 2 (m 17)]),
 .ret])⟩
def zkQ:CFn:=⟨20,[.tmp 4],(q [(.reg [o 4 (.mv (c (n 0)))]),
 (.reg [o 7 (m 0),o 8 (.call 70 [(t 7)]),o 5 (m 8)]),
 (.reg [o 9 (m 1),o 10 (.call 70 [(t 9)]),o 6 (m 10)]),
 (q [(.reg [o 11 (m 5)]),
 (i 11 (q [(q [(.reg [o 12 (m 6)]),
 (i 12 (q [(.reg [o 4 (.mv (c (n 0)))]),
 .ret]) .skip)]),
 (.reg [o 4 (.mv (c (n (-1))))]),
 .ret]) .skip)]),
 (q [(.reg [o 13 (m 6)]),
 (i 13 (q [(.reg [o 4 (.mv (c (n 1)))]),
 .ret]) .skip)]),
 (q [(.reg [o 14 (m 0),o 15 (m 1),o 16 (b .lss 14 15)]),
 (i 16 (q [(.reg [o 4 (.mv (c (n (-1))))]),
 .ret]) .skip)]),
 (q [(.reg [o 17 (m 0),o 18 (m 1),o 19 (b .gtr 17 18)]),
 (i 19 (q [(.reg [o 4 (.mv (c (n 1)))]),
 .ret]) .skip)]),
 (.reg [o 4 (.mv (c (n 0)))]),
 .ret])⟩
def zf3:CFn:=⟨14,[],(q [(.reg [o 5 (m 0),o 6 (ln 5),o 4 (m 6)]),
 (.reg [o 7 (m 0),o 8 (m 4),o 9 (m 4),o 10 (.conv .u64 (t 9)),o 11 (.call 64 [(t 10)]),o 12 (m 1),o 13 (.call 71 [(t 7),(c (n 0)),(t 8),(t 11),(t 12)])])])⟩
def zhl:CFn:=⟨8,[.tmp 2],(q [(.reg [o 2 (.mv (c (.nils 1)))]),
 (q [(.reg [o 3 (m 0),o 4 (.eqN false (t 3) (c (.nils 1)))]),
 (i 4 (q [(.reg [o 2 (.mv (c (.nils 1)))]),
 .ret]) .skip)]),
 (.reg [o 5 (.bslice 1 0 [(n 0)] []),o 6 (m 0),o 7 (.app 1 8 (t 5) (t 6)),o 2 (m 7)]),
 .ret])⟩
def zry:CFn:=⟨21,[.tmp 4],(q [(.reg [o 4 (.mv (c (.nils 6)))]),
 (q [(.reg [o 5 (m 0),o 6 (.call 23 [(t 5)]),o 7 (bc .neq 6 (n 0)),o 8 (m 7),g 9 8 false (m 1),g 10 8 false (bc .lss 9 (n 0)),o 11 (pt 8 10),o 12 (m 11),g 13 12 false (m 1),g 14 12 false (m 0),g 15 12 false (ln 14),g 16 12 false (b .geq 13 15),o 17 (pt 12 16)]),
 (i 17 (q [(.reg [o 4 (.mv (c (.nils 6)))]),
 .ret]) .skip)]),
 (.reg [o 18 (m 0),o 19 (m 1),o 20 (.call 60 [(t 18),(t 19)]),o 4 (m 20)]),
 .ret])⟩
def zpx:CFn:=⟨7,[.tmp 2],(q [(.reg [o 1 (.box 4 (t 0)),o 2 (.mv (c (u 0)))]),
 (.reg [o 3 (f 0 1),o 4 (l 3),o 5 (.bin .sub (c (n 64)) (t 4)),o 6 (.bin .shr (c (u 18446744073709551615)) (t 5)),o 2 (m 6)]),
 .ret])⟩
def znd:CFn:=⟨10,[.tmp 6],(q [(.reg [o 3 (.box 4 (t 0)),o 4 (.box 1 (t 1)),o 5 (.box 1 (t 2)),o 6 (.mv (c (u 0)))]),
 (.reg [o 7 (la 4 3),o 8 (.fnew zcw [(t 3),(t 4),(t 5)]),o 9 (.call 72 [(t 7),(t 8)]),o 6 (m 9)]),
 .ret])⟩
def znc:CFn:=⟨30,[.tmp 6],(q [(.reg [o 3 (.box 4 (t 0)),o 6 (.mv (c (u 0)))]),
 (.reg [o 9 (la 4 3),o 10 (.call 54 [(t 9)]),o 7 (m 10)]),
 (q [(.reg [o 11 (f 2 3),o 12 (l 11),o 13 (ln 12),o 14 (.mv (c (n 0)))]),
 (.block 0 (.loop (q [(.reg [o 15 (b .lss 14 13)]),
 (i 15 .skip (.exit 0)),
 (.block 1 (q [(.reg [o 16 (m 14),o 8 (m 16)]),
 (.reg [o 17 (m 1),o 18 (m 8),o 19 (b .shr 17 18),o 20 (bc .and 19 (n 1)),o 21 (bc .eql 20 (n 1))]),
 (i 21 (.reg [o 22 (m 7),o 23 (la 4 3),o 24 (m 8),o 25 (m 2),o 26 (.call 55 [(t 23),(t 24),(t 25)]),o 27 (b .and 22 26),o 7 (m 27)]) .skip)])),
 (.reg [o 28 (bc .add 14 (n 1)),o 14 (m 28)])])))]),
 (.reg [o 29 (m 7),o 6 (m 29)]),
 .ret])⟩
def zmh:CFn:=⟨29,[.tmp 8],(q [(.reg [o 4 (.box 4 (t 0)),o 8 (.mv (c (u 0)))]),
 (.reg [o 11 (la 4 4),o 12 (.call 54 [(t 11)]),o 9 (m 12)]),
 (.block 0 (.loop (.block 1 (q [(.regd [o 13 (la 4 4),o 14 (m 1),o 15 (la 4 4),o 16 (.call 54 [(t 15)]),o 17 (m 2),o 18 (b .andNot 16 17),o 19 (m 3),o 20 (m 9),o 21 (b .and 19 20),o 22 (b .or 18 21),o 23 (.call 56 [(t 13),(t 14),(t 22)]),o 10 (m 23)] [0,0,0,4,0,28,0,0,192,508,1023,2047]),
 (q [(.reg [o 24 (m 10),o 25 (m 9),o 26 (b .eql 24 25)]),
 (i 26 (q [(.reg [o 27 (m 9),o 8 (m 27)]),
 .ret]) .skip)]),
 (.reg [o 28 (m 10),o 9 (m 28)])]))))])⟩
def zkv:CFn:=⟨12,[.tmp 8],(q [(.reg [o 4 (.box 4 (t 0)),o 5 (.box 1 (t 1)),o 6 (.box 1 (t 2)),o 7 (.box 1 (t 3)),o 8 (.mv (c (u 0)))]),
 (.reg [o 9 (la 4 4),o 10 (.fnew zbQ [(t 4),(t 5),(t 6),(t 7)]),o 11 (.call 72 [(t 9),(t 10)]),o 8 (m 11)]),
 .ret])⟩
def zmi:CFn:=⟨18,[.tmp 6],(q [(.reg [o 3 (.box 4 (t 0)),o 5 (.box 1 (t 2)),o 6 (.mv (c (u 0)))]),
 (.reg [o 10 (la 4 3),o 11 (m 1),o 12 (.call 77 [(t 10),(t 11)]),o 9 (m 12),o 13 (e 9 0),o 14 (e 9 1),o 7 (.alloc [(.nils 1)]),w (.store 1 (t 7) (t 13)),o 8 (m 14)]),
 (.reg [o 15 (la 4 3),o 16 (.fnew zcm [(t 7),(t 5)]),o 17 (.call 72 [(t 15),(t 16)]),o 6 (m 17)]),
 .ret])⟩
def zmm:CFn:=⟨16,[.tmp 4],(q [(.reg [o 2 (.box 1 (t 0)),o 4 (.mv (c (.nils 6)))]),
 (.reg [o 5 (.alloc [(.nils 6)])]),
 (.reg [o 9 .mkmap,o 6 (.alloc [(.d .nil)]),w (.store 1 (t 6) (t 9))]),
 (.reg [o 10 .mkmap,o 7 (.alloc [(.d .nil)]),w (.store 1 (t 7) (t 10))]),
 (.reg [o 8 (.alloc [(.d .nil)])]),
 (.reg [o 11 (.fnew zk [(t 7),(t 2),(t 8),(t 6),(t 5)]),w (.store 1 (t 8) (t 11))]),
 (.reg [o 12 (l 8),o 13 (m 1),o 14 (.callv (t 12) [(t 13)])]),
 (.reg [o 15 (l 5),o 4 (m 15)]),
 .ret])⟩
def zmg:CFn:=⟨30,[.tmp 4],(q [(.reg [o 2 (.box 3 (t 0)),o 4 (.mv (c (n 0)))]),
 (q [(.reg [o 7 (la 3 2),o 8 (.call 80 [(t 7)]),o 5 (m 8)]),
 (.reg [o 9 (m 5),o 10 (bc .neq 9 (n 0))]),
 (i 10 (q [(.reg [o 11 (m 5),o 4 (m 11)]),
 .ret]) .skip)]),
 (q [(.reg [o 12 (m 1),o 13 (.call 23 [(t 12)]),o 6 (m 13)]),
 (.reg [o 14 (m 6),o 15 (bc .neq 14 (n 0))]),
 (i 15 (q [(.reg [o 16 (m 6),o 4 (m 16)]),
 .ret]) .skip)]),
 (q [(.reg [o 17 (m 1),o 18 (.call 6 [(t 17)]),o 19 (bc .andNot 18 (n 15)),o 20 (bc .neq 19 (n 0))]),
 (i 20 (q [(.reg [o 4 (.mv (c (n 10)))]),
 .ret]) .skip)]),
 (q [(.reg [o 21 (m 1),o 22 (f 2 2),o 23 (l 22),o 24 (ln 23),o 25 (f 1 2),o 26 (l 25),o 27 (ln 26),o 28 (.call 7 [(t 21),(t 24),(t 27)]),o 29 (.un .not (t 28))]),
 (i 29 (q [(.reg [o 4 (.mv (c (n 2)))]),
 .ret]) .skip)]),
 (.reg [o 4 (.mv (c (n 0)))]),
 .ret])⟩
def zon:CFn:=⟨129,[.tmp 8,.tmp 9],(q [(.reg [o 4 (.box 3 (t 0)),o 5 (.box 6 (t 1)),o 8 (.mv (c (u 0))),o 9 (.mv (c .bf))]),
 (.reg [o 12 (f 0 4),o 13 (l 12),o 14 (.bin .sub (c (n 64)) (t 13)),o 15 (.bin .shr (c (u 18446744073709551615)) (t 14)),o 10 (m 15)]),
 (q [(.reg [o 16 (f 0 5),o 17 (l 16)]),
 (.block 0 (q [(.reg [o 19 (bc .eql 17 (n 1)),o 18 (m 19)]),
 (i 18 (q [(.reg [o 20 (m 10),o 8 (m 20),o 9 (.mv (c .bt))]),
 .ret]) (q [(.reg [o 22 (bc .eql 17 (n 2)),o 21 (m 22)]),
 (i 21 (q [(.reg [o 8 (.mv (c (u 0))),o 9 (.mv (c .bt))]),
 .ret]) (q [(.reg [o 24 (bc .eql 17 (n 3)),o 23 (m 24)]),
 (i 23 (q [(q [(.reg [o 25 (f 1 5),o 26 (l 25),o 27 (f 1 4),o 28 (l 27),o 29 (ln 28),o 30 (b .geq 26 29)]),
 (i 30 (q [(.reg [o 8 (.mv (c (u 0))),o 9 (.mv (c .bf))]),
 .ret]) .skip)]),
 (.reg [o 31 (f 1 4),o 32 (l 31),o 33 (f 1 5),o 34 (l 33),o 35 (ia 1 32 34),o 36 (l 35),o 8 (m 36),o 9 (.mv (c .bt))]),
 .ret]) (q [(.reg [o 38 (bc .eql 17 (n 4)),o 37 (m 38)]),
 (i 37 (q [(.reg [o 39 (m 10),o 40 (m 2),o 41 (b .andNot 39 40),o 8 (m 41),o 9 (.mv (c .bt))]),
 .ret]) (q [(.reg [o 43 (bc .eql 17 (n 5)),o 42 (m 43)]),
 (i 42 (q [(.reg [o 44 (m 2),o 45 (m 3),o 46 (b .and 44 45),o 8 (m 46),o 9 (.mv (c .bt))]),
 .ret]) (q [(.reg [o 48 (bc .eql 17 (n 6)),o 47 (m 48)]),
 (i 47 (q [(.reg [o 49 (m 2),o 50 (m 3),o 51 (b .or 49 50),o 8 (m 51),o 9 (.mv (c .bt))]),
 .ret]) (q [(.reg [o 53 (bc .eql 17 (n 7)),o 52 (m 53)]),
 (i 52 (q [(.reg [o 54 (m 10),o 55 (m 2),o 56 (b .andNot 54 55),o 57 (m 3),o 58 (b .or 56 57),o 8 (m 58),o 9 (.mv (c .bt))]),
 .ret]) (q [(.reg [o 60 (bc .eql 17 (n 8)),o 59 (m 60)]),
 (i 59 (q [(.reg [o 61 (m 10),o 62 (m 2),o 63 (m 3),o 64 (b .xor 62 63),o 65 (b .andNot 61 64),o 8 (m 65),o 9 (.mv (c .bt))]),
 .ret]) (q [(q [(.reg [o 67 (bc .eql 17 (n 9)),o 66 (m 67)]),
 (i 66 .skip (.reg [o 68 (bc .eql 17 (n 10)),o 66 (m 68)]))]),
 (i 66 (q [(q [(.reg [o 69 (f 1 5),o 70 (l 69),o 71 (f 2 4),o 72 (l 71),o 73 (ln 72),o 74 (b .geq 70 73)]),
 (i 74 (q [(.reg [o 8 (.mv (c (u 0))),o 9 (.mv (c .bf))]),
 .ret]) .skip)]),
 (q [(.reg [o 75 (f 0 5),o 76 (l 75),o 77 (bc .eql 76 (n 9))]),
 (i 77 (q [(.reg [o 78 (f 2 4),o 79 (l 78),o 80 (f 1 5),o 81 (l 80),o 82 (ia 1 79 81),o 83 (l 82),o 84 (m 2),o 85 (.call 81 [(t 83),(t 84)]),o 8 (m 85),o 9 (.mv (c .bt))]),
 .ret]) .skip)]),
 (.reg [o 86 (f 2 4),o 87 (l 86),o 88 (f 1 5),o 89 (l 88),o 90 (ia 1 87 89),o 91 (l 90),o 92 (m 2),o 93 (.call 82 [(t 91),(t 92)]),o 8 (m 93),o 9 (.mv (c .bt))]),
 .ret]) (q [(q [(.reg [o 95 (bc .eql 17 (n 11)),o 94 (m 95)]),
 (i 94 .skip (q [(.reg [o 96 (bc .eql 17 (n 12)),o 94 (m 96)]),
 (i 94 .skip (.reg [o 97 (bc .eql 17 (n 13)),o 94 (m 97)]))]))]),
 (i 94 (q [(q [(.regd [o 98 (f 3 5),o 99 (l 98),o 100 (f 2 4),o 101 (l 100),o 102 (ln 101),o 103 (.bin .shl (c (n 1)) (t 102)),o 104 (b .geq 99 103)] [0,1,0,4,12,28,63]),
 (i 104 (q [(.reg [o 8 (.mv (c (u 0))),o 9 (.mv (c .bf))]),
 .ret]) .skip)]),
 (q [(.reg [o 105 (f 0 5),o 106 (l 105),o 107 (bc .eql 106 (n 12))]),
 (i 107 (q [(.reg [o 108 (la 3 4),o 109 (f 3 5),o 110 (l 109),o 111 (.call 83 [(t 108),(t 110)]),o 112 (m 2),o 113 (.call 81 [(t 111),(t 112)]),o 8 (m 113),o 9 (.mv (c .bt))]),
 .ret]) .skip)]),
 (.reg [o 114 (la 3 4),o 115 (f 3 5),o 116 (l 115),o 117 (.call 84 [(t 114),(t 116)]),o 11 (m 117)]),
 (q [(.reg [o 118 (f 0 5),o 119 (l 118),o 120 (bc .eql 119 (n 11))]),
 (i 120 (q [(.reg [o 121 (m 11),o 122 (m 2),o 123 (.call 81 [(t 121),(t 122)]),o 8 (m 123),o 9 (.mv (c .bt))]),
 .ret]) .skip)]),
 (.reg [o 124 (m 11),o 125 (m 10),o 126 (m 2),o 127 (m 3),o 128 (.call 85 [(t 124),(t 125),(t 126),(t 127)]),o 8 (m 128),o 9 (.mv (c .bt))]),
 .ret]) .skip)]))]))]))]))]))]))]))]))]))]))]),
 (.reg [o 8 (.mv (c (u 0))),o 9 (.mv (c .bf))]),
 .ret])⟩
def zot:CFn:=⟨8,[.tmp 2],(q [(.reg [o 2 (.mv (c (n 0)))]),
 (.cond (c .bf) (q [(.reg [o 3 (m 0),o 4 (.conv .u32 (t 3)),o 5 (.call 95 [(t 4)]),o 2 (m 5)]),
 .ret]) .skip),
 (.reg [o 6 (m 0),o 7 (.call 96 [(t 6)]),o 2 (m 7)]),
 .ret])⟩
def zmn:CFn:=⟨25,[.tmp 6],(q [(.reg [o 6 (.mv (c .bf))]),
 (.reg [o 7 (m 0),o 8 (m 7),g 9 8 true (m 1),g 10 8 true (bc .geq 9 (n 0)),o 11 (pf 8 10),o 12 (m 11),g 13 12 true (m 1),g 14 12 true (m 2),g 15 12 true (b .lss 13 14),o 16 (pf 12 15),o 17 (m 16),g 18 17 false (m 0),g 19 17 false (.un .not (t 18)),g 20 17 false (m 19),g 21 20 true (m 1),g 22 20 true (bc .eql 21 (n 0)),g 23 17 false (pf 20 22),o 24 (pt 17 23),o 6 (m 24)]),
 .ret])⟩
def ziE:CFn:=⟨20,[.tmp 8],(q [(.reg [o 8 (.mv (c .bf))]),
 (.reg [o 9 (m 0),o 10 (m 9),g 11 10 true (m 1),g 12 10 true (m 2),g 13 10 true (b .lss 11 12),g 14 10 true (m 13),g 15 14 false (m 1),g 16 14 false (m 3),g 17 14 false (b .gtr 15 16),g 18 10 true (pt 14 17),o 19 (pf 10 18),o 8 (m 19)]),
 .ret])⟩
def zna:CFn:=⟨6,[.tmp 2],(q [(.reg [o 2 (.mv (c .bf))]),
 (.reg [o 3 (m 0),o 4 (m 0),o 5 (b .neq 3 4),o 2 (m 5)]),
 .ret])⟩
def zfA:CFn:=⟨148,[],(q [(.reg [o 10 (.mv (c .bt))]),
 (.reg [o 11 (.mv (c .bt))]),
 (.block 0 (.loop (.block 1 (q [(.reg [o 21 (m 2),o 22 (m 1),o 23 (b .sub 21 22),o 12 (m 23)]),
 (q [(.reg [o 24 (m 12),o 25 (bc .leq 24 (n 12))]),
 (i 25 (q [(.reg [o 26 (m 0),o 27 (m 1),o 28 (m 2),o 29 (m 4),o 30 (.call 97 [(t 26),(t 27),(t 28),(t 29)])]),
 .ret]) .skip)]),
 (q [(.reg [o 31 (m 3),o 32 (bc .eql 31 (n 0))]),
 (i 32 (q [(.reg [o 33 (m 0),o 34 (m 1),o 35 (m 2),o 36 (m 4),o 37 (.call 98 [(t 33),(t 34),(t 35),(t 36)])]),
 .ret]) .skip)]),
 (q [(.reg [o 38 (m 10),o 39 (.un .not (t 38))]),
 (i 39 (q [(.reg [o 40 (m 0),o 41 (m 1),o 42 (m 2),o 43 (m 4),o 44 (.call 99 [(t 40),(t 41),(t 42),(t 43)])]),
 (.reg [o 45 (m 3),o 46 (bc .sub 45 (n 1)),o 3 (m 46)])]) .skip)]),
 (.reg [o 48 (m 0),o 49 (m 1),o 50 (m 2),o 51 (m 4),o 52 (.call 100 [(t 48),(t 49),(t 50),(t 51)]),o 47 (m 52),o 53 (e 47 0),o 54 (e 47 1),o 13 (m 53),o 14 (m 54)]),
 (q [(.reg [o 55 (m 14),o 56 (bc .eql 55 (n 2))]),
 (i 56 (q [(.reg [o 57 (m 0),o 58 (m 1),o 59 (m 2),o 60 (m 4),o 61 (.call 101 [(t 57),(t 58),(t 59),(t 60)])]),
 (.reg [o 62 (m 2),o 63 (bc .sub 62 (n 1)),o 64 (m 13),o 65 (m 1),o 66 (b .sub 64 65),o 67 (b .sub 63 66),o 13 (m 67)]),
 (.reg [o 14 (.mv (c (n 1)))])]) .skip)]),
 (q [(.reg [o 68 (m 10),o 69 (m 68),g 70 69 true (m 11),o 71 (pf 69 70),o 72 (m 71),g 73 72 true (m 14),g 74 72 true (bc .eql 73 (n 1)),o 75 (pf 72 74)]),
 (i 75 (q [(.reg [o 76 (m 0),o 77 (m 1),o 78 (m 2),o 79 (m 4),o 80 (.call 102 [(t 76),(t 77),(t 78),(t 79)])]),
 (i 80 .ret .skip)]) .skip)]),
 (q [(.regd [o 81 (m 1),o 82 (bc .gtr 81 (n 0)),o 83 (m 82),g 84 83 true (m 4),g 85 83 true (m 0),g 86 83 true (m 1),g 87 83 true (bc .sub 86 (n 1)),g 88 83 true (ia 1 85 87),g 89 83 true (l 88),g 90 83 true (m 0),g 91 83 true (m 13),g 92 83 true (ia 1 90 91),g 93 83 true (l 92),g 94 83 true (.callv (t 84) [(t 89),(t 93)]),g 95 83 true (bc .lss 94 (n 0)),g 96 83 true (.un .not (t 95)),o 97 (pf 83 96)] [0,1,3,7,7,7,39,119,247,7,7,1543,3591,8191,16383,32767,65535]),
 (i 97 (q [(.reg [o 98 (m 0),o 99 (m 1),o 100 (m 2),o 101 (m 13),o 102 (m 4),o 103 (.call 103 [(t 98),(t 99),(t 100),(t 101),(t 102)]),o 15 (m 103)]),
 (.reg [o 104 (m 15),o 1 (m 104)]),
 (.exit 1)]) .skip)]),
 (.reg [o 106 (m 0),o 107 (m 1),o 108 (m 2),o 109 (m 13),o 110 (m 4),o 111 (.call 104 [(t 106),(t 107),(t 108),(t 109),(t 110)]),o 105 (m 111),o 112 (e 105 0),o 113 (e 105 1),o 16 (m 112),o 17 (m 113)]),
 (.reg [o 114 (m 17),o 11 (m 114)]),
 (.reg [o 115 (m 16),o 116 (m 1),o 117 (b .sub 115 116),o 118 (m 2),o 119 (m 16),o 120 (b .sub 118 119),o 18 (m 117),o 19 (m 120)]),
 (.reg [o 121 (m 12),o 122 (bc .quo 121 (n 8)),o 20 (m 122)]),
 (.reg [o 123 (m 18),o 124 (m 19),o 125 (b .lss 123 124)]),
 (i 125 (q [(.reg [o 126 (m 18),o 127 (m 20),o 128 (b .geq 126 127),o 10 (m 128)]),
 (.reg [o 129 (m 0),o 130 (m 1),o 131 (m 16),o 132 (m 3),o 133 (m 4),o 134 (.call 71 [(t 129),(t 130),(t 131),(t 132),(t 133)])]),
 (.reg [o 135 (m 16),o 136 (bc .add 135 (n 1)),o 1 (m 136)])]) (q [(.reg [o 137 (m 19),o 138 (m 20),o 139 (b .geq 137 138),o 10 (m 139)]),
 (.reg [o 140 (m 0),o 141 (m 16),o 142 (bc .add 141 (n 1)),o 143 (m 2),o 144 (m 3),o 145 (m 4),o 146 (.call 71 [(t 140),(t 142),(t 143),(t 144),(t 145)])]),
 (.reg [o 147 (m 16),o 2 (m 147)])]))]))))])⟩
def znf:CFn:=⟨21,[.tmp 4],(q [(.reg [o 2 (.box 4 (t 0)),o 4 (.mv (c (u 0)))]),
 (.reg [o 5 (.mv (c (u 0)))]),
 (q [(.reg [o 7 (f 0 2),o 8 (l 7),o 9 (.mv (c (n 0)))]),
 (.block 0 (.loop (q [(.reg [o 10 (b .lss 9 8)]),
 (i 10 .skip (.exit 0)),
 (.block 1 (q [(.reg [o 11 (m 9),o 6 (m 11)]),
 (.reg [o 12 (m 1),o 13 (m 6),o 14 (.callv (t 12) [(t 13)])]),
 (i 14 (.reg [o 15 (m 5),o 16 (m 6),o 17 (.bin .shl (c (u 1)) (t 16)),o 18 (b .or 15 17),o 5 (m 18)]) .skip)])),
 (.reg [o 19 (bc .add 9 (n 1)),o 9 (m 19)])])))]),
 (.reg [o 20 (m 5),o 4 (m 20)]),
 .ret])⟩
def zkR:CFn:=⟨13,[.tmp 5],(q [(.reg [o 5 (.mv (c .bf))]),
 (.regd [o 6 (la 4 1),o 7 (l 2),o 8 (m 0),o 9 (.call 74 [(t 6),(t 7),(t 8)]),o 10 (l 3),o 11 (b .andNot 9 10),o 12 (bc .eql 11 (u 0)),o 5 (m 12)] [0,0,0,7,0,31,63,127]),
 .ret])⟩
def zsr:CFn:=⟨16,[.tmp 6],(q [(.reg [o 3 (.box 4 (t 0)),o 6 (.mv (c (u 0)))]),
 (q [(.reg [o 7 (la 4 3),o 8 (m 1),o 9 (m 2),o 10 (.call 105 [(t 7),(t 8),(t 9)]),o 11 (.un .not (t 10))]),
 (i 11 (q [(.reg [o 6 (.mv (c (u 0)))]),
 .ret]) .skip)]),
 (.reg [o 12 (la 4 3),o 13 (m 1),o 14 (m 2),o 15 (.call 36 [(t 12),(t 13),(t 14)]),o 6 (m 15)]),
 .ret])⟩
def ziD:CFn:=⟨15,[.tmp 6],(q [(.reg [o 6 (.mv (c .bf))]),
 (.regd [o 7 (la 4 1),o 8 (l 2),o 9 (m 0),o 10 (l 3),o 11 (.call 76 [(t 7),(t 8),(t 9),(t 10)]),o 12 (l 4),o 13 (b .andNot 11 12),o 14 (bc .eql 13 (u 0)),o 6 (m 14)] [0,0,0,0,15,0,63,127,255]),
 .ret])⟩
def zsq:CFn:=⟨26,[.tmp 8],(q [(.reg [o 4 (.box 4 (t 0)),o 8 (.mv (c (u 0)))]),
 (q [(.reg [o 9 (la 4 4),o 10 (m 1),o 11 (m 2),o 12 (.call 105 [(t 9),(t 10),(t 11)]),o 13 (.un .not (t 12))]),
 (i 13 (q [(.reg [o 8 (.mv (c (u 0)))]),
 .ret]) .skip)]),
 (.regd [o 14 (f 3 4),o 15 (l 14),o 16 (m 1),o 17 (ia 1 15 16),o 18 (l 17),o 19 (m 3),o 20 (la 4 4),o 21 (m 1),o 22 (m 2),o 23 (.call 36 [(t 20),(t 21),(t 22)]),o 24 (b .and 19 23),o 25 (.call 35 [(t 18),(t 24)]),o 8 (m 25)] [0,1,0,7,15,0,0,0,0,448,992,2047,4095]),
 .ret])⟩
def zpH:CFn:=⟨84,[.tmp 4,.tmp 5],(q [(.reg [o 2 (.box 4 (t 0)),o 4 (.mv (c (.nils 1))),o 5 (.mv (c (n 0)))]),
 (q [(.reg [o 10 (la 4 2),o 11 (.call 5 [(t 10)]),o 6 (m 11)]),
 (.reg [o 12 (m 6),o 13 (bc .neq 12 (n 0))]),
 (i 13 (q [(.reg [o 14 (m 6),o 4 (.mv (c (.nils 1))),o 5 (m 14)]),
 .ret]) .skip)]),
 (q [(.reg [o 15 (m 1),o 16 (bc .lss 15 (n 0)),o 17 (m 16),g 18 17 false (m 1),g 19 17 false (f 2 2),g 20 17 false (l 19),g 21 17 false (ln 20),g 22 17 false (b .geq 18 21),o 23 (pt 17 22)]),
 (i 23 (q [(.reg [o 4 (.mv (c (.nils 1))),o 5 (.mv (c (n 2)))]),
 .ret]) .skip)]),
 (.reg [o 24 (f 0 2),o 25 (l 24),o 26 (.mkslice 1 8 [(u 0)] (t 25) (t 25)),o 7 (m 26)]),
 (q [(.reg [o 27 (m 7),o 28 (ln 27),o 29 (.mv (c (n 0)))]),
 (.block 0 (.loop (q [(.reg [o 30 (b .lss 29 28)]),
 (i 30 .skip (.exit 0)),
 (.block 1 (q [(.reg [o 31 (m 29),o 8 (m 31)]),
 (.reg [o 32 (m 7),o 33 (ln 32),o 34 (.mv (c (n 0)))]),
 (.block 2 (.loop (q [(.reg [o 35 (b .lss 34 33)]),
 (i 35 .skip (.exit 2)),
 (.block 3 (q [(.reg [o 36 (m 34),o 9 (m 36)]),
 (.regd [o 37 (f 2 2),o 38 (l 37),o 39 (m 1),o 40 (ia 1 38 39),o 41 (l 40),o 42 (m 9),o 43 (ia 1 41 42),o 44 (l 43),o 45 (f 2 2),o 46 (l 45),o 47 (m 1),o 48 (ia 1 46 47),o 49 (l 48),o 50 (m 8),o 51 (ia 1 49 50),o 52 (l 51),o 53 (b .eql 44 52),o 54 (m 53),g 55 54 true (f 3 2),g 56 54 true (l 55),g 57 54 true (m 1),g 58 54 true (ia 1 56 57),g 59 54 true (l 58),g 60 54 true (m 9),g 61 54 true (ia 1 59 60),g 62 54 true (l 61),g 63 54 true (f 3 2),g 64 54 true (l 63),g 65 54 true (m 1),g 66 54 true (ia 1 64 65),g 67 54 true (l 66),g 68 54 true (m 8),g 69 54 true (ia 1 67 68),g 70 54 true (l 69),g 71 54 true (b .leq 62 70),o 72 (pf 54 71)] [0,1,0,7,15,0,63,127,0,256,0,1792,3840,0,16128,32512,65535,131071,262143,524287,262143,2097151,4194303,262143,16777215,33554431,262143,67371007,262143,470024191,1006895103,262143,4228120575,8523087871,17179869183,34359738367]),
 (i 72 (.regd [o 73 (m 7),o 74 (m 8),o 75 (ia 1 73 74),o 76 (l 75),o 77 (m 9),o 78 (.bin .shl (c (u 1)) (t 77)),o 79 (b .or 76 78),o 80 (ia 1 73 74),w (.store 1 (t 80) (t 79))] [0,0,3,7,0,16,63,127,255]) .skip)])),
 (.reg [o 81 (bc .add 34 (n 1)),o 34 (m 81)])])))])),
 (.reg [o 82 (bc .add 29 (n 1)),o 29 (m 82)])])))]),
 (.reg [o 83 (m 7),o 4 (m 83),o 5 (.mv (c (n 0)))]),
 .ret])⟩
def zkw:CFn:=⟨12,[.tmp 4],(q [(.reg [o 4 (.mv (c .bf))]),
 (.regd [o 5 (l 1),o 6 (m 0),o 7 (ia 1 5 6),o 8 (l 7),o 9 (l 2),o 10 (b .andNot 8 9),o 11 (bc .eql 10 (u 0)),o 4 (m 11)] [0,0,3,7,0,31,63,127]),
 .ret])⟩
def zkx:CFn:=⟨68,[.tmp 7],(q [(.reg [o 7 (.mv (c (n 0)))]),
 (q [(.reg [o 16 (l 1),o 17 (m 0),o 18 (.look (.int .i64) [(n 0)] (t 16) (t 17) true),o 15 (m 18),o 19 (e 15 0),o 20 (e 15 1),o 8 (m 19),o 9 (m 20)]),
 (.reg [o 21 (m 9)]),
 (i 21 (q [(.reg [o 22 (m 8),o 7 (m 22)]),
 .ret]) .skip)]),
 (.reg [o 23 (l 2),o 24 (m 0),o 25 (ia 6 23 24),o 26 (la 6 25),o 10 (.alloc [(n 0),(n 0),(n 0),(n 0),(n 0),(n 0)]),w (.store 6 (t 10) (t 26))]),
 (.reg [o 28 (f 0 10),o 29 (l 28),o 30 (.call 41 [(t 29)]),o 27 (m 30),o 31 (e 27 0),o 32 (e 27 1),o 11 (.alloc [.bf,.bf,.bf,.bf,.bf,.bf,(n 0)]),w (.store 7 (t 11) (t 31)),o 12 (m 32)]),
 (q [(.reg [o 33 (f 0 11),o 34 (l 33)]),
 (i 34 (.reg [o 35 (l 3),o 36 (f 4 10),o 37 (l 36),o 38 (.callv (t 35) [(t 37)]),o 39 (f 4 10),w (.store 1 (t 39) (t 38))]) .skip)]),
 (q [(.reg [o 40 (f 1 11),o 41 (l 40)]),
 (i 41 (.reg [o 42 (l 3),o 43 (f 5 10),o 44 (l 43),o 45 (.callv (t 42) [(t 44)]),o 46 (f 5 10),w (.store 1 (t 46) (t 45))]) .skip)]),
 (.reg [o 48 (l 4),o 49 (la 6 10),o 50 (.look (.agg [(.int .i64),(.int .i64),(.int .i64),(.int .i64),(.int .i64),(.int .i64)]) [(n 0)] (t 48) (t 49) true),o 47 (m 50),o 51 (e 47 0),o 52 (e 47 1),o 13 (m 51),o 14 (m 52)]),
 (q [(.reg [o 53 (m 14),o 54 (.un .not (t 53))]),
 (i 54 (q [(.reg [o 55 (l 5),o 56 (ln 55),o 13 (m 56)]),
 (.reg [o 57 (l 5),o 58 (la 6 10),o 59 (.bslice 6 1 [(n 0),(n 0),(n 0),(n 0),(n 0),(n 0)] [(0,(t 58))]),o 60 (.app 6 48 (t 57) (t 59)),w (.store 1 (t 5) (t 60))]),
 (.reg [o 61 (l 4),o 62 (la 6 10),o 63 (m 13),w (.mupd (.agg [(.int .i64),(.int .i64),(.int .i64),(.int .i64),(.int .i64),(.int .i64)]) (t 61) (t 62) (t 63))])]) .skip)]),
 (.reg [o 64 (l 1),o 65 (m 0),o 66 (m 13),w (.mupd (.int .i64) (t 64) (t 65) (t 66))]),
 (.reg [o 67 (m 13),o 7 (m 67)]),
 .ret])⟩
def zrz:CFn:=⟨47,[.tmp 2],(q [(.reg [o 1 (.box 3 (t 0)),o 2 (.mv (c (n 0)))]),
 (q [(.reg [o 5 (f 0 1),o 6 (l 5),o 7 (bc .lss 6 (n 1)),o 8 (m 7),g 9 8 false (f 0 1),g 10 8 false (l 9),g 11 8 false (bc .gtr 10 (n 64)),o 12 (pt 8 11)]),
 (i 12 (q [(.reg [o 2 (.mv (c (n 2)))]),
 .ret]) .skip)]),
 (q [(.reg [o 13 (f 2 1),o 14 (l 13),o 15 (ln 14),o 16 (bc .gtr 15 (n 4)),o 17 (m 16),g 18 17 false (f 1 1),g 19 17 false (l 18),g 20 17 false (ln 19),g 21 17 false (bc .gtr 20 (n 8)),o 22 (pt 17 21)]),
 (i 22 (q [(.reg [o 2 (.mv (c (n 8)))]),
 .ret]) .skip)]),
 (q [(.reg [o 23 (f 2 1),o 24 (l 23),o 25 (ln 24),o 26 (.mv (c (n 0)))]),
 (.block 0 (.loop (q [(.reg [o 27 (b .lss 26 25)]),
 (i 27 .skip (.exit 0)),
 (.block 1 (q [(.reg [o 28 (ia 1 24 26),o 29 (l 28),o 4 (m 29)]),
 (.reg [o 30 (m 4),o 31 (ln 30),o 32 (f 0 1),o 33 (l 32),o 34 (b .neq 31 33)]),
 (i 34 (q [(.reg [o 2 (.mv (c (n 3)))]),
 .ret]) .skip)])),
 (.reg [o 35 (bc .add 26 (n 1)),o 26 (m 35)])])))]),
 (q [(.reg [o 36 (f 1 1),o 37 (l 36),o 38 (f 0 1),o 39 (l 38),o 40 (.call 106 [(t 37),(t 39)]),o 41 (m 40),g 42 41 false (f 2 1),g 43 41 false (l 42),g 44 41 false (.fnew zdI [(t 1)]),g 45 41 false (.call 107 [(t 43),(t 44)]),o 46 (pt 41 45)]),
 (i 46 (q [(.reg [o 2 (.mv (c (n 2)))]),
 .ret]) .skip)]),
 (.reg [o 2 (.mv (c (n 0)))]),
 .ret])⟩
def zpL:CFn:=⟨30,[.tmp 4],(q [(.reg [o 4 (.mv (c (u 0)))]),
 (q [(.reg [o 7 (m 0),o 8 (ln 7),o 9 (m 0),o 10 (.call 109 [(t 8),(t 9)]),o 11 (bc .neq 10 (n 0))]),
 (i 11 (q [(.reg [o 4 (.mv (c (u 0)))]),
 .ret]) .skip)]),
 (.reg [o 5 (.mv (c (u 0)))]),
 (q [(.reg [o 12 (m 0),o 13 (ln 12),o 14 (.mv (c (n 0)))]),
 (.block 0 (.loop (q [(.reg [o 15 (b .lss 14 13)]),
 (i 15 .skip (.exit 0)),
 (.block 1 (q [(.reg [o 16 (m 14),o 6 (m 16)]),
 (.reg [o 17 (m 0),o 18 (m 6),o 19 (ia 1 17 18),o 20 (l 19),o 21 (m 1),o 22 (b .andNot 20 21),o 23 (bc .eql 22 (u 0))]),
 (i 23 (.reg [o 24 (m 5),o 25 (m 6),o 26 (.bin .shl (c (u 1)) (t 25)),o 27 (b .or 24 26),o 5 (m 27)]) .skip)])),
 (.reg [o 28 (bc .add 14 (n 1)),o 14 (m 28)])])))]),
 (.reg [o 29 (m 5),o 4 (m 29)]),
 .ret])⟩
def zkT:CFn:=⟨18,[.tmp 4],(q [(.reg [o 4 (.mv (c (u 0)))]),
 (q [(.reg [o 5 (m 0),o 6 (ln 5),o 7 (m 0),o 8 (.call 109 [(t 6),(t 7)]),o 9 (bc .neq 8 (n 0))]),
 (i 9 (q [(.reg [o 4 (.mv (c (u 0)))]),
 .ret]) .skip)]),
 (.reg [o 10 (m 0),o 11 (ln 10),o 12 (.call 110 [(t 11)]),o 13 (m 0),o 14 (m 1),o 15 (.un .xor (t 14)),o 16 (.call 81 [(t 13),(t 15)]),o 17 (b .andNot 12 16),o 4 (m 17)]),
 .ret])⟩
def zsp:CFn:=⟨8,[.tmp 4],(q [(.reg [o 2 (.box 3 (t 0)),o 4 (.mv (c (.nils 1)))]),
 (.reg [o 5 (la 3 2),o 6 (m 1),o 7 (.call 111 [(t 5),(t 6),(c (.fn zfD []))]),o 4 (m 7)]),
 .ret])⟩
def zrA:CFn:=⟨8,[.tmp 4],(q [(.reg [o 2 (.box 3 (t 0)),o 4 (.mv (c (.nils 1)))]),
 (.reg [o 5 (la 3 2),o 6 (m 1),o 7 (.call 111 [(t 5),(t 6),(c (.fn zfj []))]),o 4 (m 7)]),
 .ret])⟩
def zm9:CFn:=⟨26,[.tmp 8],(q [(.reg [o 8 (.mv (c (u 0)))]),
 (.reg [o 11 (m 1),o 9 (m 11)]),
 (.block 0 (.loop (.block 1 (q [(.reg [o 12 (m 0),o 13 (m 1),o 14 (m 2),o 15 (b .andNot 13 14),o 16 (m 3),o 17 (m 9),o 18 (b .and 16 17),o 19 (b .or 15 18),o 20 (.call 81 [(t 12),(t 19)]),o 10 (m 20)]),
 (q [(.reg [o 21 (m 10),o 22 (m 9),o 23 (b .eql 21 22)]),
 (i 23 (q [(.reg [o 24 (m 9),o 8 (m 24)]),
 .ret]) .skip)]),
 (.reg [o 25 (m 10),o 9 (m 25)])]))))])⟩
def zes:CFn:=⟨53,[],(q [(.reg [o 10 (m 1),o 11 (bc .add 10 (n 1)),o 8 (m 11)]),
 (.block 0 (.loop (q [(q [(.reg [o 12 (m 8),o 13 (m 2),o 14 (b .lss 12 13)]),
 (i 14 .skip (.exit 0))]),
 (.block 1 (q [(.reg [o 17 (m 8),o 9 (m 17)]),
 (.block 2 (.loop (q [(q [(.regd [o 18 (m 9),o 19 (m 1),o 20 (b .gtr 18 19),o 21 (m 20),g 22 21 true (m 3),g 23 21 true (m 0),g 24 21 true (m 9),g 25 21 true (ia 1 23 24),g 26 21 true (l 25),g 27 21 true (m 0),g 28 21 true (m 9),g 29 21 true (bc .sub 28 (n 1)),g 30 21 true (ia 1 27 29),g 31 21 true (l 30),g 32 21 true (.callv (t 22) [(t 26),(t 31)]),g 33 21 true (bc .lss 32 (n 0)),o 34 (pf 21 33)] [0,0,3,7,15,15,15,111,239,15,15,1039,3599,7695,16383,32767,65535]),
 (i 34 .skip (.exit 2))]),
 (.block 3 (.regd [o 37 (m 0),o 38 (m 9),o 39 (m 0),o 40 (m 9),o 41 (bc .sub 40 (n 1)),o 42 (m 0),o 43 (m 9),o 44 (bc .sub 43 (n 1)),o 45 (ia 1 42 44),o 46 (l 45),o 47 (m 0),o 48 (m 9),o 49 (ia 1 47 48),o 50 (l 49),o 51 (ia 1 37 38),w (.store 1 (t 51) (t 46)),o 52 (ia 1 39 41),w (.store 1 (t 52) (t 50))] [0,0,0,0,8,0,0,64,224,480,0,0,3072,7168,16355,32739,65535,131071])),
 (.reg [o 35 (m 9),o 36 (bc .sub 35 (n 1)),o 9 (m 36)])])))])),
 (.reg [o 15 (m 8),o 16 (bc .add 15 (n 1)),o 8 (m 16)])])))])⟩
def zfs:CFn:=⟨60,[],(q [(.reg [o 13 (m 1),o 8 (m 13)]),
 (.reg [o 9 (.mv (c (n 0)))]),
 (.reg [o 14 (m 2),o 15 (m 1),o 16 (b .sub 14 15),o 10 (m 16)]),
 (q [(.reg [o 17 (m 10),o 18 (bc .sub 17 (n 1)),o 19 (bc .quo 18 (n 2)),o 11 (m 19)]),
 (.block 0 (.loop (q [(q [(.reg [o 20 (m 11),o 21 (bc .geq 20 (n 0))]),
 (i 21 .skip (.exit 0))]),
 (.block 1 (.reg [o 24 (m 0),o 25 (m 11),o 26 (m 10),o 27 (m 8),o 28 (m 3),o 29 (.call 119 [(t 24),(t 25),(t 26),(t 27),(t 28)])])),
 (.reg [o 22 (m 11),o 23 (bc .sub 22 (n 1)),o 11 (m 23)])])))]),
 (.reg [o 30 (m 10),o 31 (bc .sub 30 (n 1)),o 12 (m 31)]),
 (.block 2 (.loop (q [(q [(.reg [o 32 (m 12),o 33 (bc .geq 32 (n 0))]),
 (i 33 .skip (.exit 2))]),
 (.block 3 (q [(.regd [o 36 (m 0),o 37 (m 8),o 38 (m 0),o 39 (m 8),o 40 (m 12),o 41 (b .add 39 40),o 42 (m 0),o 43 (m 8),o 44 (m 12),o 45 (b .add 43 44),o 46 (ia 1 42 45),o 47 (l 46),o 48 (m 0),o 49 (m 8),o 50 (ia 1 48 49),o 51 (l 50),o 52 (ia 1 36 37),w (.store 1 (t 52) (t 47)),o 53 (ia 1 38 41),w (.store 1 (t 53) (t 51))] [0,0,0,0,0,24,0,0,0,384,960,1984,0,0,12288,28672,65475,131011,262143,524287]),
 (.reg [o 54 (m 0),o 55 (m 9),o 56 (m 12),o 57 (m 8),o 58 (m 3),o 59 (.call 119 [(t 54),(t 55),(t 56),(t 57),(t 58)])])])),
 (.reg [o 34 (m 12),o 35 (bc .sub 34 (n 1)),o 12 (m 35)])])))])⟩
def zer:CFn:=⟨67,[],(q [(.reg [o 13 (m 2),o 14 (m 1),o 15 (b .sub 13 14),o 8 (m 15)]),
 (.reg [o 16 (m 8),o 17 (bc .geq 16 (n 8))]),
 (i 17 (q [(.reg [o 18 (m 8),o 19 (.conv .u64 (t 18)),o 9 (.alloc [(u 0)]),w (.store 1 (t 9) (t 19))]),
 (.reg [o 20 (m 8),o 21 (.call 115 [(t 20)]),o 10 (m 21)]),
 (.reg [o 22 (m 1),o 23 (m 8),o 24 (bc .quo 23 (n 4)),o 25 (bc .mul 24 (n 2)),o 26 (b .add 22 25),o 27 (bc .sub 26 (n 1)),o 11 (m 27)]),
 (.block 0 (.loop (q [(q [(.reg [o 28 (m 11),o 29 (m 1),o 30 (m 8),o 31 (bc .quo 30 (n 4)),o 32 (bc .mul 31 (n 2)),o 33 (b .add 29 32),o 34 (bc .add 33 (n 1)),o 35 (b .leq 28 34)]),
 (i 35 .skip (.exit 0))]),
 (.block 1 (q [(.reg [o 38 (.call 116 [(t 9)]),o 39 (m 10),o 40 (bc .sub 39 (u 1)),o 41 (b .and 38 40),o 42 (.conv .i64 (t 41)),o 12 (m 42)]),
 (q [(.reg [o 43 (m 12),o 44 (m 8),o 45 (b .geq 43 44)]),
 (i 45 (.reg [o 46 (m 12),o 47 (m 8),o 48 (b .sub 46 47),o 12 (m 48)]) .skip)]),
 (.regd [o 49 (m 0),o 50 (m 11),o 51 (m 0),o 52 (m 1),o 53 (m 12),o 54 (b .add 52 53),o 55 (m 0),o 56 (m 1),o 57 (m 12),o 58 (b .add 56 57),o 59 (ia 1 55 58),o 60 (l 59),o 61 (m 0),o 62 (m 11),o 63 (ia 1 61 62),o 64 (l 63),o 65 (ia 1 49 50),w (.store 1 (t 65) (t 60)),o 66 (ia 1 51 54),w (.store 1 (t 66) (t 64))] [0,0,0,0,0,24,0,0,0,384,960,1984,0,0,12288,28672,65475,131011,262143,524287])])),
 (.reg [o 36 (m 11),o 37 (bc .add 36 (n 1)),o 11 (m 37)])])))]) .skip)])⟩
def zeK:CFn:=⟨63,[.tmp 8,.tmp 9],(q [(.reg [o 8 (.mv (c (n 0))),o 9 (.mv (c (n 0)))]),
 (.reg [o 15 (m 2),o 16 (m 1),o 17 (b .sub 15 16),o 10 (m 17)]),
 (.reg [o 11 (.alloc [(n 0)])]),
 (.reg [o 18 (m 1),o 19 (m 10),o 20 (bc .quo 19 (n 4)),o 21 (bc .mul 20 (n 1)),o 22 (b .add 18 21),o 12 (m 22)]),
 (.reg [o 23 (m 1),o 24 (m 10),o 25 (bc .quo 24 (n 4)),o 26 (bc .mul 25 (n 2)),o 27 (b .add 23 26),o 13 (m 27)]),
 (.reg [o 28 (m 1),o 29 (m 10),o 30 (bc .quo 29 (n 4)),o 31 (bc .mul 30 (n 3)),o 32 (b .add 28 31),o 14 (m 32)]),
 (q [(.reg [o 33 (m 10),o 34 (bc .geq 33 (n 8))]),
 (i 34 (q [(q [(.reg [o 35 (m 10),o 36 (bc .geq 35 (n 50))]),
 (i 36 (q [(.reg [o 37 (m 0),o 38 (m 12),o 39 (m 3),o 40 (.call 120 [(t 37),(t 38),(t 11),(t 39)]),o 12 (m 40)]),
 (.reg [o 41 (m 0),o 42 (m 13),o 43 (m 3),o 44 (.call 120 [(t 41),(t 42),(t 11),(t 43)]),o 13 (m 44)]),
 (.reg [o 45 (m 0),o 46 (m 14),o 47 (m 3),o 48 (.call 120 [(t 45),(t 46),(t 11),(t 47)]),o 14 (m 48)])]) .skip)]),
 (.reg [o 49 (m 0),o 50 (m 12),o 51 (m 13),o 52 (m 14),o 53 (m 3),o 54 (.call 121 [(t 49),(t 50),(t 51),(t 52),(t 11),(t 53)]),o 13 (m 54)])]) .skip)]),
 (.reg [o 55 (l 11)]),
 (.block 0 (q [(.reg [o 58 (bc .eql 55 (n 0)),o 57 (m 58)]),
 (i 57 (q [(.reg [o 59 (m 13),o 8 (m 59),o 9 (.mv (c (n 1)))]),
 .ret]) (q [(.reg [o 61 (bc .eql 55 (n 12)),o 60 (m 61)]),
 (i 60 (q [(.reg [o 62 (m 13),o 8 (m 62),o 9 (.mv (c (n 2)))]),
 .ret]) (q [(.reg [o 56 (m 13),o 8 (m 56),o 9 (.mv (c (n 0)))]),
 .ret]))]))]))])⟩
def zeB:CFn:=⟨34,[],(q [(.reg [o 10 (m 1),o 8 (m 10)]),
 (.reg [o 11 (m 2),o 12 (bc .sub 11 (n 1)),o 9 (m 12)]),
 (.block 0 (.loop (q [(q [(.reg [o 13 (m 8),o 14 (m 9),o 15 (b .lss 13 14)]),
 (i 15 .skip (.exit 0))]),
 (.block 1 (q [(.regd [o 16 (m 0),o 17 (m 8),o 18 (m 0),o 19 (m 9),o 20 (m 0),o 21 (m 9),o 22 (ia 1 20 21),o 23 (l 22),o 24 (m 0),o 25 (m 8),o 26 (ia 1 24 25),o 27 (l 26),o 28 (ia 1 16 17),w (.store 1 (t 28) (t 23)),o 29 (ia 1 18 19),w (.store 1 (t 29) (t 27))] [0,0,0,0,0,0,48,112,0,0,768,1792,4083,8179,16383,32767]),
 (.reg [o 30 (m 8),o 31 (bc .add 30 (n 1)),o 8 (m 31)]),
 (.reg [o 32 (m 9),o 33 (bc .sub 32 (n 1)),o 9 (m 33)])]))])))])⟩
def zc4:CFn:=⟨141,[.tmp 8],(q [(.reg [o 8 (.mv (c .bf))]),
 (.reg [o 13 (m 1),o 14 (bc .add 13 (n 1)),o 9 (m 14)]),
 (q [(.reg [o 10 (.mv (c (n 0)))]),
 (.block 0 (.loop (q [(q [(.reg [o 15 (m 10),o 16 (bc .lss 15 (n 5))]),
 (i 16 .skip (.exit 0))]),
 (.block 1 (q [(.block 2 (.loop (q [(q [(.regd [o 19 (m 9),o 20 (m 2),o 21 (b .lss 19 20),o 22 (m 21),g 23 22 true (m 3),g 24 22 true (m 0),g 25 22 true (m 9),g 26 22 true (ia 1 24 25),g 27 22 true (l 26),g 28 22 true (m 0),g 29 22 true (m 9),g 30 22 true (bc .sub 29 (n 1)),g 31 22 true (ia 1 28 30),g 32 22 true (l 31),g 33 22 true (.callv (t 23) [(t 27),(t 32)]),g 34 22 true (bc .lss 33 (n 0)),g 35 22 true (.un .not (t 34)),o 36 (pf 22 35)] [0,0,3,7,15,15,15,111,239,15,15,1039,3599,7695,16383,32767,65535,131071]),
 (i 36 .skip (.exit 2))]),
 (.block 3 (.reg [o 37 (m 9),o 38 (bc .add 37 (n 1)),o 9 (m 38)]))]))),
 (q [(.reg [o 39 (m 9),o 40 (m 2),o 41 (b .eql 39 40)]),
 (i 41 (q [(.reg [o 8 (.mv (c .bt))]),
 .ret]) .skip)]),
 (q [(.reg [o 42 (m 2),o 43 (m 1),o 44 (b .sub 42 43),o 45 (bc .lss 44 (n 50))]),
 (i 45 (q [(.reg [o 8 (.mv (c .bf))]),
 .ret]) .skip)]),
 (.regd [o 46 (m 0),o 47 (m 9),o 48 (m 0),o 49 (m 9),o 50 (bc .sub 49 (n 1)),o 51 (m 0),o 52 (m 9),o 53 (bc .sub 52 (n 1)),o 54 (ia 1 51 53),o 55 (l 54),o 56 (m 0),o 57 (m 9),o 58 (ia 1 56 57),o 59 (l 58),o 60 (ia 1 46 47),w (.store 1 (t 60) (t 55)),o 61 (ia 1 48 50),w (.store 1 (t 61) (t 59))] [0,0,0,0,8,0,0,64,224,480,0,0,3072,7168,16355,32739,65535,131071]),
 (q [(.reg [o 62 (m 9),o 63 (m 1),o 64 (b .sub 62 63),o 65 (bc .geq 64 (n 2))]),
 (i 65 (q [(.reg [o 66 (m 9),o 67 (bc .sub 66 (n 1)),o 11 (m 67)]),
 (.block 4 (.loop (q [(q [(.reg [o 68 (m 11),o 69 (bc .geq 68 (n 1))]),
 (i 69 .skip (.exit 4))]),
 (.block 5 (q [(q [(.regd [o 72 (m 3),o 73 (m 0),o 74 (m 11),o 75 (ia 1 73 74),o 76 (l 75),o 77 (m 0),o 78 (m 11),o 79 (bc .sub 78 (n 1)),o 80 (ia 1 77 79),o 81 (l 80),o 82 (.callv (t 72) [(t 76),(t 81)]),o 83 (bc .lss 82 (n 0)),o 84 (.un .not (t 83))] [0,0,0,6,14,0,0,64,224,480,1023,2047,4095]),
 (i 84 (.exit 4) .skip)]),
 (.regd [o 85 (m 0),o 86 (m 11),o 87 (m 0),o 88 (m 11),o 89 (bc .sub 88 (n 1)),o 90 (m 0),o 91 (m 11),o 92 (bc .sub 91 (n 1)),o 93 (ia 1 90 92),o 94 (l 93),o 95 (m 0),o 96 (m 11),o 97 (ia 1 95 96),o 98 (l 97),o 99 (ia 1 85 86),w (.store 1 (t 99) (t 94)),o 100 (ia 1 87 89),w (.store 1 (t 100) (t 98))] [0,0,0,0,8,0,0,64,224,480,0,0,3072,7168,16355,32739,65535,131071])])),
 (.reg [o 70 (m 11),o 71 (bc .sub 70 (n 1)),o 11 (m 71)])])))]) .skip)]),
 (.reg [o 101 (m 2),o 102 (m 9),o 103 (b .sub 101 102),o 104 (bc .geq 103 (n 2))]),
 (i 104 (q [(.reg [o 105 (m 9),o 106 (bc .add 105 (n 1)),o 12 (m 106)]),
 (.block 6 (.loop (q [(q [(.reg [o 107 (m 12),o 108 (m 2),o 109 (b .lss 107 108)]),
 (i 109 .skip (.exit 6))]),
 (.block 7 (q [(q [(.regd [o 112 (m 3),o 113 (m 0),o 114 (m 12),o 115 (ia 1 113 114),o 116 (l 115),o 117 (m 0),o 118 (m 12),o 119 (bc .sub 118 (n 1)),o 120 (ia 1 117 119),o 121 (l 120),o 122 (.callv (t 112) [(t 116),(t 121)]),o 123 (bc .lss 122 (n 0)),o 124 (.un .not (t 123))] [0,0,0,6,14,0,0,64,224,480,1023,2047,4095]),
 (i 124 (.exit 6) .skip)]),
 (.regd [o 125 (m 0),o 126 (m 12),o 127 (m 0),o 128 (m 12),o 129 (bc .sub 128 (n 1)),o 130 (m 0),o 131 (m 12),o 132 (bc .sub 131 (n 1)),o 133 (ia 1 130 132),o 134 (l 133),o 135 (m 0),o 136 (m 12),o 137 (ia 1 135 136),o 138 (l 137),o 139 (ia 1 125 126),w (.store 1 (t 139) (t 134)),o 140 (ia 1 127 129),w (.store 1 (t 140) (t 138))] [0,0,0,0,8,0,0,64,224,480,0,0,3072,7168,16355,32739,65535,131071])])),
 (.reg [o 110 (m 12),o 111 (bc .add 110 (n 1)),o 12 (m 111)])])))]) .skip)])),
 (.reg [o 17 (m 10),o 18 (bc .add 17 (n 1)),o 10 (m 18)])])))]),
 (.reg [o 8 (.mv (c .bf))]),
 .ret])⟩
def zd7:CFn:=⟨90,[.tmp 10],(q [(.reg [o 10 (.mv (c (n 0)))]),
 (.regd [o 13 (m 0),o 14 (m 1),o 15 (m 0),o 16 (m 3),o 17 (m 0),o 18 (m 3),o 19 (ia 1 17 18),o 20 (l 19),o 21 (m 0),o 22 (m 1),o 23 (ia 1 21 22),o 24 (l 23),o 25 (ia 1 13 14),w (.store 1 (t 25) (t 20)),o 26 (ia 1 15 16),w (.store 1 (t 26) (t 24))] [0,0,0,0,0,0,48,112,0,0,768,1792,4083,8179,16383,32767]),
 (.reg [o 27 (m 1),o 28 (bc .add 27 (n 1)),o 29 (m 2),o 30 (bc .sub 29 (n 1)),o 11 (m 28),o 12 (m 30)]),
 (.block 0 (.loop (.block 1 (q [(.block 2 (.loop (q [(q [(.regd [o 31 (m 11),o 32 (m 12),o 33 (b .leq 31 32),o 34 (m 33),g 35 34 true (m 4),g 36 34 true (m 0),g 37 34 true (m 1),g 38 34 true (ia 1 36 37),g 39 34 true (l 38),g 40 34 true (m 0),g 41 34 true (m 11),g 42 34 true (ia 1 40 41),g 43 34 true (l 42),g 44 34 true (.callv (t 35) [(t 39),(t 43)]),g 45 34 true (bc .lss 44 (n 0)),g 46 34 true (.un .not (t 45)),o 47 (pf 34 46)] [0,0,3,7,15,15,15,111,239,15,15,1551,3599,8191,16383,32767,65535]),
 (i 47 .skip (.exit 2))]),
 (.block 3 (.reg [o 48 (m 11),o 49 (bc .add 48 (n 1)),o 11 (m 49)]))]))),
 (.block 4 (.loop (q [(q [(.regd [o 50 (m 11),o 51 (m 12),o 52 (b .leq 50 51),o 53 (m 52),g 54 53 true (m 4),g 55 53 true (m 0),g 56 53 true (m 1),g 57 53 true (ia 1 55 56),g 58 53 true (l 57),g 59 53 true (m 0),g 60 53 true (m 12),g 61 53 true (ia 1 59 60),g 62 53 true (l 61),g 63 53 true (.callv (t 54) [(t 58),(t 62)]),g 64 53 true (bc .lss 63 (n 0)),o 65 (pf 53 64)] [0,0,3,7,15,15,15,111,239,15,15,1551,3599,8191,16383,32767]),
 (i 65 .skip (.exit 4))]),
 (.block 5 (.reg [o 66 (m 12),o 67 (bc .sub 66 (n 1)),o 12 (m 67)]))]))),
 (q [(.reg [o 68 (m 11),o 69 (m 12),o 70 (b .gtr 68 69)]),
 (i 70 (.exit 0) .skip)]),
 (.regd [o 71 (m 0),o 72 (m 11),o 73 (m 0),o 74 (m 12),o 75 (m 0),o 76 (m 12),o 77 (ia 1 75 76),o 78 (l 77),o 79 (m 0),o 80 (m 11),o 81 (ia 1 79 80),o 82 (l 81),o 83 (ia 1 71 72),w (.store 1 (t 83) (t 78)),o 84 (ia 1 73 74),w (.store 1 (t 84) (t 82))] [0,0,0,0,0,0,48,112,0,0,768,1792,4083,8179,16383,32767]),
 (.reg [o 85 (m 11),o 86 (bc .add 85 (n 1)),o 11 (m 86)]),
 (.reg [o 87 (m 12),o 88 (bc .sub 87 (n 1)),o 12 (m 88)])])))),
 (.reg [o 89 (m 11),o 10 (m 89)]),
 .ret])⟩
def zfd:CFn:=⟨178,[.tmp 10,.tmp 11],(q [(.reg [o 10 (.mv (c (n 0))),o 11 (.mv (c .bf))]),
 (.regd [o 14 (m 0),o 15 (m 1),o 16 (m 0),o 17 (m 3),o 18 (m 0),o 19 (m 3),o 20 (ia 1 18 19),o 21 (l 20),o 22 (m 0),o 23 (m 1),o 24 (ia 1 22 23),o 25 (l 24),o 26 (ia 1 14 15),w (.store 1 (t 26) (t 21)),o 27 (ia 1 16 17),w (.store 1 (t 27) (t 25))] [0,0,0,0,0,0,48,112,0,0,768,1792,4083,8179,16383,32767]),
 (.reg [o 28 (m 1),o 29 (bc .add 28 (n 1)),o 30 (m 2),o 31 (bc .sub 30 (n 1)),o 12 (m 29),o 13 (m 31)]),
 (.block 0 (.loop (q [(q [(.regd [o 32 (m 12),o 33 (m 13),o 34 (b .leq 32 33),o 35 (m 34),g 36 35 true (m 4),g 37 35 true (m 0),g 38 35 true (m 12),g 39 35 true (ia 1 37 38),g 40 35 true (l 39),g 41 35 true (m 0),g 42 35 true (m 1),g 43 35 true (ia 1 41 42),g 44 35 true (l 43),g 45 35 true (.callv (t 36) [(t 40),(t 44)]),g 46 35 true (bc .lss 45 (n 0)),o 47 (pf 35 46)] [0,0,3,7,15,15,15,111,239,15,15,1551,3599,8191,16383,32767]),
 (i 47 .skip (.exit 0))]),
 (.block 1 (.reg [o 48 (m 12),o 49 (bc .add 48 (n 1)),o 12 (m 49)]))]))),
 (.block 2 (.loop (q [(q [(.regd [o 50 (m 12),o 51 (m 13),o 52 (b .leq 50 51),o 53 (m 52),g 54 53 true (m 4),g 55 53 true (m 0),g 56 53 true (m 13),g 57 53 true (ia 1 55 56),g 58 53 true (l 57),g 59 53 true (m 0),g 60 53 true (m 1),g 61 53 true (ia 1 59 60),g 62 53 true (l 61),g 63 53 true (.callv (t 54) [(t 58),(t 62)]),g 64 53 true (bc .lss 63 (n 0)),g 65 53 true (.un .not (t 64)),o 66 (pf 53 65)] [0,0,3,7,15,15,15,111,239,15,15,1551,3599,8191,16383,32767,65535]),
 (i 66 .skip (.exit 2))]),
 (.block 3 (.reg [o 67 (m 13),o 68 (bc .sub 67 (n 1)),o 13 (m 68)]))]))),
 (q [(.reg [o 69 (m 12),o 70 (m 13),o 71 (b .gtr 69 70)]),
 (i 71 (q [(.regd [o 72 (m 0),o 73 (m 13),o 74 (m 0),o 75 (m 1),o 76 (m 0),o 77 (m 1),o 78 (ia 1 76 77),o 79 (l 78),o 80 (m 0),o 81 (m 13),o 82 (ia 1 80 81),o 83 (l 82),o 84 (ia 1 72 73),w (.store 1 (t 84) (t 79)),o 85 (ia 1 74 75),w (.store 1 (t 85) (t 83))] [0,0,0,0,0,0,48,112,0,0,768,1792,4083,8179,16383,32767]),
 (.reg [o 86 (m 13),o 10 (m 86),o 11 (.mv (c .bt))]),
 .ret]) .skip)]),
 (.regd [o 87 (m 0),o 88 (m 12),o 89 (m 0),o 90 (m 13),o 91 (m 0),o 92 (m 13),o 93 (ia 1 91 92),o 94 (l 93),o 95 (m 0),o 96 (m 12),o 97 (ia 1 95 96),o 98 (l 97),o 99 (ia 1 87 88),w (.store 1 (t 99) (t 94)),o 100 (ia 1 89 90),w (.store 1 (t 100) (t 98))] [0,0,0,0,0,0,48,112,0,0,768,1792,4083,8179,16383,32767]),
 (.reg [o 101 (m 12),o 102 (bc .add 101 (n 1)),o 12 (m 102)]),
 (.reg [o 103 (m 13),o 104 (bc .sub 103 (n 1)),o 13 (m 104)]),
 (.block 4 (.loop (.block 5 (q [(.block 6 (.loop (q [(q [(.regd [o 105 (m 12),o 106 (m 13),o 107 (b .leq 105 106),o 108 (m 107),g 109 108 true (m 4),g 110 108 true (m 0),g 111 108 true (m 12),g 112 108 true (ia 1 110 111),g 113 108 true (l 112),g 114 108 true (m 0),g 115 108 true (m 1),g 116 108 true (ia 1 114 115),g 117 108 true (l 116),g 118 108 true (.callv (t 109) [(t 113),(t 117)]),g 119 108 true (bc .lss 118 (n 0)),o 120 (pf 108 119)] [0,0,3,7,15,15,15,111,239,15,15,1551,3599,8191,16383,32767]),
 (i 120 .skip (.exit 6))]),
 (.block 7 (.reg [o 121 (m 12),o 122 (bc .add 121 (n 1)),o 12 (m 122)]))]))),
 (.block 8 (.loop (q [(q [(.regd [o 123 (m 12),o 124 (m 13),o 125 (b .leq 123 124),o 126 (m 125),g 127 126 true (m 4),g 128 126 true (m 0),g 129 126 true (m 13),g 130 126 true (ia 1 128 129),g 131 126 true (l 130),g 132 126 true (m 0),g 133 126 true (m 1),g 134 126 true (ia 1 132 133),g 135 126 true (l 134),g 136 126 true (.callv (t 127) [(t 131),(t 135)]),g 137 126 true (bc .lss 136 (n 0)),g 138 126 true (.un .not (t 137)),o 139 (pf 126 138)] [0,0,3,7,15,15,15,111,239,15,15,1551,3599,8191,16383,32767,65535]),
 (i 139 .skip (.exit 8))]),
 (.block 9 (.reg [o 140 (m 13),o 141 (bc .sub 140 (n 1)),o 13 (m 141)]))]))),
 (q [(.reg [o 142 (m 12),o 143 (m 13),o 144 (b .gtr 142 143)]),
 (i 144 (.exit 4) .skip)]),
 (.regd [o 145 (m 0),o 146 (m 12),o 147 (m 0),o 148 (m 13),o 149 (m 0),o 150 (m 13),o 151 (ia 1 149 150),o 152 (l 151),o 153 (m 0),o 154 (m 12),o 155 (ia 1 153 154),o 156 (l 155),o 157 (ia 1 145 146),w (.store 1 (t 157) (t 152)),o 158 (ia 1 147 148),w (.store 1 (t 158) (t 156))] [0,0,0,0,0,0,48,112,0,0,768,1792,4083,8179,16383,32767]),
 (.reg [o 159 (m 12),o 160 (bc .add 159 (n 1)),o 12 (m 160)]),
 (.reg [o 161 (m 13),o 162 (bc .sub 161 (n 1)),o 13 (m 162)])])))),
 (.regd [o 163 (m 0),o 164 (m 13),o 165 (m 0),o 166 (m 1),o 167 (m 0),o 168 (m 1),o 169 (ia 1 167 168),o 170 (l 169),o 171 (m 0),o 172 (m 13),o 173 (ia 1 171 172),o 174 (l 173),o 175 (ia 1 163 164),w (.store 1 (t 175) (t 170)),o 176 (ia 1 165 166),w (.store 1 (t 176) (t 174))] [0,0,0,0,0,0,48,112,0,0,768,1792,4083,8179,16383,32767]),
 (.reg [o 177 (m 13),o 10 (m 177),o 11 (.mv (c .bf))]),
 .ret])⟩
def zrC:CFn:=⟨31,[.tmp 6],(q [(.reg [o 3 (.box 4 (t 0)),o 6 (.mv (c .bf))]),
 (.reg [o 7 (la 4 3),o 8 (.call 5 [(t 7)]),o 9 (bc .eql 8 (n 0)),o 10 (m 9),g 11 10 true (m 1),g 12 10 true (bc .geq 11 (n 0)),o 13 (pf 10 12),o 14 (m 13),g 15 14 true (m 1),g 16 14 true (f 2 3),g 17 14 true (l 16),g 18 14 true (ln 17),g 19 14 true (b .lss 15 18),o 20 (pf 14 19),o 21 (m 20),g 22 21 true (m 2),g 23 21 true (bc .geq 22 (n 0)),o 24 (pf 21 23),o 25 (m 24),g 26 25 true (m 2),g 27 25 true (f 0 3),g 28 25 true (l 27),g 29 25 true (b .lss 26 28),o 30 (pf 25 29),o 6 (m 30)]),
 .ret])⟩
def zow:CFn:=⟨8,[.tmp 4],(q [(.reg [o 3 (.box 1 (t 1)),o 4 (.mv (c .bf))]),
 (.reg [o 5 (m 0),o 6 (.fnew zcS [(t 3)]),o 7 (.call 122 [(t 5),(t 6)]),o 4 (m 7)]),
 .ret])⟩
def zdp:CFn:=⟨9,[.tmp 4],(q [(.reg [o 4 (.mv (c .bf))]),
 (.reg [o 5 (m 0),o 6 (m 1),o 7 (.call 125 [(t 5),(t 6)]),o 8 (bc .geq 7 (n 0)),o 4 (m 8)]),
 .ret])⟩
def zou:CFn:=⟨8,[.tmp 3],(q [(.reg [o 3 (.mv (c .bf))]),
 (.reg [o 4 (m 0),o 5 (f 0 1),o 6 (l 5),o 7 (.call 106 [(t 4),(t 6)]),o 3 (m 7)]),
 .ret])⟩
def znk:CFn:=⟨29,[.tmp 4],(q [(.reg [o 4 (.mv (c (n 0)))]),
 (q [(.reg [o 7 (m 0),o 8 (bc .lss 7 (n 0)),o 9 (m 8),g 10 9 false (m 0),g 11 9 false (bc .gtr 10 (n 64)),o 12 (pt 9 11)]),
 (i 12 (q [(.reg [o 4 (.mv (c (n 2)))]),
 .ret]) .skip)]),
 (q [(.reg [o 13 (m 1),o 14 (ln 13),o 15 (m 0),o 16 (b .neq 14 15)]),
 (i 16 (q [(.reg [o 4 (.mv (c (n 3)))]),
 .ret]) .skip)]),
 (q [(.reg [o 17 (m 1),o 18 (ln 17),o 19 (.mv (c (n 0)))]),
 (.block 0 (.loop (q [(.reg [o 20 (b .lss 19 18)]),
 (i 20 .skip (.exit 0)),
 (.block 1 (q [(.reg [o 21 (ia 1 17 19),o 22 (l 21),o 6 (m 22)]),
 (.reg [o 23 (m 6),o 24 (m 0),o 25 (.call 110 [(t 24)]),o 26 (b .andNot 23 25),o 27 (bc .neq 26 (u 0))]),
 (i 27 (q [(.reg [o 4 (.mv (c (n 1)))]),
 .ret]) .skip)])),
 (.reg [o 28 (bc .add 19 (n 1)),o 19 (m 28)])])))]),
 (.reg [o 4 (.mv (c (n 0)))]),
 .ret])⟩
def zpM:CFn:=⟨8,[.tmp 2],(q [(.reg [o 2 (.mv (c (u 0)))]),
 (q [(.reg [o 3 (m 0),o 4 (bc .geq 3 (n 64))]),
 (i 4 (q [(.reg [o 2 (.mv (c (u 18446744073709551615)))]),
 .ret]) .skip)]),
 (.reg [o 5 (m 0),o 6 (.bin .shl (c (u 1)) (t 5)),o 7 (bc .sub 6 (u 1)),o 2 (m 7)]),
 .ret])⟩
def zpF:CFn:=⟨64,[.tmp 6],(q [(.reg [o 3 (.box 3 (t 0)),o 6 (.mv (c (.nils 1)))]),
 (q [(.reg [o 11 (la 3 3),o 12 (.call 80 [(t 11)]),o 13 (bc .neq 12 (n 0)),o 14 (m 13),g 15 14 false (m 1),g 16 14 false (bc .lss 15 (n 1)),o 17 (pt 14 16),o 18 (m 17),g 19 18 false (m 1),g 20 18 false (f 2 3),g 21 18 false (l 20),g 22 18 false (ln 21),g 23 18 false (.bin .shl (c (n 1)) (t 22)),g 24 18 false (b .geq 19 23),o 25 (pt 18 24)]),
 (i 25 (q [(.reg [o 6 (.mv (c (.nils 1)))]),
 .ret]) .skip)]),
 (.reg [o 7 (.mv (c (.nils 1)))]),
 (q [(.reg [o 26 (f 2 3),o 27 (l 26),o 28 (ln 27),o 29 (.mv (c (n 0)))]),
 (.block 0 (.loop (q [(.reg [o 30 (b .lss 29 28)]),
 (i 30 .skip (.exit 0)),
 (.block 1 (q [(.reg [o 31 (m 29),o 32 (ia 1 27 29),o 33 (l 32),o 8 (m 31),o 9 (m 33)]),
 (q [(.reg [o 34 (m 1),o 35 (m 8),o 36 (b .shr 34 35),o 37 (bc .and 36 (n 1)),o 38 (bc .eql 37 (n 0))]),
 (i 38 (.exit 1) .skip)]),
 (q [(.reg [o 39 (m 7),o 40 (.eqN false (t 39) (c (.nils 1)))]),
 (i 40 (q [(.reg [o 41 (m 9),o 42 (.call 46 [(t 41)]),o 7 (m 42)]),
 (.exit 1)]) .skip)]),
 (.reg [o 43 (m 7),o 44 (ln 43),o 45 (.mv (c (n 0)))]),
 (.block 2 (.loop (q [(.reg [o 46 (b .lss 45 44)]),
 (i 46 .skip (.exit 2)),
 (.block 3 (q [(.reg [o 47 (m 45),o 10 (m 47)]),
 (.regd [o 48 (m 7),o 49 (m 10),o 50 (m 2),o 51 (m 7),o 52 (m 10),o 53 (ia 1 51 52),o 54 (l 53),o 55 (m 9),o 56 (m 10),o 57 (ia 1 55 56),o 58 (l 57),o 59 (.callv (t 50) [(t 54),(t 58)]),o 60 (ia 1 48 49),w (.store 1 (t 60) (t 59))] [0,0,0,0,0,24,56,0,0,384,896,2044,4095,8191])])),
 (.reg [o 61 (bc .add 45 (n 1)),o 45 (m 61)])])))])),
 (.reg [o 62 (bc .add 29 (n 1)),o 29 (m 62)])])))]),
 (.reg [o 63 (m 7),o 6 (m 63)]),
 .ret])⟩
def zpE:CFn:=⟨8,[.tmp 4],(q [(.reg [o 4 (.mv (c (u 0)))]),
 (.reg [o 5 (m 0),o 6 (m 1),o 7 (b .and 5 6),o 4 (m 7)]),
 .ret])⟩
def zov:CFn:=⟨8,[.tmp 4],(q [(.reg [o 4 (.mv (c (u 0)))]),
 (.reg [o 5 (m 0),o 6 (m 1),o 7 (b .or 5 6),o 4 (m 7)]),
 .ret])⟩
def zhM:CFn:=⟨7,[.tmp 2],(q [(.reg [o 2 (.mv (c (u 0)))]),
 (.reg [o 3 (m 0),o 4 (.conv .u64 (t 3)),o 5 (.call 64 [(t 4)]),o 6 (.bin .shl (c (u 1)) (t 5)),o 2 (m 6)]),
 .ret])⟩
def zgN:CFn:=⟨33,[.tmp 2],(q [(.reg [o 2 (.mv (c (u 0)))]),
 (.regd [o 3 (m 0),o 4 (.nilck (t 3)),o 5 (l 4),o 6 (m 0),o 7 (.nilck (t 6)),o 8 (l 7),o 9 (bc .shl 8 (u 13)),o 10 (b .xor 5 9),o 11 (.nilck (t 3)),w (.store 1 (t 11) (t 10))] [0,1,3,0,8,24,56,127,255,511]),
 (.regd [o 12 (m 0),o 13 (.nilck (t 12)),o 14 (l 13),o 15 (m 0),o 16 (.nilck (t 15)),o 17 (l 16),o 18 (bc .shr 17 (u 7)),o 19 (b .xor 14 18),o 20 (.nilck (t 12)),w (.store 1 (t 20) (t 19))] [0,1,3,0,8,24,56,127,255,511]),
 (.regd [o 21 (m 0),o 22 (.nilck (t 21)),o 23 (l 22),o 24 (m 0),o 25 (.nilck (t 24)),o 26 (l 25),o 27 (bc .shl 26 (u 17)),o 28 (b .xor 23 27),o 29 (.nilck (t 21)),w (.store 1 (t 29) (t 28))] [0,1,3,0,8,24,56,127,255,511]),
 (.reg [o 30 (m 0),o 31 (.nilck (t 30)),o 32 (l 31),o 2 (m 32)]),
 .ret])⟩
def zft:CFn:=⟨82,[],(q [(.reg [o 12 (m 1),o 10 (m 12)]),
 (.block 0 (.loop (.block 1 (q [(.reg [o 13 (m 10),o 14 (.bin .mul (c (n 2)) (t 13)),o 15 (bc .add 14 (n 1)),o 11 (m 15)]),
 (q [(.reg [o 16 (m 11),o 17 (m 2),o 18 (b .geq 16 17)]),
 (i 18 (.exit 0) .skip)]),
 (q [(.regd [o 19 (m 11),o 20 (bc .add 19 (n 1)),o 21 (m 2),o 22 (b .lss 20 21),o 23 (m 22),g 24 23 true (m 4),g 25 23 true (m 0),g 26 23 true (m 3),g 27 23 true (m 11),g 28 23 true (b .add 26 27),g 29 23 true (ia 1 25 28),g 30 23 true (l 29),g 31 23 true (m 0),g 32 23 true (m 3),g 33 23 true (m 11),g 34 23 true (b .add 32 33),g 35 23 true (bc .add 34 (n 1)),g 36 23 true (ia 1 31 35),g 37 23 true (l 36),g 38 23 true (.callv (t 24) [(t 30),(t 37)]),g 39 23 true (bc .lss 38 (n 0)),o 40 (pf 23 39)] [0,1,0,7,15,31,31,31,31,415,991,2015,31,31,31,24607,57375,127007,258079,524287,1048575,2097151]),
 (i 40 (.reg [o 41 (m 11),o 42 (bc .add 41 (n 1)),o 11 (m 42)]) .skip)]),
 (q [(.regd [o 43 (m 4),o 44 (m 0),o 45 (m 3),o 46 (m 10),o 47 (b .add 45 46),o 48 (ia 1 44 47),o 49 (l 48),o 50 (m 0),o 51 (m 3),o 52 (m 11),o 53 (b .add 51 52),o 54 (ia 1 50 53),o 55 (l 54),o 56 (.callv (t 43) [(t 49),(t 55)]),o 57 (bc .lss 56 (n 0)),o 58 (.un .not (t 57))] [0,0,0,0,12,30,62,0,0,0,768,1920,3968,8191,16383,32767]),
 (i 58 .ret .skip)]),
 (.regd [o 59 (m 0),o 60 (m 3),o 61 (m 10),o 62 (b .add 60 61),o 63 (m 0),o 64 (m 3),o 65 (m 11),o 66 (b .add 64 65),o 67 (m 0),o 68 (m 3),o 69 (m 11),o 70 (b .add 68 69),o 71 (ia 1 67 70),o 72 (l 71),o 73 (m 0),o 74 (m 3),o 75 (m 10),o 76 (b .add 74 75),o 77 (ia 1 73 76),o 78 (l 77),o 79 (ia 1 59 62),w (.store 1 (t 79) (t 72)),o 80 (ia 1 63 66),w (.store 1 (t 80) (t 78))] [0,0,0,6,0,0,0,96,0,0,0,1536,3840,7936,0,0,0,98304,245760,507904,1048335,2096911,4194303,8388607]),
 (.reg [o 81 (m 11),o 10 (m 81)])]))))])⟩
def zd6:CFn:=⟨18,[.tmp 8],(q [(.reg [o 8 (.mv (c (n 0)))]),
 (.reg [o 9 (m 0),o 10 (m 1),o 11 (bc .sub 10 (n 1)),o 12 (m 1),o 13 (m 1),o 14 (bc .add 13 (n 1)),o 15 (m 2),o 16 (m 3),o 17 (.call 121 [(t 9),(t 11),(t 12),(t 14),(t 15),(t 16)]),o 8 (m 17)]),
 .ret])⟩
def zf4:CFn:=⟨41,[.tmp 12],(q [(.reg [o 12 (.mv (c (n 0)))]),
 (.reg [o 14 (m 0),o 15 (m 1),o 16 (m 2),o 17 (m 4),o 18 (m 5),o 19 (.call 127 [(t 14),(t 15),(t 16),(t 17),(t 18)]),o 13 (m 19),o 20 (e 13 0),o 21 (e 13 1),o 1 (m 20),o 2 (m 21)]),
 (.reg [o 23 (m 0),o 24 (m 2),o 25 (m 3),o 26 (m 4),o 27 (m 5),o 28 (.call 127 [(t 23),(t 24),(t 25),(t 26),(t 27)]),o 22 (m 28),o 29 (e 22 0),o 30 (e 22 1),o 2 (m 29),o 3 (m 30)]),
 (.reg [o 32 (m 0),o 33 (m 1),o 34 (m 2),o 35 (m 4),o 36 (m 5),o 37 (.call 127 [(t 32),(t 33),(t 34),(t 35),(t 36)]),o 31 (m 37),o 38 (e 31 0),o 39 (e 31 1),o 1 (m 38),o 2 (m 39)]),
 (.reg [o 40 (m 2),o 12 (m 40)]),
 .ret])⟩
def zdK:CFn:=⟨9,[.tmp 4],(q [(.reg [o 4 (.mv (c .bf))]),
 (.reg [o 5 (m 0),o 6 (m 1),o 7 (.call 128 [(t 5),(t 6)]),o 8 (bc .geq 7 (n 0)),o 4 (m 8)]),
 .ret])⟩
def zmo:CFn:=⟨9,[.tmp 3],(q [(.reg [o 3 (.mv (c .bf))]),
 (.reg [o 4 (m 0),o 5 (l 1),o 6 (.call 124 [(t 5)]),o 7 (b .andNot 4 6),o 8 (bc .neq 7 (u 0)),o 3 (m 8)]),
 .ret])⟩
def ztM:CFn:=⟨8,[.tmp 2],(q [(.reg [o 2 (.mv (c (u 0)))]),
 (q [(.reg [o 3 (m 0),o 4 (bc .geq 3 (n 64))]),
 (i 4 (q [(.reg [o 2 (.mv (c (u 18446744073709551615)))]),
 .ret]) .skip)]),
 (.reg [o 5 (m 0),o 6 (.bin .shl (c (u 1)) (t 5)),o 7 (bc .sub 6 (u 1)),o 2 (m 7)]),
 .ret])⟩
def zdR:CFn:=⟨19,[.tmp 4],(q [(.reg [o 4 (.mv (c (n 0)))]),
 (q [(.reg [o 6 (m 0),o 7 (ln 6),o 8 (.mv (c (n 0)))]),
 (.block 0 (.loop (q [(.reg [o 9 (b .lss 8 7)]),
 (i 9 .skip (.exit 0)),
 (.block 1 (q [(.reg [o 10 (m 8),o 5 (m 10)]),
 (.reg [o 11 (m 1),o 12 (m 0),o 13 (m 5),o 14 (ia 1 12 13),o 15 (l 14),o 16 (.callv (t 11) [(t 15)])]),
 (i 16 (q [(.reg [o 17 (m 5),o 4 (m 17)]),
 .ret]) .skip)])),
 (.reg [o 18 (bc .add 8 (n 1)),o 8 (m 18)])])))]),
 (.reg [o 4 (.mv (c (n (-1))))]),
 .ret])⟩
def zf5:CFn:=⟨32,[.tmp 10,.tmp 11],(q [(.reg [o 10 (.mv (c (n 0))),o 11 (.mv (c (n 0)))]),
 (q [(.regd [o 12 (m 4),o 13 (m 0),o 14 (m 2),o 15 (ia 1 13 14),o 16 (l 15),o 17 (m 0),o 18 (m 1),o 19 (ia 1 17 18),o 20 (l 19),o 21 (.callv (t 12) [(t 16),(t 20)]),o 22 (bc .lss 21 (n 0))] [0,0,0,6,14,0,0,96,224,511,1023]),
 (i 22 (q [(.reg [o 23 (m 3),o 24 (.nilck (t 23)),o 25 (l 24),o 26 (bc .add 25 (n 1)),o 27 (.nilck (t 23)),w (.store 1 (t 27) (t 26))]),
 (.reg [o 28 (m 2),o 29 (m 1),o 10 (m 28),o 11 (m 29)]),
 .ret]) .skip)]),
 (.reg [o 30 (m 1),o 31 (m 2),o 10 (m 30),o 11 (m 31)]),
 .ret])⟩
def zeq:CFn:=⟨19,[.tmp 4],(q [(.reg [o 4 (.mv (c (n 0)))]),
 (q [(.reg [o 6 (m 0),o 7 (ln 6),o 8 (.mv (c (n 0)))]),
 (.block 0 (.loop (q [(.reg [o 9 (b .lss 8 7)]),
 (i 9 .skip (.exit 0)),
 (.block 1 (q [(.reg [o 10 (m 8),o 5 (m 10)]),
 (.reg [o 11 (m 1),o 12 (m 0),o 13 (m 5),o 14 (ia 1 12 13),o 15 (l 14),o 16 (.callv (t 11) [(t 15)])]),
 (i 16 (q [(.reg [o 17 (m 5),o 4 (m 17)]),
 .ret]) .skip)])),
 (.reg [o 18 (bc .add 8 (n 1)),o 8 (m 18)])])))]),
 (.reg [o 4 (.mv (c (n (-1))))]),
 .ret])⟩
end Go.Ab
namespace Go.Ab
open Go Go.Proofs
theorem zn:Tryz.prog.follows .mixedOrders=true:=by kernel_rfl
theorem zlr:zf Tryz.prog zgb=some zkU:=by kernel_rfl
theorem zrL:zf Tryz.prog zgr=some zrB:=by kernel_rfl
theorem zoY:zf Tryz.prog zhX=some zoq:=by kernel_rfl
theorem zpZ:zf Tryz.prog ziO=some zpy:=by kernel_rfl
theorem zmB:zf Tryz.prog zgI=some zmp:=by kernel_rfl
theorem znE:zf Tryz.prog zhu=some znb:=by kernel_rfl
theorem zp2:zf Tryz.prog ziR=some zpB:=by kernel_rfl
theorem znJ:zf Tryz.prog zhy=some znh:=by kernel_rfl
theorem zp3:zf Tryz.prog ziS=some zpC:=by kernel_rfl
theorem zp1:zf Tryz.prog ziQ=some zpA:=by kernel_rfl
theorem zp6:zf Tryz.prog ziU=some zpG:=by kernel_rfl
theorem zoU:zf Tryz.prog zhU=some zom:=by kernel_rfl
theorem zp0:zf Tryz.prog ziP=some zpz:=by kernel_rfl
theorem zrN:zf Tryz.prog zkq=some zrD:=by kernel_rfl
theorem zo0:zf Tryz.prog zhZ=some zos:=by kernel_rfl
theorem zmx:zf Tryz.prog zeu=some zml:=by kernel_rfl
theorem znK:zf Tryz.prog zeN=some zni:=by kernel_rfl
theorem zoW:zf Tryz.prog zhV=some zoo:=by kernel_rfl
theorem znI:zf Tryz.prog zhx=some zng:=by kernel_rfl
theorem zoX:zf Tryz.prog zhW=some zop:=by kernel_rfl
theorem zmC:zf Tryz.prog zgJ=some zmq:=by kernel_rfl
theorem zkF:zf Tryz.prog zdB=some zkz:=by kernel_rfl
theorem zmw:zf Tryz.prog zgE=some zmj:=by kernel_rfl
theorem znH:zf Tryz.prog zeM=some zne:=by kernel_rfl
theorem zoZ:zf Tryz.prog zhY=some zor:=by kernel_rfl
theorem zqa:zf Tryz.prog ziY=some zpK:=by kernel_rfl
theorem znL:zf Tryz.prog zdh=some znj:=by kernel_rfl
theorem zp8:zf Tryz.prog ziW=some zpI:=by kernel_rfl
theorem zp9:zf Tryz.prog ziX=some zpJ:=by kernel_rfl
theorem zpX:zf Tryz.prog ziM=some zpw:=by kernel_rfl
theorem zuc:zf Tryz.prog zmJ=some ztN:=by kernel_rfl
theorem zds:zf Tryz.prog zbX=some zgq:=by kernel_rfl
theorem zjc:zf Tryz.prog zZ=some zpD:=by kernel_rfl
theorem zkE:zf Tryz.prog zdA=some zky:=by kernel_rfl
theorem zgh:zf Tryz.prog zdV=some zkS:=by kernel_rfl
theorem zgK:zf Tryz.prog zet=some zmk:=by kernel_rfl
theorem zcC:zf Tryz.prog zbq=some zfc:=by kernel_rfl
theorem zkG:zf Tryz.prog zaZ=some zkA:=by kernel_rfl
theorem zkH:zf Tryz.prog za0=some zkB:=by kernel_rfl
theorem zrH:zf Tryz.prog zkm=some zrx:=by kernel_rfl
theorem zlo:zf Tryz.prog zf9=some zkQ:=by kernel_rfl
theorem zgi:zf Tryz.prog zc7=some zf3:=by kernel_rfl
theorem zhC:zf Tryz.prog zdW=some zhl:=by kernel_rfl
theorem zrI:zf Tryz.prog zkn=some zry:=by kernel_rfl
theorem zpY:zf Tryz.prog ziN=some zpx:=by kernel_rfl
theorem znG:zf Tryz.prog zhw=some znd:=by kernel_rfl
theorem znF:zf Tryz.prog zhv=some znc:=by kernel_rfl
theorem zmu:zf Tryz.prog zgC=some zmh:=by kernel_rfl
theorem zkC:zf Tryz.prog zfw=some zkv:=by kernel_rfl
theorem zmv:zf Tryz.prog zgD=some zmi:=by kernel_rfl
theorem zmy:zf Tryz.prog zgF=some zmm:=by kernel_rfl
theorem zmt:zf Tryz.prog zgB=some zmg:=by kernel_rfl
theorem zoV:zf Tryz.prog zfi=some zon:=by kernel_rfl
theorem zo1:zf Tryz.prog zdH=some zot:=by kernel_rfl
theorem zmz:zf Tryz.prog zgG=some zmn:=by kernel_rfl
theorem zjb:zf Tryz.prog zc0=some ziE:=by kernel_rfl
theorem znD:zf Tryz.prog zht=some zna:=by kernel_rfl
theorem zfG:zf Tryz.prog zc1=some zfA:=by kernel_rfl
theorem zeR:zf Tryz.prog zdg=some znf:=by kernel_rfl
theorem zlp:zf Tryz.prog zcw=some zkR:=by kernel_rfl
theorem zta:zf Tryz.prog zla=some zsr:=by kernel_rfl
theorem zja:zf Tryz.prog zbQ=some ziD:=by kernel_rfl
theorem zs9:zf Tryz.prog zk9=some zsq:=by kernel_rfl
theorem zp7:zf Tryz.prog ziV=some zpH:=by kernel_rfl
theorem zkD:zf Tryz.prog zcm=some zkw:=by kernel_rfl
theorem zR:zf Tryz.prog zk=some zkx:=by kernel_rfl
theorem zrJ:zf Tryz.prog zko=some zrz:=by kernel_rfl
theorem zqb:zf Tryz.prog ziZ=some zpL:=by kernel_rfl
theorem zlq:zf Tryz.prog zga=some zkT:=by kernel_rfl
theorem zs8:zf Tryz.prog zk8=some zsp:=by kernel_rfl
theorem zrK:zf Tryz.prog zkp=some zrA:=by kernel_rfl
theorem znC:zf Tryz.prog zhs=some zm9:=by kernel_rfl
theorem zex:zf Tryz.prog zaR=some zes:=by kernel_rfl
theorem zfu:zf Tryz.prog zcQ=some zfs:=by kernel_rfl
theorem zew:zf Tryz.prog zb1=some zer:=by kernel_rfl
theorem zeS:zf Tryz.prog zcc=some zeK:=by kernel_rfl
theorem zeE:zf Tryz.prog zb6=some zeB:=by kernel_rfl
theorem zc5:zf Tryz.prog zbk=some zc4:=by kernel_rfl
theorem zed:zf Tryz.prog zbS=some zd7:=by kernel_rfl
theorem zfm:zf Tryz.prog zcx=some zfd:=by kernel_rfl
theorem zrM:zf Tryz.prog zgs=some zrC:=by kernel_rfl
theorem zo4:zf Tryz.prog zh0=some zow:=by kernel_rfl
theorem zdt:zf Tryz.prog zbx=some zdp:=by kernel_rfl
theorem zo2:zf Tryz.prog zdI=some zou:=by kernel_rfl
theorem znM:zf Tryz.prog zeO=some znk:=by kernel_rfl
theorem zqc:zf Tryz.prog zi0=some zpM:=by kernel_rfl
theorem zp5:zf Tryz.prog ziT=some zpF:=by kernel_rfl
theorem zp4:zf Tryz.prog zfD=some zpE:=by kernel_rfl
theorem zo3:zf Tryz.prog zfj=some zov:=by kernel_rfl
theorem zhN:zf Tryz.prog zem=some zhM:=by kernel_rfl
theorem zgW:zf Tryz.prog zdG=some zgN:=by kernel_rfl
theorem zfv:zf Tryz.prog zby=some zft:=by kernel_rfl
theorem zec:zf Tryz.prog zbR=some zd6:=by kernel_rfl
theorem zgj:zf Tryz.prog zc8=some zf4:=by kernel_rfl
theorem zdL:zf Tryz.prog zbF=some zdK:=by kernel_rfl
theorem zmA:zf Tryz.prog zcS=some zmo:=by kernel_rfl
theorem zub:zf Tryz.prog zmI=some ztM:=by kernel_rfl
theorem zdY:zf Tryz.prog zbK=some zdR:=by kernel_rfl
theorem zgk:zf Tryz.prog zc9=some zf5:=by kernel_rfl
theorem zev:zf Tryz.prog zb0=some zeq:=by kernel_rfl
end Go.Ab
namespace Go.Ab
def zaV (W B:Nat) (cl kN:Nat→Int) (w:Nat):Nat:=((List.range B).filter fun (r:Nat)=>(List.range W).any fun v=>decide (cl v=cl w∧kN v=r∧(r:Int) < kN w)).length
theorem zoI {l:List Nat} (hn:l.Nodup) {k:Nat} (hk:k∈l) (p q:Nat→Bool) (hp:p k=false) (hq:q k=true) (h : ∀ r∈l,r≠k→q r=p r):(l.filter q).length=(l.filter p).length+1:=by
 induction l with
 | nil=>cases hk
 | cons x l ih =>
  rw [List.nodup_cons] at hn
  by_cases e:x=k
  ·subst e
   have:l.filter q=l.filter p:=List.filter_congr fun r hr=>h r (List.mem_cons_of_mem _ hr) fun e=>hn.1 (e▸hr)
   simp [hp,hq,this]
  ·have hk':k∈l:=(List.mem_cons.1 hk).resolve_left fun e'=>e e'.symm
   have:=ih hn.2 hk' fun r hr=>h r (List.mem_cons_of_mem _ hr)
   have hx:=h x (List.mem_cons_self ..) e
   simp only [List.filter_cons,hx]
   split<;>simp [this]
def ltK (cl kN:Nat→Int) (x y:Nat):Prop:=cl x < cl y∨cl x=cl y∧kN x < kN y
structure zeY (W:Nat) (cl kN:Nat→Int) (ws:List Nat):Prop where
 len:ws.length=W
 all : ∀ v,v < W → ∃ j:Nat,ws[j]? = some v
 lt : ∀ (j v:Nat),ws[j]? = some v→v < W
 inj : ∀ (i j v:Nat),ws[i]? = some v→ws[j]? = some v→i=j
 srt : ∀ (i j x y:Nat),i < j→ws[i]? = some x→ws[j]? = some y → ¬ltK cl kN y x
section
variable {W B:Nat} {cl kN:Nat→Int} {ws:List Nat} (h:zeY W cl kN ws)
include h
theorem zeY.first {y:Nat} (hy:ws[0]? = some y):zaV W B cl kN y=0:=by
 refine List.length_eq_zero_iff.2 (List.filter_eq_nil_iff.2 fun r _ hr=>?_)
 obtain ⟨v,hv,e⟩:=List.any_eq_true.1 hr
 obtain ⟨e1,e2,e3⟩:=of_decide_eq_true e
 obtain ⟨j,hj⟩:=h.all v (List.mem_range.1 hv)
 by_cases hj0:j=0
 ·subst hj0;rw [hy] at hj;cases hj;omega
 ·exact h.srt 0 j y v (by omega) hy hj (.inr ⟨e1,by omega⟩)
theorem zeY.back {i x y v:Nat} (hx:ws[i]? = some x) (hy:ws[i+1]? = some y) (hv:v < W) (h1:cl v=cl y) (h2:kN v < kN y):cl x=cl y∧kN v≤kN x:=by
 obtain ⟨j,hj⟩:=h.all v hv
 have hji:j≤i:=by
  refine Classical.byContradiction fun hn=>?_
  by_cases e:j=i+1
  ·subst e;rw [hy] at hj;cases hj;omega
  ·exact h.srt (i+1) j y v (by omega) hy hj (.inr ⟨h1,h2⟩)
 have hyx : ¬ltK cl kN y x:=h.srt i (i+1) x y (by omega) hx hy
 have hxv : ¬ltK cl kN x v:=by
  by_cases e:j=i
  ·subst e;rw [hx] at hj;cases hj;unfold ltK;omega
  ·exact h.srt j i v x (by omega) hj hx
 unfold ltK at hyx hxv
 omega
theorem zeY.other {i x y:Nat} (hx:ws[i]? = some x) (hy:ws[i+1]? = some y) (hc:cl x≠cl y):zaV W B cl kN y=0:=by
 refine List.length_eq_zero_iff.2 (List.filter_eq_nil_iff.2 fun r _ hr=>?_)
 obtain ⟨v,hv,e⟩:=List.any_eq_true.1 hr
 obtain ⟨e1,e2,e3⟩:=of_decide_eq_true e
 exact hc (h.back hx hy (List.mem_range.1 hv) e1 (by omega)).1
theorem zeY.same {x y:Nat} (hc:cl x=cl y) (hk:kN x=kN y):zaV W B cl kN y=zaV W B cl kN x:=by
 unfold zaV;rw [hc,hk]
theorem zeY.next {i x y:Nat} (hx:ws[i]? = some x) (hy:ws[i+1]? = some y) (hc:cl x=cl y) (hk:kN x≠kN y) (h0:0≤kN x) (hB:kN x < B):zaV W B cl kN y=zaV W B cl kN x+1:=by
 have hyx : ¬ltK cl kN y x:=h.srt i (i+1) x y (by omega) hx hy
 have hlt:kN x < kN y:=by unfold ltK at hyx;omega
 refine zoI List.nodup_range (k:=(kN x).toNat) (List.mem_range.2 (by omega)) _ _ ?_ ?_ ?_
 ·refine List.any_eq_false.2 fun v hv=>?_
  rw [decide_eq_true_eq];omega
 ·exact List.any_eq_true.2 ⟨x,List.mem_range.2 (h.lt i x hx),decide_eq_true ⟨hc,by omega,by omega⟩⟩
 ·intro r hr hne
  refine Bool.eq_iff_iff.2 ?_
  rw [List.any_eq_true,List.any_eq_true]
  constructor
  ·rintro ⟨v,hv,e⟩
   obtain ⟨e1,e2,e3⟩:=of_decide_eq_true e
   have:=(h.back hx hy (List.mem_range.1 hv) e1 (by omega)).2
   exact ⟨v,hv,decide_eq_true ⟨by omega,e2,by omega⟩⟩
  ·rintro ⟨v,hv,e⟩
   obtain ⟨e1,e2,e3⟩:=of_decide_eq_true e
   exact ⟨v,hv,decide_eq_true ⟨by omega,e2,by omega⟩⟩
end
end Go.Ab
namespace Go.Ab
theorem zoH {k:Nat} (p q:Nat→Bool) (hp:p k=false) (hq:q k=true) : ∀ {l:List Nat},(∀ r,p r=true→q r=true)→k∈l→(l.filter p).length < (l.filter q).length
 | [],_,h=>by cases h
 | x::l,hpq,h=>by
  have mono : ∀ l:List Nat,(l.filter p).length≤(l.filter q).length:=by
   intro l
   induction l with
   | nil=>simp
   | cons y l ih =>
    simp only [List.filter_cons]
    cases hy:p y
    ·cases q y<;>simp<;>omega
    ·rw [hpq y hy];simpa using ih
  by_cases e:x=k
  ·subst e
   have:=mono l
   simp [hp,hq];omega
  ·have ih:=zoH p q hp hq hpq ((List.mem_cons.1 h).resolve_left fun e'=>e e'.symm)
   simp only [List.filter_cons]
   cases hx:p x
   ·cases q x<;>simp<;>omega
   ·rw [hpq x hx];simpa using ih
theorem zwO {K:Nat→Prop} {f:Nat→Int} : ∀ W,(∃ u,u < W∧K u) → ∃ u,u < W∧K u ∧ ∀ v,v < W→K v→f v≤f u
 | 0,⟨u,h,_⟩=>by omega
 | W+1,⟨u,h,hk⟩=>by
  by_cases hW : ∃ u,u < W∧K u
  ·obtain ⟨m,h1,h2,h3⟩:=zwO (f:=f) W hW
   by_cases hl:K W∧f m < f W
   ·refine ⟨W,by omega,hl.1,fun v hv hkv=>?_⟩
    by_cases e:v=W
    ·subst e;exact Int.le_refl _
    ·have:=h3 v (by omega) hkv;omega
   ·refine ⟨m,by omega,h2,fun v hv hkv=>?_⟩
    by_cases e:v=W
    ·subst e
     refine Classical.byContradiction fun hn=>hl ⟨hkv,by omega⟩
    ·exact h3 v (by omega) hkv
  ·have e:u=W:=Classical.byContradiction fun hn=>hW ⟨u,by omega,hk⟩
   subst e
   refine ⟨u,by omega,hk,fun v hv hkv=>?_⟩
   have e:v=u:=Classical.byContradiction fun hn=>hW ⟨v,by omega,hkv⟩
   subst e;exact Int.le_refl _
section
variable {W B:Nat} {cl kN:Nat→Int}
theorem zoB {w v:Nat} (hc:cl w=cl v) (hk:kN w < kN v) (hw:w < W) (h0:0≤kN w) (hB:kN w < B):zaV W B cl kN w < zaV W B cl kN v:=by
 refine zoH (k:=(kN w).toNat) _ _ ?_ ?_ ?_ (List.mem_range.2 (by omega))
 ·refine List.any_eq_false.2 fun x hx=>?_
  rw [decide_eq_true_eq];omega
 ·exact List.any_eq_true.2 ⟨w,List.mem_range.2 hw,decide_eq_true ⟨hc,by omega,by omega⟩⟩
 ·intro r hr
  obtain ⟨x,hx,e⟩:=List.any_eq_true.1 hr
  obtain ⟨e1,e2,e3⟩:=of_decide_eq_true e
  exact List.any_eq_true.2 ⟨x,hx,decide_eq_true ⟨by omega,e2,by omega⟩⟩
theorem zx1 {w v:Nat} (hc:cl w=cl v) (hk:kN w=kN v):zaV W B cl kN w=zaV W B cl kN v:=by
 unfold zaV;rw [hc,hk]
theorem zx2 {w v:Nat} (hc:cl w=cl v) (hw:w < W) (hv:v < W) (hB : ∀ v,v < W→0≤kN v∧kN v < B):zaV W B cl kN w≤zaV W B cl kN v↔kN w≤kN v:=by
 rcases Int.lt_trichotomy (kN w) (kN v) with h|h|h
 ·have:=zoB (B:=B) hc h hw (hB w hw).1 (hB w hw).2;omega
 ·have:=zx1 (W:=W) (B:=B) hc h;omega
 ·have:=zoB (B:=B) hc.symm h hv (hB v hv).1 (hB v hv).2;omega
theorem zvc {w:Nat} (hw:w < W) (h:zaV W B cl kN w≠0) (hB : ∀ v,v < W→0≤kN v∧kN v < B) : ∃ v,v < W∧cl v=cl w∧zaV W B cl kN v+1=zaV W B cl kN w:=by
 have hex : ∃ u,u < W∧(cl u=cl w∧kN u < kN w):=by
  refine Classical.byContradiction fun hn=>h (List.length_eq_zero_iff.2 (List.filter_eq_nil_iff.2 fun r _ hr=>hn ?_))
  obtain ⟨x,hx,e⟩:=List.any_eq_true.1 hr
  obtain ⟨e1,e2,e3⟩:=of_decide_eq_true e
  exact ⟨x,List.mem_range.1 hx,e1,by omega⟩
 obtain ⟨u,h1,⟨h2,h3⟩,h4⟩:=zwO (f:=kN) W hex
 refine ⟨u,h1,h2,(zoI List.nodup_range (k:=(kN u).toNat) (List.mem_range.2 (by have:=hB u h1;omega)) _ _ ?_ ?_ ?_).symm⟩
 ·refine List.any_eq_false.2 fun x hx=>?_
  have:=hB u h1
  rw [decide_eq_true_eq];omega
 ·have:=hB u h1
  exact List.any_eq_true.2 ⟨u,List.mem_range.2 h1,decide_eq_true ⟨h2,by omega,by omega⟩⟩
 ·intro r hr hne
  refine Bool.eq_iff_iff.2 ?_
  rw [List.any_eq_true,List.any_eq_true]
  constructor
  ·rintro ⟨v,hv,e⟩
   obtain ⟨e1,e2,e3⟩:=of_decide_eq_true e
   have:=h4 v (List.mem_range.1 hv) ⟨e1,by omega⟩
   exact ⟨v,hv,decide_eq_true ⟨by omega,e2,by omega⟩⟩
  ·rintro ⟨v,hv,e⟩
   obtain ⟨e1,e2,e3⟩:=of_decide_eq_true e
   exact ⟨v,hv,decide_eq_true ⟨by omega,e2,by omega⟩⟩
theorem ztV {w:Nat} : zaV W B cl kN w≤B:=by
 refine Nat.le_trans (List.length_filter_le _ _) ?_
 simp
end
end Go.Ab
namespace Go.Ab
open Go Go.Proofs
set_option maxRecDepth 10000
set_option maxHeartbeats 4000000
variable {T:Nat→Obj→Prop}
def zU (n:Int):BitVec 64:=if n ≥ 64 then -1 else (1#64 <<< n.toNat) - 1#64
theorem zs0 (n:Int) (h:0≤n):Fn Tryz.prog T zmJ [.d (.int .i64 n)] [] (.d (.u64 (zU n))) []:=by
 refine zb zn zuc (by show 1≤8;decide) ?_
 (repeat' ((conv=>whnf);first|refine vA ?_|(refine vF ?_ ?_<;>intro hc<;>try simp only [vL] at hc)|refine vT ?_|(refine vP ?_ ?_;·omega)|refine vY ?_));all_goals try conv=>whnf
 ·simp [zU, *]
 ·rw [zU,if_neg (by omega)];rfl
theorem zh3 (n:Int) (h:0≤n):Fn Tryz.prog T zi0 [.d (.int .i64 n)] [] (.d (.u64 (zU n))) []:=by
 refine zb zn zqc (by show 1≤8;decide) ?_
 (repeat' ((conv=>whnf);first|refine vA ?_|(refine vF ?_ ?_<;>intro hc<;>try simp only [vL] at hc)|refine vT ?_|(refine vP ?_ ?_;·omega)|refine vY ?_));all_goals try conv=>whnf
 ·simp [zU, *]
 ·rw [zU,if_neg (by omega)];rfl
def bad (n:Int) (s:BitVec 64):Bool:=s &&& ~~~ (zU n)≠0
def zbC (worlds agents:Int) (val:List (BitVec 64)):Int :=
 if worlds < 1∨64 < worlds then 2 else if 8 < val.length∨4 < agents then 8 else if val.any (bad worlds) then 3 else 0
theorem zpU (worlds agents:Int) (val:List (BitVec 64)):Fn Tryz.prog T zkq [.d (.int .i64 worlds),.d (.int .i64 agents),.d (dU val)] [] (.d (.int .i64 (zbC worlds agents val))) []:=by
 refine zb zn zrN (by show 3≤34;decide) ?_
 (repeat' ((conv=>whnf);first|refine vA ?_|(refine vF ?_ ?_<;>intro hc<;>try simp only [vL] at hc)|refine vJ fun hg=>?_|refine vT ?_|refine vX ?_));all_goals try conv=>whnf
 ·simp [zbC, *]
 ·simp [zbC, *]
 ·rw [zbC,if_neg (by omega),if_pos (by omega)]
 ·rw [zbC,if_neg (by omega),if_pos (by omega)]
 ·refine zaN (fun (k:Nat)=>[(0,.d (.int .i64 (worlds))),(22,.d (dU val)),(23,.d (.int .i64 ((val.map D.u64).length:Int))),(24,.d (.int .i64 ((k:Int))))]) (fun (k:Nat)=>k≤val.length∧val.any (bad worlds)=(val.drop k).any (bad worlds)) (fun (k:Nat)=>val.length - k) (0) (⟨by simp,by simp⟩) (by (repeat' first|exact trivial|exact rfl|refine And.intro ?_ ?_)) ?_
  rintro k ⟨hk,hI⟩
  (repeat' ((conv=>whnf);first|refine vA ?_|((first|refine vD ?_ ?_|refine vF ?_ ?_)<;>intro hc<;>try simp only [vL] at hc)|refine vT ?_|(refine vQ ?_ fun x hx=>?_;·omega)|(refine vO ?_ ?_;·omega)|refine vX ?_|(refine yD (zs0 _ ?_) ⟨⟨rfl,rfl⟩,rfl⟩ rfl ?_;(·omega))|fail));all_goals try conv=>whnf
  ·have hb:bad worlds x=true:=by simpa [bad] using hc
   rw [zbC,if_neg (by omega),if_neg (by omega),hI,zbw hx];simp [hb]
  ·have hb:bad worlds x=false:=by simpa [bad] using hc
   exact ⟨k+1,[],[],⟨by (omega),by rw [hI,zbw hx];simp [hb]⟩,by (omega),by (refine ⟨rfl,rfl,rfl,?_,?_⟩;repeat' first|exact trivial|exact rfl|refine And.intro ?_ ?_)⟩
  ·rw [zbC,if_neg (by omega),if_neg (by omega),hI,List.drop_eq_nil_of_le (by omega)];simp
structure PM where
 W:Int
 val:List (BitVec 64)
 cell:List (List Int)
 rank:List (List Int)
 deriving DecidableEq
abbrev dPM (p:PM):D := .agg [.int .i64 p.W,dU p.val,dII p.cell,dII p.rank]
theorem zus (s:BitVec 64) (n:Nat):(s >>> n)&&&1#64=1#64↔s.getLsbD n=true:=by
 constructor
 ·intro h
  have:=congrArg (fun x=>x.getLsbD 0) h
  simpa using this
 ·intro h
  apply BitVec.eq_of_getLsbD_eq
  intro i hi
  by_cases h0:i=0
  ·subst h0;simpa using h
  ·simp [h0]
theorem zsj (s:BitVec 64) (n:Nat):(s >>> n)&&&1#64=0#64↔s.getLsbD n=false:=by
 constructor
 ·intro h
  have:=congrArg (fun x=>x.getLsbD 0) h
  simpa using this
 ·intro h
  apply BitVec.eq_of_getLsbD_eq
  intro i hi
  by_cases h0:i=0
  ·subst h0;simpa using h
  ·simp [h0]
@[irreducible] def bit (s:BitVec 64) (i:Nat):Bool:=s.getLsbD i
def at0 (l:List Int) (i:Nat):Int:=l.getD i 0
theorem zah {l:List Int} {i:Nat} {x:Int} (h:l[i]? = some x):at0 l i=x:=by simp [at0,List.getD,h]
theorem zi8 {l:List Int} {i:Nat} (h:i < l.length):l[i]? = some (at0 l i):=by simp [at0,List.getD,h]
abbrev zy6 (cell:List Int):Prop := ∀ w,w < cell.length→0≤at0 cell w∧at0 cell w≤w∧at0 cell (at0 cell w).toNat=at0 cell w
abbrev zob (cell rank:List Int):Prop := ∀ w,w < cell.length→0≤at0 rank w∧(at0 rank w=0 ∨ ∃ v,v < cell.length∧at0 cell v=at0 cell w∧at0 rank v=at0 rank w - 1)
end Go.Ab
namespace Go.Ab
open Go Go.Proofs
set_option maxRecDepth 10000
set_option maxHeartbeats 4000000
variable {T:Nat→Obj→Prop}
def zP (f:Nat→Bool):Nat→BitVec 64
 | 0=>0#64
 | k+1=>if f k then zP f k|||1#64 <<< k else zP f k
theorem zpu (k i:Nat):(1#64 <<< k).getLsbD i=(decide (i < 64)&&decide (i=k)):=by
 rw [BitVec.getLsbD_shiftLeft]
 by_cases h:i < 64
 ·by_cases h1:i < k
  ·simp [h,h1];omega
  ·by_cases h2:i=k
   ·subst h2;simp [h]
   ·have:i - k≠0:=by omega
    simp [h,h1,h2,this]
 ·simp [h]
theorem zgn (f:Nat→Bool) : ∀ (n i:Nat),(zP f n).getLsbD i=(decide (i < 64)&&decide (i < n)&&f i)
 | 0,i=>by simp [zP]
 | n+1,i=>by
  have ih:=zgn f n i
  unfold zP
  split
  ·rename_i h
   rw [BitVec.getLsbD_or,ih,zpu]
   by_cases h1:i=n
   ·subst h1;simp [h]
   ·by_cases h2:i < n
    ·simp [h1,h2,show i < n+1 by omega]
    ·simp [h1,h2,show ¬ i < n+1 by omega]
  ·rename_i h
   rw [ih]
   by_cases h1:i=n
   ·subst h1;simp [h]
   ·by_cases h2:i < n
    ·simp [h2,show i < n+1 by omega]
    ·simp [h2,show ¬ i < n+1 by omega]
def zb9 (row:List Int) (w:Nat):BitVec 64:=zP (fun v=>at0 row v==at0 row w) row.length
theorem zle (p:PM) (a w:Int) (row:List Int) (ha:0≤a) (hr:p.cell[a.toNat]? = some row) (hw:0≤w) (hw':w < row.length):Fn Tryz.prog T ziX [.d (dPM p),.d (.int .i64 a),.d (.int .i64 w)] [] (.d (.u64 (zb9 row w.toNat))) []:=by
 refine zb zn zp9 (by show 3≤37;decide) ?_
 (repeat' ((conv=>whnf);first|refine vA ?_|refine vJ fun hg=>?_|refine vT ?_|(refine vR ?_ ‹_› ?_;·omega)|fail));all_goals try conv=>whnf
 refine zt (fun ((k,s):Nat×BitVec 64)=>[(1,.d (.int .i64 (a))),(2,.d (.int .i64 (w))),(3,.ptr 0 0),(14,.d (dI row)),(15,.d (.int .i64 ((row.map (D.int .i64)).length:Int))),(7,.d (.u64 (s))),(16,.d (.int .i64 ((k:Int))))]) (fun ((k,s):Nat×BitVec 64)=>[(0,some (.box [.d (.int .i64 p.W),.d (dU p.val),.d (dII p.cell),.d (dII p.rank)]))]) 1 (fun ((k,s):Nat×BitVec 64)=>k≤row.length∧s=zP (fun v=>at0 row v==at0 row w.toNat) k) (fun ((k,s):Nat×BitVec 64)=>row.length - k) ((0,0#64)) [(0,0)] [] (⟨by simp,rfl⟩) (by (refine ⟨rfl,rfl,rfl,?_,?_⟩;repeat' first|exact trivial|exact rfl|refine And.intro ?_ ?_|refine ⟨_,rfl,?_⟩|decide)) ?_
 rintro ⟨k,s⟩ ⟨hk,hI⟩
 (repeat' ((conv=>whnf);first|refine vA ?_|(refine vF ?_ ?_<;>intro hc<;>try simp only [vL] at hc)|refine vT ?_|(refine vQ ?_ fun x hx=>?_;·omega)|((first|refine vO ?_ ?_|refine vR ?_ ‹_› ?_|refine vS ?_ fun x hx=>?_|refine vP ?_ ?_);·omega)|refine vY ?_));all_goals try conv=>whnf
 ·have h1:=zah ‹row[k]? = some _›
  have h2:=zah hx
  refine ⟨(k+1,_),[(0,0)],[],?_,?_,by (refine ⟨rfl,rfl,rfl,?_,?_⟩;repeat' first|exact trivial|exact rfl|refine And.intro ?_ ?_|refine ⟨_,rfl,?_⟩|decide)⟩
  ·exact ⟨by (omega),by rw [zP,if_pos (by simp;omega),hI];rfl⟩
  ·((simp only [vM] at *;omega))
 ·have h1:=zah ‹row[k]? = some _›
  have h2:=zah hx
  exact ⟨(k+1,s),[(0,0)],[],⟨by (omega),by rw [zP,if_neg (by simp;omega),hI]⟩,by ((simp only [vM] at *;omega)),by (refine ⟨rfl,rfl,rfl,?_,?_⟩;repeat' first|exact trivial|exact rfl|refine And.intro ?_ ?_|refine ⟨_,rfl,?_⟩|decide)⟩
 ·rw [hI,show k=row.length by omega];rfl
def zbT (rank:List Int) (s:BitVec 64) (n v:Nat):Bool:=s.getLsbD v&&decide (∀ u,u < n→s.getLsbD u=true→at0 rank v≤at0 rank u)
def zdw (rank:List Int) (s:BitVec 64):BitVec 64:=zP (zbT rank s rank.length) rank.length
theorem zjL {s:BitVec 64} {n:Nat} (h : ¬(s >>> n)&&&1#64=0#64):s.getLsbD n=true:=by
 rw [zsj] at h;simpa using h
theorem zue {rank:List Int} {s:BitVec 64} {n v:Nat} : zbT rank s n v=true↔s.getLsbD v=true ∧ ∀ u,u < n→s.getLsbD u=true→at0 rank v≤at0 rank u:=by
 simp [zbT]
theorem zbW {rank:List Int} {s:BitVec 64} {n i:Nat} : (zP (zbT rank s n) n).getLsbD i=true↔i < n∧s.getLsbD i=true ∧ ∀ u,u < n→s.getLsbD u=true→at0 rank i≤at0 rank u:=by
 rw [zgn]
 simp only [Bool.and_eq_true,decide_eq_true_eq,zue]
 constructor
 ·rintro ⟨⟨_,h1⟩,h2⟩;exact ⟨h1,h2⟩
 ·rintro ⟨h1,h2⟩;exact ⟨⟨by have:=BitVec.lt_of_getLsbD h2.1;exact this,h1⟩,h2⟩
theorem zhj {x y:BitVec 64} (h : ∀ i,i < 64→(x.getLsbD i=true↔y.getLsbD i=true)):x=y :=
 BitVec.eq_of_getLsbD_eq fun i hi=>Bool.eq_iff_iff.2 (h i hi)
def zgL (rank:List Int) (s:BitVec 64) (k:Nat) (m:Int):Prop:=(∃ v,v < k∧s.getLsbD v=true)→(∃ v,v < k∧s.getLsbD v=true∧at0 rank v=m) ∧ ∀ v,v < k→s.getLsbD v=true→m≤at0 rank v
theorem zhR {rank:List Int} {s:BitVec 64} {k:Nat} {m:Int} (hM:zgL rank s k m):zP (zbT rank s k) k=0#64 ↔ ¬∃ v,v < k∧s.getLsbD v=true:=by
 constructor
 ·intro h hv
  obtain ⟨⟨v,h1,h2,h3⟩,h4⟩:=hM hv
  have:(zP (zbT rank s k) k).getLsbD v=true:=zbW.2 ⟨h1,h2,fun u hu hs=>by rw [h3];exact h4 u hu hs⟩
  rw [h] at this;simp at this
 ·intro h
  refine zhj fun i hi=>⟨fun hb=>?_,fun hb=>by simp at hb⟩
  exact absurd ⟨i,(zbW.1 hb).1,(zbW.1 hb).2.1⟩ h
theorem zv8 {rank:List Int} {s:BitVec 64} {k:Nat} (hs:s.getLsbD k=false):zP (zbT rank s (k+1)) (k+1)=zP (zbT rank s k) k:=by
 refine zhj fun i hi=>?_
 rw [zbW,zbW]
 constructor
 ·rintro ⟨h1,h2,h3⟩
  have:i≠k:=fun e=>by rw [e,hs] at h2;cases h2
  exact ⟨by omega,h2,fun u hu=>h3 u (by omega)⟩
 ·rintro ⟨h1,h2,h3⟩
  refine ⟨by omega,h2,fun u hu hsu=>?_⟩
  have:u≠k:=fun e=>by rw [e,hs] at hsu;cases hsu
  exact h3 u (by omega) hsu
theorem zvw {rank:List Int} {s:BitVec 64} {k:Nat} {m:Int} (hM:zgL rank s k m) (hs:s.getLsbD k=false):zgL rank s (k+1) m:=by
 have key : ∀ v,v < k+1→s.getLsbD v=true→v < k:=fun v hv h=>by
  have:v≠k:=fun e=>by rw [e,hs] at h;cases h
  omega
 rintro ⟨v,h1,h2⟩
 obtain ⟨⟨u,h3,h4⟩,h5⟩:=hM ⟨v,key v h1 h2,h2⟩
 exact ⟨⟨u,by omega,h4⟩,fun v hv h=>h5 v (key v hv h) h⟩
theorem zsg {rank:List Int} {s:BitVec 64} {k:Nat} (hk:k < 64) (hs:s.getLsbD k=true) (h : ∀ v,v < k→s.getLsbD v=true→at0 rank k < at0 rank v):zP (zbT rank s (k+1)) (k+1)=1#64 <<< k:=by
 refine zhj fun i hi=>?_
 rw [zbW,zpu]
 simp only [Bool.and_eq_true,decide_eq_true_eq]
 constructor
 ·rintro ⟨h1,h2,h3⟩
  refine ⟨hi,?_⟩
  by_cases e:i=k
  ·exact e
  ·have:=h i (by omega) h2
   have:=h3 k (by omega) hs
   omega
 ·rintro ⟨_,rfl⟩
  refine ⟨by omega,hs,fun u hu hsu=>?_⟩
  by_cases e:u=i
  ·rw [e];omega
  ·have:=h u (by omega) hsu;omega
theorem zq6 {rank:List Int} {s:BitVec 64} {k:Nat} (hs:s.getLsbD k=true) (h : ∀ v,v < k→s.getLsbD v=true→at0 rank k < at0 rank v):zgL rank s (k+1) (at0 rank k):=by
 rintro _
 refine ⟨⟨k,by omega,hs,rfl⟩,fun v hv hsv=>?_⟩
 by_cases e:v=k
 ·rw [e];omega
 ·have:=h v (by omega) hsv;omega
theorem zv6 {rank:List Int} {s:BitVec 64} {k:Nat} {m:Int} (hk:k < 64) (hs:s.getLsbD k=true) (hM:zgL rank s k m) (hv : ∃ v,v < k∧s.getLsbD v=true) (e:at0 rank k=m) :
  zP (zbT rank s (k+1)) (k+1)=zP (zbT rank s k) k|||1#64 <<< k:=by
 obtain ⟨⟨w,w1,w2,w3⟩,w4⟩:=hM hv
 refine zhj fun i hi=>?_
 rw [BitVec.getLsbD_or,Bool.or_eq_true,zbW,zbW,zpu]
 simp only [Bool.and_eq_true,decide_eq_true_eq]
 constructor
 ·rintro ⟨h1,h2,h3⟩
  by_cases e:i=k
  ·exact .inr ⟨hi,e⟩
  ·exact .inl ⟨by omega,h2,fun u hu=>h3 u (by omega)⟩
 ·rintro (⟨h1,h2,h3⟩|⟨_,rfl⟩)
  ·refine ⟨by omega,h2,fun u hu hsu=>?_⟩
   by_cases e':u=k
   ·rw [e',e,← w3];exact h3 w w1 w2
   ·exact h3 u (by omega) hsu
  ·refine ⟨by omega,hs,fun u hu hsu=>?_⟩
   by_cases e':u=i
   ·rw [e'];omega
   ·have:=w4 u (by omega) hsu;omega
theorem zo5 {rank:List Int} {s:BitVec 64} {k:Nat} {m:Int} (hM:zgL rank s k m) (hv : ∃ v,v < k∧s.getLsbD v=true) (e:m≤at0 rank k):zgL rank s (k+1) m:=by
 obtain ⟨⟨w,w1,w2⟩,w4⟩:=hM hv
 refine fun _=>⟨⟨w,by omega,w2⟩,fun v hv hsv=>?_⟩
 by_cases e':v=k
 ·rw [e'];exact e
 ·exact w4 v (by omega) hsv
theorem zv7 {rank:List Int} {s:BitVec 64} {k:Nat} {m:Int} (hs:s.getLsbD k=true) (hM:zgL rank s k m) (hv : ∃ v,v < k∧s.getLsbD v=true) (e:m < at0 rank k) :
  zP (zbT rank s (k+1)) (k+1)=zP (zbT rank s k) k:=by
 obtain ⟨⟨w,w1,w2,w3⟩,w4⟩:=hM hv
 refine zhj fun i hi=>?_
 rw [zbW,zbW]
 constructor
 ·rintro ⟨h1,h2,h3⟩
  have:i≠k:=fun e'=>by have:=h3 w (by omega) w2;rw [e'] at this;omega
  exact ⟨by omega,h2,fun u hu=>h3 u (by omega)⟩
 ·rintro ⟨h1,h2,h3⟩
  refine ⟨by omega,h2,fun u hu hsu=>?_⟩
  by_cases e':u=k
  ·have:=h3 w w1 w2;rw [e'];omega
  ·exact h3 u (by omega) hsu
theorem zqS (rank:List Int) (s:BitVec 64) (hl:rank.length≤64):Fn Tryz.prog T ziW [.d (dI rank),.d (.u64 s)] [] (.d (.u64 (zdw rank s))) []:=by
 refine zb zn zp8 (by show 2≤43;decide) ?_
 (repeat' ((conv=>whnf);first|refine vA ?_|refine vJ fun hg=>?_|refine vT ?_));all_goals try conv=>whnf
 refine zaN (fun ((k,o,m):Nat×BitVec 64×Int)=>[(1,.d (.u64 (s))),(9,.d (dI rank)),(10,.d (.int .i64 ((rank.map (D.int .i64)).length:Int))),(5,.d (.u64 (o))),(6,.d (.int .i64 (m))),(11,.d (.int .i64 ((k:Int))))]) (fun ((k,o,m):Nat×BitVec 64×Int)=>k≤rank.length∧o=zP (zbT rank s k) k∧zgL rank s k m) (fun ((k,o,m):Nat×BitVec 64×Int)=>rank.length - k) ((0,0#64,0)) (⟨by simp,rfl,fun ⟨v,h,_⟩=>by omega⟩) (by (repeat' first|exact trivial|exact rfl|refine And.intro ?_ ?_)) ?_
 rintro ⟨k,o,m⟩ ⟨hk,hI,hM⟩
 (repeat' ((conv=>whnf);first|refine vA ?_|(refine vF ?_ ?_<;>intro hc<;>try simp only [vL] at hc)|refine vT ?_|(refine vQ ?_ fun x hx=>?_;·omega)|((first|refine vO ?_ ?_|refine vP ?_ ?_);·omega)|refine vY ?_));all_goals try conv=>whnf
 ·have hb:=(zsj s k).1 hc
  exact ⟨(k+1,o,m),[],[],⟨by (omega),by rw [zv8 hb,hI],zvw hM hb⟩,by ((simp only [vM] at *;omega)),by (refine ⟨rfl,rfl,rfl,?_,?_⟩;repeat' first|exact trivial|exact rfl|refine And.intro ?_ ?_)⟩
 ·have hb:s.getLsbD k=true:=zjL ‹¬s >>> (k:Int).toNat&&&1=0›
  have h0:=zah hx
  subst h0
  have hn:=(zhR hM).1 (hI▸hc)
  have hn' : ∀ v,v < k→s.getLsbD v=true→at0 rank k < at0 rank v:=fun v h1 h2=>absurd ⟨v,h1,h2⟩ hn
  exact ⟨(k+1,1#64 <<< k,at0 rank k),[],[],⟨by (omega),(zsg (by omega) hb hn').symm,zq6 hb hn'⟩,by ((simp only [vM] at *;omega)),by (refine ⟨rfl,rfl,rfl,?_,?_⟩;repeat' first|exact trivial|exact rfl|refine And.intro ?_ ?_)⟩
 ·have hb:s.getLsbD k=true:=zjL ‹¬s >>> (k:Int).toNat&&&1=0›
  have h0:=zah hx
  subst h0
  have hn:=Classical.not_not.1 (fun h=>‹¬o=0› (hI.trans ((zhR hM).2 h)))
  have hn' : ∀ v,v < k→s.getLsbD v=true→at0 rank k < at0 rank v:=fun v h1 h2=>by have:=(hM hn).2 v h1 h2;omega
  exact ⟨(k+1,1#64 <<< k,at0 rank k),[],[],⟨by (omega),(zsg (by omega) hb hn').symm,zq6 hb hn'⟩,by ((simp only [vM] at *;omega)),by (refine ⟨rfl,rfl,rfl,?_,?_⟩;repeat' first|exact trivial|exact rfl|refine And.intro ?_ ?_)⟩
 ·have hb:s.getLsbD k=true:=zjL ‹¬s >>> (k:Int).toNat&&&1=0›
  have h0:=zah hx
  subst h0
  have hn:=Classical.not_not.1 (fun h=>‹¬o=0› (hI.trans ((zhR hM).2 h)))
  exact ⟨(k+1,o|||1#64 <<< k,m),[],[],⟨by (omega),by rw [zv6 (by omega) hb hM hn hc,hI],zo5 hM hn (by omega)⟩,by ((simp only [vM] at *;omega)),by (refine ⟨rfl,rfl,rfl,?_,?_⟩;repeat' first|exact trivial|exact rfl|refine And.intro ?_ ?_)⟩
 ·have hb:s.getLsbD k=true:=zjL ‹¬s >>> (k:Int).toNat&&&1=0›
  have h0:=zah hx
  subst h0
  have hn:=Classical.not_not.1 (fun h=>‹¬o=0› (hI.trans ((zhR hM).2 h)))
  exact ⟨(k+1,o,m),[],[],⟨by (omega),by rw [zv7 hb hM hn (by omega),hI],zo5 hM hn (by omega)⟩,by ((simp only [vM] at *;omega)),by (refine ⟨rfl,rfl,rfl,?_,?_⟩;repeat' first|exact trivial|exact rfl|refine And.intro ?_ ?_)⟩
 ·rw [hI,show k=rank.length by omega];rfl
end Go.Ab
namespace Go.Ab
open Go Go.Proofs
set_option maxRecDepth 10000
set_option maxHeartbeats 4000000
variable {T:Nat→Obj→Prop}
def ze (l:List (List Int)) (a:Nat):List Int:=l.getD a []
theorem zbZ {l:List (List Int)} {i:Nat} {x:List Int} (h:l[i]? = some x):ze l i=x:=by simp [ze,List.getD,h]
theorem zge {l:List (List Int)} {i:Nat} (h:i < l.length):l[i]? = some (ze l i):=by simp [ze,List.getD,h]
abbrev zm4 (p:PM):Prop := ∀ a,a < p.cell.length→((ze p.cell a).length:Int)=p.W∧((ze p.rank a).length:Int)=p.W
abbrev zfx (p:PM):Prop := ∀ a,a < p.cell.length→zy6 (ze p.cell a)
abbrev zhO (p:PM):Prop := ∀ a,a < p.cell.length→zob (ze p.cell a) (ze p.rank a)
def zy (p:PM):Int :=
 if zbC p.W p.cell.length p.val≠0 then zbC p.W p.cell.length p.val
 else if p.rank.length≠p.cell.length then 3
 else if ¬zm4 p then 3
 else if ¬zfx p then 1
 else if ¬zhO p then 9
 else 0
structure zr8 (p:PM):Prop where
 w1:1≤p.W
 w2:p.W≤64
 val : ∀ s∈p.val,bad p.W s=false
 n4:p.cell.length≤4
 v8:p.val.length≤8
 len:p.rank.length=p.cell.length
 lens:zm4 p
 cells:zfx p
 ranked:zhO p
theorem zrm {W n:Int} {val:List (BitVec 64)} (h:zbC W n val=0):1≤W∧W≤64∧val.length≤8∧n≤4 ∧ ∀ s∈val,bad W s=false:=by
 unfold zbC at h
 split at h
 ·cases h
 ·split at h
  ·cases h
  ·split at h
   ·cases h
   ·rename_i h1 h2 h3
    refine ⟨by omega,by omega,by omega,by omega,fun s hs=>?_⟩
    simp only [List.any_eq_true,not_exists,not_and] at h3
    simpa using h3 s hs
theorem zA {p:PM} (h:zy p=0):zr8 p:=by
 unfold zy at h
 split at h
 ·rename_i h0;exact absurd h h0
 ·rename_i h0
  obtain ⟨a1,a2,a3,a4,a5⟩:=zrm (Classical.not_not.1 h0)
  split at h
  ·cases h
  ·split at h
   ·cases h
   ·split at h
    ·cases h
    ·split at h
     ·cases h
     ·rename_i h1 h2 h3 h4
      exact ⟨a1,a2,a5,by omega,a3,Classical.not_not.1 h1,Classical.not_not.1 h2,Classical.not_not.1 h3,Classical.not_not.1 h4⟩
def za2 (l:List (List Int)):Prop := ∀ r∈l,∀ x∈r,inR .i64 x
abbrev zck (p:PM):Ob := .box [.d (.int .i64 p.W),.d (dU p.val),.d (dII p.cell),.d (dII p.rank)]
theorem zsw {p:PM} (h0:zbC p.W p.cell.length p.val=0) (h1:p.rank.length=p.cell.length) (h : ¬zm4 p):zy p=3:=by
 rw [zy,if_neg (by omega),if_neg (by omega),if_pos h]
theorem zsv {p:PM} (h0:zbC p.W p.cell.length p.val=0) (h1:p.rank.length=p.cell.length) (h2:zm4 p) (h : ¬zfx p):zy p=1:=by
 rw [zy,if_neg (by omega),if_neg (by omega),if_neg (not_not_intro h2),if_pos h]
theorem zxX {p:PM} (h0:zbC p.W p.cell.length p.val=0) (h1:p.rank.length=p.cell.length) (h2:zm4 p) (h3:zfx p) (h : ¬zhO p):zy p=9:=by
 rw [zy,if_neg (by omega),if_neg (by omega),if_neg (not_not_intro h2),if_neg (not_not_intro h3),if_pos h]
theorem zsu {p:PM} (h0:zbC p.W p.cell.length p.val=0) (h1:p.rank.length=p.cell.length) (h2:zm4 p) (h3:zfx p) (h4:zhO p):zy p=0:=by
 rw [zy,if_neg (by omega),if_neg (by omega),if_neg (not_not_intro h2),if_neg (not_not_intro h3),if_neg (not_not_intro h4)]
theorem zms (n:Int) (r:List (BitVec 64)):Fn Tryz.prog T zeO [.d (.int .i64 n),.d (dU r)] [] (.d (.int .i64 (if n < 0∨64 < n then 2 else if (r.length:Int)≠n then 3 else if r.any (bad n) then 1 else 0))) []:=by
 refine zb zn znM (by show 2≤29;decide) ?_
 (repeat' ((conv=>whnf);first|refine vA ?_|((first|refine vD ?_ ?_|refine vF ?_ ?_)<;>intro hc<;>try simp only [vL] at hc)|refine vJ fun hg=>?_|refine vT ?_|refine vX ?_));all_goals try conv=>whnf
 ·rw [if_pos (.inl hc)]
 ·rw [if_pos (.inr hc)]
 ·rw [if_neg (by omega),if_pos hc]
 refine zaN (fun (k:Nat)=>[(0,.d (.int .i64 (n))),(17,.d (dU r)),(18,.d (.int .i64 ((r.map D.u64).length:Int))),(19,.d (.int .i64 ((k:Int))))]) (fun (k:Nat)=>k≤r.length∧r.any (bad n)=(r.drop k).any (bad n)) (fun (k:Nat)=>r.length - k) (0) (⟨by simp,by simp⟩) (by (repeat' first|exact trivial|exact rfl|refine And.intro ?_ ?_)) ?_
 rintro k ⟨hk,hI⟩
 (repeat' ((conv=>whnf);first|refine vA ?_|((first|refine vD ?_ ?_|refine vF ?_ ?_)<;>intro hc<;>try simp only [vL] at hc)|refine vT ?_|(refine vQ ?_ fun x hx=>?_;·omega)|(refine vO ?_ ?_;·omega)|refine vX ?_|(refine yD (zh3 _ ?_) ⟨⟨rfl,rfl⟩,rfl⟩ rfl ?_;(·omega))|fail));all_goals try conv=>whnf
 ·have hb:bad n x=true:=by simpa [bad] using hc
  rw [if_neg (by omega),if_neg (by omega),hI,zbw hx];simp [hb]
 ·have hb:bad n x=false:=by simpa [bad] using hc
  exact ⟨k+1,[],[],⟨by (omega),by rw [hI,zbw hx];simp [hb]⟩,by (omega),by (refine ⟨rfl,rfl,rfl,?_,?_⟩;repeat' first|exact trivial|exact rfl|refine And.intro ?_ ?_)⟩
 ·rw [if_neg (by omega),if_neg (by omega),hI,List.drop_eq_nil_of_le (by omega)];simp
theorem zx9 (hC : ∀ p,za2 p.rank→Fn Tryz.prog T zgr [.d (dPM p)] [] (.d (.int .i64 (zy p))) []) (p:PM) (hp:za2 p.rank) (a w:Int):Fn Tryz.prog T zgs [.d (dPM p),.d (.int .i64 a),.d (.int .i64 w)] [] (.d (.bool (decide (zy p=0∧0≤a∧a < p.cell.length∧0≤w∧w < p.W)))) []:=by
 refine zb zn zrM (by show 3≤31;decide) ?_
 (repeat' ((conv=>whnf);first|refine vA ?_|(refine vF ?_ ?_<;>intro hc<;>try simp only [vL] at hc)|refine vJ fun hg=>?_|refine vT ?_|refine vZ ?_|refine yD (hC _ hp) (by (repeat refine ⟨⟨rfl,rfl⟩,?_⟩);rfl) rfl ?_));all_goals try conv=>whnf
 ·simp [*]
 all_goals
  symm;rw [decide_eq_false_iff_not];omega
theorem zBC (p:PM):Fn Tryz.prog T zgb [.d (dPM p)] [] (.d (.bool (decide (p.val.length≤20∧p.cell.length≤8∧p.rank.length≤8∧(∀ a,a < p.cell.length→(ze p.cell a).length≤20) ∧ ∀ a,a < p.rank.length→(ze p.rank a).length≤20)))) []:=by
 refine zb zn zlr (by show 1≤49;decide) ?_
 (repeat' ((conv=>whnf);first|refine vA ?_|(refine vF ?_ ?_<;>intro hc<;>try simp only [vL] at hc)|refine vJ fun hg=>?_|refine vT ?_|refine vZ ?_));all_goals try conv=>whnf
 iterate 3
  ·symm;rw [decide_eq_false_iff_not];omega
 refine zt (fun (k:Nat)=>[(1,.ptr 0 0),(3,.d (.int .i64 ((k:Int))))]) (fun (k:Nat)=>[(0,some (zck p))]) 1 (fun (k:Nat)=>k≤p.cell.length ∧ ∀ a,a < k→(ze p.cell a).length≤20) (fun (k:Nat)=>p.cell.length - k) (0) [(0,0)] [] (⟨by simp,by simp⟩) (by (refine ⟨rfl,rfl,rfl,?_,?_⟩;repeat' first|exact trivial|exact rfl|refine And.intro ?_ ?_|refine ⟨_,rfl,?_⟩|decide)) ?_
 rintro k ⟨hk,hI⟩
 (repeat' ((conv=>whnf);first|refine vA ?_|(refine vF ?_ ?_<;>intro hc<;>try simp only [vL] at hc)|refine vJ fun hg=>?_|refine vT ?_|(refine vQ ?_ fun x hx=>?_;·omega)|(refine vO ?_ ?_;·omega)|refine vZ ?_));all_goals try conv=>whnf
 ·have h1:=zbZ hx
  symm;rw [decide_eq_false_iff_not];intro h
  have:=h.2.2.2.1 k (by omega)
  rw [h1] at this;omega
 ·have h1:=zbZ hx
  exact ⟨k+1,[(0,0)],[],⟨by (omega),fun a ha=>by
   by_cases e:a=k
   ·subst e;rw [h1];omega
   ·exact hI a (by omega)⟩,by (omega),by (refine ⟨rfl,rfl,rfl,?_,?_⟩;repeat' first|exact trivial|exact rfl|refine And.intro ?_ ?_|refine ⟨_,rfl,?_⟩|decide)⟩
 have hI1 : ∀ a,a < p.cell.length→(ze p.cell a).length≤20:=fun a ha=>hI a (by omega)
 refine zt (fun (k:Nat)=>[(1,.ptr 0 0),(4,.d (.int .i64 ((k:Int))))]) (fun (k:Nat)=>[(0,some (zck p))]) 1 (fun (k:Nat)=>k≤p.rank.length ∧ ∀ a,a < k→(ze p.rank a).length≤20) (fun (k:Nat)=>p.rank.length - k) (0) [(0,0)] [] (⟨by simp,by simp⟩) (by (refine ⟨rfl,rfl,rfl,?_,?_⟩;repeat' first|exact trivial|exact rfl|refine And.intro ?_ ?_|refine ⟨_,rfl,?_⟩|decide)) ?_
 rintro k ⟨hk,hI⟩
 (repeat' ((conv=>whnf);first|refine vA ?_|(refine vF ?_ ?_<;>intro hc<;>try simp only [vL] at hc)|refine vJ fun hg=>?_|refine vT ?_|(refine vQ ?_ fun x hx=>?_;·omega)|(refine vO ?_ ?_;·omega)|refine vZ ?_));all_goals try conv=>whnf
 ·have h1:=zbZ hx
  symm;rw [decide_eq_false_iff_not];intro h
  have:=h.2.2.2.2 k (by omega)
  rw [h1] at this;omega
 ·have h1:=zbZ hx
  exact ⟨k+1,[(0,0)],[],⟨by (omega),fun a ha=>by
   by_cases e:a=k
   ·subst e;rw [h1];omega
   ·exact hI a (by omega)⟩,by (omega),by (refine ⟨rfl,rfl,rfl,?_,?_⟩;repeat' first|exact trivial|exact rfl|refine And.intro ?_ ?_|refine ⟨_,rfl,?_⟩|decide)⟩
 ·symm;rw [decide_eq_true_eq];exact ⟨by omega,by omega,by omega,hI1,fun a ha=>hI a (by omega)⟩
end Go.Ab
namespace Go.Ab
open Go Go.Proofs
set_option maxRecDepth 10000
set_option maxHeartbeats 4000000
variable {T:Nat→Obj→Prop}
def zlm (x:Int):List Int→List Int
 | []=>[x]
 | y::r=>if x < y then x::y::r else if x=y then y::r else y::zlm x r
def zkg:List Int→List Int
 | []=>[]
 | x::r=>zlm x (zkg r)
def zC (cell:List Int):List Int:=cell.foldl (fun l c=>if c∈l then l else l++[c]) []
def zwH (cell rank:List Int) (c:Int):List Int:=((List.range cell.length).filter fun w=>at0 cell w==c).map (at0 rank)
def zam (cell rank:List Int) (c:Int):List Int:=zkg (zwH cell rank c)
abbrev zgm (cell rank:List Int):List (D×D):=(zC cell).map fun c=>(.int .i64 c,dI (zam cell rank c))
def zaY (T:Nat→Obj→Prop):Prop := ∀ cell rank:List Int,cell.length≤rank.length→cell.length≤64→Fn Tryz.prog T zeJ [.d (dI cell),.d (dI rank)] [] (.d (.map (zgm cell rank))) []
def zlV (l:List Int):Prop := ∀ i,i < l.length→at0 l i=i
instance (l:List Int):Decidable (zlV l):=inferInstanceAs (Decidable (∀ i,i < l.length→at0 l i=i))
theorem zq8 {α β:Type} (f:α→β) : ∀ (l:List α) (i:Nat),(l.map f).eraseIdx i=(l.eraseIdx i).map f
 | [],_=>rfl
 | _::_,0=>rfl
 | x::l,i+1=>congrArg (f x :: ·) (zq8 f l i)
abbrev ziB (l:List Int):Prop:=l.Pairwise (· < ·)
theorem znO {x y:Int} : ∀ {l:List Int},y∈zlm x l↔y=x∨y∈l
 | []=>by simp [zlm]
 | z::r=>by
  unfold zlm
  split
  ·simp
  ·split
   ·rename_i h;subst h;simp
   ·rw [List.mem_cons,znO,List.mem_cons]
    constructor
    ·rintro (h|h|h)
     ·exact .inr (.inl h)
     ·exact .inl h
     ·exact .inr (.inr h)
    ·rintro (h|h|h)
     ·exact .inr (.inl h)
     ·exact .inl h
     ·exact .inr (.inr h)
theorem zmZ {x:Int} : ∀ {l:List Int},ziB l→ziB (zlm x l)
 | [],_=>by simp [zlm,ziB]
 | z::r,h=>by
  unfold zlm
  obtain ⟨h1,h2⟩:=List.pairwise_cons.1 h
  split
  ·rename_i hx
   refine List.pairwise_cons.2 ⟨fun y hy=>?_,h⟩
   rcases List.mem_cons.1 hy with rfl|hy
   ·exact hx
   ·have:=h1 y hy;omega
  ·split
   ·exact h
   ·refine List.pairwise_cons.2 ⟨fun y hy=>?_,zmZ h2⟩
    rcases znO.1 hy with rfl|hy
    ·omega
    ·exact h1 y hy
theorem zlu {y:Int} : ∀ {l:List Int},y∈zkg l↔y∈l
 | []=>by simp [zkg]
 | x::r=>by rw [zkg,znO,zlu,List.mem_cons]
theorem zfp : ∀ {l:List Int},ziB (zkg l)
 | []=>List.Pairwise.nil
 | x::r=>zmZ zfp
theorem zlt {c:Int} : ∀ {l acc:List Int},c∈l.foldl (fun l c=>if c∈l then l else l++[c]) acc↔c∈acc∨c∈l
 | [],acc=>by simp
 | x::r,acc=>by
  rw [List.foldl_cons,zlt]
  split
  ·rename_i h
   rw [List.mem_cons]
   constructor
   ·rintro (h1|h1)
    ·exact .inl h1
    ·exact .inr (.inr h1)
   ·rintro (h1|rfl|h1)
    ·exact .inl h1
    ·exact .inl h
    ·exact .inr h1
  ·rw [List.mem_append,List.mem_singleton,List.mem_cons,or_assoc]
theorem zj6 {c:Int} {cell:List Int} : c∈zC cell↔c∈cell:=by
 rw [zC,zlt];simp
theorem zfY {cell rank:List Int} {c x:Int} : x∈zam cell rank c ↔ ∃ w,w < cell.length∧at0 cell w=c∧at0 rank w=x:=by
 rw [zam,zlu,zwH,List.mem_map]
 constructor
 ·rintro ⟨w,h,rfl⟩
  rw [List.mem_filter,List.mem_range] at h
  exact ⟨w,h.1,by simpa using h.2,rfl⟩
 ·rintro ⟨w,h1,h2,rfl⟩
  exact ⟨w,List.mem_filter.2 ⟨List.mem_range.2 h1,by simpa using h2⟩,rfl⟩
theorem zfI {l:List Int} {x:Int} : x∈l ↔ ∃ i,i < l.length∧at0 l i=x:=by
 constructor
 ·intro h
  obtain ⟨i,hi⟩:=List.getElem?_of_mem h
  exact ⟨i,(List.getElem?_eq_some_iff.1 hi).1,zah hi⟩
 ·rintro ⟨i,hi,rfl⟩
  exact List.mem_of_getElem? (zi8 hi)
theorem zkc {l:List Int} (h:ziB l) {i j:Nat} (hij:i < j) (hj:j < l.length):at0 l i < at0 l j:=by
 have h1:=zi8 (show i < l.length by omega)
 have h2:=zi8 hj
 obtain ⟨_,e1⟩:=List.getElem?_eq_some_iff.1 h1
 obtain ⟨_,e2⟩:=List.getElem?_eq_some_iff.1 h2
 rw [← e1,← e2]
 exact List.pairwise_iff_getElem.1 h i j (by omega) hj hij
theorem zmP {l:List Int} (h:ziB l):zlV l ↔ ∀ x∈l,0≤x∧(x=0∨x - 1∈l):=by
 constructor
 ·intro hg x hx
  obtain ⟨i,hi,rfl⟩:=zfI.1 hx
  rw [hg i hi]
  refine ⟨by omega,?_⟩
  by_cases e:i=0
  ·exact .inl (by omega)
  ·exact .inr (zfI.2 ⟨i - 1,by omega,by rw [hg (i - 1) (by omega)];omega⟩)
 ·intro hc i
  induction i using Nat.strongRecOn with
  | _ i ih =>
   intro hi
   obtain ⟨h0,h1⟩:=hc _ (zfI.2 ⟨i,hi,rfl⟩)
   by_cases e:i=0
   ·subst e
    rcases h1 with h1|h1
    ·exact h1
    ·obtain ⟨j,hj,hj'⟩:=zfI.1 h1
     by_cases e:j=0
     ·subst e;omega
     ·have:=zkc h (show 0 < j by omega) hj;omega
   ·have hp:=ih (i - 1) (by omega) (by omega)
    have hr:=zkc h (show i - 1 < i by omega) hi
    rcases h1 with h1|h1
    ·omega
    ·obtain ⟨j,hj,hj'⟩:=zfI.1 h1
     have:j < i:=by
      apply Classical.byContradiction
      intro hn
      by_cases e:j=i
      ·subst e;omega
      ·have:=zkc h (show i < j by omega) hj;omega
     have:=ih j this hj
     omega
theorem zi5 {cell rank:List Int} : (∀ c∈zC cell,zlV (zam cell rank c))↔zob cell rank:=by
 constructor
 ·intro h w hw
  have hc:=h (at0 cell w) (zj6.2 (zfI.2 ⟨w,hw,rfl⟩))
  replace hc:=(zmP zfp).1 hc
  obtain ⟨h1,h2⟩:=hc (at0 rank w) (zfY.2 ⟨w,hw,rfl,rfl⟩)
  refine ⟨h1,h2.imp_right fun h3=>?_⟩
  obtain ⟨v,hv,h4,h5⟩:=zfY.1 h3
  exact ⟨v,hv,h4,h5⟩
 ·intro h c hc
  refine (zmP zfp).2 ?_
  intro x hx
  obtain ⟨w,hw,rfl,rfl⟩:=zfY.1 hx
  obtain ⟨h1,h2⟩:=h w hw
  refine ⟨h1,h2.imp_right fun ⟨v,hv,h4,h5⟩=>?_⟩
  exact zfY.2 ⟨v,hv,h4,h5⟩
theorem zd9 (hR:zaY T) (p:PM) (hp:za2 p.rank):Fn Tryz.prog T zgr [.d (dPM p)] [] (.d (.int .i64 (zy p))) []:=by
 refine zb zn zrL (by show 1≤123;decide) ?_
 (repeat' ((conv=>whnf);first|refine vA ?_|(refine vD ?_ ?_<;>intro hc<;>try simp only [vL] at hc)|refine vJ fun hg=>?_|refine vT ?_|refine vX ?_|refine yD (zpU _ _ _) ⟨⟨rfl,rfl⟩,⟨rfl,rfl⟩,⟨rfl,rfl⟩,rfl⟩ rfl ?_));all_goals try conv=>whnf
 ·rw [List.length_map,zy,if_pos hc]
 ·rw [zy,if_neg (by omega),if_pos (by omega)]
 have hs0:=‹zbC p.W p.cell.length p.val=0›
 have hW64:=(zrm hs0).2.1
 have hlr:p.rank.length=p.cell.length:=by omega
 refine zt (fun (k:Nat)=>[(1,.ptr 0 0),(34,.d (.int .i64 ((p.cell.map dI).length:Int))),(35,.d (.int .i64 ((k:Int))))]) (fun (k:Nat)=>[(0,some (zck p))]) 1 (fun (k:Nat)=>k≤p.cell.length ∧ ∀ a,a < k→((ze p.cell a).length:Int)=p.W∧((ze p.rank a).length:Int)=p.W) (fun (k:Nat)=>p.cell.length - k) (0) [(0,0)] [] (⟨by simp,by simp⟩) (by (refine ⟨rfl,rfl,rfl,?_,?_⟩;repeat' first|exact trivial|exact rfl|refine And.intro ?_ ?_|refine ⟨_,rfl,?_⟩|decide)) ?_
 rintro k ⟨hk,hI⟩
 (repeat' ((conv=>whnf);first|refine vA ?_|((first|refine vD ?_ ?_|refine vF ?_ ?_)<;>intro hc<;>try simp only [vL] at hc)|refine vJ fun hg=>?_|refine vT ?_|(refine vQ ?_ fun x hx=>?_;·omega)|(refine vO ?_ ?_;·omega)|(refine vU ?_ ?_;·kernel_rfl)|refine vX ?_));all_goals try conv=>whnf
 ·have h1:=zbZ hx
  refine (zsw hs0 hlr fun h=>?_).symm
  have:=(h k (by omega)).1
  rw [h1] at this;exact hc this
 ·have h1:=zbZ hx
  refine (zsw hs0 hlr fun h=>?_).symm
  have:=(h k (by omega)).2
  rw [h1] at this;exact hc this
 ·have h1:=zbZ ‹p.cell[k]? = some _›
  have h2:=zbZ ‹p.rank[k]? = some _›
  exact ⟨k+1,[(0,0)],[],⟨by (omega),fun a ha=>by
   by_cases e:a=k
   ·subst e;rw [h1,h2];omega
   ·exact hI a (by omega)⟩,by (omega),by (refine ⟨rfl,rfl,rfl,?_,?_⟩;repeat' first|exact trivial|exact rfl|refine And.intro ?_ ?_|refine ⟨_,rfl,?_⟩|decide)⟩
 have hL:zm4 p:=fun a ha=>hI a (by omega)
 refine zt (fun (k:Nat)=>[(1,.ptr 0 0),(60,.d (dII p.cell)),(61,.d (.int .i64 ((p.cell.map dI).length:Int))),(62,.d (.int .i64 ((k:Int))))]) (fun (k:Nat)=>[(0,some (zck p))]) 1 (fun (k:Nat)=>k≤p.cell.length ∧ ∀ a,a < k→zy6 (ze p.cell a)) (fun (k:Nat)=>p.cell.length - k) (0) [(0,0)] [] (⟨by simp,by simp⟩) (by (refine ⟨rfl,rfl,rfl,?_,?_⟩;repeat' first|exact trivial|exact rfl|refine And.intro ?_ ?_|refine ⟨_,rfl,?_⟩|decide)) ?_
 rintro k ⟨hk,hI⟩
 (repeat' ((conv=>whnf);first|refine vA ?_|(refine vF ?_ ?_<;>intro hc<;>try simp only [vL] at hc)|refine vJ fun hg=>?_|refine vT ?_|(refine vQ ?_ fun x hx=>?_;·omega)|fail));all_goals try conv=>whnf
 ·have h1:=zbZ hx
  subst h1
  refine zt (fun (j:Nat)=>[(1,.ptr 0 0),(60,.d (dII p.cell)),(61,.d (.int .i64 ((p.cell.map dI).length:Int))),(62,.d (.int .i64 ((k:Int)))),(6,.d (dI (ze p.cell k))),(66,.d (dI (ze p.cell k))),(67,.d (.int .i64 (((ze p.cell k).map (D.int .i64)).length:Int))),(68,.d (.int .i64 ((j:Int))))]) (fun (j:Nat)=>[(0,some (zck p))]) 1 (fun (j:Nat)=>j≤(ze p.cell k).length ∧ ∀ w,w < j→0≤at0 (ze p.cell k) w∧at0 (ze p.cell k) w≤w∧at0 (ze p.cell k) (at0 (ze p.cell k) w).toNat=at0 (ze p.cell k) w) (fun (j:Nat)=>(ze p.cell k).length - j) (0) [(0,0)] [] (⟨by simp,by simp⟩) (by (refine ⟨rfl,rfl,rfl,?_,?_⟩;repeat' first|exact trivial|exact rfl|refine And.intro ?_ ?_|refine ⟨_,rfl,?_⟩|decide)) ?_
  rintro j ⟨hj,hJ⟩
  (repeat' ((conv=>whnf);first|refine vA ?_|((first|refine vD ?_ ?_|refine vF ?_ ?_)<;>intro hc<;>try simp only [vL] at hc)|refine vT ?_|(refine vQ ?_ fun x hx=>?_;·omega)|((first|refine vO ?_ ?_|refine vS ?_ fun x hx=>?_);·omega)|refine vX ?_));all_goals try conv=>whnf
  iterate 2
   ·refine (zsv hs0 hlr hL fun h=>?_).symm
    have:=h k (by omega) j (by omega)
    rw [zah hx] at this;omega
  ·refine (zsv hs0 hlr hL fun h=>?_).symm
   have:=h k (by omega) j (by omega)
   rw [zah ‹(ze p.cell k)[j]? = some _›,zah hx] at this;omega
  ·have h0:=zah ‹(ze p.cell k)[j]? = some _›
   have h1:=zah hx
   exact ⟨j+1,[(0,0)],[],⟨by (omega),fun w hw=>by
    by_cases e:w=j
    ·subst e;rw [h0,h1];omega
    ·exact hJ w (by omega)⟩,by (omega),by (refine ⟨rfl,rfl,rfl,?_,?_⟩;repeat' first|exact trivial|exact rfl|refine And.intro ?_ ?_|refine ⟨_,rfl,?_⟩|decide)⟩
  ·exact ⟨k+1,[(0,0)],[],⟨by (omega),fun a ha=>by
    by_cases e:a=k
    ·subst e;exact fun w hw=>hJ w (by omega)
    ·exact hI a (by omega)⟩,by (omega),by (refine ⟨rfl,rfl,rfl,?_,?_⟩;repeat' first|exact trivial|exact rfl|refine And.intro ?_ ?_|refine ⟨_,rfl,?_⟩|decide)⟩
 have hC:zfx p:=fun a ha=>hI a (by omega)
 refine zt (fun (k:Nat)=>[(1,.ptr 0 0),(91,.d (dII p.cell)),(92,.d (.int .i64 ((p.cell.map dI).length:Int))),(93,.d (.int .i64 ((k:Int))))]) (fun (k:Nat)=>[(0,some (zck p))]) 1 (fun (k:Nat)=>k≤p.cell.length ∧ ∀ a,a < k→zob (ze p.cell a) (ze p.rank a)) (fun (k:Nat)=>p.cell.length - k) (0) [(0,0)] [] (⟨by simp,by simp⟩) (by (refine ⟨rfl,rfl,rfl,?_,?_⟩;repeat' first|exact trivial|exact rfl|refine And.intro ?_ ?_|refine ⟨_,rfl,?_⟩|decide)) ?_
 rintro k ⟨hk,hI⟩
 (repeat' ((conv=>whnf);first|refine vA ?_|(refine vF ?_ ?_<;>intro hc<;>try simp only [vL] at hc)|refine vT ?_|(refine vQ ?_ fun x hx=>?_;·omega)|refine vX ?_));all_goals try conv=>whnf
 ·have h1:=zbZ ‹p.cell[k]? = some _›
  have h2:=zbZ ‹p.rank[k]? = some _›
  have h3:=hL k (by omega)
  subst h1;subst h2
  refine zw.dataN (hR (ze p.cell k) (ze p.rank k) (by omega) (by omega)) (by (repeat refine ⟨⟨rfl,rfl⟩,?_⟩);rfl) ?_
  (repeat' ((conv=>whnf);refine vT ?_));all_goals try conv=>whnf
  refine zt (fun ((left,cur):List (D×D)×Option (D×D))=>[(1,.ptr 0 0),(91,.d (dII p.cell)),(92,.d (.int .i64 ((p.cell.map dI).length:Int))),(93,.d (.int .i64 ((k:Int)))),(105,.iter 1)]) (fun ((left,cur):List (D×D)×Option (D×D))=>[(0,some (zck p)),(1,some (.iter left cur))]) 2 (fun ((left,cur):List (D×D)×Option (D×D)) => ∃ ks:List Int,left=ks.map (fun c=>(D.int .i64 c,dI (zam (ze p.cell k) (ze p.rank k) c)))∧(∀ c∈ks,c∈zC (ze p.cell k)) ∧ ∀ c∈zC (ze p.cell k),c∈ks∨zlV (zam (ze p.cell k) (ze p.rank k) c)) (fun ((left,cur):List (D×D)×Option (D×D))=>left.length) ((zgm (ze p.cell k) (ze p.rank k),none)) [(0,0),(1,1)] [] (⟨_,rfl,fun c h=>h,fun c h => .inl h⟩) (by (refine ⟨rfl,rfl,rfl,?_,?_⟩;repeat' first|exact trivial|exact rfl|refine And.intro ?_ ?_|refine ⟨_,rfl,?_⟩|decide)) ?_
  rintro ⟨left,cur⟩ ⟨ks,hleft,hks,hdone⟩
  (repeat' ((conv=>whnf);first|refine vA ?_|refine vC (fun hl=>?_) fun i kv vv hi=>?_|refine vG ?_|refine vH ?_|refine vT ?_|(refine vO ?_ ?_;·omega)|fail));all_goals try conv=>whnf
  ·exact ⟨k+1,[(0,0)],[],⟨by (omega),fun a ha=>by
    by_cases e:a=k
    ·subst e
     rw [hl] at hleft
     have:ks=[]:=by simpa using hleft.symm
     subst this
     exact zi5.1 fun c hc=>(hdone c hc).resolve_left (by simp)
    ·exact hI a (by omega)⟩,by (omega),by (refine ⟨rfl,rfl,rfl,?_,?_⟩;repeat' first|exact trivial|exact rfl|refine And.intro ?_ ?_|refine ⟨_,rfl,?_⟩|decide)⟩
  ·rw [hleft,List.getElem?_map,Option.map_eq_some_iff] at hi
   obtain ⟨c,hci,hce⟩:=hi
   cases hce
   (repeat' ((conv=>whnf);first|refine vJ fun hg=>?_|refine vT ?_));all_goals try conv=>whnf
   refine zt (fun (j:Nat)=>[(1,.ptr 0 0),(91,.d (dII p.cell)),(92,.d (.int .i64 ((p.cell.map dI).length:Int))),(93,.d (.int .i64 ((k:Int)))),(105,.iter 1),(12,.d (dI (zam (ze p.cell k) (ze p.rank k) c))),(111,.d (.int .i64 (((zam (ze p.cell k) (ze p.rank k) c).map (D.int .i64)).length:Int))),(112,.d (.int .i64 ((j:Int))))]) (fun (j:Nat)=>[(0,some (zck p)),(1,some (.iter (left.eraseIdx i) (some (D.int .i64 c,dI (zam (ze p.cell k) (ze p.rank k) c)))))]) 2 (fun (j:Nat)=>j≤(zam (ze p.cell k) (ze p.rank k) c).length ∧ ∀ i,i < j→at0 (zam (ze p.cell k) (ze p.rank k) c) i=i) (fun (j:Nat)=>(zam (ze p.cell k) (ze p.rank k) c).length - j) (0) [(0,0),(1,1)] [] (⟨by simp,by simp⟩) (by (refine ⟨rfl,rfl,rfl,?_,?_⟩;repeat' first|exact trivial|exact rfl|refine And.intro ?_ ?_|refine ⟨_,rfl,?_⟩|decide)) ?_
   rintro j ⟨hj,hJ⟩
   (repeat' ((conv=>whnf);first|refine vA ?_|((first|refine vD ?_ ?_|refine vF ?_ ?_)<;>intro hc<;>try simp only [vL] at hc)|refine vT ?_|(refine vQ ?_ fun x hx=>?_;·omega)|(refine vO ?_ ?_;·omega)|refine vX ?_));all_goals try conv=>whnf
   ·refine (zxX hs0 hlr hL hC fun h=>hc ?_).symm
    have h4:=zi5.2 (h k (by omega)) c (hks c (List.mem_of_getElem? hci)) j (by omega)
    rw [zah hx] at h4;exact h4
   ·have h0:=zah hx
    exact ⟨j+1,[(0,0),(1,1)],[],⟨by (omega),fun w hw=>by
     by_cases e:w=j
     ·subst e;rw [h0];omega
     ·exact hJ w (by omega)⟩,by (omega),by (refine ⟨rfl,rfl,rfl,?_,?_⟩;repeat' first|exact trivial|exact rfl|refine And.intro ?_ ?_|refine ⟨_,rfl,?_⟩|decide)⟩
   ·refine ⟨(left.eraseIdx i,some (D.int .i64 c,dI (zam (ze p.cell k) (ze p.rank k) c))),[(0,0),(1,1)],[],⟨ks.eraseIdx i,?_,?_,?_⟩,?_,⟨rfl,rfl,rfl,by (repeat' first|exact trivial|exact rfl|refine And.intro ?_ ?_|refine ⟨_,rfl,?_⟩),by (repeat' first|exact trivial|exact rfl|refine And.intro ?_ ?_|refine ⟨_,rfl,?_⟩|decide)⟩⟩
    ·rw [hleft,zq8]
    ·exact fun c h=>hks c (List.mem_of_mem_eraseIdx h)
    ·intro c' h
     rcases hdone c' h with h1|h1
     ·by_cases e:c'=c
      ·subst e;exact .inr fun i hi=>hJ i (by omega)
      ·refine .inl ?_
       rw [List.mem_eraseIdx_iff_getElem?]
       obtain ⟨i',hi'⟩:=List.getElem?_of_mem h1
       exact ⟨i',fun e'=>e (by rw [e',hci] at hi';cases hi';rfl),hi'⟩
     ·exact .inr h1
    ·show (left.eraseIdx i).length < left.length
     have:i < left.length:=by
      rw [hleft,List.length_map];exact (List.getElem?_eq_some_iff.1 hci).1
     rw [List.length_eraseIdx];split<;>omega
 ·exact (zsu hs0 hlr hL hC fun a ha=>hI a (by omega)).symm
end Go.Ab
namespace Go.Ab
open Go Go.Proofs
set_option maxRecDepth 10000
set_option maxHeartbeats 4000000
variable {T:Nat→Obj→Prop}
structure At (p:PM) (a w:Int):Prop where
 ok:zy p=0
 a0:0≤a
 a1:a < p.cell.length
 w0:0≤w
 w1:w < p.W
instance (p:PM) (a w:Int):Decidable (At p a w):=decidable_of_iff (zy p=0∧0≤a∧a < p.cell.length∧0≤w∧w < p.W) ⟨fun ⟨a,b,c,d,e⟩=>⟨a,b,c,d,e⟩,fun ⟨a,b,c,d,e⟩=>⟨a,b,c,d,e⟩⟩
theorem zqU (hR:zaY T) (p:PM) (hp:za2 p.rank) (a w:Int):Fn Tryz.prog T zgs [.d (dPM p),.d (.int .i64 a),.d (.int .i64 w)] [] (.d (.bool (decide (At p a w)))) []:=by
 have:=zx9 (T:=T) (fun p hp=>zd9 hR p hp) p hp a w
 rwa [show decide (zy p=0∧0≤a∧a < p.cell.length∧0≤w∧w < p.W)=decide (At p a w) from by
  rw [Bool.eq_iff_iff,decide_eq_true_eq,decide_eq_true_eq]
  exact ⟨fun ⟨a,b,c,d,e⟩=>⟨a,b,c,d,e⟩,fun ⟨a,b,c,d,e⟩=>⟨a,b,c,d,e⟩⟩] at this
def zeI (p:PM) (a w:Int):BitVec 64:=if At p a w then zb9 (ze p.cell a.toNat) w.toNat else 0#64
def zhQ (p:PM) (a w:Int) (s:BitVec 64):BitVec 64:=if At p a w then zdw (ze p.rank a.toNat) (s&&&zb9 (ze p.cell a.toNat) w.toNat) else 0#64
theorem At.rows {p:PM} {a w:Int} (h:At p a w):p.cell[a.toNat]? = some (ze p.cell a.toNat)∧p.rank[a.toNat]? = some (ze p.rank a.toNat)∧((ze p.cell a.toNat).length:Int)=p.W∧((ze p.rank a.toNat).length:Int)=p.W∧p.W≤64∧a.toNat < p.cell.length∧p.rank.length=p.cell.length:=by
 have hg:=zA h.ok
 have h0:=h.a0
 have h1:=h.a1
 have hl:=hg.lens a.toNat (by omega)
 exact ⟨zge (by omega),zge (by rw [hg.len];omega),hl.1,hl.2,hg.w2,by omega,hg.len⟩
theorem zzC (hR:zaY T) (p:PM) (hp:za2 p.rank) (a w:Int):Fn Tryz.prog T zla [.d (dPM p),.d (.int .i64 a),.d (.int .i64 w)] [] (.d (.u64 (zeI p a w))) []:=by
 refine zb zn zta (by show 3≤16;decide) ?_
 (repeat' ((conv=>whnf);first|refine vA ?_|refine vE ?_|(refine vF ?_ ?_<;>intro hc)|refine vT ?_|refine vY ?_|refine yD (zqU hR _ hp _ _) (by (repeat refine ⟨⟨rfl,rfl⟩,?_⟩);rfl) rfl ?_));all_goals try conv=>whnf
 ·obtain ⟨h1,-,h2,-⟩:=At.rows hc
  refine zw.data (zle p a w (ze p.cell a.toNat) hc.a0 h1 hc.w0 (by rw [h2];exact hc.w1)) (by (repeat refine ⟨⟨rfl,rfl⟩,?_⟩);rfl) rfl ?_
  (repeat' ((conv=>whnf);first|refine vT ?_|refine vY ?_));all_goals try conv=>whnf
  rw [zeI,if_pos hc]
 ·rw [zeI,if_neg hc];rfl
theorem zwX {k:Nat} (h:k < 18446744073709551616):(BitVec.ofInt 64 (k:Int)).toNat=k:=by
 rw [BitVec.toNat_ofInt,Int.emod_eq_of_lt (by omega) (by omega)];rfl
theorem zzB (hR:zaY T) (p:PM) (hp:za2 p.rank) (a w:Int) (s:BitVec 64):Fn Tryz.prog T zk9 [.d (dPM p),.d (.int .i64 a),.d (.int .i64 w),.d (.u64 s)] [] (.d (.u64 (zhQ p a w s))) []:=by
 refine zb zn zs9 (by show 4≤26;decide) ?_
 (repeat' ((conv=>whnf);first|refine vA ?_|refine vE ?_|(refine vF ?_ ?_<;>intro hc)|refine vT ?_|(refine vS ?_ fun x hx=>?_;·omega)|refine vY ?_|refine yD (zqU hR _ hp _ _) (by (repeat refine ⟨⟨rfl,rfl⟩,?_⟩);rfl) rfl ?_));all_goals try conv=>whnf
 ·obtain ⟨hrow,hrank,hlen,hlen',h64,ha,-⟩:=At.rows hc
  have h0:=hc.a0
  (repeat' ((conv=>whnf);first|refine vT ?_|(refine vR ?_ ‹_› ?_;·omega)|fail));all_goals try conv=>whnf
  refine zw.data (zle p a w (ze p.cell a.toNat) h0 hrow hc.w0 (by rw [hlen];exact hc.w1)) (by (repeat refine ⟨⟨rfl,rfl⟩,?_⟩);rfl) rfl ?_
  (repeat' ((conv=>whnf);first|refine vT ?_|(refine vU ?_ ?_;·kernel_rfl)|refine vY ?_|(refine yD (zqS _ _ ?_) ⟨⟨rfl,rfl⟩,⟨rfl,rfl⟩,rfl⟩ rfl ?_;(·omega))|fail));all_goals try conv=>whnf
  rw [zhQ,if_pos hc]
 ·rw [zhQ,if_neg hc];rfl
def zcr (cell rank:List Int) (w:Nat):Nat→BitVec 64:=zP fun v=>at0 cell v==at0 cell w&&decide (at0 rank v≤at0 rank w)
def zek (p:PM) (a:Nat):List (BitVec 64):=(List.range p.W.toNat).map fun w=>zcr (ze p.cell a) (ze p.rank a) w p.W.toNat
def zdx (p:PM) (a:Int):List (BitVec 64)×Int:=if zy p≠0 then ([],zy p) else if a < 0∨(p.cell.length:Int)≤a then ([],2) else (zek p a.toNat,0)
abbrev dUI (x:List (BitVec 64)×Int):D := .tup [dU x.1,.int .i64 x.2]
theorem zlK {β:Type} {g:Nat→β} {n k:Nat} (x:β):((List.range n).map g).set k x=(List.range n).map fun u=>if u=k then x else g u:=by
 refine List.ext_getElem (by simp) fun i h1 h2=>?_
 rw [List.getElem_set]
 by_cases e:k=i
 ·subst e;simp
 ·simp [e,Ne.symm e]
theorem zav {β:Type} {g h:Nat→β} {n:Nat} (e : ∀ u,u < n→g u=h u):(List.range n).map g=(List.range n).map h :=
 List.map_congr_left fun u hu=>e u (List.mem_range.1 hu)
theorem zqZ {n k x:Nat} (h:(List.range n)[k]? = some x):x=k:=by
 obtain ⟨h1,rfl⟩:=List.getElem?_eq_some_iff.1 h
 simp
theorem zia {β:Type} (x:β) (n:Nat):List.replicate n x=(List.range n).map fun _=>x:=by
 refine List.ext_getElem (by simp) fun i h1 h2=>by simp
theorem zwr (hR:zaY T) (p:PM) (hp:za2 p.rank) (a:Int):Fn Tryz.prog T ziV [.d (dPM p),.d (.int .i64 a)] [] (.d (dUI (zdx p a))) []:=by
 refine zb zn zp7 (by show 2≤84;decide) ?_
 (repeat' ((conv=>whnf);first|refine vA ?_|((first|refine vD ?_ ?_|refine vF ?_ ?_)<;>intro hc<;>try simp only [vL] at hc)|refine vJ fun hg=>?_|refine vT ?_|(refine vP ?_ ?_;·omega)|refine yD (zd9 hR _ hp) ⟨⟨rfl,rfl⟩,rfl⟩ rfl ?_));all_goals try conv=>whnf
 ·rw [zdx,if_pos hc];rfl
 ·rw [zdx,if_neg (by omega),if_pos (.inl hc)];rfl
 ·rw [zdx,if_neg (by omega),if_pos (.inr hc)];rfl
 have hg:=zA ‹zy p=0›
 have hw1:=hg.w1
 have hw2:=hg.w2
 have hrow:=zge (l:=p.cell) (i:=a.toNat) (by omega)
 have hrank:=zge (l:=p.rank) (i:=a.toNat) (by have:=hg.len;omega)
 obtain ⟨hl1,hl2⟩:=hg.lens a.toNat (by omega)
 have hlr:=hg.len
 (repeat' ((conv=>whnf);first|refine vA ?_|refine vK fun hg=>?_|refine vT ?_|(refine vP ?_ ?_;·omega)|fail));all_goals try conv=>whnf
 refine zt (fun ((k,xs):Nat×List D)=>[(1,.d (.int .i64 (a))),(2,.ptr 0 0),(7,.own 1),(28,.d (.int .i64 ((List.replicate p.W.toNat (D.u64 0#64)).length:Int))),(29,.d (.int .i64 ((k:Int))))]) (fun ((k,xs):Nat×List D)=>[(0,some (zck p)),(1,some (.row 1 xs))]) 2 (fun ((k,xs):Nat×List D)=>k≤p.W.toNat∧xs=(List.range p.W.toNat).map fun u=>D.u64 (if u < k then zcr (ze p.cell a.toNat) (ze p.rank a.toNat) u p.W.toNat else 0#64)) (fun ((k,xs):Nat×List D)=>p.W.toNat - k) ((0,List.replicate p.W.toNat (D.u64 0#64))) [(0,0),(1,1)] [] (⟨by simp,by simp only [Nat.not_lt_zero,if_false];exact zia _ _⟩) (by (refine ⟨rfl,rfl,rfl,?_,?_⟩;repeat' first|exact trivial|exact rfl|refine And.intro ?_ ?_|refine ⟨_,rfl,?_⟩|decide)) ?_
 rintro ⟨k,_⟩ ⟨hk,rfl⟩
 (repeat' ((conv=>whnf);first|refine vA ?_|(refine vF ?_ ?_<;>intro hc<;>try simp only [vL] at hc)|refine vJ fun hg=>?_|refine vT ?_));all_goals try conv=>whnf
 ·refine zt (fun ((j,xs):Nat×List D)=>[(1,.d (.int .i64 (a))),(2,.ptr 0 0),(7,.own 1),(8,.d (.int .i64 ((k:Int)))),(28,.d (.int .i64 ((List.replicate p.W.toNat (D.u64 0#64)).length:Int))),(29,.d (.int .i64 ((k:Int)))),(33,.d (.int .i64 (((List.range p.W.toNat).map fun u=>D.u64 (if u < k then zcr (ze p.cell a.toNat) (ze p.rank a.toNat) u p.W.toNat else 0#64)).length:Int))),(34,.d (.int .i64 ((j:Int))))]) (fun ((j,xs):Nat×List D)=>[(0,some (zck p)),(1,some (.row 1 xs))]) 2 (fun ((j,xs):Nat×List D)=>j≤p.W.toNat∧xs=(List.range p.W.toNat).map fun u=>D.u64 (if u < k then zcr (ze p.cell a.toNat) (ze p.rank a.toNat) u p.W.toNat else if u=k then zcr (ze p.cell a.toNat) (ze p.rank a.toNat) k j else 0#64)) (fun ((j,xs):Nat×List D)=>p.W.toNat - j) ((0,_)) [(0,0),(1,1)] [] (⟨by simp,zav fun u hu=>by simp [zcr,zP]⟩) (by (refine ⟨rfl,rfl,rfl,?_,?_⟩;repeat' first|exact trivial|exact rfl|refine And.intro ?_ ?_|refine ⟨_,rfl,?_⟩|decide)) ?_
  rintro ⟨j,_⟩ ⟨hj,rfl⟩
  (repeat' ((conv=>whnf);first|refine vA ?_|(refine vF ?_ ?_<;>intro hc<;>try simp only [vL] at hc)|refine vT ?_|(refine vQ ?_ fun x hx=>?_;·first|omega|(simp only [vM] at *;omega))|((first|refine vO ?_ ?_|refine vR ?_ ‹_› ?_|refine vP ?_ ?_);·first|omega|(simp only [vM] at *;omega))|(refine vU ?_ ?_;·kernel_rfl)|fail));all_goals try conv=>whnf
  ·have h1:=zah ‹(ze p.cell a.toNat)[j]? = some _›
   have h2:=zah ‹(ze p.cell a.toNat)[k]? = some _›
   have h3:=zah ‹(ze p.rank a.toNat)[j]? = some _›
   have h4:=zah ‹(ze p.rank a.toNat)[k]? = some _›
   have hx':=zqZ hx
   refine ⟨(j+1,_),[(0,0),(1,1)],[],?_,?_,by (refine ⟨rfl,rfl,rfl,?_,?_⟩;repeat' first|exact trivial|exact rfl|refine And.intro ?_ ?_|refine ⟨_,rfl,?_⟩|decide)⟩
   ·refine ⟨by (omega),(zlK _).trans (zav fun u hu=>?_)⟩
    have e0:(at0 (ze p.cell a.toNat) j==at0 (ze p.cell a.toNat) k&&decide (at0 (ze p.rank a.toNat) j≤at0 (ze p.rank a.toNat) k))=true:=by
     simp only [Bool.and_eq_true,beq_iff_eq,decide_eq_true_eq];omega
    show (if u=k then _ else _)=_
    have hx'':x=k:=hx'
    subst hx''
    by_cases e:u=x
    ·subst e
     simp only [Nat.lt_irrefl,if_false,if_true,zcr,zP,e0];rfl
    ·rw [if_neg e];simp only [if_neg e]
   ·((simp only [vM] at *;omega))
  ·have h1:=zah ‹(ze p.cell a.toNat)[j]? = some _›
   have h2:=zah ‹(ze p.cell a.toNat)[k]? = some _›
   have h3:=zah ‹(ze p.rank a.toNat)[j]? = some _›
   have h4:=zah ‹(ze p.rank a.toNat)[k]? = some _›
   refine ⟨(j+1,_),[(0,0),(1,1)],[],?_,?_,by (refine ⟨rfl,rfl,rfl,?_,?_⟩;repeat' first|exact trivial|exact rfl|refine And.intro ?_ ?_|refine ⟨_,rfl,?_⟩|decide)⟩
   ·refine ⟨by (omega),zav fun u hu=>?_⟩
    have e0:(at0 (ze p.cell a.toNat) j==at0 (ze p.cell a.toNat) k&&decide (at0 (ze p.rank a.toNat) j≤at0 (ze p.rank a.toNat) k))=false:=by
     rw [Bool.and_eq_false_iff];right;rw [decide_eq_false_iff_not];omega
    simp only [zcr,zP,e0,Bool.false_eq_true,if_false]
   ·((simp only [vM] at *;omega))
  ·have h1:=zah ‹(ze p.cell a.toNat)[j]? = some _›
   have h2:=zah ‹(ze p.cell a.toNat)[k]? = some _›
   refine ⟨(j+1,_),[(0,0),(1,1)],[],?_,?_,by (refine ⟨rfl,rfl,rfl,?_,?_⟩;repeat' first|exact trivial|exact rfl|refine And.intro ?_ ?_|refine ⟨_,rfl,?_⟩|decide)⟩
   ·refine ⟨by (omega),zav fun u hu=>?_⟩
    have e0:(at0 (ze p.cell a.toNat) j==at0 (ze p.cell a.toNat) k&&decide (at0 (ze p.rank a.toNat) j≤at0 (ze p.rank a.toNat) k))=false:=by
     rw [Bool.and_eq_false_iff];left;rw [beq_eq_false_iff_ne];omega
    simp only [zcr,zP,e0,Bool.false_eq_true,if_false]
   ·((simp only [vM] at *;omega))
  ·refine ⟨(k+1,_),[(0,0),(1,1)],[],?_,?_,by (refine ⟨rfl,rfl,rfl,?_,?_⟩;repeat' first|exact trivial|exact rfl|refine And.intro ?_ ?_|refine ⟨_,rfl,?_⟩|decide)⟩
   ·refine ⟨by (omega),zav fun u hu=>?_⟩
    have e0:j=p.W.toNat:=by (omega)
    subst e0
    by_cases e:u=k
    ·subst e;simp
    ·by_cases e1:u < k
     ·simp [e1,show u < k+1 by omega]
     ·simp [e1,e,show ¬ u < k+1 by omega]
   ·((simp only [vM] at *;omega))
 ·rw [zdx,if_neg (by omega),if_neg (by omega),zek]
  have e0:k=p.W.toNat:=by (omega)
  refine congrArg some (congrArg D.tup (congrArg (fun l=>[D.arr 1 l,D.int .i64 0]) ?_))
  rw [List.map_map]
  refine zav fun u hu=>?_
  rw [if_pos (by omega)];rfl
end Go.Ab
namespace Go.Ab
open Go Go.Proofs
set_option maxRecDepth 10000
set_option maxHeartbeats 4000000
variable {T:Nat→Obj→Prop}
structure KM where
 W:Int
 val:List (BitVec 64)
 rel:List (List (BitVec 64))
 deriving DecidableEq
abbrev dKM (m:KM):D := .agg [.int .i64 m.W,dU m.val,dUU m.rel]
abbrev zzc (m:KM):Ob := .box [.d (.int .i64 m.W),.d (dU m.val),.d (dUU m.rel)]
theorem zlc (l:List (BitVec 64)) (hl:l.length≤34359738368):Fn Tryz.prog T zbq [.d (dU l)] [] (.d (dU l)) []:=by
 refine zb zn zcC (by show 1≤8;decide) ?_
 (repeat' ((conv=>whnf);first|refine vA ?_|refine vB fun b hb=>?_|refine vE ?_|(refine vF ?_ ?_<;>intro hc)|refine vT ?_|(refine vP ?_ ?_;·(simp only [vM] at *;omega))|fail));all_goals try conv=>whnf
 ·rfl
 ·have:l=[]:=by simpa using hb (by simpa using hc)
  subst this;rfl
def zg7 (p:PM) (succ:Nat→Nat→BitVec 64):KM×Int :=
 if zy p≠0 then (⟨0,[],[]⟩,zy p) else (⟨p.W,p.val,(List.range p.cell.length).map fun a=>(List.range p.W.toNat).map fun w=>succ a w⟩,0)
abbrev dKI (x:KM×Int):D := .tup [dKM x.1,.int .i64 x.2]
abbrev zsA (p:PM):D := .box [.int .i64 p.W,dU p.val,dII p.cell,dII p.rank]
theorem ztZ (p:PM) (hg:zy p=0) (a w:Nat) (ha:a < p.cell.length) (hw:w < p.W.toNat):Fn Tryz.prog T zdh [.d (.int .i64 (a:Int)),.d (.int .i64 (w:Int)),.d (zsA p)] [] (.d (.u64 (zdw (ze p.rank a) (zb9 (ze p.cell a) w)))) []:=by
 refine zb zn znL (by show 3≤16;decide) ?_
 have hat:At p a w:=⟨hg,by omega,by omega,by omega,by omega⟩
 obtain ⟨h1,h1',h2,h2',h3,-,h4⟩:=hat.rows
 (repeat' ((conv=>whnf);first|refine vA ?_|refine vT ?_|refine vN ‹_› ?_));all_goals try conv=>whnf
 refine zw.data (zle p (a:Int) (w:Int) (ze p.cell a) (by omega) h1 (by omega) (by rw [show ((ze p.cell a).length:Int)=p.W from h2];omega)) (by (repeat refine ⟨⟨rfl,rfl⟩,?_⟩);rfl) rfl ?_
 (repeat' ((conv=>whnf);first|refine vT ?_|(refine vU ?_ ?_;·kernel_rfl)|refine vY ?_|(refine yD (zqS _ _ ?_) ⟨⟨rfl,rfl⟩,⟨rfl,rfl⟩,rfl⟩ rfl ?_;(·omega))|fail));all_goals try conv=>whnf
 rfl
theorem zwv (hR:zaY T) (p:PM) (hp:za2 p.rank) (g:Nat) (succ:Nat→Nat→BitVec 64)
  (hs:zy p=0 → ∀ a w:Nat,a < p.cell.length→w < p.W.toNat→Fn Tryz.prog T g [.d (.int .i64 (a:Int)),.d (.int .i64 (w:Int)),.d (zsA p)] [] (.d (.u64 (succ a w))) []) :
  Fn Tryz.prog T ziY [.d (dPM p),.d (.fn g [zsA p])] [] (.d (dKI (zg7 p succ))) []:=by
 refine zb zn zqa (by show 2≤53;decide) ?_
 (repeat' ((conv=>whnf);first|refine vA ?_|(refine vD ?_ ?_<;>intro hc)|refine vT ?_|refine yD (zd9 hR _ hp) ⟨⟨rfl,rfl⟩,rfl⟩ rfl ?_));all_goals try conv=>whnf
 ·rw [zg7,if_pos hc];rfl
 have hg:=zA hc
 have hw1:=hg.w1
 have hw2:=hg.w2
 have hv8:=hg.v8
 have hn4:=hg.n4
 have hs':=hs hc
 (repeat' ((conv=>whnf);first|refine vA ?_|refine vJ fun hg=>?_|refine vT ?_|(refine vU ?_ ?_;·kernel_rfl)|(refine yN (zlc _ ?_) ⟨⟨rfl,rfl⟩,rfl⟩ ?_;(·omega))|fail));all_goals try conv=>whnf
 refine zt (fun ((k,xs):Nat×List D)=>[(1,.d (.fn g [zsA p])),(2,.ptr 0 0),(4,.ptr 1 0),(7,.ptr 2 0),(25,.d (.int .i64 ((p.cell.map dI).length:Int))),(26,.d (.int .i64 ((k:Int))))]) (fun ((k,xs):Nat×List D)=>[(0,some (zck p)),(1,some (.box [.d (.int .i64 0),.nils 1,.nils 1])),(2,some (.box [.d (.int .i64 p.W),.d (dU p.val),.own 3])),(3,some (.row 1 xs))]) 4 (fun ((k,xs):Nat×List D)=>k≤p.cell.length∧xs=(List.range k).map fun a=>dU ((List.range p.W.toNat).map fun w=>succ a w)) (fun ((k,xs):Nat×List D)=>p.cell.length - k) ((0,[])) [(0,0),(1,1),(2,2)]   [3] (⟨by simp,rfl⟩) (by (refine ⟨rfl,rfl,rfl,?_,?_⟩;repeat' first|exact trivial|exact rfl|exact ⟨_,rfl⟩|refine And.intro ?_ ?_|refine ⟨_,rfl,?_⟩|decide)) ?_
 rintro ⟨k,_⟩ ⟨hk,rfl⟩
 (repeat' ((conv=>whnf);first|refine vA ?_|(refine vF ?_ ?_<;>intro hc<;>try simp only [vL] at hc)|refine vK fun hg=>?_|refine vT ?_|(refine vP ?_ ?_;·omega)|fail));all_goals try conv=>whnf
 ·refine zt (fun ((j,ys):Nat×List D)=>[(1,.d (.fn g [zsA p])),(2,.ptr 0 0),(4,.ptr 1 0),(7,.ptr 2 0),(8,.d (.int .i64 ((k:Int)))),(9,.own 4),(25,.d (.int .i64 ((p.cell.map dI).length:Int))),(26,.d (.int .i64 ((k:Int)))),(33,.d (.int .i64 ((List.replicate p.W.toNat (D.u64 0#64)).length:Int))),(34,.d (.int .i64 ((j:Int))))]) (fun ((j,ys):Nat×List D)=>[(0,some (zck p)),(1,some (.box [.d (.int .i64 0),.nils 1,.nils 1])),(2,some (.box [.d (.int .i64 p.W),.d (dU p.val),.own 3])),(3,some (.row 1 ((List.range k).map fun a=>dU ((List.range p.W.toNat).map fun w=>succ a w)))),(4,some (.row 1 ys))]) 5 (fun ((j,ys):Nat×List D)=>j≤p.W.toNat∧ys=(List.range p.W.toNat).map fun u=>D.u64 (if u < j then succ k u else 0#64)) (fun ((j,ys):Nat×List D)=>p.W.toNat - j) ((0,List.replicate p.W.toNat (D.u64 0#64))) [(0,0),(1,1),(2,2),(3,3),(4,4)] [] (⟨by simp,by simp only [Nat.not_lt_zero,if_false];exact zia _ _⟩) (by (refine ⟨rfl,rfl,rfl,?_,?_⟩;repeat' first|exact trivial|exact rfl|refine And.intro ?_ ?_|refine ⟨_,rfl,?_⟩|decide)) ?_
  rintro ⟨j,_⟩ ⟨hj,rfl⟩
  (repeat' ((conv=>whnf);first|refine vA ?_|(refine vF ?_ ?_<;>intro hc<;>try simp only [vL] at hc)|refine vT ?_|((first|refine vO ?_ ?_|refine vP ?_ ?_);·first|omega|(simp only [vM] at *;omega))|fail));all_goals try conv=>whnf
  ·refine zw.data (hs' k j (by omega) (by (omega))) (by (repeat refine ⟨⟨rfl,rfl⟩,?_⟩);rfl) rfl ?_
   (repeat' ((conv=>whnf);first|refine vT ?_|((first|refine vO ?_ ?_|refine vP ?_ ?_);·first|omega|(simp only [vM] at *;omega))|fail));all_goals try conv=>whnf
   refine ⟨(j+1,_),[(0,0),(1,1),(2,2),(3,3),(4,4)],[],?_,?_,by (refine ⟨rfl,rfl,rfl,?_,?_⟩;repeat' first|exact trivial|exact rfl|refine And.intro ?_ ?_|refine ⟨_,rfl,?_⟩|decide)⟩
   ·refine ⟨by (omega),(zlK _).trans (zav fun u hu=>?_)⟩
    show (if u=j then _ else _)=_
    by_cases e:u=j
    ·subst e;simp
    ·by_cases e1:u < j
     ·simp [e1,e,show u < j+1 by omega]
     ·simp [e1,e,show ¬ u < j+1 by omega]
   ·((simp only [vM] at *;omega))
  ·refine ⟨(k+1,_),[(0,0),(1,1),(2,2),(3,6)],[],?_,?_,by (refine ⟨rfl,rfl,rfl,?_,?_⟩;repeat' first|exact trivial|exact rfl|refine And.intro ?_ ?_|refine ⟨_,rfl,?_⟩|decide)⟩
   ·refine ⟨by (omega),?_⟩
    have e0:j=p.W.toNat:=by (omega)
    subst e0
    rw [List.range_succ,List.map_append]
    refine congrArg (_++[D.arr 1 ·]) ?_
    rw [List.map_map]
    exact zav fun u hu=>by rw [if_pos hu];rfl
   ·((simp only [vM] at *;omega))
 ·rw [zg7,if_neg (by omega)]
  have e0:k=p.cell.length:=by (omega)
  refine congrArg some (congrArg D.tup (congrArg (fun l=>[D.agg [.int .i64 p.W,dU p.val,.arr 1 l],D.int .i64 0]) ?_))
  rw [List.map_map,e0];rfl
theorem zBk (hR:zaY T) (p:PM) (hp:za2 p.rank):Fn Tryz.prog T ziU [.d (dPM p)] [] (.d (dKI (zg7 p fun a w=>zdw (ze p.rank a) (zb9 (ze p.cell a) w)))) []:=by
 refine zb zn zp6 (by show 1≤9;decide) ?_
 (repeat' ((conv=>whnf);first|refine vT ?_|refine yN (zwv hR p hp zdh _ (fun hg a w ha hw=>ztZ p hg a w ha hw)) ⟨⟨rfl,rfl⟩,⟨rfl,rfl⟩,rfl⟩ ?_));all_goals try conv=>whnf
 rfl
end Go.Ab
namespace Go.Ab
open Go Go.Proofs
set_option maxRecDepth 10000
set_option maxHeartbeats 4000000
variable {T:Nat→Obj→Prop}
theorem zdd {n:Int} {i:Nat} (h1:0≤n) (hi:i < 64):(zU n).getLsbD i=decide ((i:Int) < n):=by
 unfold zU
 split
 ·rename_i h
  rw [show ((-1:BitVec 64))=BitVec.allOnes 64 from rfl,BitVec.getLsbD_allOnes]
  simp [hi];omega
 ·rename_i h
  obtain ⟨m,rfl⟩:=Int.eq_ofNat_of_zero_le h1
  have hm:m < 64:=by omega
  rw [show (1#64 <<< (m:Int).toNat - 1#64)=BitVec.setWidth 64 (BitVec.allOnes m) from ?_]
  ·rw [BitVec.getLsbD_setWidth,BitVec.getLsbD_allOnes];simp [hi]
  ·apply BitVec.eq_of_toNat_eq
   have h2:2 ^ m < 2 ^ 64:=Nat.pow_lt_pow_right (by omega) hm
   have h3:0 < 2 ^ m:=Nat.two_pow_pos m
   rw [BitVec.toNat_sub,BitVec.toNat_shiftLeft,BitVec.toNat_setWidth,BitVec.toNat_allOnes]
   simp only [Int.toNat_natCast,Nat.shiftLeft_eq]
   rw [show (1#64).toNat=1 from rfl,Nat.one_mul,Nat.mod_eq_of_lt h2,Nat.mod_eq_of_lt (show 2 ^ m - 1 < 2 ^ 64 by omega)]
   omega
end Go.Ab
namespace Go.Ab
open Go Go.Proofs
set_option maxRecDepth 10000
set_option maxHeartbeats 4000000
variable {T:Nat→Obj→Prop}
def zoi (s:BitVec 64):List Nat:=(List.range 64).filter fun i=>s.getLsbD i
def rb (r:List (BitVec 64)) (w v:Nat):Bool:=(r.getD w 0#64).getLsbD v
theorem zzk {r:List (BitVec 64)} {w:Nat} {s:BitVec 64} (h:r[w]? = some s) (v:Nat):rb r w v=s.getLsbD v:=by simp [rb,List.getD,h]
theorem zAL {r:List (BitVec 64)} {w v:Nat} (h:r.length≤w):rb r w v=false:=by simp [rb,List.getD,h]
def zkI (r:List (BitVec 64)):Prop := ∀ w v,rb r w v=true→v < r.length
def zgS {α:Type} (p:α→Bool) (l:List α):Int:=if l.findIdx p < l.length then (l.findIdx p:Int) else -1
theorem zqP {α:Type} {p:α→Bool} {l:List α} {k:Nat} {x:α} (h:l[k]? = some x) (hp:p x=true) (hI : ∀ i y,i < k→l[i]? = some y→p y=false):zgS p l=k:=by
 obtain ⟨hk,rfl⟩:=List.getElem?_eq_some_iff.1 h
 have:l.findIdx p=k:=by
  rw [List.findIdx_eq hk]
  exact ⟨hp,fun j hj=>by simpa using hI j l[j] hj (List.getElem?_eq_getElem (by omega))⟩
 rw [zgS,this,if_pos hk]
theorem zoJ {α:Type} {p:α→Bool} {l:List α} (hI : ∀ i y,i < l.length→l[i]? = some y→p y=false):zgS p l = -1:=by
 rw [zgS,if_neg]
 intro h
 have h1:=List.findIdx_getElem (p:=p) (xs:=l) (w:=h)
 rw [hI _ _ h (List.getElem?_eq_getElem h)] at h1;cases h1
theorem zsM {α:Type} {p:α→Bool} {l:List α} : 0≤zgS p l ↔ ∃ x∈l,p x=true:=by
 rw [zgS,← List.findIdx_lt_length]
 split<;>omega
def zas (r:List (BitVec 64)):Int:=if 64 < r.length then 2 else if r.any (bad r.length) then 1 else 0
theorem zmO (r:List (BitVec 64)):Fn Tryz.prog T zeO [.d (.int .i64 ((r.map D.u64).length:Int)),.d (dU r)] [] (.d (.int .i64 (zas r))) []:=by
 have h:=zms (T:=T) (r.length:Int) r
 have e:zas r=if (r.length:Int) < 0∨(64:Int) < (r.length:Int) then 2 else if (r.length:Int)≠(r.length:Int) then 3 else if r.any (bad (r.length:Int)) then 1 else 0:=by
  unfold zas
  by_cases h1:64 < r.length
  ·rw [if_pos h1,if_pos (.inr (Int.ofNat_lt.2 h1))]
  ·rw [if_neg h1,if_neg (show ¬((r.length:Int) < 0∨(64:Int) < (r.length:Int)) by omega),if_neg (show ¬((r.length:Int)≠(r.length:Int)) by simp)]
 rw [List.length_map,e];exact h
theorem zkN {n:Int} {s:BitVec 64} (h:0≤n):bad n s=false ↔ ∀ i,s.getLsbD i=true→(i:Int) < n:=by
 rw [bad,decide_eq_false_iff_not,Classical.not_not]
 constructor
 ·intro e i hi
  have hlt:=BitVec.lt_of_getLsbD hi
  have:=congrArg (fun x=>x.getLsbD i) e
  simp only [BitVec.getLsbD_and,BitVec.getLsbD_not,hlt,decide_true,Bool.true_and,hi,zdd h hlt] at this
  simpa using this
 ·intro hs
  apply BitVec.eq_of_getLsbD_eq
  intro i hi
  rw [BitVec.getLsbD_and,BitVec.getLsbD_not,zdd h hi]
  cases hb:s.getLsbD i with
  | false=>simp
  | true=>have:=hs i hb;simp [hi,this]
theorem zbI {r:List (BitVec 64)} : zas r=0↔r.length≤64∧zkI r:=by
 unfold zas
 by_cases h1:64 < r.length
 ·rw [if_pos h1];simp;omega
 ·rw [if_neg h1]
  have:(r.any (bad r.length)=false)↔zkI r:=by
   rw [List.any_eq_false]
   constructor
   ·intro h w v hv
    by_cases hw:w < r.length
    ·have:=(zkN (n:=(r.length:Int)) (by omega)).1 (by simpa using h r[w] (List.getElem_mem hw)) v (by rw [← zzk (List.getElem?_eq_getElem hw)];exact hv)
     omega
    ·rw [zAL (by omega)] at hv;cases hv
   ·intro h s hs
    obtain ⟨w,hw⟩:=List.getElem?_of_mem hs
    rw [(zkN (n:=(r.length:Int)) (by omega)).2 (fun i hi=>by have:=h w i (by rw [zzk hw];exact hi);omega)]
    simp
  cases hb:r.any (bad r.length) with
  | true =>
   rw [if_pos rfl]
   have : ¬ zkI r:=fun h=>by have:=this.2 h;rw [hb] at this;cases this
   simp [this]
  | false =>
   simp only [Bool.false_eq_true,if_false,true_iff]
   exact ⟨by omega,this.1 hb⟩
theorem ztL {x y:BitVec 64} : x &&& ~~~y=0#64 ↔ ∀ i,x.getLsbD i=true→y.getLsbD i=true:=by
 constructor
 ·intro e i hi
  have hlt:=BitVec.lt_of_getLsbD hi
  have:=congrArg (fun x=>x.getLsbD i) e
  simp only [BitVec.getLsbD_and,BitVec.getLsbD_not,hlt,decide_true,Bool.true_and,hi] at this
  simpa using this
 ·intro h
  apply BitVec.eq_of_getLsbD_eq
  intro i hi
  rw [BitVec.getLsbD_and,BitVec.getLsbD_not]
  cases hb:x.getLsbD i with
  | false=>simp
  | true=>simp [hi,h i hb]
theorem zy5 {s:BitVec 64} : s=0#64 ↔ ∀ i,s.getLsbD i=false:=by
 constructor
 ·rintro rfl i;simp
 ·intro h;apply BitVec.eq_of_getLsbD_eq;intro i _;rw [h i];simp
end Go.Ab
namespace Go.Ab
open Go Go.Proofs
section
variable {p:PM} {a w:Int} (hat:At p a w)
include hat
theorem zkV {i:Nat} : (zeI p a w).getLsbD i=true↔i < p.W.toNat∧at0 (ze p.cell a.toNat) i=at0 (ze p.cell a.toNat) w.toNat:=by
 obtain ⟨-,-,h1,-,h3,-⟩:=hat.rows
 rw [zeI,if_pos hat,zb9,zgn]
 simp only [Bool.and_eq_true,decide_eq_true_eq,beq_iff_eq]
 constructor
 ·rintro ⟨⟨-,h4⟩,h5⟩;exact ⟨by omega,h5⟩
 ·rintro ⟨h4,h5⟩;exact ⟨⟨by omega,by omega⟩,h5⟩
theorem zv5 {s:BitVec 64} {i:Nat} : (zhQ p a w s).getLsbD i=true↔(s.getLsbD i=true∧(zeI p a w).getLsbD i=true) ∧ ∀ u,s.getLsbD u=true→(zeI p a w).getLsbD u=true→at0 (ze p.rank a.toNat) i≤at0 (ze p.rank a.toNat) u:=by
 obtain ⟨-,-,h1,h2,h3,-⟩:=hat.rows
 have hc : ∀ i,(zb9 (ze p.cell a.toNat) w.toNat).getLsbD i=(zeI p a w).getLsbD i:=fun i=>by rw [zeI,if_pos hat]
 rw [zhQ,if_pos hat,zdw,zbW]
 simp only [BitVec.getLsbD_and,Bool.and_eq_true,hc]
 constructor
 ·rintro ⟨h4,h5,h6⟩
  exact ⟨h5,fun u hu hu'=>h6 u (by have:=(zkV hat).1 hu';omega) ⟨hu,hu'⟩⟩
 ·rintro ⟨h4,h5⟩
  exact ⟨by have:=(zkV hat).1 h4.2;omega,h4,fun u _ hu=>h5 u hu.1 hu.2⟩
end
end Go.Ab
namespace Go.Ab
open Go Go.Proofs
set_option maxRecDepth 10000
set_option maxHeartbeats 4000000
variable {T:Nat→Obj→Prop}
abbrev bI (x:Int):D := .box [.int .i64 x]
abbrev bU (x:BitVec 64):D := .box [.u64 x]
abbrev bP (p:PM):D := .box [.int .i64 p.W,dU p.val,dII p.cell,dII p.rank]
theorem zwz (p:PM) (hW:p.W≤64) (g:Nat) (x0 x1:D) (c:Nat→Bool) (hcl : ∀ w:Nat,w < p.W.toNat→Fn Tryz.prog T g [.d (.int .i64 (w:Int)),.d x0,.d x1] [] (.d (.bool (c w))) []) :
  Fn Tryz.prog T zdg [.d (dPM p),.d (.fn g [x0,x1])] [] (.d (.u64 (zP c p.W.toNat))) []:=by
 refine zb zn zeR (by show 2≤21;decide) ?_
 (repeat' ((conv=>whnf);first|refine vA ?_|refine vT ?_));all_goals try conv=>whnf
 refine zaN (fun ((k,s):Nat×BitVec 64)=>[(1,.d (.fn g [x0,x1])),(8,.d (.int .i64 (p.W))),(5,.d (.u64 (s))),(9,.d (.int .i64 ((k:Int))))]) (fun ((k,s):Nat×BitVec 64)=>k≤p.W.toNat∧s=zP c k) (fun ((k,s):Nat×BitVec 64)=>p.W.toNat - k) ((0,0#64)) (⟨by simp,rfl⟩) (by (repeat' first|exact trivial|exact rfl|refine And.intro ?_ ?_)) ?_
 rintro ⟨k,s⟩ ⟨hk,hI⟩
 (repeat' ((conv=>whnf);first|refine vA ?_|(refine vF ?_ ?_<;>intro hc<;>try simp only [vL] at hc)|refine vT ?_|refine vY ?_));all_goals try conv=>whnf
 ·have h1:=hcl k (by omega)
  cases hck:c k with
  | true =>
   rw [hck] at h1
   (repeat' ((conv=>whnf);first|refine vG ?_|refine vT ?_|((first|refine vO ?_ ?_|refine vP ?_ ?_);·omega)|refine yD h1 (by (repeat refine ⟨⟨rfl,rfl⟩,?_⟩);rfl) rfl ?_));all_goals try conv=>whnf
   refine ⟨(k+1,_),[],[],?_,?_,by (refine ⟨rfl,rfl,rfl,?_,?_⟩;repeat' first|exact trivial|exact rfl|refine And.intro ?_ ?_)⟩
   ·exact ⟨by (omega),by rw [zP,if_pos hck,hI];rfl⟩
   ·((simp only [vM] at *;omega))
  | false =>
   rw [hck] at h1
   (repeat' ((conv=>whnf);first|refine vH ?_|refine vT ?_|(refine vO ?_ ?_;·omega)|refine yD h1 (by (repeat refine ⟨⟨rfl,rfl⟩,?_⟩);rfl) rfl ?_));all_goals try conv=>whnf
   exact ⟨(k+1,s),[],[],⟨by (omega),by rw [zP,if_neg (by simp [hck]),hI]⟩,by ((simp only [vM] at *;omega)),by (refine ⟨rfl,rfl,rfl,?_,?_⟩;repeat' first|exact trivial|exact rfl|refine And.intro ?_ ?_)⟩
 ·rw [hI,show k=p.W.toNat by omega]
theorem zwA (p:PM) (hW:p.W≤64) (g:Nat) (x0 x1 x2:D) (c:Nat→Bool) (hcl : ∀ w:Nat,w < p.W.toNat→Fn Tryz.prog T g [.d (.int .i64 (w:Int)),.d x0,.d x1,.d x2] [] (.d (.bool (c w))) []) :
  Fn Tryz.prog T zdg [.d (dPM p),.d (.fn g [x0,x1,x2])] [] (.d (.u64 (zP c p.W.toNat))) []:=by
 refine zb zn zeR (by show 2≤21;decide) ?_
 (repeat' ((conv=>whnf);first|refine vA ?_|refine vT ?_));all_goals try conv=>whnf
 refine zaN (fun ((k,s):Nat×BitVec 64)=>[(1,.d (.fn g [x0,x1,x2])),(8,.d (.int .i64 (p.W))),(5,.d (.u64 (s))),(9,.d (.int .i64 ((k:Int))))]) (fun ((k,s):Nat×BitVec 64)=>k≤p.W.toNat∧s=zP c k) (fun ((k,s):Nat×BitVec 64)=>p.W.toNat - k) ((0,0#64)) (⟨by simp,rfl⟩) (by (repeat' first|exact trivial|exact rfl|refine And.intro ?_ ?_)) ?_
 rintro ⟨k,s⟩ ⟨hk,hI⟩
 (repeat' ((conv=>whnf);first|refine vA ?_|(refine vF ?_ ?_<;>intro hc<;>try simp only [vL] at hc)|refine vT ?_|refine vY ?_));all_goals try conv=>whnf
 ·have h1:=hcl k (by omega)
  cases hck:c k with
  | true =>
   rw [hck] at h1
   (repeat' ((conv=>whnf);first|refine vG ?_|refine vT ?_|((first|refine vO ?_ ?_|refine vP ?_ ?_);·omega)|refine yD h1 (by (repeat refine ⟨⟨rfl,rfl⟩,?_⟩);rfl) rfl ?_));all_goals try conv=>whnf
   refine ⟨(k+1,_),[],[],?_,?_,by (refine ⟨rfl,rfl,rfl,?_,?_⟩;repeat' first|exact trivial|exact rfl|refine And.intro ?_ ?_)⟩
   ·exact ⟨by (omega),by rw [zP,if_pos hck,hI];rfl⟩
   ·((simp only [vM] at *;omega))
  | false =>
   rw [hck] at h1
   (repeat' ((conv=>whnf);first|refine vH ?_|refine vT ?_|(refine vO ?_ ?_;·omega)|refine yD h1 (by (repeat refine ⟨⟨rfl,rfl⟩,?_⟩);rfl) rfl ?_));all_goals try conv=>whnf
   exact ⟨(k+1,s),[],[],⟨by (omega),by rw [zP,if_neg (by simp [hck]),hI]⟩,by ((simp only [vM] at *;omega)),by (refine ⟨rfl,rfl,rfl,?_,?_⟩;repeat' first|exact trivial|exact rfl|refine And.intro ?_ ?_)⟩
 ·rw [hI,show k=p.W.toNat by omega]
theorem zwB (p:PM) (hW:p.W≤64) (g:Nat) (x0 x1 x2 x3:D) (c:Nat→Bool) (hcl : ∀ w:Nat,w < p.W.toNat→Fn Tryz.prog T g [.d (.int .i64 (w:Int)),.d x0,.d x1,.d x2,.d x3] [] (.d (.bool (c w))) []) :
  Fn Tryz.prog T zdg [.d (dPM p),.d (.fn g [x0,x1,x2,x3])] [] (.d (.u64 (zP c p.W.toNat))) []:=by
 refine zb zn zeR (by show 2≤21;decide) ?_
 (repeat' ((conv=>whnf);first|refine vA ?_|refine vT ?_));all_goals try conv=>whnf
 refine zaN (fun ((k,s):Nat×BitVec 64)=>[(1,.d (.fn g [x0,x1,x2,x3])),(8,.d (.int .i64 (p.W))),(5,.d (.u64 (s))),(9,.d (.int .i64 ((k:Int))))]) (fun ((k,s):Nat×BitVec 64)=>k≤p.W.toNat∧s=zP c k) (fun ((k,s):Nat×BitVec 64)=>p.W.toNat - k) ((0,0#64)) (⟨by simp,rfl⟩) (by (repeat' first|exact trivial|exact rfl|refine And.intro ?_ ?_)) ?_
 rintro ⟨k,s⟩ ⟨hk,hI⟩
 (repeat' ((conv=>whnf);first|refine vA ?_|(refine vF ?_ ?_<;>intro hc<;>try simp only [vL] at hc)|refine vT ?_|refine vY ?_));all_goals try conv=>whnf
 ·have h1:=hcl k (by omega)
  cases hck:c k with
  | true =>
   rw [hck] at h1
   (repeat' ((conv=>whnf);first|refine vG ?_|refine vT ?_|((first|refine vO ?_ ?_|refine vP ?_ ?_);·omega)|refine yD h1 (by (repeat refine ⟨⟨rfl,rfl⟩,?_⟩);rfl) rfl ?_));all_goals try conv=>whnf
   refine ⟨(k+1,_),[],[],?_,?_,by (refine ⟨rfl,rfl,rfl,?_,?_⟩;repeat' first|exact trivial|exact rfl|refine And.intro ?_ ?_)⟩
   ·exact ⟨by (omega),by rw [zP,if_pos hck,hI];rfl⟩
   ·((simp only [vM] at *;omega))
  | false =>
   rw [hck] at h1
   (repeat' ((conv=>whnf);first|refine vH ?_|refine vT ?_|(refine vO ?_ ?_;·omega)|refine yD h1 (by (repeat refine ⟨⟨rfl,rfl⟩,?_⟩);rfl) rfl ?_));all_goals try conv=>whnf
   exact ⟨(k+1,s),[],[],⟨by (omega),by rw [zP,if_neg (by simp [hck]),hI]⟩,by ((simp only [vM] at *;omega)),by (refine ⟨rfl,rfl,rfl,?_,?_⟩;repeat' first|exact trivial|exact rfl|refine And.intro ?_ ?_)⟩
 ·rw [hI,show k=p.W.toNat by omega]
def zfn (p:PM) (a:Int) (s:BitVec 64):BitVec 64:=zP (fun w=>decide (zeI p a w &&& ~~~s=0#64)) p.W.toNat
def zaT (p:PM) (a:Int) (c s:BitVec 64):BitVec 64:=zP (fun w=>decide (zhQ p a w c &&& ~~~s=0#64)) p.W.toNat
def zfK (p:PM) (a:Int) (s:BitVec 64):BitVec 64:=zP (fun w=>decide ((zdx p a).1.getD w 0#64 &&& ~~~s=0#64)) p.W.toNat
theorem zgT (p:PM) (h:1≤p.W) (h':p.W≤64):Fn Tryz.prog T ziN [.d (dPM p)] [] (.d (.u64 (zU p.W))) []:=by
 refine zb zn zpY (by show 1≤7;decide) ?_
 (repeat' ((conv=>whnf);first|refine vT ?_|((first|refine vO ?_ ?_|refine vP ?_ ?_);·omega)|refine vY ?_));all_goals try conv=>whnf
 apply BitVec.eq_of_getLsbD_eq
 intro i hi
 rw [zdd (by omega) hi]
 show ((18446744073709551615#64) >>> (64 - p.W).toNat).getLsbD i=_
 rw [BitVec.getLsbD_ushiftRight,show (18446744073709551615#64)=BitVec.allOnes 64 from rfl,BitVec.getLsbD_allOnes,Bool.eq_iff_iff]
 simp only [Bool.and_eq_true,decide_eq_true_eq]
 omega
theorem zsX (hR:zaY T) (p:PM) (hp:za2 p.rank) (hW:p.W≤64) (a:Int) (s:BitVec 64):Fn Tryz.prog T zhw [.d (dPM p),.d (.int .i64 a),.d (.u64 s)] [] (.d (.u64 (zfn p a s))) []:=by
 have h1 : ∀ w:Nat,w < p.W.toNat→Fn Tryz.prog T zcw [.d (.int .i64 (w:Int)),.d (bP p),.d (bI a),.d (bU s)] [] (.d (.bool (decide (zeI p a w &&& ~~~s=0#64)))) []:=fun w hw=>by
  refine zb zn zlp (by show 4≤13;decide) ?_
  (repeat' ((conv=>whnf);first|refine vA ?_|refine vT ?_|(refine vU ?_ ?_;·kernel_rfl)|refine vZ ?_|refine yD (zzC hR _ hp _ _) ⟨⟨rfl,rfl⟩,⟨rfl,rfl⟩,⟨rfl,rfl⟩,rfl⟩ rfl ?_));all_goals try conv=>whnf
  all_goals rfl
 have h2:=zwA p hW zcw (bP p) (bI a) (bU s) _ h1
 refine zb zn znG (by show 3≤10;decide) ?_
 (repeat' ((conv=>whnf);first|refine vT ?_|refine vY ?_|refine yD h2 ⟨⟨rfl,rfl⟩,⟨rfl,rfl⟩,rfl⟩ rfl ?_));all_goals try conv=>whnf
 all_goals rfl
theorem zt1 (hR:zaY T) (p:PM) (hp:za2 p.rank) (hW:p.W≤64) (a:Int) (c s:BitVec 64):Fn Tryz.prog T zfw [.d (dPM p),.d (.int .i64 a),.d (.u64 c),.d (.u64 s)] [] (.d (.u64 (zaT p a c s))) []:=by
 have h1 : ∀ w:Nat,w < p.W.toNat→Fn Tryz.prog T zbQ [.d (.int .i64 (w:Int)),.d (bP p),.d (bI a),.d (bU c),.d (bU s)] [] (.d (.bool (decide (zhQ p a w c &&& ~~~s=0#64)))) []:=fun w hw=>by
  refine zb zn zja (by show 5≤15;decide) ?_
  (repeat' ((conv=>whnf);first|refine vA ?_|refine vT ?_|(refine vU ?_ ?_;·kernel_rfl)|refine vZ ?_|refine yD (zzB hR _ hp _ _ _) (by (repeat refine ⟨⟨rfl,rfl⟩,?_⟩);rfl) rfl ?_));all_goals try conv=>whnf
  all_goals rfl
 have h2:=zwB p hW zbQ (bP p) (bI a) (bU c) (bU s) _ h1
 refine zb zn zkC (by show 4≤12;decide) ?_
 (repeat' ((conv=>whnf);first|refine vT ?_|refine vY ?_|refine yD h2 ⟨⟨rfl,rfl⟩,⟨rfl,rfl⟩,rfl⟩ rfl ?_));all_goals try conv=>whnf
 all_goals rfl
theorem zwx (hR:zaY T) (p:PM) (hp:za2 p.rank) (hc0:zy p=0) (a:Int) (ha:0≤a) (ha':a < p.cell.length) (s:BitVec 64):Fn Tryz.prog T zgD [.d (dPM p),.d (.int .i64 a),.d (.u64 s)] [] (.d (.u64 (zfK p a s))) []:=by
 have hg:=zA hc0
 have e:zdx p a=(zek p a.toNat,0):=by rw [zdx,if_neg (by omega),if_neg (by omega)]
 have hl:(zek p a.toNat).length=p.W.toNat:=by simp [zek]
 have h1 : ∀ w:Nat,w < p.W.toNat→Fn Tryz.prog T zcm [.d (.int .i64 (w:Int)),.d (.box [dU (zek p a.toNat)]),.d (bU s)] [] (.d (.bool (decide ((zek p a.toNat).getD w 0#64 &&& ~~~s=0#64)))) []:=fun w hw=>by
  refine zb zn zkD (by show 3≤12;decide) ?_
  have hx:(zek p a.toNat)[w]? = some ((zek p a.toNat).getD w 0#64):=by simp [List.getD,hl,hw]
  (repeat' ((conv=>whnf);first|refine vA ?_|refine vT ?_|refine vN ‹_› ?_|(refine vU ?_ ?_;·kernel_rfl)|refine vZ ?_));all_goals try conv=>whnf
  all_goals rfl
 have h2:=zwz p hg.w2 zcm (.box [dU (zek p a.toNat)]) (bU s) _ h1
 have h3:=zwr (T:=T) hR p hp a
 rw [e] at h3
 rw [zfK,e]
 refine zb zn zmv (by show 3≤18;decide) ?_
 (repeat' ((conv=>whnf);first|refine vT ?_|refine vY ?_|refine yN h3 ⟨⟨rfl,rfl⟩,⟨rfl,rfl⟩,rfl⟩ ?_|refine yD h2 ⟨⟨rfl,rfl⟩,⟨rfl,rfl⟩,rfl⟩ rfl ?_));all_goals try conv=>whnf
 all_goals rfl
end Go.Ab
namespace Go.Ab
open Go Go.Proofs
set_option maxRecDepth 10000
set_option maxHeartbeats 4000000
variable {T:Nat→Obj→Prop}
theorem zw.objs {P:Program} {M:Nat→Option Ob} {n f:Nat} {vs lvs:List V} {obs:List Ob} {lv:V} {obs':List (Option Ob)} {K:V→Upd→Nat→Prop} (js:List Nat) (hf:Fn P T f lvs obs lv obs') (ha:VPasses M js [] 20 lvs vs)
  (ho:zaJ M js [] obs js) (hnd:nodup js=true) (hsj:zdl js (zI M vs)=true) (hle:js.length≤obs'.length)
  (hK:K (zix js n 20 lv) (zfe js [] n obs' false) (obs'.length - js.length)):zw (zcR P T) M n f vs K :=
 ⟨⟨_,_,_,⟨js,[],false,lvs,obs,lv,obs',hf,ha,ho,hnd,by simp [zdz],hsj,by simp [zdl],hle,nofun,rfl,rfl,rfl⟩,hK⟩⟩
section
variable {α:Type} [Inhabited α]
theorem zzr {d:Array α} {i:Nat} (h:i < d.size):d.toList[i]? = some d[i]! := by
 simp [h]
theorem za9 {d:Array α} {i:Nat} {x:α} (h:d.toList[i]? = some x):d[i]! = x∧i < d.size:=by
 obtain ⟨h1,h2⟩:=List.getElem?_eq_some_iff.1 h
 rw [Array.length_toList] at h1
 exact ⟨by simp [h1];simpa using h2,h1⟩
theorem zqw {enc:α→D} {d:Array α} {i j:Nat} {x y:α} (hi:d.toList[i]? = some x) (hj:d.toList[j]? = some y):((d.toList.map enc).set i (enc y)).set j (enc x)=(Sort.swp d i j).toList.map enc:=by
 obtain ⟨e1,_⟩:=za9 hi
 obtain ⟨e2,_⟩:=za9 hj
 simp [Sort.swp,e1,e2,List.map_set]
theorem zz {d:Array α} {i:Int} {x:α} (k:Nat) (h:d.toList[i.toNat]? = some x) (hk:i=k):d.toList[k]? = some x:=by subst hk;exact h
theorem zaB {enc:α→D} {d:Array α} {i j:Int} {x y:α} (i' j':Nat) (hi:d.toList[i.toNat]? = some x) (hj:d.toList[j.toNat]? = some y) (ei:i=i') (ej:j=j'):((d.toList.map enc).set i.toNat (enc y)).set j.toNat (enc x)=(Sort.swp d i' j').toList.map enc:=by
 subst ei;subst ej;exact zqw hi hj
theorem swp_size (d:Array α) (i j:Nat):(Sort.swp d i j).size=d.size:=by simp [Sort.swp]
variable {lt:α→α→Bool}
theorem zaj {d:Array α} {i j:Nat} {x y:α} (hi:d.toList[i]? = some x) (hj:d.toList[j]? = some y):lt d[i]! d[j]! = lt x y:=by rw [(za9 hi).1,(za9 hj).1]
theorem zrG {a j:Nat} {d:Array α} (h : ¬(a < j∧lt d[j]! d[j - 1]! = true)):Sort.insInner lt a j d=d:=by
 cases j with
 | zero=>rfl
 | succ j =>
  unfold Sort.insInner
  rw [if_neg]
  simpa using h
theorem zrF {a j:Nat} {d:Array α} (h1:a < j) (h2:lt d[j]! d[j - 1]! = true):Sort.insInner lt a j d=Sort.insInner lt a (j - 1) (Sort.swp d j (j - 1)):=by
 cases j with
 | zero=>omega
 | succ j =>
  rw [Sort.insInner,if_pos]
  ·simp
  ·simp at h2 ⊢;exact ⟨by omega,h2⟩
theorem insInner_size {a:Nat} : ∀ {j:Nat} {d:Array α},(Sort.insInner lt a j d).size=d.size
 | 0,d=>rfl
 | j+1,d=>by
  unfold Sort.insInner
  split
  ·rw [insInner_size,swp_size]
  ·rfl
theorem insOuter_stop {a b i:Nat} {d:Array α} (h : ¬i < b):Sort.insOuter lt a b i d=d:=by rw [Sort.insOuter,if_neg h]
theorem insOuter_step {a b i:Nat} {d:Array α} (h:i < b):Sort.insOuter lt a b i d=Sort.insOuter lt a b (i+1) (Sort.insInner lt a i d):=by rw [Sort.insOuter.eq_def lt a b i,if_pos h]
theorem zlM {hi first root:Nat} {d:Array α} (h:2 * root+1 ≥ hi):Sort.siftDown lt hi first root d=d:=by rw [Sort.siftDown,dif_pos h]
def ze1 (lt:α→α→Bool) (hi first root:Nat) (d:Array α):Nat:=if 2 * root+1+1 < hi∧lt d[first+(2 * root+1)]! d[first+(2 * root+1)+1]! = true then 2 * root+2 else 2 * root+1
theorem zqt {hi first root:Nat} {d:Array α} (h : ¬2 * root+1 ≥ hi):Sort.siftDown lt hi first root d =
  if lt d[first+root]! d[first+ze1 lt hi first root d]! = true then Sort.siftDown lt hi first (ze1 lt hi first root d) (Sort.swp d (first+root) (first+ze1 lt hi first root d)) else d:=by
 rw [Sort.siftDown,dif_neg h,ze1]
 by_cases h1:2 * root+1+1 < hi∧lt d[first+(2 * root+1)]! d[first+(2 * root+1)+1]! = true
 ·rw [if_pos (by simpa using h1),if_pos h1]
  cases hb:lt d[first+root]! d[first+(2 * root+2)]! with
  | false=>simp
  | true=>simp only [Bool.not_true,Bool.false_eq_true,if_false,if_true];rw [dif_pos (by omega)]
 ·rw [if_neg (by simpa using h1),if_neg h1]
  cases hb:lt d[first+root]! d[first+(2 * root+1)]! with
  | false=>simp
  | true=>simp
theorem zrn {hi first:Nat} : ∀ (n root:Nat) (d:Array α),hi - root≤n→(Sort.siftDown lt hi first root d).size=d.size
 | 0,root,d,h=>by rw [zlM (by omega)]
 | n+1,root,d,h=>by
  by_cases h1:2 * root+1 ≥ hi
  ·rw [zlM h1]
  ·rw [zqt h1]
   split
   ·have:root < ze1 lt hi first root d:=by unfold ze1;split<;>omega
    rw [zrn n _ _ (by omega),swp_size]
   ·rfl
theorem siftDown_size {hi first root:Nat} {d:Array α} : (Sort.siftDown lt hi first root d).size=d.size:=zrn _ _ _ (Nat.le_refl _)
theorem build_size {hi first:Nat} : ∀ {k:Nat} {d:Array α},(Sort.heapBuild lt hi first k d).size=d.size
 | 0,d=>rfl
 | k+1,d=>by rw [Sort.heapBuild,build_size,siftDown_size]
theorem zyH {i j:Nat} {d:Array α} (h : ¬i < j):Sort.reverseLoop i j d=d:=by rw [Sort.reverseLoop,if_neg h]
theorem zyG {i j:Nat} {d:Array α} (h:i < j):Sort.reverseLoop i j d=Sort.reverseLoop (i+1) (j - 1) (Sort.swp d i j):=by rw [Sort.reverseLoop,if_pos h]
end
end Go.Ab
namespace Go.Ab
structure Nd where
 op:Int
 i:Int
 e:Int
 g:Int
 x:Int
 y:Int
 deriving DecidableEq,Inhabited
structure Hd where
 op:Int
 i:Int
 e:Int
 g:Int
 deriving DecidableEq,Inhabited
def Nd.hd (n:Nd):Hd:=⟨n.op,n.i,n.e,n.g⟩
def zdj (op:Int):Bool:=decide (1≤op∧op≤21)
def z7 (op:Int):Bool:=decide (4≤op∧op≤21)
def zQ (op:Int):Bool:=decide (5≤op∧op≤8∨op=13∨op=14∨op=16∨op=19∨op=21)
def zT (op:Int):Bool:=decide (op=3)
def zD (op:Int):Bool:=decide (op=9∨op=10∨op=14∨op=15)
def zL (op:Int):Bool:=decide (op=17)
def zE (op:Int):Bool:=decide (11≤op∧op≤13)
def zbb (op:Int):Int :=
 if op=9∨op=10 then 1 else if op=11 then 2 else if op=12 then 4 else if op=13 then 8 else if op=14 then 16 else if op=15 then 32 else if op=16 then 64 else if op=17 then 128 else
 if 18≤op∧op≤21 then 256 else 0
theorem zar {op:Int} (h:zQ op=true):z7 op=true:=by
 simp only [z7,zQ,decide_eq_true_eq] at h ⊢;omega
def zh8 (used:Bool) (f at_:Int):Bool:=used&&decide (0≤f)&&decide (f < at_) || !used&&decide (f=0)
def zbV (used:Bool) (v lo hi:Int):Bool:=used&&(decide (v < lo)||decide (hi < v))
def zbM (n:Nd) (at_:Int):Int :=
 if zdj n.op=false then 10 else
 if zh8 (z7 n.op) n.x at_=false∨zh8 (zQ n.op) n.y at_=false then 3 else
 if (!(zT n.op||zD n.op||zL n.op)&&decide (n.i≠0)||(!zL n.op&&decide (n.e≠0))||(!zE n.op&&decide (n.g≠0)))=true then 3 else
 if (zbV (zT n.op) n.i 0 7||zbV (zD n.op) n.i 0 3||zbV (zL n.op) n.i 0 7||zbV (zL n.op) n.e 0 7||zbV (zE n.op) n.g 1 15)=true then 2 else 0
def zf8:List Nd→Nat→Int
 | [],_=>0
 | n::r,k=>if zbM n k≠0 then zbM n k else zf8 r (k+1)
def zbi (f:List Nd):Int:=if f.length=0 then 3 else if 200 < f.length then 8 else zf8 f 0
def zan (f:List Nd):Prop := ∀ (k:Nat) n,f[k]? = some n→zbM n k=0
theorem zk7 : ∀ (f:List Nd) (k:Nat),zf8 f k=0 ↔ ∀ (j:Nat) n,f[j]? = some n→zbM n (k+j:Nat)=0
 | [],k=>by simp [zf8]
 | n::r,k=>by
  unfold zf8
  constructor
  ·intro h
   split at h
   ·contradiction
   ·rename_i h0
    intro j m hj
    cases j with
    | zero=>simp at hj;subst hj;simpa using h0
    | succ j =>
     have:=(zk7 r (k+1)).1 h j m (by simpa using hj)
     rwa [show k+1+j=k+(j+1) by omega] at this
  ·intro h
   have h0:=h 0 n (by simp)
   rw [if_neg (by simpa using h0)]
   refine (zk7 r (k+1)).2 fun j m hj=>?_
   have:=h (j+1) m (by simpa using hj)
   rwa [show k+(j+1)=k+1+j by omega] at this
theorem zd8 {f:List Nd} : zbi f=0↔0 < f.length∧f.length≤200∧zan f:=by
 unfold zbi zan
 have:=zk7 f 0
 simp only [Nat.zero_add] at this
 by_cases h1:f.length=0
 ·rw [if_pos h1];omega
 ·rw [if_neg h1]
  by_cases h2:200 < f.length
  ·rw [if_pos h2];omega
  ·rw [if_neg h2,this]
   exact ⟨fun h=>⟨by omega,by omega,h⟩,fun h=>h.2.2⟩
theorem zqf {n:Nd} {a:Int} (h:zbM n a=0):zdj n.op=true∧(z7 n.op=true→0≤n.x∧n.x < a)∧(z7 n.op=false→n.x=0)∧(zQ n.op=true→0≤n.y∧n.y < a)∧(zQ n.op=false→n.y=0) ∧
  (zT n.op=true→0≤n.i∧n.i≤7)∧(zD n.op=true→0≤n.i∧n.i≤3)∧(zL n.op=true→0≤n.i∧n.i≤7∧0≤n.e∧n.e≤7)∧(zE n.op=true→1≤n.g∧n.g≤15) ∧
  (zT n.op=false→zD n.op=false→zL n.op=false→n.i=0)∧(zL n.op=false→n.e=0)∧(zE n.op=false→n.g=0):=by
 unfold zbM at h
 split at h
 ·cases h
 ·rename_i h1
  split at h
  ·cases h
  ·rename_i h2
   split at h
   ·cases h
   ·rename_i h3
    split at h
    ·cases h
    ·rename_i h4
     generalize z7 n.op=a1 at *
     generalize zQ n.op=a2 at *
     generalize zT n.op=a3 at *
     generalize zD n.op=a4 at *
     generalize zL n.op=a5 at *
     generalize zE n.op=a6 at *
     refine ⟨by simpa using h1,?_⟩
     simp only [zh8,zbV] at h2 h3 h4
     cases a1<;>cases a2<;>cases a3<;>cases a4<;>cases a5<;>cases a6<;>simp at h2 h3 h4 ⊢ <;> omega
theorem zzQ {n:Nd} {a:Int} (h:zdj n.op=true∧(z7 n.op=true→0≤n.x∧n.x < a)∧(z7 n.op=false→n.x=0)∧(zQ n.op=true→0≤n.y∧n.y < a)∧(zQ n.op=false→n.y=0) ∧
  (zT n.op=true→0≤n.i∧n.i≤7)∧(zD n.op=true→0≤n.i∧n.i≤3)∧(zL n.op=true→0≤n.i∧n.i≤7∧0≤n.e∧n.e≤7)∧(zE n.op=true→1≤n.g∧n.g≤15) ∧
  (zT n.op=false→zD n.op=false→zL n.op=false→n.i=0)∧(zL n.op=false→n.e=0)∧(zE n.op=false→n.g=0)):zbM n a=0:=by
 unfold zbM
 generalize z7 n.op=a1 at *
 generalize zQ n.op=a2 at *
 generalize zT n.op=a3 at *
 generalize zD n.op=a4 at *
 generalize zL n.op=a5 at *
 generalize zE n.op=a6 at *
 rw [if_neg (by simp [h.1]),if_neg,if_neg,if_neg]
 all_goals
  try simp only [zh8,zbV]
  cases a1<;>cases a2<;>cases a3<;>cases a4<;>cases a5<;>cases a6<;>simp at h ⊢ <;> omega
structure FSt where
 out:List Nd
 done:List (Nat×Nat)
def put (l:List Nd) (x:Nd):Nat×List Nd:=match l.idxOf? x with
 | some k=>(k,l)
 | none=>(l.length,l++[x])
def fin (f:List Nd):Nat→Nat→FSt→Nat×FSt
 | 0,_,s=>(0,s)
 | k+1,i,s=>match s.done.lookup i with
  | some r=>(r,s)
  | none =>
   let n:=f.getD i default
   let a:=cond (z7 n.op) (fin f k n.x.toNat s) (n.x.toNat,s)
   let b:=cond (zQ n.op) (fin f k n.y.toNat a.2) (n.y.toNat,a.2)
   let p:=put b.2.out { n with x:=a.1,y:=b.1 }
   (p.1,⟨p.2,b.2.done++[(i,p.1)]⟩)
def zbp (f:List Nd) (root:Nat):List Nd:=(fin f (root+1) root ⟨[],[]⟩).2.out
inductive Tm where
 | z (h:Hd)
 | u (h:Hd) (x:Tm)
 | b (h:Hd) (x y:Tm)
def tm (f:List Nd):Nat→Nat→Tm
 | 0,_ => .z default
 | k+1,i =>
  let n:=f.getD i default
  cond (zQ n.op) (.b n.hd (tm f k n.x.toNat) (tm f k n.y.toNat)) (cond (z7 n.op) (.u n.hd (tm f k n.x.toNat)) (.z n.hd))
def zag (f:List Nd) (i:Nat):Tm:=tm f (i+1) i
theorem zg8 {f:List Nd} (hf:zan f) {i:Nat} (hi:i < f.length):zbM (f.getD i default) i=0:=hf i _ (by simp [hi])
theorem zbc {f:List Nd} (hf:zan f) {i:Nat} (hi:i < f.length) (h:z7 (f.getD i default).op=true):0≤(f.getD i default).x∧(f.getD i default).x.toNat < i:=by
 have:=(zqf (zg8 hf hi)).2.1 h;omega
theorem zd1 {f:List Nd} (hf:zan f) {i:Nat} (hi:i < f.length) (h:zQ (f.getD i default).op=true):0≤(f.getD i default).y∧(f.getD i default).y.toNat < i:=by
 have:=(zqf (zg8 hf hi)).2.2.2.1 h;omega
theorem zhc {f:List Nd} (hf:zan f) : ∀ (k k' i:Nat),i < f.length→i < k→i < k'→tm f k i=tm f k' i
 | 0,_,_,_,h,_=>by omega
 | _+1,0,_,_,_,h=>by omega
 | k+1,k'+1,i,hi,h1,h2=>by
  unfold tm
  simp only
  cases hy:zQ (f.getD i default).op with
  | true =>
   have e1:=zbc hf hi (zar hy)
   have e2:=zd1 hf hi hy
   simp only [cond_true]
   rw [zhc hf k k' _ (by omega) (by omega) (by omega),zhc hf k k' (f.getD i default).y.toNat (by omega) (by omega) (by omega)]
  | false =>
   simp only [cond_false]
   cases hx:z7 (f.getD i default).op with
   | true =>
    have e1:=zbc hf hi hx
    simp only [cond_true]
    rw [zhc hf k k' _ (by omega) (by omega) (by omega)]
   | false=>rfl
theorem zei {f:List Nd} (hf:zan f) {i:Nat} (hi:i < f.length):zag f i=cond (zQ (f.getD i default).op) (.b (f.getD i default).hd (zag f (f.getD i default).x.toNat) (zag f (f.getD i default).y.toNat)) (cond (z7 (f.getD i default).op) (.u (f.getD i default).hd (zag f (f.getD i default).x.toNat)) (.z (f.getD i default).hd)):=by
 unfold zag
 rw [tm]
 try simp only
 cases hy:zQ (f.getD i default).op with
 | true =>
  have e1:=zbc hf hi (zar hy)
  have e2:=zd1 hf hi hy
  simp only [cond_true]
  rw [zhc hf i _ _ (by omega) (by omega) (Nat.lt_succ_self _),zhc hf i _ (f.getD i default).y.toNat (by omega) (by omega) (Nat.lt_succ_self _)]
 | false =>
  simp only [cond_false]
  cases hx:z7 (f.getD i default).op with
  | true =>
   have e1:=zbc hf hi hx
   simp only [cond_true]
   rw [zhc hf i _ _ (by omega) (by omega) (Nat.lt_succ_self _)]
  | false=>rfl
theorem zig {f g:List Nd} (hf:zan f) : ∀ (k i:Nat),i < f.length→tm (f++g) k i=tm f k i
 | 0,_,_=>rfl
 | k+1,i,hi=>by
  unfold tm
  simp only
  have e:(f++g).getD i default=f.getD i default:=by simp [List.getD,List.getElem?_append_left hi]
  rw [e]
  cases hy:zQ (f.getD i default).op with
  | true =>
   have e1:=zbc hf hi (zar hy)
   have e2:=zd1 hf hi hy
   simp only [cond_true]
   rw [zig hf k _ (by omega),zig hf k (f.getD i default).y.toNat (by omega)]
  | false =>
   simp only [cond_false]
   cases hx:z7 (f.getD i default).op with
   | true =>
    have e1:=zbc hf hi hx
    simp only [cond_true]
    rw [zig hf k _ (by omega)]
   | false=>rfl
theorem zaL {f g:List Nd} (hf:zan f) {i:Nat} (hi:i < f.length):zag (f++g) i=zag f i:=zig hf _ _ hi
def Tm.all (p:Hd→Prop):Tm→Prop
 | .z h=>p h
 | .u h x=>p h∧x.all p
 | .b h x y=>p h∧x.all p∧y.all p
def Tm.size:Tm→Nat
 | .z _=>1
 | .u _ x=>x.size+1
 | .b _ x y=>x.size+y.size+1
structure zdb (h:Hd):Prop where
 op:zdj h.op=true
 fact:zT h.op=true→0≤h.i∧h.i≤7
 agent:zD h.op=true→0≤h.i∧h.i≤3
 event:zL h.op=true→0≤h.i∧h.i≤7∧0≤h.e∧h.e≤7
 group:zE h.op=true→1≤h.g∧h.g≤15
 i0:zT h.op=false→zD h.op=false→zL h.op=false→h.i=0
 e0:zL h.op=false→h.e=0
 g0:zE h.op=false→h.g=0
theorem zaC {n:Nd} {a:Int} : zbM n a=0↔zdb n.hd∧(z7 n.op=true→0≤n.x∧n.x < a)∧(z7 n.op=false→n.x=0)∧(zQ n.op=true→0≤n.y∧n.y < a)∧(zQ n.op=false→n.y=0):=by
 constructor
 ·intro h
  obtain ⟨h1,h2,h3,h4,h5,h6,h7,h8,h9,h10,h11,h12⟩:=zqf h
  exact ⟨⟨h1,h6,h7,h8,h9,h10,h11,h12⟩,h2,h3,h4,h5⟩
 ·rintro ⟨⟨h1,h6,h7,h8,h9,h10,h11,h12⟩,h2,h3,h4,h5⟩
  exact zzQ ⟨h1,h2,h3,h4,h5,h6,h7,h8,h9,h10,h11,h12⟩
def Tm.ok:Tm→Prop
 | .z h=>zdb h∧z7 h.op=false∧zQ h.op=false
 | .u h x=>zdb h∧z7 h.op=true∧zQ h.op=false∧x.ok
 | .b h x y=>zdb h∧z7 h.op=true∧zQ h.op=true∧x.ok∧y.ok
theorem zhb {f:List Nd} (hf:zan f) : ∀ (n i:Nat),i < n→i < f.length→(zag f i).ok
 | 0,_,h,_=>by omega
 | n+1,i,h,hi=>by
  rw [zei hf hi]
  have h0:=(zaC.1 (zg8 hf hi)).1
  cases hy:zQ (f.getD i default).op with
  | true =>
   have e1:=zbc hf hi (zar hy)
   have e2:=zd1 hf hi hy
   exact ⟨h0,zar hy,hy,zhb hf n _ (by omega) (by omega),zhb hf n _ (by omega) (by omega)⟩
  | false =>
   cases hx:z7 (f.getD i default).op with
   | true =>
    have e1:=zbc hf hi hx
    exact ⟨h0,hx,hy,zhb hf n _ (by omega) (by omega)⟩
   | false=>exact ⟨h0,hx,hy⟩
def nd (h:Hd) (x y:Nat):Nd:=⟨h.op,h.i,h.e,h.g,x,y⟩
def zd:Tm→List Nd→Nat×List Nd
 | .z h,l=>put l (nd h 0 0)
 | .u h x,l=>put (zd x l).2 (nd h (zd x l).1 0)
 | .b h x y,l=>put (zd y (zd x l).2).2 (nd h (zd x l).1 (zd y (zd x l).2).1)
theorem zai {l:List Nd} {x:Nd} {k:Nat} (h:l.idxOf? x=some k):put l x=(k,l):=by unfold put;rw [h]
theorem zbv {l:List Nd} {x:Nd} (h:l.idxOf? x=none):put l x=(l.length,l++[x]):=by unfold put;rw [h]
theorem zj0 {l m:List Nd} {x:Nd} {k:Nat} (h:l.idxOf? x=some k):(l++m).idxOf? x=some k:=by
 simp only [List.idxOf?] at h ⊢
 rw [List.findIdx?_append,h];rfl
theorem zpW {l:List Nd} {x:Nd} {k:Nat} (h:l.idxOf? x=some k):l[k]? = some x:=by
 simp only [List.idxOf?] at h
 obtain ⟨h1,h2,h3⟩:=List.findIdx?_eq_some_iff_getElem.1 h
 simp at h2
 simp [h1,h2]
theorem zyg {l:List Nd} {x:Nd} (h:l.idxOf? x=none):(l++[x]).idxOf? x=some l.length:=by
 simp only [List.idxOf?] at h ⊢
 rw [List.findIdx?_append,h]
 simp
theorem zbd (l:List Nd) (x:Nd):(∃ m,(put l x).2=l++m)∧(put l x).2.idxOf? x=some (put l x).1:=by
 cases h:l.idxOf? x with
 | some k=>rw [zai h];exact ⟨⟨[],by simp⟩,h⟩
 | none=>rw [zbv h];exact ⟨⟨[x],rfl⟩,zyg h⟩
theorem zbY : ∀ (t:Tm) (l:List Nd),∃ m,(zd t l).2=l++m
 | .z h,l=>(zbd _ _).1
 | .u h x,l=>by
  obtain ⟨m,hm⟩:=zbY x l
  obtain ⟨m',hm'⟩:=(zbd (zd x l).2 (nd h (zd x l).1 0)).1
  exact ⟨m++m',by rw [zd,hm',hm,List.append_assoc]⟩
 | .b h x y,l=>by
  obtain ⟨m,hm⟩:=zbY x l
  obtain ⟨m2,hm2⟩:=zbY y (zd x l).2
  obtain ⟨m',hm'⟩:=(zbd (zd y (zd x l).2).2 (nd h (zd x l).1 (zd y (zd x l).2).1)).1
  exact ⟨m++m2++m',by rw [zd,hm',hm2,hm,List.append_assoc,List.append_assoc,List.append_assoc]⟩
def zcV (t:Tm) (l:List Nd) (r:Nat):Prop:=zd t l=(r,l)
theorem zcV.mono : ∀ {t:Tm} {l:List Nd} {r:Nat} (m:List Nd),zcV t l r→zcV t (l++m) r
 | .z h,l,r,m,hh=>by
  unfold zcV zd at *
  cases hi:l.idxOf? (nd h 0 0) with
  | some k=>rw [zai hi] at hh;cases hh;rw [zai (zj0 hi)]
  | none=>rw [zbv hi] at hh;have:=congrArg (fun p=>p.2.length) hh;simp at this
 | .u h x,l,r,m,hh=>by
  unfold zcV at *
  obtain ⟨a,ha⟩:=zbY x l
  obtain ⟨b,hb⟩:=(zbd (zd x l).2 (nd h (zd x l).1 0)).1
  have e:a=[]∧b=[]:=by
   have:(zd (.u h x) l).2=l++a++b:=by rw [zd,hb,ha]
   rw [hh] at this
   have:=congrArg List.length this
   simp only [List.length_append] at this
   exact ⟨List.length_eq_zero_iff.1 (by omega),List.length_eq_zero_iff.1 (by omega)⟩
  obtain ⟨rfl,rfl⟩:=e
  rw [List.append_nil] at ha
  have hx:zcV x l (zd x l).1:=Prod.ext rfl ha
  have hx':=zcV.mono m hx
  unfold zcV at hx'
  rw [zd,ha] at hh
  rw [zd,hx']
  cases hi:l.idxOf? (nd h (zd x l).1 0) with
  | some k=>rw [zai hi] at hh;cases hh;exact zai (zj0 hi)
  | none=>rw [zbv hi] at hh;have:=congrArg (fun p=>p.2.length) hh;simp at this
 | .b h x y,l,r,m,hh=>by
  unfold zcV at *
  obtain ⟨a,ha⟩:=zbY x l
  obtain ⟨c,hc⟩:=zbY y (zd x l).2
  obtain ⟨b,hb⟩:=(zbd (zd y (zd x l).2).2 (nd h (zd x l).1 (zd y (zd x l).2).1)).1
  have e:a=[]∧c=[]∧b=[]:=by
   have:(zd (.b h x y) l).2=l++a++c++b:=by rw [zd,hb,hc,ha]
   rw [hh] at this
   have:=congrArg List.length this
   simp only [List.length_append] at this
   exact ⟨List.length_eq_zero_iff.1 (by omega),List.length_eq_zero_iff.1 (by omega),List.length_eq_zero_iff.1 (by omega)⟩
  obtain ⟨rfl,rfl,rfl⟩:=e
  rw [List.append_nil] at ha hc
  rw [ha] at hc
  have hx:zcV x l (zd x l).1:=Prod.ext rfl ha
  have hy:zcV y l (zd y l).1:=Prod.ext rfl hc
  have hx':=zcV.mono m hx
  have hy':=zcV.mono m hy
  unfold zcV at hx' hy'
  rw [zd,ha,hc] at hh
  rw [zd,hx']
  simp only
  rw [hy']
  cases hi:l.idxOf? (nd h (zd x l).1 (zd y l).1) with
  | some k=>rw [zai hi] at hh;cases hh;exact zai (zj0 hi)
  | none=>rw [zbv hi] at hh;have:=congrArg (fun p=>p.2.length) hh;simp at this
theorem zjU : ∀ (t:Tm) (l:List Nd),zcV t (zd t l).2 (zd t l).1
 | .z h,l=>by
  unfold zcV zd
  exact zai (zbd _ _).2
 | .u h x,l=>by
  obtain ⟨m,hm⟩:=(zbd (zd x l).2 (nd h (zd x l).1 0)).1
  have h1:=(zjU x l).mono m
  rw [← hm] at h1
  unfold zcV at *
  rw [zd,zd,h1]
  exact zai (zbd _ _).2
 | .b h x y,l=>by
  obtain ⟨m,hm⟩:=(zbd (zd y (zd x l).2).2 (nd h (zd x l).1 (zd y (zd x l).2).1)).1
  obtain ⟨m2,hm2⟩:=zbY y (zd x l).2
  have h1:=((zjU x l).mono m2).mono m
  rw [← hm2] at h1
  have h2:=(zjU y (zd x l).2).mono m
  rw [← hm] at h1 h2
  unfold zcV at *
  rw [zd,zd,h1]
  simp only
  rw [h2]
  exact zai (zbd _ _).2
theorem zjp (l:List Nd) (x:Nd):(put l x).1 < (put l x).2.length:=by
 have:=zpW (zbd l x).2
 exact (List.getElem?_eq_some_iff.1 this).1
theorem zl3 : ∀ (t:Tm) (l:List Nd),(zd t l).1 < (zd t l).2.length
 | .z _,_=>zjp _ _
 | .u _ _,_=>zjp _ _
 | .b _ _ _,_=>zjp _ _
theorem znU {l:List Nd} {x:Nd} (hl:zan l) (h:zbM x l.length=0):zan (put l x).2:=by
 cases hi:l.idxOf? x with
 | some k=>rw [zai hi];exact hl
 | none =>
  rw [zbv hi]
  intro k n hk
  simp only [List.getElem?_append] at hk
  split at hk
  ·exact hl k n hk
  ·rename_i h1
   have:k=l.length:=by
    have:=(List.getElem?_eq_some_iff.1 hk).1;simp at this;omega
   subst this
   simp at hk;subst hk;exact h
theorem znV {l:List Nd} {x:Nd} (hl:zan l) (h:zbM x l.length=0):(put l x).2.getD (put l x).1 default=x:=by
 have:=zpW (zbd l x).2
 simp [List.getD,this]
theorem zwQ {k:Nat} : ((k:Nat):Int).toNat=k:=by omega
theorem zbL : ∀ (t:Tm) (l:List Nd),t.ok→zan l→zan (zd t l).2∧zag (zd t l).2 (zd t l).1=t
 | .z h,l,ht,hl=>by
  have hn:zbM (nd h 0 0) l.length=0:=zaC.2 ⟨ht.1,fun e=>by have:=ht.2.1;simp [nd] at e;simp [this] at e,fun _=>rfl,fun e=>by have:=ht.2.2;simp [nd] at e;simp [this] at e,fun _=>rfl⟩
  have h1:=znU hl hn
  refine ⟨h1,?_⟩
  have h2:=zei h1 (zjp l (nd h 0 0))
  rw [znV hl hn] at h2
  rw [zd,h2]
  simp only [nd,ht.2.1,ht.2.2,cond_false,Nd.hd]
 | .u h x,l,ht,hl=>by
  obtain ⟨a1,a2⟩:=zbL x l ht.2.2.2 hl
  have a3:=zl3 x l
  have hn:zbM (nd h (zd x l).1 0) (zd x l).2.length=0:=zaC.2 ⟨ht.1,fun e=>⟨by simp [nd],by simp only [nd];omega⟩,fun e=>by have:=ht.2.1;simp [nd] at e;simp [this] at e,fun e=>by have:=ht.2.2.1;simp [nd] at e;simp [this] at e,fun _=>rfl⟩
  have h1:=znU a1 hn
  refine ⟨h1,?_⟩
  have h2:=zei h1 (zjp (zd x l).2 (nd h (zd x l).1 0))
  rw [znV a1 hn] at h2
  obtain ⟨m,hm⟩:=(zbd (zd x l).2 (nd h (zd x l).1 0)).1
  rw [zd,h2]
  simp only [nd,ht.2.1,ht.2.2.1,cond_false,cond_true,Nd.hd,zwQ]
  have h3:zag (put (zd x l).2 (nd h (zd x l).1 0)).2 (zd x l).1=x:=by rw [hm,zaL a1 a3,a2]
  simp only [nd] at h3
  rw [h3]
 | .b h x y,l,ht,hl=>by
  obtain ⟨a1,a2⟩:=zbL x l ht.2.2.2.1 hl
  have a3:=zl3 x l
  obtain ⟨b1,b2⟩:=zbL y (zd x l).2 ht.2.2.2.2 a1
  have b3:=zl3 y (zd x l).2
  obtain ⟨m2,hm2⟩:=zbY y (zd x l).2
  have hn:zbM (nd h (zd x l).1 (zd y (zd x l).2).1) (zd y (zd x l).2).2.length=0:=zaC.2 ⟨ht.1,fun e=>⟨by simp [nd],by simp only [nd];rw [hm2,List.length_append];omega⟩,
   fun e=>by have:=ht.2.1;simp [nd] at e;simp [this] at e,fun e=>⟨by simp [nd],by simp only [nd];omega⟩,fun e=>by have:=ht.2.2.1;simp [nd] at e;simp [this] at e⟩
  have h1:=znU b1 hn
  refine ⟨h1,?_⟩
  have h2:=zei h1 (zjp (zd y (zd x l).2).2 (nd h (zd x l).1 (zd y (zd x l).2).1))
  rw [znV b1 hn] at h2
  obtain ⟨m,hm⟩:=(zbd (zd y (zd x l).2).2 (nd h (zd x l).1 (zd y (zd x l).2).1)).1
  rw [zd,h2]
  simp only [nd,ht.2.1,ht.2.2.1,cond_false,cond_true,Nd.hd,zwQ]
  have h3:zag (put (zd y (zd x l).2).2 (nd h (zd x l).1 (zd y (zd x l).2).1)).2 (zd x l).1=x:=by
   rw [hm,zaL b1 (by rw [hm2,List.length_append];omega),hm2,zaL a1 a3,a2]
  have h4:zag (put (zd y (zd x l).2).2 (nd h (zd x l).1 (zd y (zd x l).2).1)).2 (zd y (zd x l).2).1=y:=by
   rw [hm,zaL b1 b3,b2]
  simp only [nd] at h3 h4
  rw [h3,h4]
theorem zqi (p:Hd→Prop) (l:List Nd) (x:Nd):(∀ n∈(put l x).2,p n.hd)↔(∀ n∈l,p n.hd)∧p x.hd:=by
 cases hi:l.idxOf? x with
 | some k =>
  rw [zai hi]
  have:=List.mem_of_getElem? (zpW hi)
  exact ⟨fun h=>⟨h,h x this⟩,fun h=>h.1⟩
 | none =>
  rw [zbv hi]
  simp only [List.mem_append,List.mem_singleton]
  exact ⟨fun h=>⟨fun n hn=>h n (.inl hn),h x (.inr rfl)⟩,fun h n hn=>hn.elim (h.1 n) (fun e=>e▸h.2)⟩
theorem zjT (p:Hd→Prop) : ∀ (t:Tm) (l:List Nd),(∀ n∈(zd t l).2,p n.hd)↔(∀ n∈l,p n.hd)∧t.all p
 | .z h,l=>zqi p l _
 | .u h x,l=>by
  rw [zd,zqi,zjT p x l,Tm.all]
  exact ⟨fun ⟨⟨a,b⟩,c⟩=>⟨a,c,b⟩,fun ⟨a,c,b⟩=>⟨⟨a,b⟩,c⟩⟩
 | .b h x y,l=>by
  rw [zd,zqi,zjT p y _,zjT p x l,Tm.all]
  exact ⟨fun ⟨⟨⟨a,b⟩,d⟩,c⟩=>⟨a,c,b,d⟩,fun ⟨a,c,b,d⟩=>⟨⟨⟨a,b⟩,d⟩,c⟩⟩
theorem zjI : ∀ (t:Tm) (l:List Nd) (r:Nat),t.ok→zan l→l.length≤r→r < (zd t l).2.length→(zag (zd t l).2 r).size≤t.size∧(r+1 < (zd t l).2.length→(zag (zd t l).2 r).size < t.size)
 | .z h,l,r,ht,hl,h1,h2=>by
  obtain ⟨o1,o2⟩:=zbL (.z h) l ht hl
  have:(zd (.z h) l).1=r ∧ ¬ r+1 < (zd (.z h) l).2.length:=by
   unfold zd at h2 ⊢
   cases hi:l.idxOf? (nd h 0 0) with
   | some k=>rw [zai hi] at h2;simp at h2;omega
   | none=>rw [zbv hi] at h2 ⊢;simp at h2 ⊢;omega
  rw [← this.1,o2]
  rw [this.1]
  exact ⟨Nat.le_refl _,fun h=>absurd h this.2⟩
 | .u h x,l,r,ht,hl,h1,h2=>by
  obtain ⟨o1,o2⟩:=zbL (.u h x) l ht hl
  obtain ⟨a1,a2⟩:=zbL x l ht.2.2.2 hl
  have ih:=zjI x l r ht.2.2.2 hl h1
  by_cases hr:r < (zd x l).2.length
  ·obtain ⟨m,hm⟩:=(zbd (zd x l).2 (nd h (zd x l).1 0)).1
   have e:zag (zd (.u h x) l).2 r=zag (zd x l).2 r:=by rw [zd,hm,zaL a1 hr]
   rw [e]
   have:=(ih hr).1
   simp only [Tm.size]
   omega
  ·have:(zd (.u h x) l).1=r ∧ ¬ r+1 < (zd (.u h x) l).2.length:=by
    unfold zd at h2 ⊢
    cases hi:(zd x l).2.idxOf? (nd h (zd x l).1 0) with
    | some k=>rw [zai hi] at h2;simp at h2;omega
    | none=>rw [zbv hi] at h2 ⊢;simp at h2 ⊢;omega
   rw [← this.1,o2,this.1]
   exact ⟨Nat.le_refl _,fun h=>absurd h this.2⟩
 | .b h x y,l,r,ht,hl,h1,h2=>by
  obtain ⟨o1,o2⟩:=zbL (.b h x y) l ht hl
  obtain ⟨a1,a2⟩:=zbL x l ht.2.2.2.1 hl
  obtain ⟨b1,b2⟩:=zbL y (zd x l).2 ht.2.2.2.2 a1
  have ih:=zjI x l r ht.2.2.2.1 hl h1
  obtain ⟨m2,hm2⟩:=zbY y (zd x l).2
  obtain ⟨m,hm⟩:=(zbd (zd y (zd x l).2).2 (nd h (zd x l).1 (zd y (zd x l).2).1)).1
  by_cases hr:r < (zd x l).2.length
  ·have e:zag (zd (.b h x y) l).2 r=zag (zd x l).2 r:=by
    rw [zd,hm,zaL b1 (by rw [hm2,List.length_append];omega),hm2,zaL a1 hr]
   rw [e]
   have:=(ih hr).1
   simp only [Tm.size]
   omega
  ·have ih2:=zjI y (zd x l).2 r ht.2.2.2.2 a1 (by omega)
   by_cases hr2:r < (zd y (zd x l).2).2.length
   ·have e:zag (zd (.b h x y) l).2 r=zag (zd y (zd x l).2).2 r:=by
     rw [zd,hm,zaL b1 hr2]
    rw [e]
    have:=(ih2 hr2).1
    simp only [Tm.size]
    omega
   ·have:(zd (.b h x y) l).1=r ∧ ¬ r+1 < (zd (.b h x y) l).2.length:=by
     unfold zd at h2 ⊢
     cases hi:(zd y (zd x l).2).2.idxOf? (nd h (zd x l).1 (zd y (zd x l).2).1) with
     | some k=>rw [zai hi] at h2;simp at h2;omega
     | none=>rw [zbv hi] at h2 ⊢;simp at h2 ⊢;omega
    rw [← this.1,o2,this.1]
    exact ⟨Nat.le_refl _,fun h=>absurd h this.2⟩
theorem zcf:zan []:=fun k n h=>by simp at h
theorem zqM {t:Tm} (ht:t.ok):(zd t []).1+1=(zd t []).2.length:=by
 have h1:=zl3 t []
 have h2:=(zbL t [] ht zcf).2
 by_cases h:(zd t []).1+1 < (zd t []).2.length
 ·have:=(zjI t [] (zd t []).1 ht zcf (by simp) h1).2 h
  rw [h2] at this;omega
 ·omega
end Go.Ab
namespace Go.Ab
structure zjC (f:List Nd) (s:FSt):Prop where
 has : ∀ i r,s.done.lookup i=some r→zcV (zag f i) s.out r
 rng : ∀ p∈s.done,p.1 < f.length
 keys:(s.done.map Prod.fst).Nodup
 len:s.out.length≤s.done.length
theorem zuf {d:List (Nat×Nat)} {i:Nat} (h : ∀ p∈d,p.1≠i):d.lookup i=none:=by
 induction d with
 | nil=>rfl
 | cons p d ih =>
  obtain ⟨a,b⟩:=p
  have h0:=h (a,b) (by simp)
  have:(i==a)=false:=by simpa using fun e=>h0 e.symm
  simp only [List.lookup,this]
  exact ih fun q hq=>h q (by simp [hq])
theorem zo6 {d:List (Nat×Nat)} {i:Nat} (h:d.lookup i=none) : ∀ p∈d,p.1≠i:=by
 induction d with
 | nil=>simp
 | cons p d ih =>
  obtain ⟨a,b⟩:=p
  simp only [List.lookup] at h
  split at h
  ·cases h
  ·rename_i e
   intro q hq
   rcases List.mem_cons.1 hq with rfl|hq
   ·intro h';subst h';simp at e
   ·exact ih h q hq
theorem zrO {d:List (Nat×Nat)} {i j r q:Nat} (h:(d++[(i,r)]).lookup j=some q):d.lookup j=some q∨(j=i∧q=r∧d.lookup j=none):=by
 induction d with
 | nil =>
  simp only [List.nil_append,List.lookup] at h
  split at h
  ·rename_i e;simp at e;cases h;exact .inr ⟨e,rfl,rfl⟩
  ·cases h
 | cons p d ih =>
  obtain ⟨a,b⟩:=p
  simp only [List.cons_append,List.lookup] at h ⊢
  split at h
  ·exact .inl h
  ·exact ih h
theorem zhz {f:List Nd} (hf:zan f) : ∀ (k i:Nat) (s:FSt),i < k→i < f.length→zjC f s →
  zjC f (fin f k i s).2∧(fin f k i s).1=(zd (zag f i) s.out).1∧(fin f k i s).2.out=(zd (zag f i) s.out).2∧(∃ l,(fin f k i s).2.done=s.done++l ∧ ∀ p∈l,p.1≤i)
 | 0,i,s,h,_,_=>by omega
 | k+1,i,s,hk,hi,hs=>by
  unfold fin
  cases hd:s.done.lookup i with
  | some r =>
   have:=hs.has i r hd
   unfold zcV at this
   refine ⟨hs,?_,?_,[],by simp,by simp⟩
   ·rw [this]
   ·rw [this]
  | none =>
   simp only
   have key : ∀ (a b:Nat) (s2:FSt),zjC f s2→(∃ l,s2.done=s.done++l ∧ ∀ p∈l,p.1 < i)→zd (zag f i) s.out=put s2.out (nd (f.getD i default).hd a b) →
     (∃ m,s2.out=s.out++m) →
     zjC f ⟨(put s2.out (nd (f.getD i default).hd a b)).2,s2.done++[(i,(put s2.out (nd (f.getD i default).hd a b)).1)]⟩∧(put s2.out (nd (f.getD i default).hd a b)).1=(zd (zag f i) s.out).1 ∧
     (put s2.out (nd (f.getD i default).hd a b)).2=(zd (zag f i) s.out).2∧(∃ l,s2.done++[(i,(put s2.out (nd (f.getD i default).hd a b)).1)]=s.done++l ∧ ∀ p∈l,p.1≤i):=by
    intro a b s2 h2 hl hT hm
    obtain ⟨l,hl1,hl2⟩:=hl
    obtain ⟨m,hm⟩:=(zbd s2.out (nd (f.getD i default).hd a b)).1
    have hni : ∀ p∈s2.done,p.1≠i:=by
     intro p hp
     rw [hl1,List.mem_append] at hp
     rcases hp with hp|hp
     ·exact zo6 hd p hp
     ·have:=hl2 p hp;omega
    refine ⟨⟨fun j r hj=>?_,fun p hp=>?_,?_,?_⟩,by rw [hT],by rw [hT],l++[(i,(put s2.out (nd (f.getD i default).hd a b)).1)],by rw [hl1,List.append_assoc],fun p hp=>?_⟩
    ·rcases zrO hj with h|⟨rfl,rfl,-⟩
     ·have:=(h2.has j r h).mono m
      rw [← hm] at this;exact this
     ·rw [← hT];exact zjU _ _
    ·rcases List.mem_append.1 hp with hp|hp
     ·exact h2.rng p hp
     ·simp at hp;subst hp;exact hi
    ·simp only [List.map_append,List.map_cons,List.map_nil]
     rw [List.nodup_append]
     refine ⟨h2.keys,by simp,fun x hx y hy=>?_⟩
     simp at hy;subst hy
     obtain ⟨p,hp,rfl⟩:=List.mem_map.1 hx
     exact hni p hp
    ·have:=h2.len
     simp only [List.length_append,List.length_cons,List.length_nil]
     cases hx:s2.out.idxOf? (nd (f.getD i default).hd a b) with
     | some k=>rw [zai hx];simp only;omega
     | none=>rw [zbv hx];simp only [List.length_append,List.length_cons,List.length_nil];omega
    ·rcases List.mem_append.1 hp with hp|hp
     ·have:=hl2 p hp;omega
     ·simp at hp;subst hp;exact Nat.le_refl _
   have hT:=zei hf hi
   have hn:=zaC.1 (zg8 hf hi)
   cases hy:zQ (f.getD i default).op with
   | true =>
    have hx:=zar hy
    have e1:=zbc hf hi hx
    have e2:=zd1 hf hi hy
    simp only [hy,hx,cond_true] at hT ⊢
    obtain ⟨a1,a2,a3,la,a4,a5⟩:=zhz hf k (f.getD i default).x.toNat s (by omega) (by omega) hs
    obtain ⟨b1,b2,b3,lb,b4,b5⟩:=zhz hf k (f.getD i default).y.toNat (fin f k (f.getD i default).x.toNat s).2 (by omega) (by omega) a1
    obtain ⟨m1,hm1⟩:=zbY (zag f (f.getD i default).x.toNat) s.out
    obtain ⟨m2,hm2⟩:=zbY (zag f (f.getD i default).y.toNat) (fin f k (f.getD i default).x.toNat s).2.out
    refine key _ _ _ b1 ⟨la++lb,by rw [b4,a4,List.append_assoc],fun p hp=>?_⟩ ?_ ⟨m1++m2,by rw [b3,hm2,a3,hm1,List.append_assoc]⟩
    ·rcases List.mem_append.1 hp with hp|hp
     ·have:=a5 p hp;omega
     ·have:=b5 p hp;omega
    ·rw [hT,zd,b3,b2,a3,a2]
   | false =>
    cases hx:z7 (f.getD i default).op with
    | true =>
     have e1:=zbc hf hi hx
     simp only [hy,hx,cond_true,cond_false] at hT ⊢
     obtain ⟨a1,a2,a3,la,a4,a5⟩:=zhz hf k (f.getD i default).x.toNat s (by omega) (by omega) hs
     obtain ⟨m1,hm1⟩:=zbY (zag f (f.getD i default).x.toNat) s.out
     have e0:(f.getD i default).y.toNat=0:=by rw [hn.2.2.2.2 hy];rfl
     refine key _ _ _ a1 ⟨la,a4,fun p hp=>by have:=a5 p hp;omega⟩ ?_ ⟨m1,by rw [a3,hm1]⟩
     rw [hT,zd,a2,a3,e0]
    | false =>
     simp only [hy,hx,cond_true,cond_false] at hT ⊢
     have e0:(f.getD i default).y.toNat=0:=by rw [hn.2.2.2.2 hy];rfl
     have e1:(f.getD i default).x.toNat=0:=by rw [hn.2.2.1 hx];rfl
     refine key _ _ _ hs ⟨[],by simp,by simp⟩ ?_ ⟨[],by simp⟩
     rw [hT,zd,e0,e1]
theorem zfE {f:List Nd} (hf:zan f) : ∀ (k k' i:Nat) (s:FSt),i < k→i < k'→i < f.length→fin f k i s=fin f k' i s
 | 0,_,_,_,h,_,_=>by omega
 | _+1,0,_,_,_,h,_=>by omega
 | k+1,k'+1,i,s,h1,h2,hi=>by
  unfold fin
  cases hd:s.done.lookup i with
  | some r=>rfl
  | none =>
   simp only
   cases hy:zQ (f.getD i default).op with
   | true =>
    have hx:=zar hy
    have e1:=zbc hf hi hx
    have e2:=zd1 hf hi hy
    simp only [hx,cond_true]
    rw [zfE hf k k' (f.getD i default).x.toNat s (by omega) (by omega) (by omega),zfE hf k k' (f.getD i default).y.toNat _ (by omega) (by omega) (by omega)]
   | false =>
    cases hx:z7 (f.getD i default).op with
    | true =>
     have e1:=zbc hf hi hx
     simp only [cond_true,cond_false]
     rw [zfE hf k k' (f.getD i default).x.toNat s (by omega) (by omega) (by omega)]
    | false=>rfl
theorem zuC (f:List Nd):zjC f ⟨[],[]⟩:=⟨fun i r h=>by simp at h,by simp,by simp,by simp⟩
theorem zqW {l:List Nat} {n:Nat} (h:l.Nodup) (hn : ∀ x∈l,x < n):l.length≤n:=by
 have h2:l ⊆ List.range n:=fun x hx=>List.mem_range.2 (hn x hx)
 have:=List.Nodup.length_le_of_subset h h2
 simpa using this
structure zlU (t:Tm) (c:List Nd):Prop where
 ok:zan c
 pos:0 < c.length
 tree:zag c (c.length - 1)=t
 all : ∀ p:Hd→Prop,(∀ n∈c,p n.hd)↔t.all p
theorem zAk {t:Tm} (ht:t.ok):zlU t (zd t []).2:=by
 have h1:=zqM ht
 obtain ⟨h2,h3⟩:=zbL t [] ht zcf
 refine ⟨h2,by omega,by rw [← h1,Nat.add_sub_cancel];exact h3,fun p=>?_⟩
 rw [zjT p t []];simp
theorem zim {f:List Nd} (hf:zan f) {i:Nat} (hi:i < f.length):zbp f i=(zd (zag f i) []).2∧(zbp f i).length≤f.length∧(fin f (i+1) i ⟨[],[]⟩).1+1=(zbp f i).length:=by
 obtain ⟨a1,a2,a3,a4⟩:=zhz hf (i+1) i ⟨[],[]⟩ (by omega) hi (zuC f)
 refine ⟨a3,?_,?_⟩
 ·have h1:=a1.len
  have h2:=zqW a1.keys (n:=f.length) (fun x hx=>by obtain ⟨p,hp,rfl⟩:=List.mem_map.1 hx;exact a1.rng p hp)
  rw [List.length_map] at h2
  unfold zbp;omega
 ·unfold zbp
  rw [a2,a3]
  exact zqM (zhb hf (i+1) i (by omega) hi)
theorem ziG {f:List Nd} (hf:zan f) {i:Nat} (hi:i < f.length):zlU (zag f i) (zbp f i):=by
 rw [(zim hf hi).1];exact zAk (zhb hf (i+1) i (by omega) hi)
def zax {β:Type} (v:Hd→β→β→β) (d:β):List Nd→List β→List β
 | [],acc=>acc
 | n::r,acc=>zax v d r (acc++[v n.hd (acc.getD n.x.toNat d) (acc.getD n.y.toNat d)])
def ev {β:Type} (v:Hd→β→β→β) (d:β):Tm→β
 | .z h=>v h d d
 | .u h x=>v h (ev v d x) d
 | .b h x y=>v h (ev v d x) (ev v d y)
structure zuV {β:Type} (v:Hd→β→β→β):Prop where
 x : ∀ h a b c,z7 h.op=false→v h a c=v h b c
 y : ∀ h a b c,zQ h.op=false→v h c a=v h c b
theorem zfL {β:Type} (v:Hd→β→β→β) (d:β) : ∀ (l:List Nd) (acc:List β),(zax v d l acc).length=acc.length+l.length
 | [],acc=>by simp [zax]
 | n::r,acc=>by rw [zax,zfL v d r];simp;omega
theorem zqr {β:Type} {v:Hd→β→β→β} {d:β} (hv:zuV v) {f:List Nd} (hf:zan f) : ∀ (l:List Nd) (acc:List β),f.drop acc.length=l→acc.length≤f.length→(∀ i,i < acc.length→acc.getD i d=ev v d (zag f i)) →
  ∀ i,i < f.length→(zax v d l acc).getD i d=ev v d (zag f i)
 | [],acc,h1,h2,h3,i,hi=>by
  have:acc.length=f.length:=by
   have:=congrArg List.length h1;simp at this;omega
  exact h3 i (by omega)
 | n::r,acc,h1,h2,h3,i,hi=>by
  have hlt:acc.length < f.length:=by
   have:=congrArg List.length h1;simp at this;omega
  have hn:f.getD acc.length default=n:=by
   have:=congrArg (fun l=>l[0]?) h1
   simp at this
   simp [List.getD,this]
  rw [zax]
  refine zqr hv hf r _ ?_ (by simp;omega) (fun j hj=>?_) i hi
  ·simp only [List.length_append,List.length_cons,List.length_nil]
   have:=congrArg List.tail h1
   simpa using this
  ·by_cases hj2:j < acc.length
   ·rw [show (acc++[v n.hd (acc.getD n.x.toNat d) (acc.getD n.y.toNat d)]).getD j d=acc.getD j d by simp [List.getD,List.getElem?_append_left hj2]]
    exact h3 j hj2
   ·simp at hj
    have e:j=acc.length:=by omega
    subst e
    rw [show (acc++[v n.hd (acc.getD n.x.toNat d) (acc.getD n.y.toNat d)]).getD acc.length d=v n.hd (acc.getD n.x.toNat d) (acc.getD n.y.toNat d) by simp [List.getD]]
    rw [zei hf hlt,hn]
    cases hy:zQ n.op with
    | true =>
     have hx:=zar hy
     have e1:=zbc hf hlt (by rw [hn];exact hx)
     have e2:=zd1 hf hlt (by rw [hn];exact hy)
     rw [hn] at e1 e2
     simp only [cond_true,ev]
     rw [h3 _ e1.2,h3 _ e2.2]
    | false =>
     cases hx:z7 n.op with
     | true =>
      have e1:=zbc hf hlt (by rw [hn];exact hx)
      rw [hn] at e1
      simp only [cond_true,cond_false,ev]
      rw [h3 _ e1.2]
      exact hv.y _ _ _ _ hy
     | false =>
      simp only [cond_false,ev]
      rw [hv.x _ _ d _ hx,hv.y _ _ d _ hy]
theorem zxb {β:Type} {v:Hd→β→β→β} {d:β} (hv:zuV v) {t:Tm} {c:List Nd} (hc:zlU t c):(zax v d c []).getD (c.length - 1) d=ev v d t:=by
 have hp:=hc.pos
 rw [zqr hv hc.ok c [] (by simp) (by simp) (fun i hi=>by simp at hi) (c.length - 1) (by omega),hc.tree]
end Go.Ab
namespace Go.Ab
open Go Go.Proofs
set_option maxRecDepth 10000
set_option maxHeartbeats 4000000
variable {T:Nat→Obj→Prop}
theorem zao.yes {b:Bool} {p q:Prop} (hb:b=true) (h:p):zao b p q:=⟨fun _=>h,fun e=>by rw [hb] at e;cases e⟩
theorem zao.no {b:Bool} {p q:Prop} (hb:b=false) (h:q):zao b p q:=⟨fun e=>(by rw [hb] at e;cases e),fun _=>h⟩
theorem zao.decY {x:Prop} [Decidable x] {p q:Prop} (hx:x) (h:p):zao (decide x) p q := .yes (decide_eq_true hx) h
theorem zao.decN {x:Prop} [Decidable x] {p q:Prop} (hx : ¬x) (h:q):zao (decide x) p q := .no (decide_eq_false hx) h
abbrev dNd (n:Nd):D := .agg [.int .i64 n.op,.int .i64 n.i,.int .i64 n.e,.int .i64 n.g,.int .i64 n.x,.int .i64 n.y]
abbrev dF (f:List Nd):D := .arr 6 (f.map dNd)
abbrev znm (op:Int):D := .agg [.bool (z7 op),.bool (zQ op),.bool (zT op),.bool (zD op),.bool (zE op),.bool (zL op),.int .i64 (zbb op)]
theorem zpV (op:Int):Fn Tryz.prog T zZ [.d (.int .i64 op)] [] (.d (.tup [znm op,.bool (zdj op)])) []:=by
 by_cases h:1≤op∧op≤21
 ·have:op=1∨op=2∨op=3∨op=4∨op=5∨op=6∨op=7∨op=8∨op=9∨op=10∨op=11∨op=12∨op=13∨op=14∨op=15∨op=16∨op=17∨op=18∨op=19∨op=20∨op=21:=by omega
  clear h
  rcases this with rfl|rfl|rfl|rfl|rfl|rfl|rfl|rfl|rfl|rfl|rfl|rfl|rfl|rfl|rfl|rfl|rfl|rfl|rfl|rfl|rfl
  all_goals refine zb zn zjc (by show 1≤55;decide) ?_
  all_goals (repeat' ((conv=>whnf);first|refine zao.decN (by omega) ?_|refine zao.decY (by omega) ?_|refine vA ?_|refine vT ?_));all_goals try conv=>whnf
  all_goals first|rfl|kernel_rfl|skip
 ·refine zb zn zjc (by show 1≤55;decide) ?_
  (repeat' ((conv=>whnf);first|refine zao.decN (by omega) ?_|refine vA ?_|refine vT ?_));all_goals try conv=>whnf
  have e1:zdj op=false:=by simp only [zdj,decide_eq_false_iff_not];omega
  have e2:z7 op=false:=by simp only [z7,decide_eq_false_iff_not];omega
  have e3:zQ op=false:=by simp only [zQ,decide_eq_false_iff_not];omega
  have e4:zT op=false:=by simp only [zT,decide_eq_false_iff_not];omega
  have e5:zD op=false:=by simp only [zD,decide_eq_false_iff_not];omega
  have e6:zE op=false:=by simp only [zE,decide_eq_false_iff_not];omega
  have e7:zL op=false:=by simp only [zL,decide_eq_false_iff_not];omega
  have e8:zbb op=0:=by unfold zbb; (repeat' rw [if_neg (by omega)])
  rw [e1,znm,e2,e3,e4,e5,e6,e7,e8]
  first|rfl|skip
theorem zvn (u:Bool) (f a:Int):Fn Tryz.prog T zgG [.d (.bool u),.d (.int .i64 f),.d (.int .i64 a)] [] (.d (.bool (zh8 u f a))) []:=by
 refine zb zn zmz (by show 3≤25;decide) ?_
 (repeat' ((conv=>whnf);first|refine vA ?_|refine vE ?_|((first|refine vF ?_ ?_|refine vI ?_ ?_)<;>intro hc<;>try simp only [vL] at hc)|refine vT ?_|refine vZ ?_));all_goals try conv=>whnf
 all_goals (cases u<;>simp_all [zh8]<;>omega)
theorem zvo (u:Bool) (v lo hi:Int):Fn Tryz.prog T zc0 [.d (.bool u),.d (.int .i64 v),.d (.int .i64 lo),.d (.int .i64 hi)] [] (.d (.bool (zbV u v lo hi))) []:=by
 refine zb zn zjb (by show 4≤20;decide) ?_
 (repeat' ((conv=>whnf);first|refine vA ?_|((first|refine vF ?_ ?_|refine vI ?_ ?_)<;>intro hc<;>try simp only [vL] at hc)|refine vT ?_|refine vZ ?_));all_goals try conv=>whnf
 all_goals (cases u<;>simp_all [zbV]<;>omega)
def zzh (ok ux uy fa ag ev gr:Bool) (n:Nd) (at_:Int):Int :=
 if ok=false then 10 else
 if zh8 ux n.x at_=false∨zh8 uy n.y at_=false then 3 else
 if (!(fa||ag||ev)&&decide (n.i≠0)||(!ev&&decide (n.e≠0))||(!gr&&decide (n.g≠0)))=true then 3 else
 if (zbV fa n.i 0 7||zbV ag n.i 0 3||zbV ev n.i 0 7||zbV ev n.e 0 7||zbV gr n.g 1 15)=true then 2 else 0
set_option maxHeartbeats 40000000 in
theorem zt5 (ok ux uy fa ag ev gr:Bool) (fr:Int) (n:Nd) (a:Int) (hu:Fn Tryz.prog T zZ [.d (.int .i64 n.op)] [] (.d (.tup [.agg [.bool ux,.bool uy,.bool fa,.bool ag,.bool gr,.bool ev,.int .i64 fr],.bool ok])) []) :
  Fn Tryz.prog T zdA [.d (dNd n),.d (.int .i64 a)] [] (.d (.int .i64 (zzh ok ux uy fa ag ev gr n a))) []:=by
 refine zb zn zkE (by show 2≤106;decide) ?_
 (repeat' ((conv=>whnf);first|refine vA ?_|refine vE ?_|((first|refine vD ?_ ?_|refine vI ?_ ?_)<;>intro hc)|refine vT ?_|refine vX ?_|refine yD hu (by (repeat refine ⟨⟨rfl,rfl⟩,?_⟩);rfl) rfl ?_|refine yD (zvn _ _ _) ⟨⟨rfl,rfl⟩,⟨rfl,rfl⟩,⟨rfl,rfl⟩,rfl⟩ rfl ?_|refine yD (zvo _ _ _ _) (by (repeat refine ⟨⟨rfl,rfl⟩,?_⟩);rfl) rfl ?_));all_goals try conv=>whnf
 all_goals (clear hu;simp_all [zzh])
theorem zlf (n:Nd) (a:Int):Fn Tryz.prog T zdA [.d (dNd n),.d (.int .i64 a)] [] (.d (.int .i64 (zbM n a))) []:=by
 exact zt5 _ _ _ _ _ _ _ _ n a (zpV n.op)
theorem zgc (f:List Nd):Fn Tryz.prog T zhV [.d (dF f)] [] (.d (.int .i64 (zbi f))) []:=by
 refine zb zn zoW (by show 1≤26;decide) ?_
 (repeat' ((conv=>whnf);first|refine vA ?_|(refine vF ?_ ?_<;>intro hc<;>try simp only [vL] at hc)|refine vJ fun hg=>?_|refine vT ?_|refine vX ?_));all_goals try conv=>whnf
 ·simp_all [zbi]
 ·rw [zbi,if_neg (by omega),if_pos (by omega)]
 ·have h0 : ¬f.length=0:=by omega
  refine zaN (fun (k:Nat)=>[(12,.d (dF f)),(13,.d (.int .i64 ((f.map dNd).length:Int))),(14,.d (.int .i64 ((k:Int))))]) (fun (k:Nat)=>k≤f.length∧zbi f=zf8 (f.drop k) k) (fun (k:Nat)=>f.length - k) (0) (⟨by simp,by rw [zbi,if_neg (by omega),if_neg (by omega)];rfl⟩) (by (repeat' first|exact trivial|exact rfl|refine And.intro ?_ ?_)) ?_
  rintro k ⟨hk,hI⟩
  (repeat' ((conv=>whnf);first|refine vA ?_|((first|refine vD ?_ ?_|refine vF ?_ ?_)<;>intro hc<;>try simp only [vL] at hc)|refine vT ?_|(refine vQ ?_ fun x hx=>?_;·omega)|(refine vO ?_ ?_;·omega)|refine vX ?_|refine yD (zlf _ _) ⟨⟨rfl,rfl⟩,⟨rfl,rfl⟩,rfl⟩ rfl ?_));all_goals try conv=>whnf
  ·rw [hI,zbw hx,zf8,if_pos hc]
  ·exact ⟨k+1,[],[],⟨by (omega),by rw [hI,zbw hx,zf8,if_neg (by simpa using hc)]⟩,by (omega),by (refine ⟨rfl,rfl,rfl,?_,?_⟩;repeat' first|exact trivial|exact rfl|refine And.intro ?_ ?_)⟩
  ·rw [hI,List.drop_eq_nil_of_le (by omega)];rfl
end Go.Ab
namespace Go.Ab
open Go Go.Proofs
set_option maxRecDepth 10000
set_option maxHeartbeats 4000000
variable {T:Nat→Obj→Prop}
abbrev zG (d:List (Nat×Nat)):List (D×D):=d.map fun p=>(D.int .i64 (p.1:Int),D.int .i64 (p.2:Int))
def zak (l:List Nd) (k:Nat):List (D×D):=match l with
 | []=>[]
 | n::r=>(dNd n,.int .i64 (k:Int))::zak r (k+1)
theorem zzZ (a b:Nd):D.eqk (dNd a) (dNd b)=some (decide (a=b)):=by
 obtain ⟨a1,a2,a3,a4,a5,a6⟩:=a
 obtain ⟨b1,b2,b3,b4,b5,b6⟩:=b
 show some (decide (a1=b1)&&(decide (a2=b2)&&(decide (a3=b3)&&(decide (a4=b4)&&(decide (a5=b5)&&(decide (a6=b6)&&true))))))=_
 simp only [Nd.mk.injEq,Bool.decide_and,Bool.and_true]
theorem zqQ (d:List (Nat×Nat)) (i:Nat):zF (zG d) (.int .i64 (i:Int))=some ((d.lookup i).map fun r=>D.int .i64 (r:Int)):=by
 induction d with
 | nil=>rfl
 | cons p d ih =>
  obtain ⟨a,b⟩:=p
  show (match some (decide ((i:Int)=(a:Int))) with
   | some true=>some (some (D.int .i64 (b:Int)))
   | some false=>zF (zG d) (.int .i64 (i:Int))
   | none=>none)=_
  by_cases h:i=a
  ·subst h;simp [List.lookup]
  ·have h1:decide ((i:Int)=(a:Int))=false:=by simp only [decide_eq_false_iff_not];omega
   have h2:(i==a)=false:=by simpa using h
   rw [h1]
   simp only [List.lookup,h2]
   exact ih
theorem zns (x:Nd) : ∀ (l:List Nd) (k:Nat),zF (zak l k) (dNd x)=some ((l.idxOf? x).map fun r=>D.int .i64 ((k+r:Nat):Int))
 | [],k=>rfl
 | n::r,k=>by
  have ih:=zns x r (k+1)
  show (match D.eqk (dNd x) (dNd n) with
   | some true=>some (some (D.int .i64 (k:Int)))
   | some false=>zF (zak r (k+1)) (dNd x)
   | none=>none)=_
  rw [zzZ]
  by_cases h:x=n
  ·subst h;simp [List.idxOf?,List.findIdx?_cons]
  ·have h2:(n==x)=false:=by simpa using fun e=>h e.symm
   simp only [h,decide_false,ih,List.idxOf?,List.findIdx?_cons,h2]
   cases r.findIdx? (· == x) with
   | none=>rfl
   | some j=>simp;omega
theorem zmG (x:Nd) : ∀ (l:List Nd) (k:Nat),zak (l++[x]) k=zak l k++[(dNd x,.int .i64 ((k+l.length:Nat):Int))]
 | [],k=>rfl
 | n::r,k=>by
  show (dNd n,D.int .i64 (k:Int))::zak (r++[x]) (k+1)=_
  rw [zmG x r (k+1),show k+1+r.length=k+(n::r).length by simp;omega]
  rfl
theorem zcY (x:Nd) (l:List Nd):zak (l++[x]) 0=zak l 0++[(dNd x,.int .i64 (((l.map dNd).length:Nat):Int))]:=by
 rw [zmG,List.length_map,Nat.zero_add]
abbrev zaW:V := .fn zk [.ptr 0 0,.ptr 1 0,.ptr 2 0,.ptr 3 0,.ptr 4 0]
abbrev za4 (f:List Nd) (out:V) (s:FSt):List Ob:=[.box [.map 5],.box [.d (dF f)],.box [zaW],.box [.map 6],.box [out],.map (zG s.done),.map (zak s.out 0)]
abbrev za5 (i:Int):List V:=[.d (.int .i64 i),.ptr 0 0,.ptr 1 0,.ptr 2 0,.ptr 3 0,.ptr 4 0]
abbrev zdi (f:List Nd) (s:FSt):List (Option Ob):=[some (.box [.map 5]),some (.box [.d (dF f)]),some (.box [zaW]),some (.box [.map 6]),some (.box [.own 8]),some (.map (zG s.done)),some (.map (zak s.out 0)),none,some (.row 6 (s.out.map dNd))]
abbrev zeC (f:List Nd) (s:FSt):List (Option Ob):=[some (.box [.map 5]),some (.box [.d (dF f)]),some (.box [zaW]),some (.box [.map 6]),some (.box [.own 7]),some (.map (zG s.done)),some (.map (zak s.out 0)),some (.row 6 (s.out.map dNd))]
theorem zej {op:Int} {x y:Bool} (hx:z7 op=x) (hy:zQ op=y):Fn Tryz.prog T zZ [.d (.int .i64 op)] [] (.d (.tup [.agg [.bool x,.bool y,.bool (zT op),.bool (zD op),.bool (zE op),.bool (zL op),.int .i64 (zbb op)],.bool (zdj op)])) []:=by
 subst hx;subst hy
 exact zpV op
theorem zaK (d:List (Nat×Nat)) (i r:Nat):zG (d++[(i,r)])=zG d++[(.int .i64 (i:Int),.int .i64 (r:Int))]:=by simp
theorem zdq {x:Nd} {l:List Nd} {j:Nat} (h:l.idxOf? x=some j):zF (zak l 0) (dNd x)=some (some (.int .i64 (j:Int))):=by
 rw [zns,h];simp
theorem zcq {x:Nd} {l:List Nd} (h:l.idxOf? x=none):zF (zak l 0) (dNd x)=some none:=by
 rw [zns,h];rfl
theorem zB {d:List (Nat×Nat)} {i:Nat} (h:d.lookup i=none):zF (zG d) (.int .i64 (i:Int))=some none:=by
 rw [zqQ,h];rfl
theorem zwl {f:List Nd} (hf:zan f) {k:Nat} {s:FSt} (hk:k < f.length) (hd:s.done.lookup k=none) (hx:z7 (f.getD k default).op=false) (hy:zQ (f.getD k default).op=false) :
  fin f (k+1) k s=((put s.out (f.getD k default)).1,⟨(put s.out (f.getD k default)).2,s.done++[(k,(put s.out (f.getD k default)).1)]⟩):=by
 have hn:=zaC.1 (zg8 hf hk)
 rw [fin,hd]
 simp only [hx,hy,cond_false]
 have e0:(((f.getD k default).y.toNat:Nat):Int)=(f.getD k default).y:=by rw [hn.2.2.2.2 hy];rfl
 have e1:(((f.getD k default).x.toNat:Nat):Int)=(f.getD k default).x:=by rw [hn.2.2.1 hx];rfl
 rw [e0,e1]
theorem zwm {f:List Nd} (hf:zan f) {k:Nat} {s:FSt} (hk:k < f.length) (hd:s.done.lookup k=none) {n:Nd} (hn:f.getD k default=n) (hx:z7 n.op=true) (hy:zQ n.op=false) {r:Nat} {s1:FSt} (h1:fin f (n.x.toNat+1) n.x.toNat s=(r,s1)) :
  fin f (k+1) k s=((put s1.out ⟨n.op,n.i,n.e,n.g,(r:Int),n.y⟩).1,⟨(put s1.out ⟨n.op,n.i,n.e,n.g,(r:Int),n.y⟩).2,s1.done++[(k,(put s1.out ⟨n.op,n.i,n.e,n.g,(r:Int),n.y⟩).1)]⟩):=by
 subst hn
 have hn:=zaC.1 (zg8 hf hk)
 have e1:=zbc hf hk hx
 rw [fin,hd]
 simp only [hx,hy,cond_false,cond_true]
 rw [zfE hf k ((f.getD k default).x.toNat+1) _ _ (by omega) (by omega) (by omega),h1]
 have e0:(((f.getD k default).y.toNat:Nat):Int)=(f.getD k default).y:=by rw [hn.2.2.2.2 hy];rfl
 simp only [e0]
theorem zwn {f:List Nd} (hf:zan f) {k:Nat} {s:FSt} (hk:k < f.length) (hd:s.done.lookup k=none) {n:Nd} (hn:f.getD k default=n) (hx:z7 n.op=true) (hy:zQ n.op=true) {r r2:Nat} {s1 s2:FSt} (h1:fin f (n.x.toNat+1) n.x.toNat s=(r,s1)) (h2:fin f (n.y.toNat+1) n.y.toNat s1=(r2,s2)) :
  fin f (k+1) k s=((put s2.out ⟨n.op,n.i,n.e,n.g,(r:Int),(r2:Int)⟩).1,⟨(put s2.out ⟨n.op,n.i,n.e,n.g,(r:Int),(r2:Int)⟩).2,s2.done++[(k,(put s2.out ⟨n.op,n.i,n.e,n.g,(r:Int),(r2:Int)⟩).1)]⟩):=by
 subst hn
 have e1:=zbc hf hk hx
 have e2:=zd1 hf hk hy
 rw [fin,hd]
 simp only [hx,hy,cond_true]
 rw [zfE hf k ((f.getD k default).x.toNat+1) (f.getD k default).x.toNat s (by omega) (by omega) (by omega),h1]
 simp only
 rw [zfE hf k ((f.getD k default).y.toNat+1) (f.getD k default).y.toNat s1 (by omega) (by omega) (by omega),h2]
theorem zgR {f:List Nd} (hf:zan f) {j k:Nat} {s:FSt} (hj:j < k) (hjf:j < f.length) (hs:zjC f s) (hd:s.done.lookup k=none):zjC f (fin f (j+1) j s).2∧(fin f (j+1) j s).2.done.lookup k=none:=by
 obtain ⟨h1,h2,h3,l,h4,h5⟩:=zhz hf (j+1) j s (by omega) hjf hs
 refine ⟨h1,?_⟩
 rw [h4]
 exact zuf fun p hp=>by
  rcases List.mem_append.1 hp with hp|hp
  ·exact zo6 hd p hp
  ·have:=h5 p hp;omega
theorem zi2 {f:List Nd} {s:FSt} (hs:zjC f s):s.out.length≤f.length:=by
 have h1:=hs.len
 have h2:=zqW hs.keys (n:=f.length) (fun x hx=>by obtain ⟨p,hp,rfl⟩:=List.mem_map.1 hx;exact hs.rng p hp)
 rw [List.length_map] at h2
 omega
theorem zw.objsE {P:Program} {M:Nat→Option Ob} {n f:Nat} {vs lvs:List V} {obs:List Ob} {y:D} {obs':List (Option Ob)} {K:V→Upd→Nat→Prop} (js:List Nat) (hf:Fn P T f lvs obs (.d y) obs') (ha:VPasses M js [] 20 lvs vs)
  (ho:zaJ M js [] obs js) (hnd:nodup js=true) (hsj:zdl js (zI M vs)=true) (hle:js.length≤obs'.length) (u:Upd) (hu:zfe js [] n obs' false=u)
  (hK:K (.d y) u (obs'.length - js.length)):zw (zcR P T) M n f vs K := .objs js hf ha ho hnd hsj hle (by rw [hu];exact hK)
end Go.Ab
namespace Go.Ab
def uni (m:Hd→Nat) (c:List Nd):Nat:=c.foldl (fun s n=>s|||m n.hd) 0
theorem zxx (m:Hd→Nat) : ∀ (c:List Nd) (s:Nat) (i:Nat),(c.foldl (fun s n=>s|||m n.hd) s).testBit i=(s.testBit i||c.any fun n=>(m n.hd).testBit i)
 | [],s,i=>by simp
 | n::r,s,i=>by simp only [List.foldl_cons,zxx m r,Nat.testBit_or,List.any_cons,Bool.or_assoc]
theorem zjw (m:Hd→Nat) (c:List Nd) (i:Nat):(uni m c).testBit i=c.any fun n=>(m n.hd).testBit i:=by
 unfold uni;rw [zxx];simp
theorem zy3 (m:Hd→Nat) {c:List Nd} {k:Nat} {n:Nd} (h:c[k]? = some n):uni m (c.take (k+1))=uni m (c.take k)|||m n.hd:=by
 unfold uni
 rw [List.take_add_one,h]
 simp
theorem zd3 (m:Hd→Nat) {b:Nat} : ∀ {c:List Nd},uni m c < 2 ^ b ↔ ∀ n∈c,m n.hd < 2 ^ b:=by
 intro c
 constructor
 ·intro h n hn
  refine Nat.lt_pow_two_of_testBit _ fun i hi=>?_
  have h1:=Nat.testBit_lt_two_pow (Nat.lt_of_lt_of_le h (Nat.pow_le_pow_right (by omega) hi))
  rw [zjw] at h1
  exact Bool.eq_false_iff.2 fun h2=>by
   have:(c.any fun n=>(m n.hd).testBit i)=true:=List.any_eq_true.2 ⟨n,hn,h2⟩
   rw [this] at h1;cases h1
 ·intro h
  refine Nat.lt_pow_two_of_testBit _ fun i hi=>?_
  rw [zjw]
  refine List.any_eq_false.2 fun n hn=>?_
  have:=Nat.testBit_lt_two_pow (Nat.lt_of_lt_of_le (h n hn) (Nat.pow_le_pow_right (by omega) hi))
  simp [this]
theorem zjk {k:IntKind} {a:Nat} (h:a < 2 ^ k.bits):(BitVec.ofInt k.bits (a:Int)).toNat=a:=by
 rw [BitVec.toNat_ofInt,Int.emod_eq_of_lt (Int.natCast_nonneg a) (show (a:Int) < ((2 ^ k.bits:Nat):Int) from Int.ofNat_lt.2 h)]
 rfl
theorem zn7 {a:Nat} (h:a < 2 ^ 63):IntKind.wrap .i64 (a:Int)=a:=ztK ⟨by omega,by omega⟩
theorem zzu {a b:Nat} (ha:a < 2 ^ 63) (hb:b < 2 ^ 63):zaU .i64 (fun p q=>p|||q) (a:Int) (b:Int)=((a|||b:Nat):Int):=by
 unfold zaU
 rw [BitVec.toNat_or,zjk (k := .i64) (by simp [IntKind.bits];omega),zjk (k := .i64) (by simp [IntKind.bits];omega)]
 exact zn7 (Nat.or_lt_two_pow ha hb)
theorem zsk {a b:Nat} (ha:a < 2 ^ 63) (hb:b < 2 ^ 63):zaU .i64 (fun p q=>p&&&q) (a:Int) (b:Int)=((a&&&b:Nat):Int):=by
 unfold zaU
 rw [BitVec.toNat_and,zjk (k := .i64) (by simp [IntKind.bits];omega),zjk (k := .i64) (by simp [IntKind.bits];omega)]
 exact zn7 (Nat.and_lt_two_pow _ hb)
theorem zmF {a b:Nat} (ha:a < 2 ^ 63) (hb:b < 2 ^ 63):zaU .i64 (fun p q=>p &&& ~~~q) (a:Int) (b:Int)=0 ↔ ∀ i,a.testBit i=true→b.testBit i=true:=by
 unfold zaU
 have h64 : ∀ {a:Nat},a < 2 ^ 63→a < 2 ^ 64:=fun h=>by omega
 have e:(BitVec.ofInt IntKind.i64.bits (a:Int) &&& ~~~BitVec.ofInt IntKind.i64.bits (b:Int)).toNat < 2 ^ 63:=by
  rw [BitVec.toNat_and,zjk (k := .i64) (h64 ha)]
  exact Nat.lt_of_le_of_lt Nat.and_le_left ha
 rw [zn7 e]
 have e2:(((BitVec.ofInt IntKind.i64.bits (a:Int) &&& ~~~BitVec.ofInt IntKind.i64.bits (b:Int)).toNat:Nat):Int)=0↔(BitVec.ofInt IntKind.i64.bits (a:Int) &&& ~~~BitVec.ofInt IntKind.i64.bits (b:Int))=0#_:=by
  constructor
  ·intro h;exact BitVec.eq_of_toNat_eq (by simpa using (show (BitVec.ofInt IntKind.i64.bits (a:Int) &&& ~~~BitVec.ofInt IntKind.i64.bits (b:Int)).toNat=0 by omega))
  ·intro h;rw [h];simp
 rw [e2]
 have bit : ∀ {c:Nat},c < 2 ^ 63 → ∀ i,(BitVec.ofInt IntKind.i64.bits (c:Int)).getLsbD i=c.testBit i:=fun {c} hc i=>by
  rw [← BitVec.testBit_toNat,zjk (k := .i64) (h64 hc)]
 constructor
 ·intro h i hi
  have h2:=congrArg (fun x=>x.getLsbD i) h
  have hlt:i < 64:=by
   refine Nat.lt_of_not_le fun hle=>?_
   have:=Nat.testBit_lt_two_pow (Nat.lt_of_lt_of_le (h64 ha) (Nat.pow_le_pow_right (by omega) hle))
   rw [this] at hi;cases hi
  simp only [BitVec.getLsbD_and,BitVec.getLsbD_not,bit ha,bit hb,hi,Bool.true_and,BitVec.getLsbD_zero] at h2
  have:decide (i < IntKind.i64.bits)=true:=decide_eq_true hlt
  rw [this] at h2
  simpa using h2
 ·intro h
  apply BitVec.eq_of_getLsbD_eq
  intro i hi
  simp only [BitVec.getLsbD_and,BitVec.getLsbD_not,bit ha,bit hb,BitVec.getLsbD_zero]
  cases ha':a.testBit i with
  | false=>simp
  | true=>simp [h i ha']
theorem zqs {a n:Nat} : (a:Int).fdiv (2 ^ n)=((a >>> n:Nat):Int):=by
 have e:((2:Int) ^ n)=((2 ^ n:Nat):Int):=by simp
 rw [e,Nat.shiftRight_eq_div_pow,Int.fdiv_eq_ediv_of_nonneg _ (Int.natCast_nonneg _)];rfl
def zap (h:Hd):Nat:=(zbb h.op).toNat
def zb2 (h:Hd):Nat:=if zT h.op=true then 2 ^ h.i.toNat else 0
def za8 (h:Hd):Nat:=if zD h.op=true then 2 ^ h.i.toNat else h.g.toNat
theorem zoQ (h:Hd):((zap h:Nat):Int)=zbb h.op:=by
 unfold zap zbb
 repeat' split
 all_goals rfl
theorem znx (h:Hd):zap h < 2 ^ 9:=by
 unfold zap zbb
 repeat' split
 all_goals decide
theorem zx3 {h:Hd} (hh:zdb h):zb2 h < 2 ^ 8:=by
 unfold zb2
 split
 ·rename_i h1
  have:=hh.fact h1
  exact Nat.pow_lt_pow_right (by omega) (by omega)
 ·decide
theorem zv1 {h:Hd} (hh:zdb h):za8 h < 2 ^ 4:=by
 unfold za8
 split
 ·rename_i h1
  have:=hh.agent h1
  exact Nat.pow_lt_pow_right (by omega) (by omega)
 ·cases hg:zE h.op with
  | true=>have:=hh.group hg;omega
  | false=>have:=hh.g0 hg;omega
end Go.Ab
namespace Go.Ab
open Go Go.Proofs
set_option maxRecDepth 10000
set_option maxHeartbeats 4000000
variable {T:Nat→Obj→Prop}
theorem zAB {g k:Nat} (hg:g < 2 ^ 63) (hk:k≤64):zaU .i64 (fun p q=>p&&&q) ((g:Int).fdiv (2 ^ (min ((k:Nat):Int).toNat IntKind.i64.bits))) 1=1↔g.testBit k=true:=by
 have e1:min ((k:Nat):Int).toNat IntKind.i64.bits=k:=Nat.min_eq_left (show k≤64 from hk)
 have h1:g >>> k < 2 ^ 63:=Nat.lt_of_le_of_lt (by rw [Nat.shiftRight_eq_div_pow];exact Nat.div_le_self _ _) hg
 rw [e1,zqs,show (1:Int)=((1:Nat):Int) from rfl,zsk h1 (by decide)]
 rw [Nat.testBit,Nat.and_one_is_mod,Nat.one_and_eq_mod_two,bne_iff_ne]
 omega
def zhr (p:PM) (g:Nat) (s:BitVec 64) (k:Nat):BitVec 64:=(List.range k).foldl (fun o (a:Nat)=>if g.testBit a=true then o&&&zfn p (a:Int) s else o) (zU p.W)
def zk6 (p:PM) (g:Nat) (s:BitVec 64):BitVec 64:=zhr p g s p.cell.length
theorem zin (p:PM) (g:Nat) (s:BitVec 64) (k:Nat):zhr p g s (k+1)=if g.testBit k=true then zhr p g s k&&&zfn p (k:Int) s else zhr p g s k:=by
 rw [zhr,List.range_succ,List.foldl_append];rfl
theorem zsW (hR:zaY T) (p:PM) (hp:za2 p.rank) (hc0:zy p=0) (g:Nat) (hgl:g < 2 ^ 63) (s:BitVec 64):Fn Tryz.prog T zhv [.d (dPM p),.d (.int .i64 (g:Int)),.d (.u64 s)] [] (.d (.u64 (zk6 p g s))) []:=by
 have hgd:=zA hc0
 have h1:=hgd.w1
 have h2:=hgd.w2
 have h3:=hgd.n4
 refine zb zn znF (by show 3≤30;decide) ?_
 (repeat' ((conv=>whnf);first|refine vA ?_|refine vJ fun hg=>?_|refine vT ?_|refine yD (zgT p h1 h2) ⟨⟨rfl,rfl⟩,rfl⟩ rfl ?_));all_goals try conv=>whnf
 refine zt (fun ((k,o):Nat×BitVec 64)=>[(1,.d (.int .i64 ((g:Int)))),(2,.d (.u64 (s))),(3,.ptr 0 0),(13,.d (.int .i64 ((p.cell.map dI).length:Int))),(7,.d (.u64 (o))),(14,.d (.int .i64 ((k:Int))))]) (fun ((k,o):Nat×BitVec 64)=>[(0,some (zck p))]) 1 (fun ((k,o):Nat×BitVec 64)=>k≤p.cell.length∧o=zhr p g s k) (fun ((k,o):Nat×BitVec 64)=>p.cell.length - k) ((0,zU p.W)) [(0,0)] [] (⟨by simp,rfl⟩) (by (refine ⟨rfl,rfl,rfl,?_,?_⟩;repeat' first|exact trivial|exact rfl|refine And.intro ?_ ?_|refine ⟨_,rfl,?_⟩|decide)) ?_
 rintro ⟨k,o⟩ ⟨hk,hI⟩
 (repeat' ((conv=>whnf);first|refine vA ?_|(refine vF ?_ ?_<;>intro hc<;>try simp only [vL] at hc)|refine vT ?_|((first|refine vO ?_ ?_|refine vP ?_ ?_);·omega)|refine vY ?_|refine yD (zsX hR p hp h2 _ _) ⟨⟨rfl,rfl⟩,⟨rfl,rfl⟩,⟨rfl,rfl⟩,rfl⟩ rfl ?_));all_goals try conv=>whnf
 ·have hb:=(zAB (k:=k) hgl (by omega)).1 hc
  refine ⟨(k+1,_),[(0,0)],[],?_,?_,by (refine ⟨rfl,rfl,rfl,?_,?_⟩;repeat' first|exact trivial|exact rfl|refine And.intro ?_ ?_|refine ⟨_,rfl,?_⟩|decide)⟩
  ·exact ⟨by (omega),by rw [zin,if_pos hb,hI]⟩
  ·((simp only [vM] at *;omega))
 ·have hb : ¬ g.testBit k=true:=fun h=>hc ((zAB (k:=k) hgl (by omega)).2 h)
  exact ⟨(k+1,o),[(0,0)],[],⟨by (omega),by rw [zin,if_neg hb,hI]⟩,by ((simp only [vM] at *;omega)),by (refine ⟨rfl,rfl,rfl,?_,?_⟩;repeat' first|exact trivial|exact rfl|refine And.intro ?_ ?_|refine ⟨_,rfl,?_⟩|decide)⟩
 ·rw [hI,show k=p.cell.length by omega];rfl
end Go.Ab
namespace Go.Ab
open Go Go.Proofs
set_option maxRecDepth 10000
set_option maxHeartbeats 4000000
variable {T:Nat→Obj→Prop}
theorem zmd {x s:BitVec 64} : x &&& ~~~s=0#64 ↔ ∀ i,x.getLsbD i=true→s.getLsbD i=true:=by
 rw [zy5]
 constructor
 ·intro h i hi
  have h1:=h i
  rw [BitVec.getLsbD_and,BitVec.getLsbD_not,hi,Bool.true_and] at h1
  have:i < 64:=BitVec.lt_of_getLsbD hi
  simpa [this] using h1
 ·intro h i
  rw [BitVec.getLsbD_and,BitVec.getLsbD_not]
  cases hx:x.getLsbD i with
  | false=>simp
  | true=>simp [h i hx]
theorem zzo {x y:BitVec 64} (h : ∀ i,x.getLsbD i=true↔y.getLsbD i=true):x=y :=
 BitVec.eq_of_getLsbD_eq fun i _=>Bool.eq_iff_iff.2 (h i)
theorem zAS {x y:BitVec 64} (h : ∀ i,x.getLsbD i=true→y.getLsbD i=true) (hne:x≠y):x.toNat < y.toNat:=by
 have e:y&&&x=x:=zzo fun i=>by
  rw [BitVec.getLsbD_and,Bool.and_eq_true]
  exact ⟨fun h=>h.2,fun hx=>⟨h i hx,hx⟩⟩
 have h1:x.toNat≤y.toNat:=by rw [← e,BitVec.toNat_and];exact Nat.and_le_left
 have h2:x.toNat≠y.toNat:=fun e=>hne (BitVec.eq_of_toNat_eq e)
 omega
theorem zqq {n:Nat} (hn:n≤64) {f:Nat→Bool} {w:Nat} : (zP f n).getLsbD w=true↔w < n∧f w=true:=by
 rw [zgn]
 simp only [Bool.and_eq_true,decide_eq_true_eq]
 exact ⟨fun h=>⟨h.1.2,h.2⟩,fun h=>⟨⟨by omega,h.1⟩,h.2⟩⟩
theorem ztA {n:Nat} (hn:n≤64) {P:Nat→Prop} [DecidablePred P] {w:Nat} : (zP (fun w=>decide (P w)) n).getLsbD w=true↔w < n∧P w:=by
 rw [zqq hn,decide_eq_true_eq]
def InC (p:PM) (a w v:Nat):Prop:=v < p.W.toNat∧at0 (ze p.cell a) v=at0 (ze p.cell a) w
def rkA (p:PM) (a w:Nat):Int:=at0 (ze p.rank a) w
section
variable {p:PM} (hg:zr8 p) (hc0:zy p=0)
include hc0
theorem zrU {a w:Nat} (ha:a < p.cell.length) (hw:w < p.W.toNat):At p a w:=⟨hc0,by omega,by omega,by omega,by omega⟩
theorem W64:p.W.toNat≤64:=by have:=(zA hc0).w2;omega
theorem zdv {i:Nat} : (zU p.W).getLsbD i=true↔i < p.W.toNat:=by
 have h1:=(zA hc0).w1
 have h2:=W64 hc0
 by_cases h:i < 64
 ·rw [zdd (by omega) h,decide_eq_true_eq];omega
 ·exact ⟨fun h'=>absurd (BitVec.lt_of_getLsbD h') h,fun h'=>by omega⟩
theorem zfB {a w i:Nat} (ha:a < p.cell.length) (hw:w < p.W.toNat):(zeI p a w).getLsbD i=true↔InC p a w i:=zkV (zrU hc0 ha hw)
theorem zq5 {a:Nat} (ha:a < p.cell.length) {s:BitVec 64} {w:Nat} : (zfn p a s).getLsbD w=true↔w < p.W.toNat ∧ ∀ v,InC p a w v→s.getLsbD v=true:=by
 unfold zfn
 rw [ztA (W64 hc0)]
 refine and_congr_right fun hw=>?_
 rw [zmd]
 exact ⟨fun h v hv=>h v ((zfB hc0 ha hw).2 hv),fun h v hv=>h v ((zfB hc0 ha hw).1 hv)⟩
theorem zsf {a w:Nat} (ha:a < p.cell.length) (hw:w < p.W.toNat) {c:BitVec 64} {i:Nat} : (zhQ p a w c).getLsbD i=true↔InC p a w i∧c.getLsbD i=true ∧ ∀ u,InC p a w u→c.getLsbD u=true→rkA p a i≤rkA p a u:=by
 have hat:=zrU hc0 ha hw
 rw [zv5 hat]
 constructor
 ·rintro ⟨⟨h1,h2⟩,h3⟩
  exact ⟨(zfB hc0 ha hw).1 h2,h1,fun u hu hu'=>h3 u hu' ((zfB hc0 ha hw).2 hu)⟩
 ·rintro ⟨h2,h1,h3⟩
  exact ⟨⟨h1,(zfB hc0 ha hw).2 h2⟩,fun u hu hu'=>h3 u ((zfB hc0 ha hw).1 hu') hu⟩
theorem zfa {a:Nat} (ha:a < p.cell.length) {c s:BitVec 64} {w:Nat} : (zaT p a c s).getLsbD w=true↔w < p.W.toNat ∧ ∀ v,InC p a w v→c.getLsbD v=true→(∀ u,InC p a w u→c.getLsbD u=true→rkA p a v≤rkA p a u)→s.getLsbD v=true:=by
 unfold zaT
 rw [ztA (W64 hc0)]
 refine and_congr_right fun hw=>?_
 rw [zmd]
 exact ⟨fun h v h1 h2 h3=>h v ((zsf hc0 ha hw).2 ⟨h1,h2,h3⟩),fun h v hv=>by
  obtain ⟨h1,h2,h3⟩:=(zsf hc0 ha hw).1 hv
  exact h v h1 h2 h3⟩
theorem zvP {a:Nat} (ha:a < p.cell.length) {s:BitVec 64} {w:Nat} : (zfK p a s).getLsbD w=true↔w < p.W.toNat ∧ ∀ v,InC p a w v→rkA p a v≤rkA p a w→s.getLsbD v=true:=by
 have e:zdx p a=(zek p a,0):=by rw [zdx,if_neg (by omega),if_neg (by omega)];rfl
 unfold zfK
 rw [e,ztA (W64 hc0)]
 refine and_congr_right fun hw=>?_
 have hx:(zek p a).getD w 0#64=zcr (ze p.cell a) (ze p.rank a) w p.W.toNat:=by simp [zek,List.getD,hw]
 rw [zmd,hx]
 have hb : ∀ i,(zcr (ze p.cell a) (ze p.rank a) w p.W.toNat).getLsbD i=true↔InC p a w i∧rkA p a i≤rkA p a w:=fun i=>by
  unfold zcr
  rw [zqq (W64 hc0)]
  simp only [Bool.and_eq_true,beq_iff_eq,decide_eq_true_eq]
  exact ⟨fun h=>⟨⟨h.1,h.2.1⟩,h.2.2⟩,fun h=>⟨h.1.1,h.1.2,h.2⟩⟩
 exact ⟨fun h v h1 h2=>h v ((hb v).2 ⟨h1,h2⟩),fun h v hv=>by
  obtain ⟨h1,h2⟩:=(hb v).1 hv
  exact h v h1 h2⟩
def Suc (p:PM) (g w v:Nat):Prop:=w < p.W.toNat ∧ ∃ a,a < p.cell.length∧g.testBit a=true∧InC p a w v
omit hc0 in
theorem Suc.lt {g w v:Nat} (h:Suc p g w v):v < p.W.toNat:=by obtain ⟨_,a,_,_,h⟩:=h;exact h.1
theorem zoG {g:Nat} {s:BitVec 64} {w:Nat} : ∀ k,k≤p.cell.length→((zhr p g s k).getLsbD w=true↔w < p.W.toNat ∧ ∀ a,a < k→g.testBit a=true → ∀ v,InC p a w v→s.getLsbD v=true)
 | 0,_=>by
  show (zU p.W).getLsbD w=true↔_
  rw [zdv hc0]
  exact ⟨fun h=>⟨h,fun a h=>by omega⟩,fun h=>h.1⟩
 | k+1,hk=>by
  have ih:=zoG (g:=g) (s:=s) (w:=w) k (by omega)
  rw [zin]
  split
  ·rename_i hb
   rw [BitVec.getLsbD_and,Bool.and_eq_true,ih,zq5 hc0 (by omega)]
   constructor
   ·rintro ⟨⟨h1,h2⟩,-,h3⟩
    refine ⟨h1,fun a ha hga v hv=>?_⟩
    by_cases e:a=k
    ·subst e;exact h3 v hv
    ·exact h2 a (by omega) hga v hv
   ·rintro ⟨h1,h2⟩
    exact ⟨⟨h1,fun a ha=>h2 a (by omega)⟩,h1,h2 k (by omega) hb⟩
  ·rename_i hb
   rw [ih]
   constructor
   ·rintro ⟨h1,h2⟩
    refine ⟨h1,fun a ha hga v hv=>?_⟩
    by_cases e:a=k
    ·subst e;exact absurd hga hb
    ·exact h2 a (by omega) hga v hv
   ·rintro ⟨h1,h2⟩
    exact ⟨h1,fun a ha=>h2 a (by omega)⟩
theorem zwk {g:Nat} {s:BitVec 64} {w:Nat} : (zk6 p g s).getLsbD w=true↔w < p.W.toNat ∧ ∀ v,Suc p g w v→s.getLsbD v=true:=by
 rw [zk6,zoG hc0 _ (Nat.le_refl _)]
 refine and_congr_right fun hw=>?_
 exact ⟨fun h v ⟨_,a,h1,h2,h3⟩=>h a h1 h2 v h3,fun h a h1 h2 v h3=>h v ⟨hw,a,h1,h2,h3⟩⟩
end
inductive CP (p:PM) (g:Nat) (c:BitVec 64):Nat→Nat→Prop where
 | base {w v:Nat} : Suc p g w v→c.getLsbD v=true→CP p g c w v
 | step {w u v:Nat} : CP p g c w u→Suc p g u v→c.getLsbD v=true→CP p g c w v
theorem CP.pre {p:PM} {g:Nat} {c:BitVec 64} {w u v:Nat} (h:Suc p g w u) (hu:c.getLsbD u=true) (hp:CP p g c u v):CP p g c w v:=by
 induction hp with
 | base h1 h2=>exact .step (.base h hu) h1 h2
 | step _ h1 h2 ih=>exact .step ih h1 h2
noncomputable def zg3 (p:PM) (g:Nat) (c s:BitVec 64):BitVec 64:=zP (fun w => @decide (∀ v,CP p g c w v→s.getLsbD v=true) (Classical.propDecidable _)) p.W.toNat
theorem zgO {p:PM} (hc0:zy p=0) {g:Nat} {c s:BitVec 64} {w:Nat} : (zg3 p g c s).getLsbD w=true↔w < p.W.toNat ∧ ∀ v,CP p g c w v→s.getLsbD v=true:=by
 unfold zg3
 rw [zqq (W64 hc0),@decide_eq_true_eq _ (Classical.propDecidable _)]
def zpo (p:PM) (g:Nat) (c s out:BitVec 64):BitVec 64:=zk6 p g (zU p.W &&& ~~~c|||s&&&out)
theorem zeW {p:PM} (hc0:zy p=0) {g:Nat} {c s out:BitVec 64} {w:Nat} : (zpo p g c s out).getLsbD w=true↔w < p.W.toNat ∧ ∀ v,Suc p g w v→c.getLsbD v=true→s.getLsbD v=true∧out.getLsbD v=true:=by
 unfold zpo
 rw [zwk hc0]
 refine and_congr_right fun hw=>forall_congr' fun v=>?_
 constructor
 ·intro h h1 h2
  have h3:=h h1
  rw [BitVec.getLsbD_or,BitVec.getLsbD_and,BitVec.getLsbD_and,BitVec.getLsbD_not,h2] at h3
  simpa using h3
 ·intro h h1
  have hv:=h1.lt
  have h64:=W64 hc0
  rw [BitVec.getLsbD_or,BitVec.getLsbD_and,BitVec.getLsbD_and,BitVec.getLsbD_not,(zdv hc0).2 hv]
  cases hcv:c.getLsbD v with
  | false=>simp;omega
  | true=>simp [h h1 hcv]
structure Com (p:PM) (g:Nat) (c s out:BitVec 64):Prop where
 lo : ∀ w,(zg3 p g c s).getLsbD w=true→out.getLsbD w=true
 dec : ∀ w,(zpo p g c s out).getLsbD w=true→out.getLsbD w=true
 all : ∀ w,out.getLsbD w=true→w < p.W.toNat
theorem Com.start {p:PM} (hc0:zy p=0) (g:Nat) (c s:BitVec 64):Com p g c s (zU p.W) :=
 ⟨fun w h=>(zdv hc0).2 ((zgO hc0).1 h).1,fun w h=>(zdv hc0).2 ((zeW hc0).1 h).1,fun w h=>(zdv hc0).1 h⟩
theorem Com.next {p:PM} (hc0:zy p=0) {g:Nat} {c s out:BitVec 64} (h:Com p g c s out):Com p g c s (zpo p g c s out) where
 lo w hw:=by
  obtain ⟨h1,h2⟩:=(zgO hc0).1 hw
  refine (zeW hc0).2 ⟨h1,fun v hv hcv=>⟨h2 v (.base hv hcv),h.lo v ((zgO hc0).2 ⟨hv.lt,fun u hu=>h2 u (hu.pre hv hcv)⟩)⟩⟩
 dec w hw:=by
  obtain ⟨h1,h2⟩:=(zeW hc0).1 hw
  exact (zeW hc0).2 ⟨h1,fun v hv hcv=>⟨(h2 v hv hcv).1,h.dec v (h2 v hv hcv).2⟩⟩
 all w hw:=((zeW hc0).1 hw).1
theorem Com.done {p:PM} (hc0:zy p=0) {g:Nat} {c s out:BitVec 64} (h:Com p g c s out) (e:zpo p g c s out=out):out=zg3 p g c s:=by
 refine zzo fun w=>⟨fun hw=>(zgO hc0).2 ⟨h.all w hw,fun v hv=>?_⟩,h.lo w⟩
 have key : ∀ v,CP p g c w v→s.getLsbD v=true∧out.getLsbD v=true:=fun v hv=>by
  induction hv with
  | base h1 h2=>rw [← e] at hw;exact ((zeW hc0).1 hw).2 _ h1 h2
  | step _ h1 h2 ih =>
   have ih:=ih.2
   rw [← e] at ih
   exact ((zeW hc0).1 ih).2 _ h1 h2
 exact (key v hv).1
theorem zvl (hR:zaY T) (p:PM) (hp:za2 p.rank) (hc0:zy p=0) (g:Nat) (hgl:g < 2 ^ 63) (c s:BitVec 64):Fn Tryz.prog T zgC [.d (dPM p),.d (.int .i64 (g:Int)),.d (.u64 c),.d (.u64 s)] [] (.d (.u64 (zg3 p g c s))) []:=by
 have hgd:=zA hc0
 have h1:=hgd.w1
 have h2:=hgd.w2
 refine zb zn zmu (by show 4≤29;decide) ?_
 (repeat' ((conv=>whnf);first|refine vT ?_|refine yD (zgT p h1 h2) ⟨⟨rfl,rfl⟩,rfl⟩ rfl ?_));all_goals try conv=>whnf
 refine zt (fun (o:BitVec 64)=>[(1,.d (.int .i64 ((g:Int)))),(2,.d (.u64 (c))),(3,.d (.u64 (s))),(4,.ptr 0 0),(9,.d (.u64 (o)))]) (fun (o:BitVec 64)=>[(0,some (zck p))]) 1 (fun (o:BitVec 64)=>Com p g c s o) (fun (o:BitVec 64)=>o.toNat) (zU p.W) [(0,0)] [] (Com.start hc0 g c s) (by (refine ⟨rfl,rfl,rfl,?_,?_⟩;repeat' first|exact trivial|exact rfl|refine And.intro ?_ ?_|refine ⟨_,rfl,?_⟩|decide)) ?_
 rintro o hI
 (repeat' ((conv=>whnf);first|refine vA ?_|(refine vF ?_ ?_<;>intro hc)|refine vT ?_|(refine vU ?_ ?_;·kernel_rfl)|refine vY ?_|refine yD (zgT p h1 h2) ⟨⟨rfl,rfl⟩,rfl⟩ rfl ?_|refine yD (zsW hR p hp hc0 g hgl _) ⟨⟨rfl,rfl⟩,⟨rfl,rfl⟩,⟨rfl,rfl⟩,rfl⟩ rfl ?_));all_goals try conv=>whnf
 ·exact Com.done hc0 hI hc
 ·refine ⟨_,[(0,0)],[],?_,?_,by (refine ⟨rfl,rfl,rfl,?_,?_⟩;repeat' first|exact trivial|exact rfl|refine And.intro ?_ ?_|refine ⟨_,rfl,?_⟩|decide)⟩
  ·exact hI.next hc0
  ·exact zAS hI.dec hc
end Go.Ab
namespace Go.Ab
open Go Go.Proofs
set_option maxRecDepth 10000
set_option maxHeartbeats 4000000
variable {T:Nat→Obj→Prop}
noncomputable def zaD (p:PM) (h:Hd) (x y:BitVec 64):BitVec 64 :=
 if h.op=1 then zU p.W else if h.op=3 then p.val.getD h.i.toNat 0#64 else if h.op=4 then zU p.W &&& ~~~x else if h.op=5 then x&&&y else if h.op=6 then x|||y else if h.op=7 then zU p.W &&& ~~~x|||y else
 if h.op=8 then zU p.W &&& ~~~(x ^^^ y) else if h.op=9 then zfn p h.i x else if h.op=10 then zU p.W &&& ~~~zfn p h.i (zU p.W &&& ~~~x) else if h.op=11 then zk6 p h.g.toNat x else
 if h.op=13 then zg3 p h.g.toNat x y else if h.op=14 then zaT p h.i x y else if h.op=15 then zfK p h.i x else 0#64
theorem zyb (hR:zaY T) (p:PM) (hp:za2 p.rank) (hc0:zy p=0) (op i e:Int) (g:Nat) (hgl:g < 2 ^ 63) (nx ny:Int) (x y:BitVec 64) (h3:op=3→0≤i∧i < p.val.length) (h15:op=15→0≤i∧i < p.cell.length) :
  Fn Tryz.prog T zeM [.d (dPM p),.d (.agg [.int .i64 op,.int .i64 i,.int .i64 e,.int .i64 g,.int .i64 nx,.int .i64 ny]),.d (.u64 x),.d (.u64 y)] [] (.d (.u64 (zaD p ⟨op,i,e,g⟩ x y))) []:=by
 have hgd:=zA hc0
 have h1:=hgd.w1
 have h2:=hgd.w2
 refine zb zn znH (by show 4≤105;decide) ?_
 (repeat' ((conv=>whnf);first|refine vA ?_|(refine vF ?_ ?_<;>intro hc)|refine vT ?_|(refine vS ?_ fun x hx=>?_;·omega)|(refine vU ?_ ?_;·kernel_rfl)|refine vY ?_|refine yD (zgT p h1 h2) ⟨⟨rfl,rfl⟩,rfl⟩ rfl ?_|refine yD (zsX hR p hp h2 _ _) ⟨⟨rfl,rfl⟩,⟨rfl,rfl⟩,⟨rfl,rfl⟩,rfl⟩ rfl ?_|refine yD (zsW hR p hp hc0 g hgl _) ⟨⟨rfl,rfl⟩,⟨rfl,rfl⟩,⟨rfl,rfl⟩,rfl⟩ rfl ?_|refine yD (zvl hR p hp hc0 g hgl _ _) (by (repeat refine ⟨⟨rfl,rfl⟩,?_⟩);rfl) rfl ?_|refine yD (zt1 hR p hp h2 _ _ _) (by (repeat refine ⟨⟨rfl,rfl⟩,?_⟩);rfl) rfl ?_|(refine yD (zwx hR p hp hc0 _ ?_ ?_ _) ⟨⟨rfl,rfl⟩,⟨rfl,rfl⟩,⟨rfl,rfl⟩,rfl⟩ rfl ?_;(·omega);(·omega))|fail));all_goals try conv=>whnf
 all_goals (simp only [zaD, *,if_true,if_false];first|rfl|(simp [List.getD, *];done)|skip)
end Go.Ab
namespace Go.Ab
open Go Go.Proofs
set_option maxRecDepth 10000
set_option maxHeartbeats 4000000
set_option maxHeartbeats 40000000
variable {T:Nat→Obj→Prop}
theorem zAn {f:List Nd} (hL:f.length≤1000) {k:Nat} {n:Nd} (hn:f[k]? = some n) {s:FSt} (hl:s.out.length≤1000) (hfd:zF (zG (FSt.done s)) (.int .i64 (k:Int))=some none) (hu:Fn Tryz.prog T zZ [.d (.int .i64 n.op)] [] (.d (.tup [.agg [.bool false,.bool false,.bool (zT n.op),.bool (zD n.op),.bool (zE n.op),.bool (zL n.op),.int .i64 (zbb n.op)],.bool (zdj n.op)])) []) {j:Nat} (hfn:zF (zak (FSt.out s) 0) (dNd n)=some (some (.int .i64 (j:Int)))) :
  Fn Tryz.prog T zk (za5 (k:Int)) (za4 f (.own 7) s++[.row 6 (s.out.map dNd)]) (.d (.int .i64 (j:Int))) [some (.box [.map 5]),some (.box [.d (dF f)]),some (.box [zaW]),some (.box [.map 6]),some (.box [.own 8]),some (.map (zG (FSt.done s)++[(.int .i64 (k:Int),.int .i64 (j:Int))])),some (.map (zak (FSt.out s) 0)),none,some (.row 6 ((FSt.out s).map dNd))]:=by
 refine zJ zn zR (by show 6≤68;decide) _ (fun e env mem n h=>h) ?_
 (repeat' ((conv=>whnf);first|refine vA ?_|refine vE ?_|refine vG ?_|refine vH ?_|refine vT ?_|refine vN ‹_› ?_|refine yD hu (by (repeat refine ⟨⟨rfl,rfl⟩,?_⟩);rfl) rfl ?_|refine zaa.mk _ ‹_› ?_));all_goals try conv=>whnf
 refine ⟨trivial,_,[(0,0),(1,1),(2,2),(3,3),(4,4),(5,5),(6,6),(8,7)],[],rfl,.inl (by (repeat' exact rfl)),⟨by rfl,by rfl,by rfl,trivial,by (repeat' first|exact trivial|exact rfl|refine And.intro ?_ ?_|refine ⟨_,rfl,?_⟩|exact of_decide_eq_true rfl)⟩,by (repeat' first|exact trivial|exact rfl|refine And.intro ?_ ?_|refine ⟨_,rfl,?_⟩)⟩
theorem zAo {f:List Nd} (hL:f.length≤1000) {k:Nat} {n:Nd} (hn:f[k]? = some n) {s:FSt} (hl:s.out.length≤1000) (hfd:zF (zG (FSt.done s)) (.int .i64 (k:Int))=some none) (hu:Fn Tryz.prog T zZ [.d (.int .i64 n.op)] [] (.d (.tup [.agg [.bool false,.bool false,.bool (zT n.op),.bool (zD n.op),.bool (zE n.op),.bool (zL n.op),.int .i64 (zbb n.op)],.bool (zdj n.op)])) []) (hfn:zF (zak (FSt.out s) 0) (dNd n)=some none) :
  Fn Tryz.prog T zk (za5 (k:Int)) (za4 f (.own 7) s++[.row 6 (s.out.map dNd)]) (.d (.int .i64 ((((FSt.out s).map dNd).length:Nat):Int))) [some (.box [.map 5]),some (.box [.d (dF f)]),some (.box [zaW]),some (.box [.map 6]),some (.box [.own 8]),some (.map (zG (FSt.done s)++[(.int .i64 (k:Int),.int .i64 ((((FSt.out s).map dNd).length:Nat):Int))])),some (.map (zak (FSt.out s) 0++[(dNd n,.int .i64 ((((FSt.out s).map dNd).length:Nat):Int))])),none,some (.row 6 ((FSt.out s).map dNd++[dNd n]))]:=by
 refine zJ zn zR (by show 6≤68;decide) _ (fun e env mem n h=>h) ?_
 (repeat' ((conv=>whnf);first|refine vA ?_|refine vH ?_|refine vJ fun hg=>?_|refine vT ?_|refine vN ‹_› ?_|(refine vP ?_ ?_;·(simp only [vM] at *;omega))|refine yD hu (by (repeat refine ⟨⟨rfl,rfl⟩,?_⟩);rfl) rfl ?_|refine zaa.mk _ ‹_› ?_));all_goals try conv=>whnf
 refine ⟨trivial,_,[(0,0),(1,1),(2,2),(3,3),(4,4),(5,5),(6,6),(8,11)],[],rfl,.inl (by (repeat' exact rfl)),⟨by rfl,by rfl,by rfl,trivial,by (repeat' first|exact trivial|exact rfl|refine And.intro ?_ ?_|refine ⟨_,rfl,?_⟩|exact of_decide_eq_true rfl)⟩,by (repeat' first|exact trivial|exact rfl|refine And.intro ?_ ?_|refine ⟨_,rfl,?_⟩)⟩
end Go.Ab
namespace Go.Ab
open Go Go.Proofs
set_option maxRecDepth 10000
set_option maxHeartbeats 4000000
set_option maxHeartbeats 40000000
variable {T:Nat→Obj→Prop}
theorem zAp {f:List Nd} (hL:f.length≤1000) {k:Nat} {n:Nd} (hn:f[k]? = some n) {s:FSt} (hl:s.out.length≤1000) (hfd:zF (zG (FSt.done s)) (.int .i64 (k:Int))=some none) (hu:Fn Tryz.prog T zZ [.d (.int .i64 n.op)] [] (.d (.tup [.agg [.bool true,.bool false,.bool (zT n.op),.bool (zD n.op),.bool (zE n.op),.bool (zL n.op),.int .i64 (zbb n.op)],.bool (zdj n.op)])) []) {r1:Nat} {s1:FSt} (hl1:s1.out.length≤1000) (c1:Fn Tryz.prog T zk (za5 n.x) (za4 f (.own 7) s++[.row 6 (s.out.map dNd)]) (.d (.int .i64 (r1:Int))) (zdi f s1)) (hfd1:zF (zG s1.done) (.int .i64 (k:Int))=some none) {j:Nat} (hfn:zF (zak s1.out 0) (dNd ⟨n.op,n.i,n.e,n.g,(r1:Int),n.y⟩)=some (some (.int .i64 (j:Int)))) :
  Fn Tryz.prog T zk (za5 (k:Int)) (za4 f (.own 7) s++[.row 6 (s.out.map dNd)]) (.d (.int .i64 (j:Int))) [some (.box [.map 5]),some (.box [.d (dF f)]),some (.box [zaW]),some (.box [.map 6]),some (.box [.own 8]),some (.map (zG s1.done++[(.int .i64 (k:Int),.int .i64 (j:Int))])),some (.map (zak s1.out 0)),none,some (.row 6 (s1.out.map dNd))]:=by
 refine zJ zn zR (by show 6≤68;decide) _ (fun e env mem n h=>h) ?_
 (repeat' ((conv=>whnf);first|refine vA ?_|refine vG ?_|refine vT ?_|refine vN ‹_› ?_|refine yD hu (by (repeat refine ⟨⟨rfl,rfl⟩,?_⟩);rfl) rfl ?_|refine zaa.mk _ ‹_› ?_));all_goals try conv=>whnf
 refine zw.objsE [0,1,2,3,4,5,6,7] (c1) (by (repeat' first|exact rfl|refine And.intro ?_ ?_|refine ⟨_,rfl,?_⟩)) (by (repeat' first|exact rfl|refine And.intro ?_ ?_|refine ⟨_,rfl,?_⟩)) (by rfl) (by kernel_rfl) (by simp) [(0,some (.box [.map 5])),(1,some (.box [.d (dF f)])),(2,some (.box [zaW])),(3,some (.box [.map 6])),(4,some (.box [.own 10])),(5,some (.map (zG s1.done))),(6,some (.map (zak s1.out 0))),(7,none),(10,some (.row 6 (s1.out.map dNd)))] rfl ?_
 (repeat' ((conv=>whnf);first|refine vA ?_|refine vE ?_|refine vG ?_|refine vH ?_|refine vT ?_|refine zaa.mk _ ‹_› ?_));all_goals try conv=>whnf
 refine ⟨trivial,_,[(0,0),(1,1),(2,2),(3,3),(4,4),(5,5),(6,6),(8,10)],[],rfl,.inl (by (repeat' exact rfl)),⟨by rfl,by rfl,by rfl,trivial,by (repeat' first|exact trivial|exact rfl|refine And.intro ?_ ?_|refine ⟨_,rfl,?_⟩|exact of_decide_eq_true rfl)⟩,by (repeat' first|exact trivial|exact rfl|refine And.intro ?_ ?_|refine ⟨_,rfl,?_⟩)⟩
theorem zAq {f:List Nd} (hL:f.length≤1000) {k:Nat} {n:Nd} (hn:f[k]? = some n) {s:FSt} (hl:s.out.length≤1000) (hfd:zF (zG (FSt.done s)) (.int .i64 (k:Int))=some none) (hu:Fn Tryz.prog T zZ [.d (.int .i64 n.op)] [] (.d (.tup [.agg [.bool true,.bool false,.bool (zT n.op),.bool (zD n.op),.bool (zE n.op),.bool (zL n.op),.int .i64 (zbb n.op)],.bool (zdj n.op)])) []) {r1:Nat} {s1:FSt} (hl1:s1.out.length≤1000) (c1:Fn Tryz.prog T zk (za5 n.x) (za4 f (.own 7) s++[.row 6 (s.out.map dNd)]) (.d (.int .i64 (r1:Int))) (zdi f s1)) (hfd1:zF (zG s1.done) (.int .i64 (k:Int))=some none) (hfn:zF (zak s1.out 0) (dNd ⟨n.op,n.i,n.e,n.g,(r1:Int),n.y⟩)=some none) :
  Fn Tryz.prog T zk (za5 (k:Int)) (za4 f (.own 7) s++[.row 6 (s.out.map dNd)]) (.d (.int .i64 (((s1.out.map dNd).length:Nat):Int))) [some (.box [.map 5]),some (.box [.d (dF f)]),some (.box [zaW]),some (.box [.map 6]),some (.box [.own 8]),some (.map (zG s1.done++[(.int .i64 (k:Int),.int .i64 (((s1.out.map dNd).length:Nat):Int))])),some (.map (zak s1.out 0++[(dNd ⟨n.op,n.i,n.e,n.g,(r1:Int),n.y⟩,.int .i64 (((s1.out.map dNd).length:Nat):Int))])),none,some (.row 6 (s1.out.map dNd++[dNd ⟨n.op,n.i,n.e,n.g,(r1:Int),n.y⟩]))]:=by
 refine zJ zn zR (by show 6≤68;decide) _ (fun e env mem n h=>h) ?_
 (repeat' ((conv=>whnf);first|refine vA ?_|refine vG ?_|refine vT ?_|refine vN ‹_› ?_|refine yD hu (by (repeat refine ⟨⟨rfl,rfl⟩,?_⟩);rfl) rfl ?_|refine zaa.mk _ ‹_› ?_));all_goals try conv=>whnf
 refine zw.objsE [0,1,2,3,4,5,6,7] (c1) (by (repeat' first|exact rfl|refine And.intro ?_ ?_|refine ⟨_,rfl,?_⟩)) (by (repeat' first|exact rfl|refine And.intro ?_ ?_|refine ⟨_,rfl,?_⟩)) (by rfl) (by kernel_rfl) (by simp) [(0,some (.box [.map 5])),(1,some (.box [.d (dF f)])),(2,some (.box [zaW])),(3,some (.box [.map 6])),(4,some (.box [.own 10])),(5,some (.map (zG s1.done))),(6,some (.map (zak s1.out 0))),(7,none),(10,some (.row 6 (s1.out.map dNd)))] rfl ?_
 (repeat' ((conv=>whnf);first|refine vA ?_|refine vH ?_|refine vJ fun hg=>?_|refine vT ?_|(refine vP ?_ ?_;·(simp only [vM] at *;omega))|refine zaa.mk _ ‹_› ?_));all_goals try conv=>whnf
 refine ⟨trivial,_,[(0,0),(1,1),(2,2),(3,3),(4,4),(5,5),(6,6),(8,12)],[],rfl,.inl (by (repeat' exact rfl)),⟨by rfl,by rfl,by rfl,trivial,by (repeat' first|exact trivial|exact rfl|refine And.intro ?_ ?_|refine ⟨_,rfl,?_⟩|exact of_decide_eq_true rfl)⟩,by (repeat' first|exact trivial|exact rfl|refine And.intro ?_ ?_|refine ⟨_,rfl,?_⟩)⟩
end Go.Ab
namespace Go.Ab
open Go Go.Proofs
set_option maxRecDepth 10000
set_option maxHeartbeats 4000000
set_option maxHeartbeats 40000000
variable {T:Nat→Obj→Prop}
theorem zAr {f:List Nd} (hL:f.length≤1000) {k:Nat} {n:Nd} (hn:f[k]? = some n) {s:FSt} (hl:s.out.length≤1000) (hfd:zF (zG (FSt.done s)) (.int .i64 (k:Int))=some none) (hu:Fn Tryz.prog T zZ [.d (.int .i64 n.op)] [] (.d (.tup [.agg [.bool true,.bool true,.bool (zT n.op),.bool (zD n.op),.bool (zE n.op),.bool (zL n.op),.int .i64 (zbb n.op)],.bool (zdj n.op)])) []) {r1:Nat} {s1:FSt} (hl1:s1.out.length≤1000) (c1:Fn Tryz.prog T zk (za5 n.x) (za4 f (.own 7) s++[.row 6 (s.out.map dNd)]) (.d (.int .i64 (r1:Int))) (zdi f s1)) (hfd1:zF (zG s1.done) (.int .i64 (k:Int))=some none) {r2:Nat} {s2:FSt} (hl2:s2.out.length≤1000) (c2:Fn Tryz.prog T zk (za5 n.y) (za4 f (.own 7) s1++[.row 6 (s1.out.map dNd)]) (.d (.int .i64 (r2:Int))) (zdi f s2)) (hfd2:zF (zG s2.done) (.int .i64 (k:Int))=some none) {j:Nat} (hfn:zF (zak s2.out 0) (dNd ⟨n.op,n.i,n.e,n.g,(r1:Int),(r2:Int)⟩)=some (some (.int .i64 (j:Int)))) :
  Fn Tryz.prog T zk (za5 (k:Int)) (za4 f (.own 7) s++[.row 6 (s.out.map dNd)]) (.d (.int .i64 (j:Int))) [some (.box [.map 5]),some (.box [.d (dF f)]),some (.box [zaW]),some (.box [.map 6]),some (.box [.own 8]),some (.map (zG s2.done++[(.int .i64 (k:Int),.int .i64 (j:Int))])),some (.map (zak s2.out 0)),none,some (.row 6 (s2.out.map dNd))]:=by
 refine zJ zn zR (by show 6≤68;decide) _ (fun e env mem n h=>h) ?_
 (repeat' ((conv=>whnf);first|refine vA ?_|refine vG ?_|refine vT ?_|refine vN ‹_› ?_|refine yD hu (by (repeat refine ⟨⟨rfl,rfl⟩,?_⟩);rfl) rfl ?_|refine zaa.mk _ ‹_› ?_));all_goals try conv=>whnf
 refine zw.objsE [0,1,2,3,4,5,6,7] (c1) (by (repeat' first|exact rfl|refine And.intro ?_ ?_|refine ⟨_,rfl,?_⟩)) (by (repeat' first|exact rfl|refine And.intro ?_ ?_|refine ⟨_,rfl,?_⟩)) (by rfl) (by kernel_rfl) (by simp) [(0,some (.box [.map 5])),(1,some (.box [.d (dF f)])),(2,some (.box [zaW])),(3,some (.box [.map 6])),(4,some (.box [.own 10])),(5,some (.map (zG s1.done))),(6,some (.map (zak s1.out 0))),(7,none),(10,some (.row 6 (s1.out.map dNd)))] rfl ?_
 (repeat' ((conv=>whnf);first|refine vA ?_|refine vG ?_|refine vT ?_));all_goals try conv=>whnf
 refine zw.objsE [0,1,2,3,4,5,6,10] (c2) (by (repeat' first|exact rfl|refine And.intro ?_ ?_|refine ⟨_,rfl,?_⟩)) (by (repeat' first|exact rfl|refine And.intro ?_ ?_|refine ⟨_,rfl,?_⟩)) (by rfl) (by kernel_rfl) (by simp) [(0,some (.box [.map 5])),(1,some (.box [.d (dF f)])),(2,some (.box [zaW])),(3,some (.box [.map 6])),(4,some (.box [.own 11])),(5,some (.map (zG s2.done))),(6,some (.map (zak s2.out 0))),(10,none),(11,some (.row 6 (s2.out.map dNd)))] rfl ?_
 (repeat' ((conv=>whnf);first|refine vA ?_|refine vE ?_|refine vG ?_|refine vT ?_|refine zaa.mk _ ‹_› ?_));all_goals try conv=>whnf
 refine ⟨trivial,_,[(0,0),(1,1),(2,2),(3,3),(4,4),(5,5),(6,6),(8,11)],[],rfl,.inl (by (repeat' exact rfl)),⟨by rfl,by rfl,by rfl,trivial,by (repeat' first|exact trivial|exact rfl|refine And.intro ?_ ?_|refine ⟨_,rfl,?_⟩|exact of_decide_eq_true rfl)⟩,by (repeat' first|exact trivial|exact rfl|refine And.intro ?_ ?_|refine ⟨_,rfl,?_⟩)⟩
theorem zAs {f:List Nd} (hL:f.length≤1000) {k:Nat} {n:Nd} (hn:f[k]? = some n) {s:FSt} (hl:s.out.length≤1000) (hfd:zF (zG (FSt.done s)) (.int .i64 (k:Int))=some none) (hu:Fn Tryz.prog T zZ [.d (.int .i64 n.op)] [] (.d (.tup [.agg [.bool true,.bool true,.bool (zT n.op),.bool (zD n.op),.bool (zE n.op),.bool (zL n.op),.int .i64 (zbb n.op)],.bool (zdj n.op)])) []) {r1:Nat} {s1:FSt} (hl1:s1.out.length≤1000) (c1:Fn Tryz.prog T zk (za5 n.x) (za4 f (.own 7) s++[.row 6 (s.out.map dNd)]) (.d (.int .i64 (r1:Int))) (zdi f s1)) (hfd1:zF (zG s1.done) (.int .i64 (k:Int))=some none) {r2:Nat} {s2:FSt} (hl2:s2.out.length≤1000) (c2:Fn Tryz.prog T zk (za5 n.y) (za4 f (.own 7) s1++[.row 6 (s1.out.map dNd)]) (.d (.int .i64 (r2:Int))) (zdi f s2)) (hfd2:zF (zG s2.done) (.int .i64 (k:Int))=some none) (hfn:zF (zak s2.out 0) (dNd ⟨n.op,n.i,n.e,n.g,(r1:Int),(r2:Int)⟩)=some none) :
  Fn Tryz.prog T zk (za5 (k:Int)) (za4 f (.own 7) s++[.row 6 (s.out.map dNd)]) (.d (.int .i64 (((s2.out.map dNd).length:Nat):Int))) [some (.box [.map 5]),some (.box [.d (dF f)]),some (.box [zaW]),some (.box [.map 6]),some (.box [.own 8]),some (.map (zG s2.done++[(.int .i64 (k:Int),.int .i64 (((s2.out.map dNd).length:Nat):Int))])),some (.map (zak s2.out 0++[(dNd ⟨n.op,n.i,n.e,n.g,(r1:Int),(r2:Int)⟩,.int .i64 (((s2.out.map dNd).length:Nat):Int))])),none,some (.row 6 (s2.out.map dNd++[dNd ⟨n.op,n.i,n.e,n.g,(r1:Int),(r2:Int)⟩]))]:=by
 refine zJ zn zR (by show 6≤68;decide) _ (fun e env mem n h=>h) ?_
 (repeat' ((conv=>whnf);first|refine vA ?_|refine vG ?_|refine vT ?_|refine vN ‹_› ?_|refine yD hu (by (repeat refine ⟨⟨rfl,rfl⟩,?_⟩);rfl) rfl ?_|refine zaa.mk _ ‹_› ?_));all_goals try conv=>whnf
 refine zw.objsE [0,1,2,3,4,5,6,7] (c1) (by (repeat' first|exact rfl|refine And.intro ?_ ?_|refine ⟨_,rfl,?_⟩)) (by (repeat' first|exact rfl|refine And.intro ?_ ?_|refine ⟨_,rfl,?_⟩)) (by rfl) (by kernel_rfl) (by simp) [(0,some (.box [.map 5])),(1,some (.box [.d (dF f)])),(2,some (.box [zaW])),(3,some (.box [.map 6])),(4,some (.box [.own 10])),(5,some (.map (zG s1.done))),(6,some (.map (zak s1.out 0))),(7,none),(10,some (.row 6 (s1.out.map dNd)))] rfl ?_
 (repeat' ((conv=>whnf);first|refine vA ?_|refine vG ?_|refine vT ?_));all_goals try conv=>whnf
 refine zw.objsE [0,1,2,3,4,5,6,10] (c2) (by (repeat' first|exact rfl|refine And.intro ?_ ?_|refine ⟨_,rfl,?_⟩)) (by (repeat' first|exact rfl|refine And.intro ?_ ?_|refine ⟨_,rfl,?_⟩)) (by rfl) (by kernel_rfl) (by simp) [(0,some (.box [.map 5])),(1,some (.box [.d (dF f)])),(2,some (.box [zaW])),(3,some (.box [.map 6])),(4,some (.box [.own 11])),(5,some (.map (zG s2.done))),(6,some (.map (zak s2.out 0))),(10,none),(11,some (.row 6 (s2.out.map dNd)))] rfl ?_
 (repeat' ((conv=>whnf);first|refine vA ?_|refine vJ fun hg=>?_|refine vT ?_|(refine vP ?_ ?_;·(simp only [vM] at *;omega))|refine zaa.mk _ ‹_› ?_));all_goals try conv=>whnf
 refine ⟨trivial,_,[(0,0),(1,1),(2,2),(3,3),(4,4),(5,5),(6,6),(8,13)],[],rfl,.inl (by (repeat' exact rfl)),⟨by rfl,by rfl,by rfl,trivial,by (repeat' first|exact trivial|exact rfl|refine And.intro ?_ ?_|refine ⟨_,rfl,?_⟩|exact of_decide_eq_true rfl)⟩,by (repeat' first|exact trivial|exact rfl|refine And.intro ?_ ?_|refine ⟨_,rfl,?_⟩)⟩
end Go.Ab
namespace Go.Ab
open Go Go.Proofs
set_option maxRecDepth 10000
set_option maxHeartbeats 4000000
set_option maxHeartbeats 40000000
variable {T:Nat→Obj→Prop}
theorem zAt {f:List Nd} (hL:f.length≤1000) {k:Nat} {n:Nd} (hn:f[k]? = some n) (hfd:zF (zG (FSt.done ⟨[],[]⟩)) (.int .i64 (k:Int))=some none) (hu:Fn Tryz.prog T zZ [.d (.int .i64 n.op)] [] (.d (.tup [.agg [.bool false,.bool false,.bool (zT n.op),.bool (zD n.op),.bool (zE n.op),.bool (zL n.op),.int .i64 (zbb n.op)],.bool (zdj n.op)])) []) (hfn:zF (zak (FSt.out ⟨[],[]⟩) 0) (dNd n)=some none) :
  Fn Tryz.prog T zk (za5 (k:Int)) (za4 f (.nils 6) ⟨[],[]⟩) (.d (.int .i64 ((((FSt.out ⟨[],[]⟩).map dNd).length:Nat):Int))) [some (.box [.map 5]),some (.box [.d (dF f)]),some (.box [zaW]),some (.box [.map 6]),some (.box [.own 7]),some (.map (zG (FSt.done ⟨[],[]⟩)++[(.int .i64 (k:Int),.int .i64 ((((FSt.out ⟨[],[]⟩).map dNd).length:Nat):Int))])),some (.map (zak (FSt.out ⟨[],[]⟩) 0++[(dNd n,.int .i64 ((((FSt.out ⟨[],[]⟩).map dNd).length:Nat):Int))])),some (.row 6 ((FSt.out ⟨[],[]⟩).map dNd++[dNd n]))]:=by
 refine zJ zn zR (by show 6≤68;decide) _ (fun e env mem n h=>h) ?_
 (repeat' ((conv=>whnf);first|refine vA ?_|refine vH ?_|refine vT ?_|refine vN ‹_› ?_|(refine vP ?_ ?_;·(simp only [vM] at *;omega))|refine yD hu (by (repeat refine ⟨⟨rfl,rfl⟩,?_⟩);rfl) rfl ?_|refine zaa.mk _ ‹_› ?_));all_goals try conv=>whnf
 refine ⟨trivial,_,[(0,0),(1,1),(2,2),(3,3),(4,4),(5,5),(6,6),(7,10)],[],rfl,.inl (by (repeat' exact rfl)),⟨by rfl,by rfl,by rfl,trivial,by (repeat' first|exact trivial|exact rfl|refine And.intro ?_ ?_|refine ⟨_,rfl,?_⟩|exact of_decide_eq_true rfl)⟩,by (repeat' first|exact trivial|exact rfl|refine And.intro ?_ ?_|refine ⟨_,rfl,?_⟩)⟩
end Go.Ab
