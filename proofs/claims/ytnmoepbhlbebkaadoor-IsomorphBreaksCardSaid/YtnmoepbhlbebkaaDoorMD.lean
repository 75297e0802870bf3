/- A part of the proofs of this seat: functions and their contracts. -/
import Derived.Test.YtnmoepbhlbebkaaDoorMC
import Derived.Test.YtnmoepbhlbebkaaDoorProg
import Derived.Lib.TrailingZeros
import Derived.Sort.AssemblyPlain
import Derived.Shelf.Strconv.Itoa0
import Derived.Sort.WalkA14
set_option linter.unusedVariables false
set_option linter.unusedSimpArgs false
set_option linter.unusedSectionVars false
namespace Go.Ab.K
open Go
abbrev t:=Arg.t
abbrev c:=Arg.c
abbrev n (x:Int):V := .d (.int .i64 x)
abbrev u (x:BitVec 64):V := .d (.u64 x)
abbrev m (x:Nat):CO := .mv (.t x)
abbrev pf (x y:Nat):CO := .pick (.t x) (.t y) (.c .bf)
abbrev pt (x y:Nat):CO := .pick (.t x) (.c .bt) (.t y)
abbrev b (o:BinOp) (x y:Nat):CO := .bin o (.t x) (.t y)
abbrev bc (o:BinOp) (x:Nat) (y:V):CO := .bin o (.t x) (.c y)
abbrev l (x:Nat):CO := .load none (.t x)
abbrev la (k x:Nat):CO := .load (some k) (.t x)
abbrev f (o x:Nat):CO := .faddr o (.t x)
abbrev ia (s x i:Nat):CO := .iaddr s (.t x) (.t i)
abbrev e (x k:Nat):CO := .ext (.t x) k
abbrev ln (x:Nat):CO := .len (.t x)
abbrev o (d:Nat) (x:CO):COp:=⟨some d,none,x⟩
abbrev w (x:CO):COp:=⟨none,none,x⟩
abbrev g (d k:Nat) (v:Bool) (x:CO):COp:=⟨some d,some (k,v),x⟩
abbrev gw (k:Nat) (v:Bool) (x:CO):COp:=⟨none,some (k,v),x⟩
abbrev i (x:Nat) (p r:CC):CC := .cond (.t x) p r
def q:List CC→CC
 | [] => .skip
 | [x]=>x
 | x::y::r => .seq x (q (y::r))
end Go.Ab.K
namespace Go.Ab
open Go K
def zgQ:Nat:=5
def zfu:Nat:=6
def zjC:Nat:=7
def ziz:Nat:=8
def zk6:Nat:=9
def zcP:Nat:=10
def zd6:Nat:=11
def zdu:Nat:=12
def zfW:Nat:=13
def zdG:Nat:=14
def zgd:Nat:=15
def zfs:Nat:=16
def zh2:Nat:=17
def zjE:Nat:=18
def zjz:Nat:=19
def zjB:Nat:=20
def ziF:Nat:=21
def zjy:Nat:=22
def zha:Nat:=23
def zhb:Nat:=24
def zb2:Nat:=25
def zaq:Nat:=26
def ze9:Nat:=27
def zlT:Nat:=28
def zg8:Nat:=29
def zer:Nat:=30
def zft:Nat:=31
def zhe:Nat:=32
def ziH:Nat:=37
def zhg:Nat:=38
def zao:Nat:=39
def ziI:Nat:=40
def ziC:Nat:=45
def z1:Nat:=46
def zd2:Nat:=47
def zhc:Nat:=48
def zg9:Nat:=49
def zfT:Nat:=50
def ziB:Nat:=51
def ziE:Nat:=52
def zjA:Nat:=53
def zbk:Nat:=54
def za3:Nat:=55
def zk7:Nat:=56
def zde:Nat:=57
def ziK:Nat:=58
def zbw:Nat:=59
def zd8:Nat:=60
def zh3:Nat:=61
def zgP:Nat:=62
def zfa:Nat:=63
def zgc:Nat:=64
def zhf:Nat:=65
def zcw:Nat:=66
def zeU:Nat:=67
def zcx:Nat:=73
def zcn:Nat:=74
def zhd:Nat:=76
def zdt:Nat:=77
def zn:Nat:=78
def zjF:Nat:=79
def zgO:Nat:=80
def zlU:Nat:=81
def zk8:Nat:=82
def zh0:Nat:=83
def ziG:Nat:=85
def zeT:Nat:=86
def zff:Nat:=87
def zh1:Nat:=88
def ziD:Nat:=89
def zbD:Nat:=90
def zcA:Nat:=91
def zcO:Nat:=92
def zcc:Nat:=93
def zbI:Nat:=95
def zdi:Nat:=96
def zny:Nat:=97
def zbS:Nat:=98
def ziJ:Nat:=99
def zfV:Nat:=100
def zgN:Nat:=101
def zfg:Nat:=102
def zeO:Nat:=103
def zan:Nat:=104
def zg0:Nat:=106
def zfh:Nat:=107
def zjG:Nat:=108
def zjD:Nat:=109
def zgk:Nat:=110
def zfU:Nat:=111
def zep:Nat:=115
def zeS:Nat:=116
def zb6:Nat:=118
def zlV:Nat:=119
def zap:Nat:=120
def zaM:Nat:=121
def zU:Nat:=122
def zD:Nat:=123
def zcQ:Nat:=124
def z6:Nat:=125
def zdv:Nat:=126
def zd7:Nat:=127
def zcR:Nat:=128
def zhh:Nat:=130
def zbx:Nat:=136
def zeq:Nat:=137
def zbR:Nat:=138
def zeN:Nat:=139
def zbQ:Nat:=140
def zaZ:Nat:=141
def ziA:Nat:=147
def za0:Nat:=152
def zfe:Nat:=160
def zlH:CFn:=⟨41,[.tmp 4],(q [(.reg [o 2 (.box 3 (t 0)),o 4 (.mv (c .bf))]),
 (q [(.reg [o 6 (f 0 2),o 7 (l 6),o 8 (m 1),o 9 (b .gtr 7 8),o 10 (m 9),g 11 10 true (f 0 2),g 12 10 true (l 11),g 13 10 true (bc .leq 12 (n 64)),o 14 (pf 10 13),o 15 (m 14),g 16 15 false (f 1 2),g 17 15 false (l 16),g 18 15 false (ln 17),g 19 15 false (bc .gtr 18 (n 20)),o 20 (pt 15 19),o 21 (m 20),g 22 21 false (f 2 2),g 23 21 false (l 22),g 24 21 false (ln 23),g 25 21 false (bc .gtr 24 (n 10)),o 26 (pt 21 25)]),
 (i 26 (q [(.reg [o 4 (.mv (c .bf))]),
 .ret]) .skip)]),
 (q [(.reg [o 5 (.mv (c (n 0)))]),
 (.block 0 (.loop (q [(q [(.reg [o 27 (m 5),o 28 (f 2 2),o 29 (l 28),o 30 (ln 29),o 31 (b .lss 27 30)]),
 (i 31 .skip (.exit 0))]),
 (.block 1 (q [(.reg [o 34 (f 2 2),o 35 (l 34),o 36 (m 5),o 37 (ia 1 35 36),o 38 (l 37),o 39 (ln 38),o 40 (bc .gtr 39 (n 70))]),
 (i 40 (q [(.reg [o 4 (.mv (c .bf))]),
 .ret]) .skip)])),
 (.reg [o 32 (m 5),o 33 (bc .add 32 (n 1)),o 5 (m 33)])])))]),
 (.reg [o 4 (.mv (c .bt))]),
 .ret])⟩
def zjo:CFn:=⟨58,[.tmp 0],(q [(.reg [o 0 (.mv (c .bf))]),
 (.reg [o 9 (.bslice 1 2 [(n 0)] [(0,(c (n 2))),(1,(c (n 1)))]),o 10 (.call 18 [(c (n 2)),(t 9)]),o 8 (m 10),o 11 (e 8 0),o 12 (e 8 1),o 1 (.alloc [(n 0),(.nils 1),(.nils 1)]),w (.store 3 (t 1) (t 11)),o 2 (m 12)]),
 (.reg [o 13 (.call 19 [(c (n 0))]),o 3 (m 13)]),
 (.reg [o 15 (la 3 1),o 16 (m 3),o 17 (.bslice 1 1 [(.nils 6)] [(0,(t 16))]),o 18 (.call 12 [(t 15),(c (n 1)),(t 17)]),o 14 (m 18),o 19 (e 14 0),o 20 (e 14 1),o 4 (m 19),o 5 (m 20)]),
 (.regd [o 22 (la 3 1),o 23 (m 3),o 24 (m 3),o 25 (.call 20 [(c (n 0)),(t 24)]),o 26 (.call 10 [(t 23),(t 25)]),o 27 (.call 11 [(t 22),(c (.nils 3)),(t 26)]),o 21 (m 27),o 28 (e 21 0),o 29 (e 21 1),o 6 (m 28),o 7 (m 29)] [0,0,0,4,14,31,63,127,127,255,1023]),
 (.reg [o 30 (m 2),o 31 (m 5),o 32 (b .add 30 31),o 33 (m 7),o 34 (b .add 32 33),o 35 (bc .eql 34 (n 0)),o 36 (m 35),g 37 36 true (m 4),g 38 36 true (ln 37),g 39 36 true (bc .eql 38 (n 1)),o 40 (pf 36 39),o 41 (m 40),g 42 41 true (m 4),g 43 41 true (.iaddr 2 (t 42) (c (n 0))),g 44 41 true (f 0 43),g 45 41 true (l 44),o 46 (pf 41 45),o 47 (m 46),g 48 47 true (m 4),g 49 47 true (.iaddr 2 (t 48) (c (n 0))),g 50 47 true (f 1 49),g 51 47 true (l 50),g 52 47 true (bc .eql 51 (n 2)),o 53 (pf 47 52),o 54 (m 53),g 55 54 true (m 6),g 56 54 true (bc .eql 55 (u 15)),o 57 (pf 54 56),o 0 (m 57)]),
 .ret])⟩
def zqk:CFn:=⟨3,[.tmp 0],(q [(.reg [o 0 (.mv (c (.nils 6)))]),
 (.reg [o 1 (.build [(n 0),(n 0),(n 0),(n 0),(n 0),(n 0)] [(0,1,(c (n 1)))]),o 2 (.call 21 [(t 1),(c (.nils 1))]),o 0 (m 2)]),
 .ret])⟩
def zo0:CFn:=⟨23,[.tmp 4,.tmp 5],(q [(.reg [o 2 (.box 3 (t 0)),o 4 (.mv (c (u 0))),o 5 (.mv (c (n 0)))]),
 (.reg [o 9 (la 3 2),o 10 (m 1),o 11 (.call 22 [(t 9),(t 10)]),o 8 (m 11),o 12 (e 8 0),o 13 (e 8 1),o 6 (m 12),o 7 (m 13)]),
 (q [(.reg [o 14 (m 7),o 15 (bc .neq 14 (n 0))]),
 (i 15 (q [(.reg [o 16 (m 7),o 4 (.mv (c (u 0))),o 5 (m 16)]),
 .ret]) .skip)]),
 (.reg [o 17 (m 6),o 18 (m 6),o 19 (ln 18),o 20 (bc .sub 19 (n 1)),o 21 (ia 1 17 20),o 22 (l 21),o 4 (m 22),o 5 (.mv (c (n 0)))]),
 .ret])⟩
def zrV:CFn:=⟨7,[.tmp 2],(q [(.reg [o 2 (.mv (c (.nils 6)))]),
 (.reg [o 3 (.build [(n 0),(n 0),(n 0),(n 0),(n 0),(n 0)] [(0,1,(c (n 4)))]),o 4 (m 0),o 5 (.bslice 1 1 [(.nils 6)] [(0,(t 4))]),o 6 (.call 21 [(t 3),(t 5)]),o 2 (m 6)]),
 .ret])⟩
def zlB:CFn:=⟨10,[.tmp 4],(q [(.reg [o 4 (.mv (c (.nils 6)))]),
 (.reg [o 5 (.build [(n 0),(n 0),(n 0),(n 0),(n 0),(n 0)] [(0,1,(c (n 16)))]),o 6 (m 0),o 7 (m 1),o 8 (.bslice 1 2 [(.nils 6)] [(0,(t 6)),(1,(t 7))]),o 9 (.call 21 [(t 5),(t 8)]),o 4 (m 9)]),
 .ret])⟩
def zo4:CFn:=⟨38,[.tmp 6,.tmp 7],(q [(.reg [o 3 (.box 3 (t 0)),o 6 (.mv (c (u 0))),o 7 (.mv (c (n 0)))]),
 (q [(.reg [o 12 (la 3 3),o 13 (m 1),o 14 (m 2),o 15 (.call 23 [(t 12),(t 13),(t 14)]),o 8 (m 15)]),
 (.reg [o 16 (m 8),o 17 (bc .neq 16 (n 0))]),
 (i 17 (q [(.reg [o 18 (m 8),o 6 (.mv (c (u 0))),o 7 (m 18)]),
 .ret]) .skip)]),
 (.reg [o 9 (.alloc [(n 0)]),w (.store 1 (t 9) (c (n 0)))]),
 (.regd [o 19 (m 1),o 20 (m 2),o 21 (.call 24 [(t 20)]),o 22 (.build [(n 0),(.nils 1),(.nils 1),(u 0),(.nils 3),(.nils 6),(.d .nil),(.d .nil)] [(4,1,(t 19)),(5,1,(t 21)),(7,1,(t 9))]),o 23 (.box 8 (t 22)),o 24 (la 3 3),o 25 (.call 25 [(t 23),(t 24)]),o 10 (m 25)] [0,0,2,7,15,0,63,127]),
 (.reg [o 26 (m 10),o 27 (m 10),o 28 (.nilck (t 27)),o 29 (f 5 28),o 30 (l 29),o 31 (ln 30),o 32 (bc .sub 31 (n 1)),o 33 (.call 26 [(t 26),(t 32)]),o 11 (m 33)]),
 (q [(.reg [o 34 (l 9),o 35 (bc .neq 34 (n 0))]),
 (i 35 (q [(.regd [o 36 (l 9),o 6 (.mv (c (u 0))),o 7 (m 36)] [0,0,3]),
 .ret]) .skip)]),
 (.reg [o 37 (m 11),o 6 (m 37),o 7 (.mv (c (n 0)))]),
 .ret])⟩
def zqo:CFn:=⟨78,[.tmp 6,.tmp 7],(q [(.reg [o 3 (.box 3 (t 0)),o 6 (.mv (c (.nils 2))),o 7 (.mv (c (n 0)))]),
 (q [(.reg [o 16 (la 3 3),o 17 (.call 27 [(t 16)]),o 8 (m 17)]),
 (.reg [o 18 (m 8),o 19 (bc .neq 18 (n 0))]),
 (i 19 (q [(.reg [o 20 (m 8),o 6 (.mv (c (.nils 2))),o 7 (m 20)]),
 .ret]) .skip)]),
 (q [(.reg [o 21 (m 1),o 22 (bc .lss 21 (n 0)),o 23 (m 22),g 24 23 false (m 1),g 25 23 false (f 0 3),g 26 23 false (l 25),g 27 23 false (b .geq 24 26),o 28 (pt 23 27)]),
 (i 28 (q [(.reg [o 6 (.mv (c (.nils 2))),o 7 (.mv (c (n 2)))]),
 .ret]) .skip)]),
 (q [(.reg [o 29 (m 2),o 30 (ln 29),o 31 (bc .gtr 30 (n 100))]),
 (i 31 (q [(.reg [o 6 (.mv (c (.nils 2))),o 7 (.mv (c (n 8)))]),
 .ret]) .skip)]),
 (.reg [o 9 (.mv (c (.nils 2)))]),
 (q [(.reg [o 32 (m 2),o 33 (ln 32),o 34 (.mv (c (n 0)))]),
 (.block 0 (.loop (q [(.reg [o 35 (b .lss 34 33)]),
 (i 35 .skip (.exit 0)),
 (.block 1 (q [(.reg [o 36 (ia 1 32 34),o 37 (l 36),o 11 (m 37)]),
 (.reg [o 39 (la 3 3),o 40 (m 1),o 41 (m 11),o 42 (.call 28 [(t 39),(t 40),(t 41)]),o 38 (m 42),o 43 (e 38 0),o 44 (e 38 1),o 12 (m 43),o 13 (m 44)]),
 (q [(.reg [o 45 (m 13),o 46 (bc .neq 45 (n 0))]),
 (i 46 (q [(.reg [o 47 (m 13),o 6 (.mv (c (.nils 2))),o 7 (m 47)]),
 .ret]) .skip)]),
 (q [(.reg [o 48 (m 12),o 49 (.un .not (t 48))]),
 (i 49 (q [(.reg [o 50 (m 9),o 51 (f 0 3),o 52 (l 51),o 53 (.build [.bf,(n 0)] [(1,1,(t 52))]),o 54 (.bslice 2 1 [.bf,(n 0)] [(0,(t 53))]),o 55 (.app 2 16 (t 50) (t 54)),o 6 (m 55),o 7 (.mv (c (n 0)))]),
 .ret]) .skip)]),
 (.reg [o 57 (la 3 3),o 58 (m 11),o 59 (.call 29 [(t 57),(t 58)]),o 56 (m 59),o 60 (e 56 0),o 61 (e 56 1),o 62 (e 56 2),o 14 (.alloc [(n 0),(.nils 1),(.nils 1)]),w (.store 3 (t 14) (t 60)),o 15 (m 61),o 13 (m 62)]),
 (q [(.reg [o 63 (m 13),o 64 (bc .neq 63 (n 0))]),
 (i 64 (q [(.reg [o 65 (m 13),o 6 (.mv (c (.nils 2))),o 7 (m 65)]),
 .ret]) .skip)]),
 (.regd [o 66 (la 3 14),o 67 (m 15),o 68 (m 1),o 69 (.call 30 [(t 67),(t 68)]),w (.store 3 (t 3) (t 66)),o 1 (m 69)] [0,0,0,6,15,31]),
 (.reg [o 70 (m 9),o 71 (f 0 3),o 72 (l 71),o 73 (.build [.bf,(n 0)] [(0,1,(c .bt)),(1,1,(t 72))]),o 74 (.bslice 2 1 [.bf,(n 0)] [(0,(t 73))]),o 75 (.app 2 16 (t 70) (t 74)),o 9 (m 75)])])),
 (.reg [o 76 (bc .add 34 (n 1)),o 34 (m 76)])])))]),
 (.reg [o 77 (m 9),o 6 (m 77),o 7 (.mv (c (n 0)))]),
 .ret])⟩
def zkt:CFn:=⟨59,[.tmp 2],(q [(.reg [o 1 (.box 3 (t 0)),o 2 (.mv (c (n 0)))]),
 (q [(.reg [o 5 (f 0 1),o 6 (l 5),o 7 (bc .lss 6 (n 1)),o 8 (m 7),g 9 8 false (f 0 1),g 10 8 false (l 9),g 11 8 false (bc .gtr 10 (n 64)),o 12 (pt 8 11)]),
 (i 12 (q [(.reg [o 2 (.mv (c (n 2)))]),
 .ret]) .skip)]),
 (q [(.reg [o 13 (f 2 1),o 14 (l 13),o 15 (ln 14),o 16 (bc .gtr 15 (n 4)),o 17 (m 16),g 18 17 false (f 1 1),g 19 17 false (l 18),g 20 17 false (ln 19),g 21 17 false (bc .gtr 20 (n 8)),o 22 (pt 17 21)]),
 (i 22 (q [(.reg [o 2 (.mv (c (n 8)))]),
 .ret]) .skip)]),
 (q [(.reg [o 3 (.mv (c (n 0)))]),
 (.block 0 (.loop (q [(q [(.reg [o 23 (m 3),o 24 (f 2 1),o 25 (l 24),o 26 (ln 25),o 27 (b .lss 23 26)]),
 (i 27 .skip (.exit 0))]),
 (.block 1 (q [(.regd [o 30 (f 2 1),o 31 (l 30),o 32 (m 3),o 33 (ia 1 31 32),o 34 (l 33),o 35 (ln 34),o 36 (f 0 1),o 37 (l 36),o 38 (b .neq 35 37)] [0,1,0,7,15,31,0,64,255]),
 (i 38 (q [(.reg [o 2 (.mv (c (n 3)))]),
 .ret]) .skip)])),
 (.reg [o 28 (m 3),o 29 (bc .add 28 (n 1)),o 3 (m 29)])])))]),
 (q [(.reg [o 39 (f 1 1),o 40 (l 39),o 41 (f 0 1),o 42 (l 41),o 43 (.call 31 [(t 40),(t 42)])]),
 (i 43 (q [(.reg [o 2 (.mv (c (n 2)))]),
 .ret]) .skip)]),
 (q [(.reg [o 4 (.mv (c (n 0)))]),
 (.block 2 (.loop (q [(q [(.reg [o 44 (m 4),o 45 (f 2 1),o 46 (l 45),o 47 (ln 46),o 48 (b .lss 44 47)]),
 (i 48 .skip (.exit 2))]),
 (.block 3 (q [(.regd [o 51 (f 2 1),o 52 (l 51),o 53 (m 4),o 54 (ia 1 52 53),o 55 (l 54),o 56 (f 0 1),o 57 (l 56),o 58 (.call 31 [(t 55),(t 57)])] [0,1,0,7,15,0,32,127]),
 (i 58 (q [(.reg [o 2 (.mv (c (n 2)))]),
 .ret]) .skip)])),
 (.reg [o 49 (m 4),o 50 (bc .add 49 (n 1)),o 4 (m 50)])])))]),
 (.reg [o 2 (.mv (c (n 0)))]),
 .ret])⟩
def zln:CFn:=⟨63,[.cell 2 (some 3)],(q [(.reg [o 1 (.box 3 (t 0)),o 2 (.alloc [(n 0),(.nils 1),(.nils 1)])]),
 (.reg [o 8 (f 0 1),o 9 (l 8),o 10 (.build [(n 0),(.nils 1),(.nils 1)] [(0,1,(t 9))]),o 3 (.alloc [(n 0),(.nils 1),(.nils 1)]),w (.store 3 (t 3) (t 10))]),
 (q [(.reg [o 4 (.mv (c (n 0)))]),
 (.block 0 (.loop (q [(q [(.reg [o 11 (m 4),o 12 (f 1 1),o 13 (l 12),o 14 (ln 13),o 15 (b .lss 11 14)]),
 (i 15 .skip (.exit 0))]),
 (.block 1 (.regd [o 18 (f 1 3),o 19 (l 18),o 20 (f 1 1),o 21 (l 20),o 22 (m 4),o 23 (ia 1 21 22),o 24 (l 23),o 25 (.bslice 1 1 [(u 0)] [(0,(t 24))]),o 26 (.app 1 8 (t 19) (t 25)),o 27 (f 1 3),w (.store 1 (t 27) (t 26))] [0,1,0,4,0,28,60,124,255,511,1023])),
 (.reg [o 16 (m 4),o 17 (bc .add 16 (n 1)),o 4 (m 17)])])))]),
 (q [(.reg [o 5 (.mv (c (n 0)))]),
 (.block 2 (.loop (q [(q [(.reg [o 28 (m 5),o 29 (f 2 1),o 30 (l 29),o 31 (ln 30),o 32 (b .lss 28 31)]),
 (i 32 .skip (.exit 2))]),
 (.block 3 (q [(.reg [o 6 (.mv (c (.nils 1)))]),
 (q [(.reg [o 7 (.mv (c (n 0)))]),
 (.block 4 (.loop (q [(q [(.reg [o 35 (m 7),o 36 (f 2 1),o 37 (l 36),o 38 (m 5),o 39 (ia 1 37 38),o 40 (l 39),o 41 (ln 40),o 42 (b .lss 35 41)]),
 (i 42 .skip (.exit 4))]),
 (.block 5 (.reg [o 45 (m 6),o 46 (f 2 1),o 47 (l 46),o 48 (m 5),o 49 (ia 1 47 48),o 50 (l 49),o 51 (m 7),o 52 (ia 1 50 51),o 53 (l 52),o 54 (.bslice 1 1 [(u 0)] [(0,(t 53))]),o 55 (.app 1 8 (t 45) (t 54)),o 6 (m 55)])),
 (.reg [o 43 (m 7),o 44 (bc .add 43 (n 1)),o 7 (m 44)])])))]),
 (.reg [o 56 (f 2 3),o 57 (l 56),o 58 (m 6),o 59 (.bslice 1 1 [(.nils 1)] [(0,(t 58))]),o 60 (.app 1 24 (t 57) (t 59)),o 61 (f 2 3),w (.store 1 (t 61) (t 60))])])),
 (.reg [o 33 (m 5),o 34 (bc .add 33 (n 1)),o 5 (m 34)])])))]),
 (.reg [o 62 (la 3 3),w (.store 3 (t 2) (t 62))]),
 .ret])⟩
def zjm:CFn:=⟨34,[.tmp 4,.tmp 5],(q [(.reg [o 2 (.box 3 (t 0)),o 3 (.box 3 (t 1)),o 4 (.mv (c (.nils 1))),o 5 (.mv (c (n 0)))]),
 (q [(.reg [o 8 (la 3 2),o 9 (la 3 3),o 10 (.call 37 [(t 8),(t 9)]),o 6 (m 10)]),
 (.reg [o 11 (m 6),o 12 (bc .neq 11 (n 0))]),
 (i 12 (q [(.reg [o 13 (m 6),o 4 (.mv (c (.nils 1))),o 5 (m 13)]),
 .ret]) .skip)]),
 (q [(.reg [o 14 (f 0 2),o 15 (l 14),o 16 (bc .gtr 15 (n 12)),o 17 (m 16),g 18 17 false (f 0 3),g 19 17 false (l 18),g 20 17 false (bc .gtr 19 (n 12)),o 21 (pt 17 20)]),
 (i 21 (q [(.reg [o 4 (.mv (c (.nils 1))),o 5 (.mv (c (n 8)))]),
 .ret]) .skip)]),
 (.reg [o 7 (.alloc [(.nils 1)])]),
 (q [(.reg [o 22 (f 0 2),o 23 (l 22),o 24 (f 0 3),o 25 (l 24),o 26 (b .eql 23 25)]),
 (i 26 (.reg [o 27 (la 3 2),o 28 (la 3 3),o 29 (.fnew zao [(t 7)]),o 30 (.call 38 [(t 27),(t 28),(t 29)])]) .skip)]),
 (q [(.reg [o 31 (l 7),o 32 (.eqN false (t 31) (c (.nils 1)))]),
 (i 32 (q [(.reg [o 4 (.mv (c (.nils 1))),o 5 (.mv (c (n 6)))]),
 .ret]) .skip)]),
 (.reg [o 33 (l 7),o 4 (m 33),o 5 (.mv (c (n 0)))]),
 .ret])⟩
def zn2:CFn:=⟨66,[.tmp 6],(q [(.reg [o 3 (.box 3 (t 0)),o 4 (.box 3 (t 1)),o 6 (.mv (c (n 0)))]),
 (q [(.reg [o 12 (la 3 3),o 13 (la 3 4),o 14 (.call 37 [(t 12),(t 13)]),o 7 (m 14)]),
 (.reg [o 15 (m 7),o 16 (bc .neq 15 (n 0))]),
 (i 16 (q [(.reg [o 17 (m 7),o 6 (m 17)]),
 .ret]) .skip)]),
 (q [(.reg [o 18 (f 0 3),o 19 (l 18),o 20 (f 0 4),o 21 (l 20),o 22 (b .neq 19 21)]),
 (i 22 (q [(.reg [o 6 (.mv (c (n 1)))]),
 .ret]) .skip)]),
 (.reg [o 8 (.mv (c (u 0)))]),
 (q [(.reg [o 23 (m 2),o 24 (ln 23),o 25 (.mv (c (n 0)))]),
 (.block 0 (.loop (q [(.reg [o 26 (b .lss 25 24)]),
 (i 26 .skip (.exit 0)),
 (.block 1 (q [(.reg [o 27 (ia 1 23 25),o 28 (l 27),o 10 (m 28)]),
 (q [(.reg [o 29 (m 10),o 30 (bc .lss 29 (n 0)),o 31 (m 30),g 32 31 false (m 10),g 33 31 false (f 0 4),g 34 31 false (l 33),g 35 31 false (b .geq 32 34),o 36 (pt 31 35),o 37 (m 36),g 38 37 false (m 8),g 39 37 false (m 10),g 40 37 false (b .shr 38 39),g 41 37 false (bc .and 40 (u 1)),g 42 37 false (bc .eql 41 (u 1)),o 43 (pt 37 42)]),
 (i 43 (q [(.reg [o 6 (.mv (c (n 3)))]),
 .ret]) .skip)]),
 (.reg [o 44 (m 8),o 45 (m 10),o 46 (.bin .shl (c (u 1)) (t 45)),o 47 (b .or 44 46),o 8 (m 47)])])),
 (.reg [o 48 (bc .add 25 (n 1)),o 25 (m 48)])])))]),
 (q [(.reg [o 49 (m 2),o 50 (ln 49),o 51 (f 0 3),o 52 (l 51),o 53 (b .neq 50 52)]),
 (i 53 (q [(.reg [o 6 (.mv (c (n 3)))]),
 .ret]) .skip)]),
 (q [(.reg [o 54 (m 2),o 55 (ln 54),o 56 (.mv (c (n 0)))]),
 (.block 2 (.loop (q [(.reg [o 57 (b .lss 56 55)]),
 (i 57 .skip (.exit 2)),
 (.block 3 (q [(.reg [o 58 (m 56),o 11 (m 58)]),
 (.reg [o 59 (la 3 3),o 60 (la 3 4),o 61 (m 2),o 62 (m 11),o 63 (.call 40 [(t 59),(t 60),(t 61),(t 62)]),o 64 (.un .not (t 63))]),
 (i 64 (q [(.reg [o 6 (.mv (c (n 13)))]),
 .ret]) .skip)])),
 (.reg [o 65 (bc .add 56 (n 1)),o 56 (m 65)])])))]),
 (.reg [o 6 (.mv (c (n 0)))]),
 .ret])⟩
def zo8:CFn:=⟨85,[.tmp 4],(q [(.reg [o 2 (.box 6 (t 0)),o 4 (.mv (c (.nils 6)))]),
 (.reg [o 5 (.mv (c (.nils 6)))]),
 (q [(.reg [o 14 (m 1),o 15 (ln 14),o 16 (.mv (c (n 0)))]),
 (.block 0 (.loop (q [(.reg [o 17 (b .lss 16 15)]),
 (i 17 .skip (.exit 0)),
 (.block 1 (q [(.reg [o 18 (m 16),o 19 (ia 1 14 16),o 20 (l 19),o 6 (m 18),o 7 (m 20)]),
 (q [(.reg [o 21 (m 7),o 22 (.call 45 [(t 21)]),o 23 (bc .neq 22 (n 0))]),
 (i 23 (q [(.reg [o 4 (.mv (c (.nils 6)))]),
 .ret]) .skip)]),
 (.reg [o 24 (m 5),o 25 (ln 24),o 8 (m 25)]),
 (q [(.reg [o 26 (m 7),o 27 (.call 24 [(t 26)]),o 28 (ln 27),o 29 (.mv (c (n 0)))]),
 (.block 2 (.loop (q [(.reg [o 30 (b .lss 29 28)]),
 (i 30 .skip (.exit 2)),
 (.block 3 (q [(.reg [o 31 (ia 6 27 29),o 32 (la 6 31),o 10 (.alloc [(n 0),(n 0),(n 0),(n 0),(n 0),(n 0)]),w (.store 6 (t 10) (t 32))]),
 (.reg [o 34 (f 0 10),o 35 (l 34),o 36 (.call 46 [(t 35)]),o 33 (m 36),o 37 (e 33 0),o 38 (e 33 1),o 11 (.alloc [.bf,.bf,.bf,.bf,.bf,.bf,(n 0)]),w (.store 7 (t 11) (t 37)),o 12 (m 38)]),
 (q [(.reg [o 39 (f 0 11),o 40 (l 39)]),
 (i 40 (.reg [o 41 (f 4 10),o 42 (l 41),o 43 (m 8),o 44 (b .add 42 43),o 45 (f 4 10),w (.store 1 (t 45) (t 44))]) .skip)]),
 (q [(.reg [o 46 (f 1 11),o 47 (l 46)]),
 (i 47 (.reg [o 48 (f 5 10),o 49 (l 48),o 50 (m 8),o 51 (b .add 49 50),o 52 (f 5 10),w (.store 1 (t 52) (t 51))]) .skip)]),
 (.reg [o 53 (m 5),o 54 (la 6 10),o 55 (.bslice 6 1 [(n 0),(n 0),(n 0),(n 0),(n 0),(n 0)] [(0,(t 54))]),o 56 (.app 6 48 (t 53) (t 55)),o 5 (m 56)])])),
 (.reg [o 57 (bc .add 29 (n 1)),o 29 (m 57)])])))]),
 (.reg [o 58 (m 6),o 59 (bc .eql 58 (n 0))]),
 (i 59 (.reg [o 60 (m 5),o 61 (ln 60),o 62 (bc .sub 61 (n 1)),o 63 (f 4 2),w (.store 1 (t 63) (t 62))]) (.reg [o 64 (m 5),o 65 (ln 64),o 66 (bc .sub 65 (n 1)),o 67 (f 5 2),w (.store 1 (t 67) (t 66))]))])),
 (.reg [o 68 (bc .add 16 (n 1)),o 16 (m 68)])])))]),
 (q [(.reg [o 69 (la 6 2),o 70 (m 5),o 71 (ln 70),o 72 (.call 47 [(t 69),(t 71)]),o 73 (bc .neq 72 (n 0))]),
 (i 73 (q [(.reg [o 4 (.mv (c (.nils 6)))]),
 .ret]) .skip)]),
 (.reg [o 74 (m 5),o 75 (la 6 2),o 76 (.bslice 6 1 [(n 0),(n 0),(n 0),(n 0),(n 0),(n 0)] [(0,(t 75))]),o 77 (.app 6 48 (t 74) (t 76)),o 78 (m 5),o 79 (ln 78),o 80 (.call 48 [(t 77),(t 79)]),o 13 (m 80)]),
 (q [(.reg [o 81 (m 13),o 82 (ln 81),o 83 (bc .gtr 82 (n 200))]),
 (i 83 (q [(.reg [o 4 (.mv (c (.nils 6)))]),
 .ret]) .skip)]),
 (.reg [o 84 (m 13),o 4 (m 84)]),
 .ret])⟩
def zqi:CFn:=⟨85,[.tmp 4,.tmp 5],(q [(.reg [o 2 (.box 3 (t 0)),o 4 (.mv (c (.nils 1))),o 5 (.mv (c (n 0)))]),
 (q [(.reg [o 12 (la 3 2),o 13 (m 1),o 14 (.call 49 [(t 12),(t 13)]),o 6 (m 14)]),
 (.reg [o 15 (m 6),o 16 (bc .neq 15 (n 0))]),
 (i 16 (q [(.reg [o 17 (m 6),o 4 (.mv (c (.nils 1))),o 5 (m 17)]),
 .ret]) .skip)]),
 (.reg [o 18 (m 1),o 19 (ln 18),o 20 (.mkslice 1 8 [(u 0)] (t 19) (t 19)),o 7 (m 20)]),
 (.reg [o 21 (m 1),o 22 (ln 21),o 23 (.mkslice 1 1 [.bf] (t 22) (t 22)),o 8 (m 23)]),
 (q [(.reg [o 24 (m 1),o 25 (ln 24),o 26 (.mv (c (n 0)))]),
 (.block 0 (.loop (q [(.reg [o 27 (b .lss 26 25)]),
 (i 27 .skip (.exit 0)),
 (.block 1 (q [(.reg [o 28 (m 26),o 29 (ia 6 24 26),o 30 (la 6 29),o 10 (.alloc [(n 0),(n 0),(n 0),(n 0),(n 0),(n 0)]),o 9 (m 28),w (.store 6 (t 10) (t 30))]),
 (.reg [o 11 (.mv (c .bt))]),
 (q [(.reg [o 31 (f 0 10),o 32 (l 31),o 33 (bc .geq 32 (n 4))]),
 (i 33 (.reg [o 34 (m 8),o 35 (f 4 10),o 36 (l 35),o 37 (ia 1 34 36),o 38 (l 37),o 11 (m 38)]) .skip)]),
 (q [(.reg [o 39 (f 0 10),o 40 (l 39),o 41 (bc .geq 40 (n 5)),o 42 (m 41),g 43 42 true (f 0 10),g 44 42 true (l 43),g 45 42 true (bc .leq 44 (n 8)),o 46 (pf 42 45),o 47 (m 46),g 48 47 false (f 0 10),g 49 47 false (l 48),g 50 47 false (bc .eql 49 (n 13)),o 51 (pt 47 50)]),
 (i 51 (.reg [o 52 (m 11),o 53 (m 52),g 54 53 true (m 8),g 55 53 true (f 5 10),g 56 53 true (l 55),g 57 53 true (ia 1 54 56),g 58 53 true (l 57),o 59 (pf 53 58),o 11 (m 59)]) .skip)]),
 (.reg [o 60 (m 11)]),
 (i 60 (.regd [o 62 (m 7),o 63 (m 9),o 64 (m 8),o 65 (m 9),o 66 (la 3 2),o 67 (la 6 10),o 68 (m 7),o 69 (f 4 10),o 70 (l 69),o 71 (ia 1 68 70),o 72 (l 71),o 73 (m 7),o 74 (f 5 10),o 75 (l 74),o 76 (ia 1 73 75),o 77 (l 76),o 78 (.call 50 [(t 66),(t 67),(t 72),(t 77)]),o 61 (m 78),o 79 (e 61 0),o 80 (e 61 1),o 81 (ia 1 62 63),w (.store 1 (t 81) (t 79)),o 82 (ia 1 64 65),w (.store 1 (t 82) (t 80))] [0,0,0,0,0,0,0,0,128,448,960,0,0,4096,14336,30720,65520,131056,262128,262128,524275,1572851,4194303,8388607]) .skip)])),
 (.reg [o 83 (bc .add 26 (n 1)),o 26 (m 83)])])))]),
 (.reg [o 84 (m 7),o 4 (m 84),o 5 (.mv (c (n 0)))]),
 .ret])⟩
def zm4:CFn:=⟨37,[.tmp 6],(q [(.reg [o 3 (.box 3 (t 0)),o 4 (.box 1 (t 1)),o 6 (.mv (c (n 0)))]),
 (q [(.reg [o 9 (la 3 3),o 10 (l 4),o 11 (.call 51 [(t 9),(t 10)]),o 7 (m 11)]),
 (.reg [o 12 (m 7),o 13 (bc .neq 12 (n 0))]),
 (i 13 (q [(.reg [o 14 (m 7),o 6 (m 14)]),
 .ret]) .skip)]),
 (q [(.reg [o 15 (m 2),o 16 (.call 45 [(t 15)]),o 8 (m 16)]),
 (.reg [o 17 (m 8),o 18 (bc .neq 17 (n 0))]),
 (i 18 (q [(.reg [o 19 (m 8),o 6 (m 19)]),
 .ret]) .skip)]),
 (q [(.reg [o 20 (m 2),o 21 (.call 52 [(t 20)]),o 22 (bc .andNot 21 (n 207)),o 23 (bc .neq 22 (n 0))]),
 (i 23 (q [(.reg [o 6 (.mv (c (n 10)))]),
 .ret]) .skip)]),
 (q [(.reg [o 24 (m 2),o 25 (f 2 3),o 26 (l 25),o 27 (ln 26),o 28 (f 1 3),o 29 (l 28),o 30 (ln 29),o 31 (.call 53 [(t 24),(t 27),(t 30)]),o 32 (.un .not (t 31))]),
 (i 32 (q [(.reg [o 6 (.mv (c (n 2)))]),
 .ret]) .skip)]),
 (q [(.reg [o 33 (m 2),o 34 (.call 24 [(t 33)]),o 35 (.fnew za3 [(t 4)]),o 36 (.call 54 [(t 34),(t 35)])]),
 (i 36 (q [(.reg [o 6 (.mv (c (n 6)))]),
 .ret]) .skip)]),
 (.reg [o 6 (.mv (c (n 0)))]),
 .ret])⟩
def zm5:CFn:=⟨8,[.tmp 2],(q [(.reg [o 2 (.mv (c (.nils 6)))]),
 (.reg [o 3 (m 0),o 4 (m 0),o 5 (ln 4),o 6 (bc .sub 5 (n 1)),o 7 (.call 56 [(t 3),(t 6)]),o 2 (m 7)]),
 .ret])⟩
def zgZ:CFn:=⟨25,[.tmp 4],(q [(.reg [o 3 (.box 3 (t 1)),o 4 (.mv (c (.d .nil)))]),
 (.regd [o 5 (la 3 3),o 6 (f 0 3),o 7 (l 6),o 8 (.bin .sub (c (n 64)) (t 7)),o 9 (.bin .shr (c (u 18446744073709551615)) (t 8)),o 10 (m 0),o 11 (.nilck (t 10)),o 12 (f 4 11),o 13 (l 12),o 14 (m 0),o 15 (.nilck (t 14)),o 16 (f 5 15),o 17 (l 16),o 18 .mkmap,o 19 (m 0),o 20 (.nilck (t 19)),o 21 (f 7 20),o 22 (l 21),o 23 (.build [(n 0),(.nils 1),(.nils 1),(u 0),(.nils 3),(.nils 6),(.d .nil),(.d .nil)] [(0,3,(t 5)),(3,1,(t 9)),(4,1,(t 13)),(5,1,(t 17)),(6,1,(t 18)),(7,1,(t 22))]),o 24 (.box 8 (t 23)),o 4 (m 24)] [0,0,2,6,14,0,32,96,224,0,512,1536,3584,0,0,16384,49152,114688,262143,524287,1048575]),
 .ret])⟩
def zgY:CFn:=⟨43,[.tmp 4],(q [(.reg [o 4 (.mv (c (u 0)))]),
 (.reg [o 8 (m 0),o 9 (.nilck (t 8)),o 10 (f 6 9),o 11 (l 10),o 12 (m 1),o 13 (.look (.int .i64) [(u 0)] (t 11) (t 12) true),o 7 (m 13),o 14 (e 7 0),o 15 (e 7 1),o 5 (m 14),o 6 (m 15)]),
 (q [(.reg [o 16 (m 6),o 17 (.un .not (t 16)),o 18 (m 17),g 19 18 true (m 0),g 20 18 true (.nilck (t 19)),g 21 18 true (f 7 20),g 22 18 true (l 21),g 23 18 true (.nilck (t 22)),g 24 18 true (l 23),g 25 18 true (bc .eql 24 (n 0)),o 26 (pf 18 25)]),
 (i 26 (q [(.reg [o 27 (m 0),o 28 (m 0),o 29 (.nilck (t 28)),o 30 (f 5 29),o 31 (l 30),o 32 (m 1),o 33 (ia 6 31 32),o 34 (la 6 33),o 35 (.call 57 [(t 27),(t 34)]),o 5 (m 35)]),
 (.reg [o 36 (m 0),o 37 (.nilck (t 36)),o 38 (f 6 37),o 39 (l 38),o 40 (m 1),o 41 (m 5),w (.mupd (.int .i64) (t 39) (t 40) (t 41))])]) .skip)]),
 (.reg [o 42 (m 5),o 4 (m 42)]),
 .ret])⟩
def zrX:CFn:=⟨47,[.tmp 2],(q [(.reg [o 1 (.box 3 (t 0)),o 2 (.mv (c (n 0)))]),
 (q [(.reg [o 5 (f 0 1),o 6 (l 5),o 7 (bc .lss 6 (n 1)),o 8 (m 7),g 9 8 false (f 0 1),g 10 8 false (l 9),g 11 8 false (bc .gtr 10 (n 64)),o 12 (pt 8 11)]),
 (i 12 (q [(.reg [o 2 (.mv (c (n 2)))]),
 .ret]) .skip)]),
 (q [(.reg [o 13 (f 2 1),o 14 (l 13),o 15 (ln 14),o 16 (bc .gtr 15 (n 4)),o 17 (m 16),g 18 17 false (f 1 1),g 19 17 false (l 18),g 20 17 false (ln 19),g 21 17 false (bc .gtr 20 (n 8)),o 22 (pt 17 21)]),
 (i 22 (q [(.reg [o 2 (.mv (c (n 8)))]),
 .ret]) .skip)]),
 (q [(.reg [o 23 (f 2 1),o 24 (l 23),o 25 (ln 24),o 26 (.mv (c (n 0)))]),
 (.block 0 (.loop (q [(.reg [o 27 (b .lss 26 25)]),
 (i 27 .skip (.exit 0)),
 (.block 1 (q [(.reg [o 28 (ia 1 24 26),o 29 (l 28),o 4 (m 29)]),
 (.reg [o 30 (m 4),o 31 (ln 30),o 32 (f 0 1),o 33 (l 32),o 34 (b .neq 31 33)]),
 (i 34 (q [(.reg [o 2 (.mv (c (n 3)))]),
 .ret]) .skip)])),
 (.reg [o 35 (bc .add 26 (n 1)),o 26 (m 35)])])))]),
 (q [(.reg [o 36 (f 1 1),o 37 (l 36),o 38 (f 0 1),o 39 (l 38),o 40 (.call 58 [(t 37),(t 39)]),o 41 (m 40),g 42 41 false (f 2 1),g 43 41 false (l 42),g 44 41 false (.fnew zd8 [(t 1)]),g 45 41 false (.call 59 [(t 43),(t 44)]),o 46 (pt 41 45)]),
 (i 46 (q [(.reg [o 2 (.mv (c (n 2)))]),
 .ret]) .skip)]),
 (.reg [o 2 (.mv (c (n 0)))]),
 .ret])⟩
def zsH:CFn:=⟨32,[.tmp 6,.tmp 7],(q [(.reg [o 3 (.box 3 (t 0)),o 6 (.mv (c .bf)),o 7 (.mv (c (n 0)))]),
 (.reg [o 11 (la 3 3),o 12 (m 2),o 13 (.call 8 [(t 11),(t 12)]),o 10 (m 13),o 14 (e 10 0),o 15 (e 10 1),o 8 (m 14),o 9 (m 15)]),
 (q [(.reg [o 16 (m 9),o 17 (bc .neq 16 (n 0))]),
 (i 17 (q [(.reg [o 18 (m 9),o 6 (.mv (c .bf)),o 7 (m 18)]),
 .ret]) .skip)]),
 (q [(.reg [o 19 (m 1),o 20 (bc .lss 19 (n 0)),o 21 (m 20),g 22 21 false (m 1),g 23 21 false (f 0 3),g 24 21 false (l 23),g 25 21 false (b .geq 22 24),o 26 (pt 21 25)]),
 (i 26 (q [(.reg [o 6 (.mv (c .bf)),o 7 (.mv (c (n 2)))]),
 .ret]) .skip)]),
 (.reg [o 27 (m 8),o 28 (m 1),o 29 (b .shr 27 28),o 30 (bc .and 29 (u 1)),o 31 (bc .eql 30 (u 1)),o 6 (m 31),o 7 (.mv (c (n 0)))]),
 .ret])⟩
def zm2:CFn:=⟨28,[.cell 4 (some 3),.tmp 5,.tmp 6],(q [(.reg [o 2 (.box 3 (t 0)),o 4 (.alloc [(n 0),(.nils 1),(.nils 1)]),o 5 (.mv (c (.nils 1))),o 6 (.mv (c (n 0)))]),
 (.reg [o 10 (la 3 2),o 11 (m 1),o 12 (.call 8 [(t 10),(t 11)]),o 9 (m 12),o 13 (e 9 0),o 14 (e 9 1),o 7 (m 13),o 8 (m 14)]),
 (q [(.reg [o 15 (m 8),o 16 (bc .neq 15 (n 0))]),
 (i 16 (q [(.reg [o 17 (.build [(n 0),(.nils 1),(.nils 1)] []),o 18 (m 8),w (.store 3 (t 4) (t 17)),o 5 (.mv (c (.nils 1))),o 6 (m 18)]),
 .ret]) .skip)]),
 (q [(.reg [o 19 (m 7),o 20 (bc .eql 19 (u 0))]),
 (i 20 (q [(.reg [o 21 (.build [(n 0),(.nils 1),(.nils 1)] []),w (.store 3 (t 4) (t 21)),o 5 (.mv (c (.nils 1))),o 6 (.mv (c (n 11)))]),
 .ret]) .skip)]),
 (.reg [o 22 (la 3 2),o 23 (m 7),o 24 (.call 61 [(t 22),(t 23)]),o 25 (e 24 0),o 26 (e 24 1),o 27 (e 24 2),w (.store 3 (t 4) (t 25)),o 5 (m 26),o 6 (m 27)]),
 .ret])⟩
def zhV:CFn:=⟨19,[.tmp 4],(q [(.reg [o 4 (.mv (c (n 0)))]),
 (q [(.reg [o 6 (m 0),o 7 (ln 6),o 8 (.mv (c (n 0)))]),
 (.block 0 (.loop (q [(.reg [o 9 (b .lss 8 7)]),
 (i 9 .skip (.exit 0)),
 (.block 1 (q [(.reg [o 10 (m 8),o 5 (m 10)]),
 (.reg [o 11 (m 1),o 12 (m 0),o 13 (m 5),o 14 (ia 1 12 13),o 15 (l 14),o 16 (b .eql 11 15)]),
 (i 16 (q [(.reg [o 17 (m 5),o 4 (m 17)]),
 .ret]) .skip)])),
 (.reg [o 18 (bc .add 8 (n 1)),o 8 (m 18)])])))]),
 (.reg [o 4 (.mv (c (n (-1))))]),
 .ret])⟩
def zjn:CFn:=⟨20,[.tmp 4],(q [(.reg [o 4 (.mv (c .bf))]),
 (q [(.reg [o 5 (.mv (c (n 0)))]),
 (.block 0 (.loop (q [(q [(.reg [o 6 (m 5),o 7 (m 0),o 8 (ln 7),o 9 (b .lss 6 8)]),
 (i 9 .skip (.exit 0))]),
 (.block 1 (q [(.regd [o 12 (m 0),o 13 (m 5),o 14 (ia 1 12 13),o 15 (l 14),o 16 (m 1),o 17 (.call 62 [(t 16)]),o 18 (b .andNot 15 17),o 19 (bc .neq 18 (u 0))] [0,0,3,7,0,16,63,127]),
 (i 19 (q [(.reg [o 4 (.mv (c .bt))]),
 .ret]) .skip)])),
 (.reg [o 10 (m 5),o 11 (bc .add 10 (n 1)),o 5 (m 11)])])))]),
 (.reg [o 4 (.mv (c .bf))]),
 .ret])⟩
def zna:CFn:=⟨51,[.tmp 2,.tmp 3],(q [(.reg [o 1 (.box 3 (t 0)),o 2 (.mv (c (.nils 1))),o 3 (.mv (c (n 0)))]),
 (q [(.reg [o 12 (la 3 1),o 13 (.call 27 [(t 12)]),o 4 (m 13)]),
 (.reg [o 14 (m 4),o 15 (bc .neq 14 (n 0))]),
 (i 15 (q [(.reg [o 16 (m 4),o 2 (.mv (c (.nils 1))),o 3 (m 16)]),
 .ret]) .skip)]),
 (.reg [o 5 (.mv (c (.nils 1)))]),
 (q [(.reg [o 17 (f 0 1),o 18 (l 17),o 19 (.mv (c (n 0)))]),
 (.block 0 (.loop (q [(.reg [o 20 (b .lss 19 18)]),
 (i 20 .skip (.exit 0)),
 (.block 1 (q [(.reg [o 21 (m 19),o 6 (m 21)]),
 (.reg [o 22 (m 5),o 23 (la 3 1),o 24 (m 6),o 25 (.call 63 [(t 23),(t 24)]),o 26 (.bslice 1 1 [(n 0)] [(0,(t 25))]),o 27 (.bslice 1 1 [(.nils 1)] [(0,(t 26))]),o 28 (.bslice 1 1 [(.nils 1)] [(0,(t 27))]),o 29 (.app 1 24 (t 22) (t 28)),o 5 (m 29)])])),
 (.reg [o 30 (bc .add 19 (n 1)),o 19 (m 30)])])))]),
 (.reg [o 7 (.alloc [(.nils 1)])]),
 (q [(.reg [o 31 (f 2 1),o 32 (l 31),o 33 (ln 32),o 34 (.mv (c (n 0)))]),
 (.block 2 (.loop (q [(.reg [o 35 (b .lss 34 33)]),
 (i 35 .skip (.exit 2)),
 (.block 3 (q [(.reg [o 36 (ia 1 32 34),o 37 (l 36),o 9 (m 37)]),
 (.regd [o 38 (l 7),o 39 (m 9),o 40 (.call 64 [(t 39)]),o 41 (.bslice 1 1 [(.nils 1)] [(0,(t 40))]),o 42 (.app 1 24 (t 38) (t 41)),w (.store 1 (t 7) (t 42))] [0,0,2,6,15,31])])),
 (.reg [o 43 (bc .add 34 (n 1)),o 34 (m 43)])])))]),
 (.reg [o 45 (m 5),o 46 (.fnew zcw [(t 1),(t 7)]),o 47 (.call 65 [(t 45),(t 46)]),o 44 (m 47),o 48 (e 44 0),o 49 (e 44 1),o 10 (m 48),o 11 (m 49)]),
 (.reg [o 50 (m 10),o 2 (m 50),o 3 (.mv (c (n 0)))]),
 .ret])⟩
def zpa:CFn:=⟨33,[.tmp 4],(q [(.reg [o 2 (.box 3 (t 0)),o 3 (.box 3 (t 1)),o 4 (.mv (c (n 0)))]),
 (q [(.reg [o 7 (la 3 2),o 8 (.call 27 [(t 7)]),o 5 (m 8)]),
 (.reg [o 9 (m 5),o 10 (bc .neq 9 (n 0))]),
 (i 10 (q [(.reg [o 11 (m 5),o 4 (m 11)]),
 .ret]) .skip)]),
 (q [(.reg [o 12 (la 3 3),o 13 (.call 27 [(t 12)]),o 6 (m 13)]),
 (.reg [o 14 (m 6),o 15 (bc .neq 14 (n 0))]),
 (i 15 (q [(.reg [o 16 (m 6),o 4 (m 16)]),
 .ret]) .skip)]),
 (q [(.reg [o 17 (f 2 2),o 18 (l 17),o 19 (ln 18),o 20 (f 2 3),o 21 (l 20),o 22 (ln 21),o 23 (b .neq 19 22),o 24 (m 23),g 25 24 false (f 1 2),g 26 24 false (l 25),g 27 24 false (ln 26),g 28 24 false (f 1 3),g 29 24 false (l 28),g 30 24 false (ln 29),g 31 24 false (b .neq 27 30),o 32 (pt 24 31)]),
 (i 32 (q [(.reg [o 4 (.mv (c (n 1)))]),
 .ret]) .skip)]),
 (.reg [o 4 (.mv (c (n 0)))]),
 .ret])⟩
def znc:CFn:=⟨29,[],(q [(.reg [o 3 (.box 3 (t 0)),o 4 (.box 3 (t 1)),o 5 (.box 1 (t 2))]),
 (.reg [o 14 (la 3 3),o 15 (.call 32 [(t 14)]),o 13 (m 15),o 16 (e 13 0),o 17 (e 13 1),o 6 (.alloc [(.nils 1)]),w (.store 1 (t 6) (t 16)),o 7 (m 17)]),
 (.reg [o 19 (la 3 4),o 20 (.call 32 [(t 19)]),o 18 (m 20),o 21 (e 18 0),o 22 (e 18 1),o 8 (.alloc [(.nils 1)]),w (.store 1 (t 8) (t 21)),o 9 (m 22)]),
 (.reg [o 23 (f 0 3),o 24 (l 23),o 25 (.mkslice 1 8 [(n 0)] (c (n 0)) (t 24)),o 10 (.alloc [(.nils 1)]),w (.store 1 (t 10) (t 25))]),
 (.reg [o 11 (.alloc [(u 0)])]),
 (.reg [o 12 (.alloc [(.d .nil)])]),
 (.reg [o 26 (.fnew zcx [(t 10),(t 3),(t 5),(t 4),(t 11),(t 6),(t 8),(t 12)]),w (.store 1 (t 12) (t 26))]),
 (.reg [o 27 (l 12),o 28 (.callv (t 27) [])])])⟩
def ziq:CFn:=⟨5,[.tmp 3],(q [(.reg [o 3 (.mv (c .bf))]),
 (.reg [o 4 (m 0),w (.store 1 (t 1) (t 4))]),
 (.reg [o 3 (.mv (c .bf))]),
 .ret])⟩
def zpb:CFn:=⟨89,[.tmp 8],(q [(.reg [o 4 (.box 3 (t 0)),o 5 (.box 3 (t 1)),o 8 (.mv (c .bf))]),
 (q [(.regd [o 12 (la 3 4),o 13 (m 3),o 14 (.call 63 [(t 12),(t 13)]),o 15 (la 3 5),o 16 (m 2),o 17 (m 3),o 18 (ia 1 16 17),o 19 (l 18),o 20 (.call 63 [(t 15),(t 19)]),o 21 (b .neq 14 20)] [0,0,3,0,0,0,48,112,255,511]),
 (i 21 (q [(.reg [o 8 (.mv (c .bf))]),
 .ret]) .skip)]),
 (q [(.reg [o 22 (f 2 4),o 23 (l 22),o 24 (ln 23),o 25 (.mv (c (n 0)))]),
 (.block 0 (.loop (q [(.reg [o 26 (b .lss 25 24)]),
 (i 26 .skip (.exit 0)),
 (.block 1 (q [(.reg [o 27 (m 25),o 28 (ia 1 23 25),o 29 (l 28),o 9 (m 27),o 10 (m 29)]),
 (.reg [o 30 (m 3),o 31 (bc .add 30 (n 1)),o 32 (.mv (c (n 0)))]),
 (.block 2 (.loop (q [(.reg [o 33 (b .lss 32 31)]),
 (i 33 .skip (.exit 2)),
 (.block 3 (q [(.reg [o 34 (m 32),o 11 (m 34)]),
 (.regd [o 35 (m 10),o 36 (m 3),o 37 (ia 1 35 36),o 38 (l 37),o 39 (m 11),o 40 (b .shr 38 39),o 41 (bc .and 40 (u 1)),o 42 (f 2 5),o 43 (l 42),o 44 (m 9),o 45 (ia 1 43 44),o 46 (l 45),o 47 (m 2),o 48 (m 3),o 49 (ia 1 47 48),o 50 (l 49),o 51 (ia 1 46 50),o 52 (l 51),o 53 (m 2),o 54 (m 11),o 55 (ia 1 53 54),o 56 (l 55),o 57 (b .shr 52 56),o 58 (bc .and 57 (u 1)),o 59 (b .neq 41 58),o 60 (m 59),g 61 60 false (m 10),g 62 60 false (m 11),g 63 60 false (ia 1 61 62),g 64 60 false (l 63),g 65 60 false (m 3),g 66 60 false (b .shr 64 65),g 67 60 false (bc .and 66 (u 1)),g 68 60 false (f 2 5),g 69 60 false (l 68),g 70 60 false (m 9),g 71 60 false (ia 1 69 70),g 72 60 false (l 71),g 73 60 false (m 2),g 74 60 false (m 11),g 75 60 false (ia 1 73 74),g 76 60 false (l 75),g 77 60 false (ia 1 72 76),g 78 60 false (l 77),g 79 60 false (m 2),g 80 60 false (m 3),g 81 60 false (ia 1 79 80),g 82 60 false (l 81),g 83 60 false (b .shr 78 82),g 84 60 false (bc .and 83 (u 1)),g 85 60 false (b .neq 67 84),o 86 (pt 60 85)] [0,0,3,7,0,31,63,0,128,0,896,1920,0,0,12288,28672,65408,130944,0,0,786432,1835008,4194176,8388480,16777215,33554431,67108863,67108863,268435455,536870911,67108863,2147483647,4294967295,67108863,8657043455,67108863,60196651007,128916127743,67108863,67108863,824700829695,1924212457471,4389523685375,8787570196479,67108863,67108863,52776625242111,123145369419775,281466453884927,562941430595583,1125899906842623,2251799813685247]),
 (i 86 (q [(.reg [o 8 (.mv (c .bf))]),
 .ret]) .skip)])),
 (.reg [o 87 (bc .add 32 (n 1)),o 32 (m 87)])])))])),
 (.reg [o 88 (bc .add 25 (n 1)),o 25 (m 88)])])))]),
 (.reg [o 8 (.mv (c .bt))]),
 .ret])⟩
def zo5:CFn:=⟨26,[.tmp 2],(q [(.reg [o 2 (.mv (c (n 0)))]),
 (q [(.reg [o 6 (m 0),o 7 (ln 6),o 8 (bc .eql 7 (n 0))]),
 (i 8 (q [(.reg [o 2 (.mv (c (n 3)))]),
 .ret]) .skip)]),
 (q [(.reg [o 9 (m 0),o 10 (ln 9),o 11 (bc .gtr 10 (n 200))]),
 (i 11 (q [(.reg [o 2 (.mv (c (n 8)))]),
 .ret]) .skip)]),
 (q [(.reg [o 12 (m 0),o 13 (ln 12),o 14 (.mv (c (n 0)))]),
 (.block 0 (.loop (q [(.reg [o 15 (b .lss 14 13)]),
 (i 15 .skip (.exit 0)),
 (.block 1 (q [(.reg [o 16 (m 14),o 17 (ia 6 12 14),o 18 (la 6 17),o 4 (.alloc [(n 0),(n 0),(n 0),(n 0),(n 0),(n 0)]),o 3 (m 16),w (.store 6 (t 4) (t 18))]),
 (.reg [o 19 (la 6 4),o 20 (m 3),o 21 (.call 47 [(t 19),(t 20)]),o 5 (m 21)]),
 (.reg [o 22 (m 5),o 23 (bc .neq 22 (n 0))]),
 (i 23 (q [(.reg [o 24 (m 5),o 2 (m 24)]),
 .ret]) .skip)])),
 (.reg [o 25 (bc .add 14 (n 1)),o 14 (m 25)])])))]),
 (.reg [o 2 (.mv (c (n 0)))]),
 .ret])⟩
def zql:CFn:=⟨55,[.cell 2 (some 7),.tmp 3],(q [(.reg [o 2 (.alloc [.bf,.bf,.bf,.bf,.bf,.bf,(n 0)]),o 3 (.mv (c .bf))]),
 (q [(.reg [o 4 (m 0)]),
 (.block 0 (q [(q [(.reg [o 6 (bc .eql 4 (n 1)),o 5 (m 6)]),
 (i 5 .skip (.reg [o 7 (bc .eql 4 (n 2)),o 5 (m 7)]))]),
 (i 5 (q [(.reg [o 8 (.build [.bf,.bf,.bf,.bf,.bf,.bf,(n 0)] []),w (.store 7 (t 2) (t 8)),o 3 (.mv (c .bt))]),
 .ret]) (q [(.reg [o 10 (bc .eql 4 (n 3)),o 9 (m 10)]),
 (i 9 (q [(.reg [o 11 (.build [.bf,.bf,.bf,.bf,.bf,.bf,(n 0)] [(2,1,(c .bt))]),w (.store 7 (t 2) (t 11)),o 3 (.mv (c .bt))]),
 .ret]) (q [(.reg [o 13 (bc .eql 4 (n 4)),o 12 (m 13)]),
 (i 12 (q [(.reg [o 14 (.build [.bf,.bf,.bf,.bf,.bf,.bf,(n 0)] [(0,1,(c .bt))]),w (.store 7 (t 2) (t 14)),o 3 (.mv (c .bt))]),
 .ret]) (q [(q [(.reg [o 16 (bc .eql 4 (n 5)),o 15 (m 16)]),
 (i 15 .skip (q [(.reg [o 17 (bc .eql 4 (n 6)),o 15 (m 17)]),
 (i 15 .skip (q [(.reg [o 18 (bc .eql 4 (n 7)),o 15 (m 18)]),
 (i 15 .skip (.reg [o 19 (bc .eql 4 (n 8)),o 15 (m 19)]))]))]))]),
 (i 15 (q [(.reg [o 20 (.build [.bf,.bf,.bf,.bf,.bf,.bf,(n 0)] [(0,1,(c .bt)),(1,1,(c .bt))]),w (.store 7 (t 2) (t 20)),o 3 (.mv (c .bt))]),
 .ret]) (q [(q [(.reg [o 22 (bc .eql 4 (n 9)),o 21 (m 22)]),
 (i 21 .skip (.reg [o 23 (bc .eql 4 (n 10)),o 21 (m 23)]))]),
 (i 21 (q [(.reg [o 24 (.build [.bf,.bf,.bf,.bf,.bf,.bf,(n 0)] [(0,1,(c .bt)),(3,1,(c .bt)),(6,1,(c (n 1)))]),w (.store 7 (t 2) (t 24)),o 3 (.mv (c .bt))]),
 .ret]) (q [(.reg [o 26 (bc .eql 4 (n 11)),o 25 (m 26)]),
 (i 25 (q [(.reg [o 27 (.build [.bf,.bf,.bf,.bf,.bf,.bf,(n 0)] [(0,1,(c .bt)),(4,1,(c .bt)),(6,1,(c (n 2)))]),w (.store 7 (t 2) (t 27)),o 3 (.mv (c .bt))]),
 .ret]) (q [(.reg [o 29 (bc .eql 4 (n 12)),o 28 (m 29)]),
 (i 28 (q [(.reg [o 30 (.build [.bf,.bf,.bf,.bf,.bf,.bf,(n 0)] [(0,1,(c .bt)),(4,1,(c .bt)),(6,1,(c (n 4)))]),w (.store 7 (t 2) (t 30)),o 3 (.mv (c .bt))]),
 .ret]) (q [(.reg [o 32 (bc .eql 4 (n 13)),o 31 (m 32)]),
 (i 31 (q [(.reg [o 33 (.build [.bf,.bf,.bf,.bf,.bf,.bf,(n 0)] [(0,1,(c .bt)),(1,1,(c .bt)),(4,1,(c .bt)),(6,1,(c (n 8)))]),w (.store 7 (t 2) (t 33)),o 3 (.mv (c .bt))]),
 .ret]) (q [(.reg [o 35 (bc .eql 4 (n 14)),o 34 (m 35)]),
 (i 34 (q [(.reg [o 36 (.build [.bf,.bf,.bf,.bf,.bf,.bf,(n 0)] [(0,1,(c .bt)),(1,1,(c .bt)),(3,1,(c .bt)),(6,1,(c (n 16)))]),w (.store 7 (t 2) (t 36)),o 3 (.mv (c .bt))]),
 .ret]) (q [(.reg [o 38 (bc .eql 4 (n 15)),o 37 (m 38)]),
 (i 37 (q [(.reg [o 39 (.build [.bf,.bf,.bf,.bf,.bf,.bf,(n 0)] [(0,1,(c .bt)),(3,1,(c .bt)),(6,1,(c (n 32)))]),w (.store 7 (t 2) (t 39)),o 3 (.mv (c .bt))]),
 .ret]) (q [(.reg [o 41 (bc .eql 4 (n 16)),o 40 (m 41)]),
 (i 40 (q [(.reg [o 42 (.build [.bf,.bf,.bf,.bf,.bf,.bf,(n 0)] [(0,1,(c .bt)),(1,1,(c .bt)),(6,1,(c (n 64)))]),w (.store 7 (t 2) (t 42)),o 3 (.mv (c .bt))]),
 .ret]) (q [(.reg [o 44 (bc .eql 4 (n 17)),o 43 (m 44)]),
 (i 43 (q [(.reg [o 45 (.build [.bf,.bf,.bf,.bf,.bf,.bf,(n 0)] [(0,1,(c .bt)),(5,1,(c .bt)),(6,1,(c (n 128)))]),w (.store 7 (t 2) (t 45)),o 3 (.mv (c .bt))]),
 .ret]) (q [(q [(.reg [o 47 (bc .eql 4 (n 18)),o 46 (m 47)]),
 (i 46 .skip (.reg [o 48 (bc .eql 4 (n 20)),o 46 (m 48)]))]),
 (i 46 (q [(.reg [o 49 (.build [.bf,.bf,.bf,.bf,.bf,.bf,(n 0)] [(0,1,(c .bt)),(6,1,(c (n 256)))]),w (.store 7 (t 2) (t 49)),o 3 (.mv (c .bt))]),
 .ret]) (q [(q [(.reg [o 51 (bc .eql 4 (n 19)),o 50 (m 51)]),
 (i 50 .skip (.reg [o 52 (bc .eql 4 (n 21)),o 50 (m 52)]))]),
 (i 50 (q [(.reg [o 53 (.build [.bf,.bf,.bf,.bf,.bf,.bf,(n 0)] [(0,1,(c .bt)),(1,1,(c .bt)),(6,1,(c (n 256)))]),w (.store 7 (t 2) (t 53)),o 3 (.mv (c .bt))]),
 .ret]) .skip)]))]))]))]))]))]))]))]))]))]))]))]))]))]))]),
 (.reg [o 54 (.build [.bf,.bf,.bf,.bf,.bf,.bf,(n 0)] []),w (.store 7 (t 2) (t 54)),o 3 (.mv (c .bf))]),
 .ret])⟩
def zlj:CFn:=⟨106,[.tmp 4],(q [(.reg [o 2 (.box 6 (t 0)),o 4 (.mv (c (n 0)))]),
 (.reg [o 9 (f 0 2),o 10 (l 9),o 11 (.call 46 [(t 10)]),o 8 (m 11),o 12 (e 8 0),o 13 (e 8 1),o 5 (.alloc [.bf,.bf,.bf,.bf,.bf,.bf,(n 0)]),w (.store 7 (t 5) (t 12)),o 6 (m 13)]),
 (q [(.reg [o 14 (m 6),o 15 (.un .not (t 14))]),
 (i 15 (q [(.reg [o 4 (.mv (c (n 10)))]),
 .ret]) .skip)]),
 (q [(.reg [o 16 (f 0 5),o 17 (l 16),o 18 (f 4 2),o 19 (l 18),o 20 (m 1),o 21 (.call 76 [(t 17),(t 19),(t 20)]),o 22 (.un .not (t 21)),o 23 (m 22),g 24 23 false (f 1 5),g 25 23 false (l 24),g 26 23 false (f 5 2),g 27 23 false (l 26),g 28 23 false (m 1),g 29 23 false (.call 76 [(t 25),(t 27),(t 28)]),g 30 23 false (.un .not (t 29)),o 31 (pt 23 30)]),
 (i 31 (q [(.reg [o 4 (.mv (c (n 3)))]),
 .ret]) .skip)]),
 (q [(.reg [o 32 (f 2 5),o 33 (l 32),o 34 (m 33),g 35 34 false (f 3 5),g 36 34 false (l 35),o 37 (pt 34 36),o 38 (m 37),g 39 38 false (f 5 5),g 40 38 false (l 39),o 41 (pt 38 40),o 42 (.un .not (t 41)),o 43 (m 42),g 44 43 true (f 1 2),g 45 43 true (l 44),g 46 43 true (bc .neq 45 (n 0)),o 47 (pf 43 46),o 48 (m 47),g 49 48 false (f 5 5),g 50 48 false (l 49),g 51 48 false (.un .not (t 50)),g 52 48 false (m 51),g 53 52 true (f 2 2),g 54 52 true (l 53),g 55 52 true (bc .neq 54 (n 0)),g 56 48 false (pf 52 55),o 57 (pt 48 56),o 58 (m 57),g 59 58 false (f 4 5),g 60 58 false (l 59),g 61 58 false (.un .not (t 60)),g 62 58 false (m 61),g 63 62 true (f 3 2),g 64 62 true (l 63),g 65 62 true (bc .neq 64 (n 0)),g 66 58 false (pf 62 65),o 67 (pt 58 66)]),
 (i 67 (q [(.reg [o 4 (.mv (c (n 3)))]),
 .ret]) .skip)]),
 (.reg [o 7 (.mv (c (.fn zdt [])))]),
 (q [(.reg [o 68 (m 7),o 69 (f 2 5),o 70 (l 69),o 71 (f 1 2),o 72 (l 71),o 73 (.callv (t 68) [(t 70),(t 72),(c (n 0)),(c (n 7))]),o 74 (m 73),g 75 74 false (m 7),g 76 74 false (f 3 5),g 77 74 false (l 76),g 78 74 false (f 1 2),g 79 74 false (l 78),g 80 74 false (.callv (t 75) [(t 77),(t 79),(c (n 0)),(c (n 3))]),o 81 (pt 74 80),o 82 (m 81),g 83 82 false (m 7),g 84 82 false (f 5 5),g 85 82 false (l 84),g 86 82 false (f 1 2),g 87 82 false (l 86),g 88 82 false (.callv (t 83) [(t 85),(t 87),(c (n 0)),(c (n 7))]),o 89 (pt 82 88),o 90 (m 89),g 91 90 false (m 7),g 92 90 false (f 5 5),g 93 90 false (l 92),g 94 90 false (f 2 2),g 95 90 false (l 94),g 96 90 false (.callv (t 91) [(t 93),(t 95),(c (n 0)),(c (n 7))]),o 97 (pt 90 96),o 98 (m 97),g 99 98 false (m 7),g 100 98 false (f 4 5),g 101 98 false (l 100),g 102 98 false (f 3 2),g 103 98 false (l 102),g 104 98 false (.callv (t 99) [(t 101),(t 103),(c (n 1)),(c (n 15))]),o 105 (pt 98 104)]),
 (i 105 (q [(.reg [o 4 (.mv (c (n 2)))]),
 .ret]) .skip)]),
 (.reg [o 4 (.mv (c (n 0)))]),
 .ret])⟩
def zm8:CFn:=⟨16,[.tmp 4],(q [(.reg [o 2 (.box 1 (t 0)),o 4 (.mv (c (.nils 6)))]),
 (.reg [o 5 (.alloc [(.nils 6)])]),
 (.reg [o 9 .mkmap,o 6 (.alloc [(.d .nil)]),w (.store 1 (t 6) (t 9))]),
 (.reg [o 10 .mkmap,o 7 (.alloc [(.d .nil)]),w (.store 1 (t 7) (t 10))]),
 (.reg [o 8 (.alloc [(.d .nil)])]),
 (.reg [o 11 (.fnew zn [(t 7),(t 2),(t 8),(t 6),(t 5)]),w (.store 1 (t 8) (t 11))]),
 (.reg [o 12 (l 8),o 13 (m 1),o 14 (.callv (t 12) [(t 13)])]),
 (.reg [o 15 (l 5),o 4 (m 15)]),
 .ret])⟩
def zm3:CFn:=⟨30,[.tmp 4],(q [(.reg [o 2 (.box 3 (t 0)),o 4 (.mv (c (n 0)))]),
 (q [(.reg [o 7 (la 3 2),o 8 (.call 27 [(t 7)]),o 5 (m 8)]),
 (.reg [o 9 (m 5),o 10 (bc .neq 9 (n 0))]),
 (i 10 (q [(.reg [o 11 (m 5),o 4 (m 11)]),
 .ret]) .skip)]),
 (q [(.reg [o 12 (m 1),o 13 (.call 45 [(t 12)]),o 6 (m 13)]),
 (.reg [o 14 (m 6),o 15 (bc .neq 14 (n 0))]),
 (i 15 (q [(.reg [o 16 (m 6),o 4 (m 16)]),
 .ret]) .skip)]),
 (q [(.reg [o 17 (m 1),o 18 (.call 52 [(t 17)]),o 19 (bc .andNot 18 (n 15)),o 20 (bc .neq 19 (n 0))]),
 (i 20 (q [(.reg [o 4 (.mv (c (n 10)))]),
 .ret]) .skip)]),
 (q [(.reg [o 21 (m 1),o 22 (f 2 2),o 23 (l 22),o 24 (ln 23),o 25 (f 1 2),o 26 (l 25),o 27 (ln 26),o 28 (.call 53 [(t 21),(t 24),(t 27)]),o 29 (.un .not (t 28))]),
 (i 29 (q [(.reg [o 4 (.mv (c (n 2)))]),
 .ret]) .skip)]),
 (.reg [o 4 (.mv (c (n 0)))]),
 .ret])⟩
def zo1:CFn:=⟨129,[.tmp 8,.tmp 9],(q [(.reg [o 4 (.box 3 (t 0)),o 5 (.box 6 (t 1)),o 8 (.mv (c (u 0))),o 9 (.mv (c .bf))]),
 (.reg [o 12 (f 0 4),o 13 (l 12),o 14 (.bin .sub (c (n 64)) (t 13)),o 15 (.bin .shr (c (u 18446744073709551615)) (t 14)),o 10 (m 15)]),
 (q [(.reg [o 16 (f 0 5),o 17 (l 16)]),
 (.block 0 (q [(.reg [o 19 (bc .eql 17 (n 1)),o 18 (m 19)]),
 (i 18 (q [(.reg [o 20 (m 10),o 8 (m 20),o 9 (.mv (c .bt))]),
 .ret]) (q [(.reg [o 22 (bc .eql 17 (n 2)),o 21 (m 22)]),
 (i 21 (q [(.reg [o 8 (.mv (c (u 0))),o 9 (.mv (c .bt))]),
 .ret]) (q [(.reg [o 24 (bc .eql 17 (n 3)),o 23 (m 24)]),
 (i 23 (q [(q [(.reg [o 25 (f 1 5),o 26 (l 25),o 27 (f 1 4),o 28 (l 27),o 29 (ln 28),o 30 (b .geq 26 29)]),
 (i 30 (q [(.reg [o 8 (.mv (c (u 0))),o 9 (.mv (c .bf))]),
 .ret]) .skip)]),
 (.reg [o 31 (f 1 4),o 32 (l 31),o 33 (f 1 5),o 34 (l 33),o 35 (ia 1 32 34),o 36 (l 35),o 8 (m 36),o 9 (.mv (c .bt))]),
 .ret]) (q [(.reg [o 38 (bc .eql 17 (n 4)),o 37 (m 38)]),
 (i 37 (q [(.reg [o 39 (m 10),o 40 (m 2),o 41 (b .andNot 39 40),o 8 (m 41),o 9 (.mv (c .bt))]),
 .ret]) (q [(.reg [o 43 (bc .eql 17 (n 5)),o 42 (m 43)]),
 (i 42 (q [(.reg [o 44 (m 2),o 45 (m 3),o 46 (b .and 44 45),o 8 (m 46),o 9 (.mv (c .bt))]),
 .ret]) (q [(.reg [o 48 (bc .eql 17 (n 6)),o 47 (m 48)]),
 (i 47 (q [(.reg [o 49 (m 2),o 50 (m 3),o 51 (b .or 49 50),o 8 (m 51),o 9 (.mv (c .bt))]),
 .ret]) (q [(.reg [o 53 (bc .eql 17 (n 7)),o 52 (m 53)]),
 (i 52 (q [(.reg [o 54 (m 10),o 55 (m 2),o 56 (b .andNot 54 55),o 57 (m 3),o 58 (b .or 56 57),o 8 (m 58),o 9 (.mv (c .bt))]),
 .ret]) (q [(.reg [o 60 (bc .eql 17 (n 8)),o 59 (m 60)]),
 (i 59 (q [(.reg [o 61 (m 10),o 62 (m 2),o 63 (m 3),o 64 (b .xor 62 63),o 65 (b .andNot 61 64),o 8 (m 65),o 9 (.mv (c .bt))]),
 .ret]) (q [(q [(.reg [o 67 (bc .eql 17 (n 9)),o 66 (m 67)]),
 (i 66 .skip (.reg [o 68 (bc .eql 17 (n 10)),o 66 (m 68)]))]),
 (i 66 (q [(q [(.reg [o 69 (f 1 5),o 70 (l 69),o 71 (f 2 4),o 72 (l 71),o 73 (ln 72),o 74 (b .geq 70 73)]),
 (i 74 (q [(.reg [o 8 (.mv (c (u 0))),o 9 (.mv (c .bf))]),
 .ret]) .skip)]),
 (q [(.reg [o 75 (f 0 5),o 76 (l 75),o 77 (bc .eql 76 (n 9))]),
 (i 77 (q [(.reg [o 78 (f 2 4),o 79 (l 78),o 80 (f 1 5),o 81 (l 80),o 82 (ia 1 79 81),o 83 (l 82),o 84 (m 2),o 85 (.call 79 [(t 83),(t 84)]),o 8 (m 85),o 9 (.mv (c .bt))]),
 .ret]) .skip)]),
 (.reg [o 86 (f 2 4),o 87 (l 86),o 88 (f 1 5),o 89 (l 88),o 90 (ia 1 87 89),o 91 (l 90),o 92 (m 2),o 93 (.call 80 [(t 91),(t 92)]),o 8 (m 93),o 9 (.mv (c .bt))]),
 .ret]) (q [(q [(.reg [o 95 (bc .eql 17 (n 11)),o 94 (m 95)]),
 (i 94 .skip (q [(.reg [o 96 (bc .eql 17 (n 12)),o 94 (m 96)]),
 (i 94 .skip (.reg [o 97 (bc .eql 17 (n 13)),o 94 (m 97)]))]))]),
 (i 94 (q [(q [(.regd [o 98 (f 3 5),o 99 (l 98),o 100 (f 2 4),o 101 (l 100),o 102 (ln 101),o 103 (.bin .shl (c (n 1)) (t 102)),o 104 (b .geq 99 103)] [0,1,0,4,12,28,63]),
 (i 104 (q [(.reg [o 8 (.mv (c (u 0))),o 9 (.mv (c .bf))]),
 .ret]) .skip)]),
 (q [(.reg [o 105 (f 0 5),o 106 (l 105),o 107 (bc .eql 106 (n 12))]),
 (i 107 (q [(.reg [o 108 (la 3 4),o 109 (f 3 5),o 110 (l 109),o 111 (.call 81 [(t 108),(t 110)]),o 112 (m 2),o 113 (.call 79 [(t 111),(t 112)]),o 8 (m 113),o 9 (.mv (c .bt))]),
 .ret]) .skip)]),
 (.reg [o 114 (la 3 4),o 115 (f 3 5),o 116 (l 115),o 117 (.call 82 [(t 114),(t 116)]),o 11 (m 117)]),
 (q [(.reg [o 118 (f 0 5),o 119 (l 118),o 120 (bc .eql 119 (n 11))]),
 (i 120 (q [(.reg [o 121 (m 11),o 122 (m 2),o 123 (.call 79 [(t 121),(t 122)]),o 8 (m 123),o 9 (.mv (c .bt))]),
 .ret]) .skip)]),
 (.reg [o 124 (m 11),o 125 (m 10),o 126 (m 2),o 127 (m 3),o 128 (.call 83 [(t 124),(t 125),(t 126),(t 127)]),o 8 (m 128),o 9 (.mv (c .bt))]),
 .ret]) .skip)]))]))]))]))]))]))]))]))]))]))]),
 (.reg [o 8 (.mv (c (u 0))),o 9 (.mv (c .bf))]),
 .ret])⟩
def zo3:CFn:=⟨35,[.tmp 4],(q [(.reg [o 2 (.box 3 (t 0)),o 4 (.mv (c (n 0)))]),
 (q [(.reg [o 9 (la 3 2),o 10 (.call 27 [(t 9)]),o 5 (m 10)]),
 (.reg [o 11 (m 5),o 12 (bc .neq 11 (n 0))]),
 (i 12 (q [(.reg [o 13 (m 5),o 4 (m 13)]),
 .ret]) .skip)]),
 (q [(.reg [o 14 (m 1),o 15 (ln 14),o 16 (bc .gtr 15 (n 8))]),
 (i 16 (q [(.reg [o 4 (.mv (c (n 8)))]),
 .ret]) .skip)]),
 (q [(.reg [o 17 (m 1),o 18 (ln 17),o 19 (.mv (c (n 0)))]),
 (.block 0 (.loop (q [(.reg [o 20 (b .lss 19 18)]),
 (i 20 .skip (.exit 0)),
 (.block 1 (q [(.reg [o 21 (ia 3 17 19),o 22 (la 3 21),o 7 (.alloc [(.nils 1),(.nils 1),(.nils 1)]),w (.store 3 (t 7) (t 22))]),
 (.reg [o 23 (la 3 7),o 24 (f 2 2),o 25 (l 24),o 26 (ln 25),o 27 (f 1 2),o 28 (l 27),o 29 (ln 28),o 30 (.call 84 [(t 23),(t 26),(t 29)]),o 8 (m 30)]),
 (.reg [o 31 (m 8),o 32 (bc .neq 31 (n 0))]),
 (i 32 (q [(.reg [o 33 (m 8),o 4 (m 33)]),
 .ret]) .skip)])),
 (.reg [o 34 (bc .add 19 (n 1)),o 19 (m 34)])])))]),
 (.reg [o 4 (.mv (c (n 0)))]),
 .ret])⟩
def zo7:CFn:=⟨5,[.tmp 2],(q [(.reg [o 2 (.mv (c (n 0)))]),
 (.reg [o 3 (m 0),o 4 (.call 85 [(t 3),(c (.fn zeT []))]),o 2 (m 4)]),
 .ret])⟩
def zqj:CFn:=⟨25,[.tmp 6],(q [(.reg [o 6 (.mv (c .bf))]),
 (.reg [o 7 (.mv (c (.fn zff [])))]),
 (.reg [o 8 (m 0),o 9 (.call 45 [(t 8)]),o 10 (bc .eql 9 (n 0)),o 11 (m 10),g 12 11 true (m 7),g 13 11 true (m 0),g 14 11 true (.call 88 [(t 13)]),g 15 11 true (m 1),g 16 11 true (.callv (t 12) [(t 14),(t 15)]),o 17 (pf 11 16),o 18 (m 17),g 19 18 true (m 7),g 20 18 true (m 0),g 21 18 true (.call 89 [(t 20)]),g 22 18 true (m 2),g 23 18 true (.callv (t 19) [(t 21),(t 22)]),o 24 (pf 18 23),o 6 (m 24)]),
 .ret])⟩
def zdy:CFn:=⟨9,[.tmp 4],(q [(.reg [o 4 (.mv (c .bf))]),
 (.reg [o 5 (m 0),o 6 (m 1),o 7 (.call 90 [(t 5),(t 6)]),o 8 (bc .geq 7 (n 0)),o 4 (m 8)]),
 .ret])⟩
def zlh:CFn:=⟨26,[.tmp 3],(q [(.reg [o 2 (.box 6 (t 0)),o 3 (.mv (c .bf))]),
 (.regd [o 4 (f 0 2),o 5 (l 4),o 6 (bc .eql 5 (n 17)),o 7 (m 6),g 8 7 true (f 1 2),g 9 7 true (l 8),g 10 7 true (l 1),g 11 7 true (ln 10),g 12 7 true (b .geq 9 11),g 13 7 true (m 12),g 14 13 false (f 2 2),g 15 13 false (l 14),g 16 13 false (l 1),g 17 13 false (f 1 2),g 18 13 false (l 17),g 19 13 false (ia 3 16 18),g 20 13 false (f 0 19),g 21 13 false (l 20),g 22 13 false (ln 21),g 23 13 false (b .geq 15 22),g 24 7 true (pt 13 23),o 25 (pf 7 24),o 3 (m 25)] [0,1,3,7,15,31,15,79,255,511,1023,2047,1023,1023,9215,29695,62463,127999,259071,524287,1048575,2097151,4194303]),
 .ret])⟩
def zrW:CFn:=⟨21,[.tmp 4],(q [(.reg [o 4 (.mv (c (.nils 6)))]),
 (q [(.reg [o 5 (m 0),o 6 (.call 45 [(t 5)]),o 7 (bc .neq 6 (n 0)),o 8 (m 7),g 9 8 false (m 1),g 10 8 false (bc .lss 9 (n 0)),o 11 (pt 8 10),o 12 (m 11),g 13 12 false (m 1),g 14 12 false (m 0),g 15 12 false (ln 14),g 16 12 false (b .geq 13 15),o 17 (pt 12 16)]),
 (i 17 (q [(.reg [o 4 (.mv (c (.nils 6)))]),
 .ret]) .skip)]),
 (.reg [o 18 (m 0),o 19 (m 1),o 20 (.call 48 [(t 18),(t 19)]),o 4 (m 20)]),
 .ret])⟩
def zga:CFn:=⟨152,[.tmp 4],(q [(.reg [o 3 (.box 6 (t 1)),o 4 (.mv (c (u 0)))]),
 (q [(.reg [o 5 (f 0 3),o 6 (l 5)]),
 (.block 0 (q [(.reg [o 8 (bc .eql 6 (n 1)),o 7 (m 8)]),
 (i 7 (q [(.reg [o 9 (m 0),o 10 (.nilck (t 9)),o 11 (f 3 10),o 12 (l 11),o 4 (m 12)]),
 .ret]) (q [(.reg [o 14 (bc .eql 6 (n 2)),o 13 (m 14)]),
 (i 13 (q [(.reg [o 4 (.mv (c (u 0)))]),
 .ret]) (q [(.reg [o 16 (bc .eql 6 (n 3)),o 15 (m 16)]),
 (i 15 (q [(.regd [o 17 (m 0),o 18 (.nilck (t 17)),o 19 (f 0 18),o 20 (f 1 19),o 21 (l 20),o 22 (f 1 3),o 23 (l 22),o 24 (ia 1 21 23),o 25 (l 24),o 4 (m 25)] [0,1,3,7,15,0,32,127,255,511]),
 .ret]) (q [(.reg [o 27 (bc .eql 6 (n 4)),o 26 (m 27)]),
 (i 26 (q [(.regd [o 28 (m 0),o 29 (.nilck (t 28)),o 30 (f 3 29),o 31 (l 30),o 32 (m 0),o 33 (f 4 3),o 34 (l 33),o 35 (.call 26 [(t 32),(t 34)]),o 36 (b .andNot 31 35),o 4 (m 36)] [0,1,3,7,0,0,32,112,255,511]),
 .ret]) (q [(q [(.reg [o 38 (bc .eql 6 (n 5)),o 37 (m 38)]),
 (i 37 .skip (q [(.reg [o 39 (bc .eql 6 (n 6)),o 37 (m 39)]),
 (i 37 .skip (q [(.reg [o 40 (bc .eql 6 (n 7)),o 37 (m 40)]),
 (i 37 .skip (.reg [o 41 (bc .eql 6 (n 8)),o 37 (m 41)]))]))]))]),
 (i 37 (q [(.regd [o 42 (m 0),o 43 (f 0 3),o 44 (l 43),o 45 (m 0),o 46 (f 4 3),o 47 (l 46),o 48 (.call 26 [(t 45),(t 47)]),o 49 (m 0),o 50 (f 5 3),o 51 (l 50),o 52 (.call 26 [(t 49),(t 51)]),o 53 (.call 91 [(t 42),(t 44),(t 48),(t 52)]),o 4 (m 53)] [0,0,2,0,0,16,56,0,0,256,1016,2047,4095]),
 .ret]) (q [(.reg [o 55 (bc .eql 6 (n 9)),o 54 (m 55)]),
 (i 54 (q [(.regd [o 56 (m 0),o 57 (.nilck (t 56)),o 58 (f 0 57),o 59 (f 2 58),o 60 (l 59),o 61 (f 1 3),o 62 (l 61),o 63 (ia 1 60 62),o 64 (l 63),o 65 (m 0),o 66 (f 4 3),o 67 (l 66),o 68 (.call 26 [(t 65),(t 67)]),o 69 (.call 79 [(t 64),(t 68)]),o 4 (m 69)] [0,1,3,7,15,0,32,127,255,0,0,1024,3584,8191,16383]),
 .ret]) (q [(.reg [o 71 (bc .eql 6 (n 10)),o 70 (m 71)]),
 (i 70 (q [(.regd [o 72 (m 0),o 73 (.nilck (t 72)),o 74 (f 0 73),o 75 (f 2 74),o 76 (l 75),o 77 (f 1 3),o 78 (l 77),o 79 (ia 1 76 78),o 80 (l 79),o 81 (m 0),o 82 (f 4 3),o 83 (l 82),o 84 (.call 26 [(t 81),(t 83)]),o 85 (.call 80 [(t 80),(t 84)]),o 4 (m 85)] [0,1,3,7,15,0,32,127,255,0,0,1024,3584,8191,16383]),
 .ret]) (q [(.reg [o 87 (bc .eql 6 (n 11)),o 86 (m 87)]),
 (i 86 (q [(.regd [o 88 (m 0),o 89 (.nilck (t 88)),o 90 (f 0 89),o 91 (la 3 90),o 92 (f 3 3),o 93 (l 92),o 94 (.call 82 [(t 91),(t 93)]),o 95 (m 0),o 96 (f 4 3),o 97 (l 96),o 98 (.call 26 [(t 95),(t 97)]),o 99 (.call 79 [(t 94),(t 98)]),o 4 (m 99)] [0,1,3,7,0,16,63,0,0,256,1023,2047,4095]),
 .ret]) (q [(.reg [o 101 (bc .eql 6 (n 12)),o 100 (m 101)]),
 (i 100 (q [(.regd [o 102 (m 0),o 103 (.nilck (t 102)),o 104 (f 0 103),o 105 (la 3 104),o 106 (f 3 3),o 107 (l 106),o 108 (.call 81 [(t 105),(t 107)]),o 109 (m 0),o 110 (f 4 3),o 111 (l 110),o 112 (.call 26 [(t 109),(t 111)]),o 113 (.call 79 [(t 108),(t 112)]),o 4 (m 113)] [0,1,3,7,0,16,63,0,0,256,1023,2047,4095]),
 .ret]) (q [(.reg [o 115 (bc .eql 6 (n 13)),o 114 (m 115)]),
 (i 114 (q [(.regd [o 116 (m 0),o 117 (f 3 3),o 118 (l 117),o 119 (m 0),o 120 (f 4 3),o 121 (l 120),o 122 (.call 26 [(t 119),(t 121)]),o 123 (m 0),o 124 (f 5 3),o 125 (l 124),o 126 (.call 26 [(t 123),(t 125)]),o 127 (.call 92 [(t 116),(t 118),(t 122),(t 126)]),o 4 (m 127)] [0,0,2,0,0,16,56,0,0,256,1016,2047,4095]),
 .ret]) (q [(.reg [o 129 (bc .eql 6 (n 16)),o 128 (m 129)]),
 (i 128 (q [(.regd [o 130 (m 0),o 131 (m 0),o 132 (f 4 3),o 133 (l 132),o 134 (.call 26 [(t 131),(t 133)]),o 135 (f 5 3),o 136 (l 135),o 137 (.call 93 [(t 130),(t 134),(t 136)]),o 4 (m 137)] [0,0,0,4,14,0,32,127,255]),
 .ret]) .skip)]))]))]))]))]))]))]))]))]))]))]))]),
 (.regd [o 138 (m 0),o 139 (m 0),o 140 (.nilck (t 139)),o 141 (f 4 140),o 142 (l 141),o 143 (f 1 3),o 144 (l 143),o 145 (ia 3 142 144),o 146 (la 3 145),o 147 (f 2 3),o 148 (l 147),o 149 (f 4 3),o 150 (l 149),o 151 (.call 94 [(t 138),(t 146),(t 148),(t 150)]),o 4 (m 151)] [0,0,2,6,14,0,32,126,254,0,512,0,2048,8191,16383]),
 .ret])⟩
def zph:CFn:=⟨8,[.tmp 4],(q [(.reg [o 3 (.box 1 (t 1)),o 4 (.mv (c .bf))]),
 (.reg [o 5 (m 0),o 6 (.fnew zdi [(t 3)]),o 7 (.call 95 [(t 5),(t 6)]),o 4 (m 7)]),
 .ret])⟩
def zdR:CFn:=⟨9,[.tmp 4],(q [(.reg [o 4 (.mv (c .bf))]),
 (.reg [o 5 (m 0),o 6 (m 1),o 7 (.call 98 [(t 5),(t 6)]),o 8 (bc .geq 7 (n 0)),o 4 (m 8)]),
 .ret])⟩
def zpd:CFn:=⟨8,[.tmp 3],(q [(.reg [o 3 (.mv (c .bf))]),
 (.reg [o 4 (m 0),o 5 (f 0 1),o 6 (l 5),o 7 (.call 58 [(t 4),(t 6)]),o 3 (m 7)]),
 .ret])⟩
def zn5:CFn:=⟨31,[.cell 4 (some 3),.tmp 5,.tmp 6],(q [(.reg [o 2 (.box 3 (t 0)),o 4 (.alloc [(n 0),(.nils 1),(.nils 1)]),o 5 (.mv (c (.nils 1))),o 6 (.mv (c (n 0)))]),
 (q [(.reg [o 9 (la 3 2),o 10 (.call 27 [(t 9)]),o 7 (m 10)]),
 (.reg [o 11 (m 7),o 12 (bc .neq 11 (n 0))]),
 (i 12 (q [(.reg [o 13 (.build [(n 0),(.nils 1),(.nils 1)] []),o 14 (m 7),w (.store 3 (t 4) (t 13)),o 5 (.mv (c (.nils 1))),o 6 (m 14)]),
 .ret]) .skip)]),
 (q [(.reg [o 15 (m 1),o 16 (f 0 2),o 17 (l 16),o 18 (.call 97 [(t 17)]),o 19 (b .andNot 15 18),o 20 (bc .neq 19 (u 0))]),
 (i 20 (q [(.reg [o 21 (.build [(n 0),(.nils 1),(.nils 1)] []),w (.store 3 (t 4) (t 21)),o 5 (.mv (c (.nils 1))),o 6 (.mv (c (n 2)))]),
 .ret]) .skip)]),
 (q [(.reg [o 22 (m 1),o 23 (bc .eql 22 (u 0))]),
 (i 23 (q [(.reg [o 24 (.build [(n 0),(.nils 1),(.nils 1)] []),w (.store 3 (t 4) (t 24)),o 5 (.mv (c (.nils 1))),o 6 (.mv (c (n 6)))]),
 .ret]) .skip)]),
 (.reg [o 25 (m 1),o 26 (.call 99 [(t 25)]),o 8 (m 26)]),
 (.reg [o 27 (la 3 2),o 28 (m 8),o 29 (.call 100 [(t 27),(t 28)]),o 30 (m 8),w (.store 3 (t 4) (t 29)),o 5 (m 30),o 6 (.mv (c (n 0)))]),
 .ret])⟩
def zlG:CFn:=⟨8,[.tmp 2],(q [(.reg [o 2 (.mv (c (u 0)))]),
 (q [(.reg [o 3 (m 0),o 4 (bc .geq 3 (n 64))]),
 (i 4 (q [(.reg [o 2 (.mv (c (u 18446744073709551615)))]),
 .ret]) .skip)]),
 (.reg [o 5 (m 0),o 6 (.bin .shl (c (u 1)) (t 5)),o 7 (bc .sub 6 (u 1)),o 2 (m 7)]),
 .ret])⟩
def zrY:CFn:=⟨40,[.tmp 4],(q [(.reg [o 2 (.box 3 (t 0)),o 4 (.mv (c (n 0)))]),
 (q [(.reg [o 8 (la 3 2),o 9 (.call 27 [(t 8)]),o 10 (bc .neq 9 (n 0)),o 11 (m 10),g 12 11 false (m 1),g 13 11 false (bc .lss 12 (n 0)),o 14 (pt 11 13),o 15 (m 14),g 16 15 false (m 1),g 17 15 false (f 0 2),g 18 15 false (l 17),g 19 15 false (b .geq 16 18),o 20 (pt 15 19)]),
 (i 20 (q [(.reg [o 4 (.mv (c (n (-1))))]),
 .ret]) .skip)]),
 (.reg [o 5 (.mv (c (n 0)))]),
 (q [(.reg [o 21 (f 1 2),o 22 (l 21),o 23 (ln 22),o 24 (.mv (c (n 0)))]),
 (.block 0 (.loop (q [(.reg [o 25 (b .lss 24 23)]),
 (i 25 .skip (.exit 0)),
 (.block 1 (q [(.reg [o 26 (m 24),o 27 (ia 1 22 24),o 28 (l 27),o 6 (m 26),o 7 (m 28)]),
 (.reg [o 29 (m 5),o 30 (m 7),o 31 (m 1),o 32 (b .shr 30 31),o 33 (bc .and 32 (u 1)),o 34 (.conv .i64 (t 33)),o 35 (m 6),o 36 (b .shl 34 35),o 37 (b .or 29 36),o 5 (m 37)])])),
 (.reg [o 38 (bc .add 24 (n 1)),o 24 (m 38)])])))]),
 (.reg [o 39 (m 5),o 4 (m 39)]),
 .ret])⟩
def zll:CFn:=⟨36,[.tmp 2],(q [(.reg [o 2 (.mv (c (.nils 1)))]),
 (.reg [o 8 (m 0),o 9 (ln 8),o 10 (.mkslice 1 8 [(u 0)] (t 9) (t 9)),o 3 (m 10)]),
 (q [(.reg [o 11 (m 0),o 12 (ln 11),o 13 (.mv (c (n 0)))]),
 (.block 0 (.loop (q [(.reg [o 14 (b .lss 13 12)]),
 (i 14 .skip (.exit 0)),
 (.block 1 (q [(.reg [o 15 (m 13),o 16 (ia 1 11 13),o 17 (l 16),o 4 (m 15),o 5 (m 17)]),
 (.reg [o 18 (m 5),o 19 (.call 101 [(t 18)]),o 20 (ln 19),o 21 (.mv (c (n 0)))]),
 (.block 2 (.loop (q [(.reg [o 22 (b .lss 21 20)]),
 (i 22 .skip (.exit 2)),
 (.block 3 (q [(.reg [o 23 (ia 1 19 21),o 24 (l 23),o 7 (m 24)]),
 (.regd [o 25 (m 3),o 26 (m 7),o 27 (ia 1 25 26),o 28 (l 27),o 29 (m 4),o 30 (.bin .shl (c (u 1)) (t 29)),o 31 (b .or 28 30),o 32 (ia 1 25 26),w (.store 1 (t 32) (t 31))] [0,0,3,7,0,16,63,127,255])])),
 (.reg [o 33 (bc .add 21 (n 1)),o 21 (m 33)])])))])),
 (.reg [o 34 (bc .add 13 (n 1)),o 13 (m 34)])])))]),
 (.reg [o 35 (m 3),o 2 (m 35)]),
 .ret])⟩
def znb:CFn:=⟨45,[.tmp 4,.tmp 5],(q [(.reg [o 4 (.mv (c (.nils 1))),o 5 (.mv (c (n 0)))]),
 (.reg [o 13 (m 0),o 14 (.call 102 [(t 13)]),o 12 (m 14),o 15 (e 12 0),o 16 (e 12 1),o 6 (m 15),o 7 (m 16)]),
 (.block 0 (.loop (.block 1 (q [(.reg [o 17 (m 6),o 18 (ln 17),o 19 (.mkslice 1 24 [(.nils 1)] (t 18) (t 18)),o 8 (m 19)]),
 (q [(.reg [o 20 (m 8),o 21 (ln 20),o 22 (.mv (c (n 0)))]),
 (.block 2 (.loop (q [(.reg [o 23 (b .lss 22 21)]),
 (i 23 .skip (.exit 2)),
 (.block 3 (q [(.reg [o 24 (m 22),o 9 (m 24)]),
 (.reg [o 25 (m 8),o 26 (m 9),o 27 (m 1),o 28 (m 6),o 29 (m 9),o 30 (.callv (t 27) [(t 28),(t 29)]),o 31 (ia 1 25 26),w (.store 1 (t 31) (t 30))])])),
 (.reg [o 32 (bc .add 22 (n 1)),o 22 (m 32)])])))]),
 (.reg [o 34 (m 8),o 35 (.call 102 [(t 34)]),o 33 (m 35),o 36 (e 33 0),o 37 (e 33 1),o 10 (m 36),o 11 (m 37)]),
 (q [(.reg [o 38 (m 11),o 39 (m 7),o 40 (b .eql 38 39)]),
 (i 40 (q [(.reg [o 41 (m 6),o 42 (m 7),o 4 (m 41),o 5 (m 42)]),
 .ret]) .skip)]),
 (.reg [o 43 (m 10),o 44 (m 11),o 6 (m 43),o 7 (m 44)])]))))])⟩
def zlk:CFn:=⟨52,[.tmp 6],(q [(.reg [o 6 (.mv (c (.nils 1)))]),
 (.reg [o 12 (m 0),o 13 (m 1),o 14 (ia 1 12 13),o 15 (l 14),o 16 (.bslice 1 1 [(n 0)] [(0,(t 15))]),o 17 (.bslice 1 1 [(.nils 1)] [(0,(t 16))]),o 7 (m 17)]),
 (q [(.reg [o 18 (f 2 2),o 19 (l 18),o 20 (ln 19),o 21 (.mv (c (n 0)))]),
 (.block 0 (.loop (q [(.reg [o 22 (b .lss 21 20)]),
 (i 22 .skip (.exit 0)),
 (.block 1 (q [(.reg [o 23 (ia 1 19 21),o 24 (l 23),o 9 (m 24)]),
 (.reg [o 25 (m 7),o 26 (m 0),o 27 (m 9),o 28 (m 1),o 29 (ia 1 27 28),o 30 (l 29),o 31 (.call 67 [(t 26),(t 30)]),o 32 (.bslice 1 1 [(.nils 1)] [(0,(t 31))]),o 33 (.app 1 24 (t 25) (t 32)),o 7 (m 33)])])),
 (.reg [o 34 (bc .add 21 (n 1)),o 21 (m 34)])])))]),
 (q [(.reg [o 35 (l 3),o 36 (ln 35),o 37 (.mv (c (n 0)))]),
 (.block 2 (.loop (q [(.reg [o 38 (b .lss 37 36)]),
 (i 38 .skip (.exit 2)),
 (.block 3 (q [(.reg [o 39 (ia 1 35 37),o 40 (l 39),o 11 (m 40)]),
 (.reg [o 41 (m 7),o 42 (m 0),o 43 (m 11),o 44 (m 1),o 45 (ia 1 43 44),o 46 (l 45),o 47 (.call 67 [(t 42),(t 46)]),o 48 (.bslice 1 1 [(.nils 1)] [(0,(t 47))]),o 49 (.app 1 24 (t 41) (t 48)),o 7 (m 49)])])),
 (.reg [o 50 (bc .add 37 (n 1)),o 37 (m 50)])])))]),
 (.reg [o 51 (m 7),o 6 (m 51)]),
 .ret])⟩
def znd:CFn:=⟨26,[.tmp 4],(q [(.reg [o 4 (.mv (c (.nils 1)))]),
 (.reg [o 5 (.mv (c (.nils 1)))]),
 (q [(.reg [o 8 (m 1),o 9 (.call 101 [(t 8)]),o 10 (ln 9),o 11 (.mv (c (n 0)))]),
 (.block 0 (.loop (q [(.reg [o 12 (b .lss 11 10)]),
 (i 12 .skip (.exit 0)),
 (.block 1 (q [(.reg [o 13 (ia 1 9 11),o 14 (l 13),o 7 (m 14)]),
 (.reg [o 15 (m 5),o 16 (m 0),o 17 (m 7),o 18 (ia 1 16 17),o 19 (l 18),o 20 (.bslice 1 1 [(n 0)] [(0,(t 19))]),o 21 (.app 1 8 (t 15) (t 20)),o 5 (m 21)])])),
 (.reg [o 22 (bc .add 11 (n 1)),o 11 (m 22)])])))]),
 (.reg [o 23 (m 5),o 24 (.call 103 [(t 23)])]),
 (.reg [o 25 (m 5),o 4 (m 25)]),
 .ret])⟩
def zlm:CFn:=⟨66,[.tmp 8],(q [(.reg [o 8 (.mv (c .bf))]),
 (.reg [o 11 (l 0),o 12 (ln 11),o 9 (m 12)]),
 (q [(.reg [o 13 (m 9),o 14 (f 0 1),o 15 (l 14),o 16 (b .eql 13 15)]),
 (i 16 (q [(.regd [o 17 (l 2),o 18 (l 0),o 19 (.call 74 [(t 18)]),o 20 (.callv (t 17) [(t 19)]),o 8 (m 20)] [0,0,2,7,15]),
 .ret]) .skip)]),
 .skip,
 (q [(.reg [o 21 (f 0 3),o 22 (l 21),o 23 (.mv (c (n 0)))]),
 (.block 0 (.loop (q [(.reg [o 24 (b .lss 23 22)]),
 (i 24 .skip (.exit 0)),
 (.block 1 (q [(.reg [o 25 (m 23),o 10 (m 25)]),
 (q [(.regd [o 26 (l 4),o 27 (m 10),o 28 (b .shr 26 27),o 29 (bc .and 28 (u 1)),o 30 (bc .eql 29 (u 1)),o 31 (m 30),g 32 31 false (l 5),g 33 31 false (m 9),g 34 31 false (ia 1 32 33),g 35 31 false (l 34),g 36 31 false (l 6),g 37 31 false (m 10),g 38 31 false (ia 1 36 37),g 39 31 false (l 38),g 40 31 false (b .neq 35 39),o 41 (pt 31 40)] [0,0,3,7,15,31,63,63,255,511,63,63,3135,7231,16383,32767]),
 (i 41 (.exit 1) .skip)]),
 (.reg [o 42 (l 0),o 43 (m 10),o 44 (.bslice 1 1 [(n 0)] [(0,(t 43))]),o 45 (.app 1 8 (t 42) (t 44)),w (.store 1 (t 0) (t 45))]),
 (q [(.reg [o 46 (la 3 1),o 47 (la 3 3),o 48 (l 0),o 49 (m 9),o 50 (.call 40 [(t 46),(t 47),(t 48),(t 49)])]),
 (i 50 (q [(.regd [o 51 (l 4),o 52 (m 10),o 53 (.bin .shl (c (u 1)) (t 52)),o 54 (b .or 51 53),w (.store 1 (t 4) (t 54))] [0,0,2,7,15]),
 (q [(.reg [o 55 (l 7),o 56 (.callv (t 55) []),o 57 (.un .not (t 56))]),
 (i 57 (q [(.reg [o 8 (.mv (c .bf))]),
 .ret]) .skip)]),
 (.regd [o 58 (l 4),o 59 (m 10),o 60 (.bin .shl (c (u 1)) (t 59)),o 61 (b .andNot 58 60),w (.store 1 (t 4) (t 61))] [0,0,2,7,15])]) .skip)]),
 (.reg [o 62 (l 0),o 63 (m 9),o 64 (.slice 1 (t 62) none (some (t 63))),w (.store 1 (t 0) (t 64))])])),
 (.reg [o 65 (bc .add 23 (n 1)),o 23 (m 65)])])))]),
 (.reg [o 8 (.mv (c .bt))]),
 .ret])⟩
def zhU:CFn:=⟨8,[.tmp 2],(q [(.reg [o 2 (.mv (c (.nils 1)))]),
 (q [(.reg [o 3 (m 0),o 4 (.eqN false (t 3) (c (.nils 1)))]),
 (i 4 (q [(.reg [o 2 (.mv (c (.nils 1)))]),
 .ret]) .skip)]),
 (.reg [o 5 (.bslice 1 0 [(n 0)] []),o 6 (m 0),o 7 (.app 1 8 (t 5) (t 6)),o 2 (m 7)]),
 .ret])⟩
def zm9:CFn:=⟨25,[.tmp 6],(q [(.reg [o 6 (.mv (c .bf))]),
 (.reg [o 7 (m 0),o 8 (m 7),g 9 8 true (m 1),g 10 8 true (bc .geq 9 (n 0)),o 11 (pf 8 10),o 12 (m 11),g 13 12 true (m 1),g 14 12 true (m 2),g 15 12 true (b .lss 13 14),o 16 (pf 12 15),o 17 (m 16),g 18 17 false (m 0),g 19 17 false (.un .not (t 18)),g 20 17 false (m 19),g 21 20 true (m 1),g 22 20 true (bc .eql 21 (n 0)),g 23 17 false (pf 20 22),o 24 (pt 17 23),o 6 (m 24)]),
 .ret])⟩
def zjl:CFn:=⟨20,[.tmp 8],(q [(.reg [o 8 (.mv (c .bf))]),
 (.reg [o 9 (m 0),o 10 (m 9),g 11 10 true (m 1),g 12 10 true (m 2),g 13 10 true (b .lss 11 12),g 14 10 true (m 13),g 15 14 false (m 1),g 16 14 false (m 3),g 17 14 false (b .gtr 15 16),g 18 10 true (pt 14 17),o 19 (pf 10 18),o 8 (m 19)]),
 .ret])⟩
def zli:CFn:=⟨68,[.tmp 7],(q [(.reg [o 7 (.mv (c (n 0)))]),
 (q [(.reg [o 16 (l 1),o 17 (m 0),o 18 (.look (.int .i64) [(n 0)] (t 16) (t 17) true),o 15 (m 18),o 19 (e 15 0),o 20 (e 15 1),o 8 (m 19),o 9 (m 20)]),
 (.reg [o 21 (m 9)]),
 (i 21 (q [(.reg [o 22 (m 8),o 7 (m 22)]),
 .ret]) .skip)]),
 (.reg [o 23 (l 2),o 24 (m 0),o 25 (ia 6 23 24),o 26 (la 6 25),o 10 (.alloc [(n 0),(n 0),(n 0),(n 0),(n 0),(n 0)]),w (.store 6 (t 10) (t 26))]),
 (.reg [o 28 (f 0 10),o 29 (l 28),o 30 (.call 46 [(t 29)]),o 27 (m 30),o 31 (e 27 0),o 32 (e 27 1),o 11 (.alloc [.bf,.bf,.bf,.bf,.bf,.bf,(n 0)]),w (.store 7 (t 11) (t 31)),o 12 (m 32)]),
 (q [(.reg [o 33 (f 0 11),o 34 (l 33)]),
 (i 34 (.reg [o 35 (l 3),o 36 (f 4 10),o 37 (l 36),o 38 (.callv (t 35) [(t 37)]),o 39 (f 4 10),w (.store 1 (t 39) (t 38))]) .skip)]),
 (q [(.reg [o 40 (f 1 11),o 41 (l 40)]),
 (i 41 (.reg [o 42 (l 3),o 43 (f 5 10),o 44 (l 43),o 45 (.callv (t 42) [(t 44)]),o 46 (f 5 10),w (.store 1 (t 46) (t 45))]) .skip)]),
 (.reg [o 48 (l 4),o 49 (la 6 10),o 50 (.look (.agg [(.int .i64),(.int .i64),(.int .i64),(.int .i64),(.int .i64),(.int .i64)]) [(n 0)] (t 48) (t 49) true),o 47 (m 50),o 51 (e 47 0),o 52 (e 47 1),o 13 (m 51),o 14 (m 52)]),
 (q [(.reg [o 53 (m 14),o 54 (.un .not (t 53))]),
 (i 54 (q [(.reg [o 55 (l 5),o 56 (ln 55),o 13 (m 56)]),
 (.reg [o 57 (l 5),o 58 (la 6 10),o 59 (.bslice 6 1 [(n 0),(n 0),(n 0),(n 0),(n 0),(n 0)] [(0,(t 58))]),o 60 (.app 6 48 (t 57) (t 59)),w (.store 1 (t 5) (t 60))]),
 (.reg [o 61 (l 4),o 62 (la 6 10),o 63 (m 13),w (.mupd (.agg [(.int .i64),(.int .i64),(.int .i64),(.int .i64),(.int .i64),(.int .i64)]) (t 61) (t 62) (t 63))])]) .skip)]),
 (.reg [o 64 (l 1),o 65 (m 0),o 66 (m 13),w (.mupd (.int .i64) (t 64) (t 65) (t 66))]),
 (.reg [o 67 (m 13),o 7 (m 67)]),
 .ret])⟩
def zqp:CFn:=⟨30,[.tmp 4],(q [(.reg [o 4 (.mv (c (u 0)))]),
 (q [(.reg [o 7 (m 0),o 8 (ln 7),o 9 (m 0),o 10 (.call 107 [(t 8),(t 9)]),o 11 (bc .neq 10 (n 0))]),
 (i 11 (q [(.reg [o 4 (.mv (c (u 0)))]),
 .ret]) .skip)]),
 (.reg [o 5 (.mv (c (u 0)))]),
 (q [(.reg [o 12 (m 0),o 13 (ln 12),o 14 (.mv (c (n 0)))]),
 (.block 0 (.loop (q [(.reg [o 15 (b .lss 14 13)]),
 (i 15 .skip (.exit 0)),
 (.block 1 (q [(.reg [o 16 (m 14),o 6 (m 16)]),
 (.reg [o 17 (m 0),o 18 (m 6),o 19 (ia 1 17 18),o 20 (l 19),o 21 (m 1),o 22 (b .andNot 20 21),o 23 (bc .eql 22 (u 0))]),
 (i 23 (.reg [o 24 (m 5),o 25 (m 6),o 26 (.bin .shl (c (u 1)) (t 25)),o 27 (b .or 24 26),o 5 (m 27)]) .skip)])),
 (.reg [o 28 (bc .add 14 (n 1)),o 14 (m 28)])])))]),
 (.reg [o 29 (m 5),o 4 (m 29)]),
 .ret])⟩
def zlF:CFn:=⟨18,[.tmp 4],(q [(.reg [o 4 (.mv (c (u 0)))]),
 (q [(.reg [o 5 (m 0),o 6 (ln 5),o 7 (m 0),o 8 (.call 107 [(t 6),(t 7)]),o 9 (bc .neq 8 (n 0))]),
 (i 9 (q [(.reg [o 4 (.mv (c (u 0)))]),
 .ret]) .skip)]),
 (.reg [o 10 (m 0),o 11 (ln 10),o 12 (.call 108 [(t 11)]),o 13 (m 0),o 14 (m 1),o 15 (.un .xor (t 14)),o 16 (.call 79 [(t 13),(t 15)]),o 17 (b .andNot 12 16),o 4 (m 17)]),
 .ret])⟩
def zsI:CFn:=⟨8,[.tmp 4],(q [(.reg [o 2 (.box 3 (t 0)),o 4 (.mv (c (.nils 1)))]),
 (.reg [o 5 (la 3 2),o 6 (m 1),o 7 (.call 109 [(t 5),(t 6),(c (.fn zgk []))]),o 4 (m 7)]),
 .ret])⟩
def zrZ:CFn:=⟨8,[.tmp 4],(q [(.reg [o 2 (.box 3 (t 0)),o 4 (.mv (c (.nils 1)))]),
 (.reg [o 5 (la 3 2),o 6 (m 1),o 7 (.call 109 [(t 5),(t 6),(c (.fn zfU []))]),o 4 (m 7)]),
 .ret])⟩
def znY:CFn:=⟨26,[.tmp 8],(q [(.reg [o 8 (.mv (c (u 0)))]),
 (.reg [o 11 (m 1),o 9 (m 11)]),
 (.block 0 (.loop (.block 1 (q [(.reg [o 12 (m 0),o 13 (m 1),o 14 (m 2),o 15 (b .andNot 13 14),o 16 (m 3),o 17 (m 9),o 18 (b .and 16 17),o 19 (b .or 15 18),o 20 (.call 79 [(t 12),(t 19)]),o 10 (m 20)]),
 (q [(.reg [o 21 (m 10),o 22 (m 9),o 23 (b .eql 21 22)]),
 (i 23 (q [(.reg [o 24 (m 9),o 8 (m 24)]),
 .ret]) .skip)]),
 (.reg [o 25 (m 10),o 9 (m 25)])]))))])⟩
def zo9:CFn:=⟨31,[.tmp 4],(q [(.reg [o 4 (.mv (c (n 0)))]),
 (.reg [o 5 (.mv (c (n 0)))]),
 (q [(.reg [o 10 (m 0),o 11 (.call 24 [(t 10)]),o 12 (ln 11),o 13 (.mv (c (n 0)))]),
 (.block 0 (.loop (q [(.reg [o 14 (b .lss 13 12)]),
 (i 14 .skip (.exit 0)),
 (.block 1 (q [(.reg [o 15 (ia 6 11 13),o 16 (la 6 15),o 7 (.alloc [(n 0),(n 0),(n 0),(n 0),(n 0),(n 0)]),w (.store 6 (t 7) (t 16))]),
 (.reg [o 18 (f 0 7),o 19 (l 18),o 20 (.call 46 [(t 19)]),o 17 (m 20),o 21 (e 17 0),o 22 (e 17 1),o 8 (.alloc [.bf,.bf,.bf,.bf,.bf,.bf,(n 0)]),w (.store 7 (t 8) (t 21)),o 9 (m 22)]),
 (.reg [o 23 (m 5),o 24 (m 1),o 25 (la 6 7),o 26 (la 7 8),o 27 (.callv (t 24) [(t 25),(t 26)]),o 28 (b .or 23 27),o 5 (m 28)])])),
 (.reg [o 29 (bc .add 13 (n 1)),o 13 (m 29)])])))]),
 (.reg [o 30 (m 5),o 4 (m 30)]),
 .ret])⟩
def zm7:CFn:=⟨7,[.tmp 4],(q [(.reg [o 2 (.box 6 (t 0)),o 3 (.box 7 (t 1)),o 4 (.mv (c (n 0)))]),
 (.reg [o 5 (f 6 3),o 6 (l 5),o 4 (m 6)]),
 .ret])⟩
def zn1:CFn:=⟨14,[.tmp 4],(q [(.reg [o 4 (.mv (c .bf))]),
 (.reg [o 5 (m 1),o 6 (bc .geq 5 (n 31)),o 7 (m 6),g 8 7 false (m 0),g 9 7 false (m 1),g 10 7 false (.mm true (t 9) (c (n 0))),g 11 7 false (b .shr 8 10),g 12 7 false (bc .eql 11 (n 0)),o 13 (pt 7 12),o 4 (m 13)]),
 .ret])⟩
def zn0:CFn:=⟨5,[.tmp 2],(q [(.reg [o 2 (.mv (c (n 0)))]),
 (.reg [o 3 (m 0),o 4 (.call 85 [(t 3),(c (.fn zep []))]),o 2 (m 4)]),
 .ret])⟩
def zo6:CFn:=⟨5,[.tmp 2],(q [(.reg [o 2 (.mv (c (n 0)))]),
 (.reg [o 3 (m 0),o 4 (.call 85 [(t 3),(c (.fn zeS []))]),o 2 (m 4)]),
 .ret])⟩
def zdZ:CFn:=⟨19,[.tmp 4],(q [(.reg [o 4 (.mv (c (n 0)))]),
 (q [(.reg [o 6 (m 0),o 7 (ln 6),o 8 (.mv (c (n 0)))]),
 (.block 0 (.loop (q [(.reg [o 9 (b .lss 8 7)]),
 (i 9 .skip (.exit 0)),
 (.block 1 (q [(.reg [o 10 (m 8),o 5 (m 10)]),
 (.reg [o 11 (m 1),o 12 (m 0),o 13 (m 5),o 14 (ia 6 12 13),o 15 (la 6 14),o 16 (.callv (t 11) [(t 15)])]),
 (i 16 (q [(.reg [o 17 (m 5),o 4 (m 17)]),
 .ret]) .skip)])),
 (.reg [o 18 (bc .add 8 (n 1)),o 8 (m 18)])])))]),
 (.reg [o 4 (.mv (c (n (-1))))]),
 .ret])⟩
def zfC:CFn:=⟨38,[.tmp 8],(q [(.reg [o 8 (.mv (c (u 0)))]),
 (q [(.reg [o 9 (m 1)]),
 (.block 0 (q [(.reg [o 11 (bc .eql 9 (n 5)),o 10 (m 11)]),
 (i 10 (q [(.reg [o 12 (m 2),o 13 (m 3),o 14 (b .and 12 13),o 8 (m 14)]),
 .ret]) (q [(.reg [o 16 (bc .eql 9 (n 6)),o 15 (m 16)]),
 (i 15 (q [(.reg [o 17 (m 2),o 18 (m 3),o 19 (b .or 17 18),o 8 (m 19)]),
 .ret]) (q [(.reg [o 21 (bc .eql 9 (n 7)),o 20 (m 21)]),
 (i 20 (q [(.reg [o 22 (m 0),o 23 (.nilck (t 22)),o 24 (f 3 23),o 25 (l 24),o 26 (m 2),o 27 (b .andNot 25 26),o 28 (m 3),o 29 (b .or 27 28),o 8 (m 29)]),
 .ret]) .skip)]))]))]))]),
 (.reg [o 30 (m 0),o 31 (.nilck (t 30)),o 32 (f 3 31),o 33 (l 32),o 34 (m 2),o 35 (m 3),o 36 (b .xor 34 35),o 37 (b .andNot 33 36),o 8 (m 37)]),
 .ret])⟩
def zfM:CFn:=⟨39,[.tmp 8],(q [(.reg [o 8 (.mv (c (u 0)))]),
 (.reg [o 12 (m 0),o 13 (.nilck (t 12)),o 14 (f 0 13),o 15 (la 3 14),o 16 (m 1),o 17 (.call 82 [(t 15),(t 16)]),o 9 (m 17)]),
 (.reg [o 18 (m 0),o 19 (.nilck (t 18)),o 20 (f 3 19),o 21 (l 20),o 10 (m 21)]),
 (.block 0 (.loop (.block 1 (q [(.reg [o 22 (m 9),o 23 (m 0),o 24 (.nilck (t 23)),o 25 (f 3 24),o 26 (l 25),o 27 (m 2),o 28 (b .andNot 26 27),o 29 (m 3),o 30 (m 10),o 31 (b .and 29 30),o 32 (b .or 28 31),o 33 (.call 79 [(t 22),(t 32)]),o 11 (m 33)]),
 (q [(.reg [o 34 (m 11),o 35 (m 10),o 36 (b .eql 34 35)]),
 (i 36 (q [(.reg [o 37 (m 10),o 8 (m 37)]),
 .ret]) .skip)]),
 (.reg [o 38 (m 11),o 10 (m 38)])]))))])⟩
def zeZ:CFn:=⟨58,[.tmp 6],(q [(.reg [o 6 (.mv (c (u 0)))]),
 (q [(.reg [o 14 (m 1),o 15 (bc .eql 14 (u 0))]),
 (i 15 (q [(.reg [o 16 (m 0),o 17 (.nilck (t 16)),o 18 (f 3 17),o 19 (l 18),o 6 (m 19)]),
 .ret]) .skip)]),
 (.reg [o 21 (m 0),o 22 (.nilck (t 21)),o 23 (f 0 22),o 24 (la 3 23),o 25 (m 1),o 26 (.call 61 [(t 24),(t 25)]),o 20 (m 26),o 27 (e 20 0),o 28 (e 20 1),o 29 (e 20 2),o 7 (.alloc [(n 0),(.nils 1),(.nils 1)]),w (.store 3 (t 7) (t 27)),o 8 (m 28),o 9 (m 29)]),
 (.reg [o 30 (m 0),o 31 (la 3 7),o 32 (.call 25 [(t 30),(t 31)]),o 33 (m 2),o 34 (.call 26 [(t 32),(t 33)]),o 10 (m 34)]),
 (.reg [o 35 (m 0),o 36 (.nilck (t 35)),o 37 (f 3 36),o 38 (l 37),o 39 (m 1),o 40 (b .andNot 38 39),o 11 (m 40)]),
 (q [(.reg [o 41 (m 8),o 42 (ln 41),o 43 (.mv (c (n 0)))]),
 (.block 0 (.loop (q [(.reg [o 44 (b .lss 43 42)]),
 (i 44 .skip (.exit 0)),
 (.block 1 (q [(.reg [o 45 (m 43),o 46 (ia 1 41 43),o 47 (l 46),o 12 (m 45),o 13 (m 47)]),
 (.reg [o 48 (m 11),o 49 (m 10),o 50 (m 12),o 51 (b .shr 49 50),o 52 (bc .and 51 (u 1)),o 53 (m 13),o 54 (b .shl 52 53),o 55 (b .or 48 54),o 11 (m 55)])])),
 (.reg [o 56 (bc .add 43 (n 1)),o 43 (m 56)])])))]),
 (.reg [o 57 (m 11),o 6 (m 57)]),
 .ret])⟩
def zee:CFn:=⟨9,[.tmp 4],(q [(.reg [o 4 (.mv (c .bf))]),
 (.reg [o 5 (m 0),o 6 (m 1),o 7 (.call 118 [(t 5),(t 6)]),o 8 (bc .geq 7 (n 0)),o 4 (m 8)]),
 .ret])⟩
def zne:CFn:=⟨9,[.tmp 3],(q [(.reg [o 3 (.mv (c .bf))]),
 (.reg [o 4 (m 0),o 5 (l 1),o 6 (.call 97 [(t 5)]),o 7 (b .andNot 4 6),o 8 (bc .neq 7 (u 0)),o 3 (m 8)]),
 .ret])⟩
def zt9:CFn:=⟨8,[.tmp 2],(q [(.reg [o 2 (.mv (c (u 0)))]),
 (q [(.reg [o 3 (m 0),o 4 (bc .geq 3 (n 64))]),
 (i 4 (q [(.reg [o 2 (.mv (c (u 18446744073709551615)))]),
 .ret]) .skip)]),
 (.reg [o 5 (m 0),o 6 (.bin .shl (c (u 1)) (t 5)),o 7 (bc .sub 6 (u 1)),o 2 (m 7)]),
 .ret])⟩
def zel:CFn:=⟨19,[.tmp 4],(q [(.reg [o 4 (.mv (c (n 0)))]),
 (q [(.reg [o 6 (m 0),o 7 (ln 6),o 8 (.mv (c (n 0)))]),
 (.block 0 (.loop (q [(.reg [o 9 (b .lss 8 7)]),
 (i 9 .skip (.exit 0)),
 (.block 1 (q [(.reg [o 10 (m 8),o 5 (m 10)]),
 (.reg [o 11 (m 1),o 12 (m 0),o 13 (m 5),o 14 (ia 1 12 13),o 15 (l 14),o 16 (.callv (t 11) [(t 15)])]),
 (i 16 (q [(.reg [o 17 (m 5),o 4 (m 17)]),
 .ret]) .skip)])),
 (.reg [o 18 (bc .add 8 (n 1)),o 8 (m 18)])])))]),
 (.reg [o 4 (.mv (c (n (-1))))]),
 .ret])⟩
def zpg:CFn:=⟨16,[.tmp 2],(q [(.reg [o 2 (.mv (c (.nils 1)))]),
 (.reg [o 3 (.mv (c (.nils 1)))]),
 (.block 0 (.loop (q [(q [(.reg [o 4 (m 0),o 5 (bc .neq 4 (u 0))]),
 (i 5 .skip (.exit 0))]),
 (.block 1 (.reg [o 10 (m 3),o 11 (m 0),o 12 (.call 104 [(t 11)]),o 13 (.bslice 1 1 [(n 0)] [(0,(t 12))]),o 14 (.app 1 8 (t 10) (t 13)),o 3 (m 14)])),
 (.reg [o 6 (m 0),o 7 (m 0),o 8 (bc .sub 7 (u 1)),o 9 (b .and 6 8),o 0 (m 9)])]))),
 (.reg [o 15 (m 3),o 2 (m 15)]),
 .ret])⟩
def zpf:CFn:=⟨63,[.cell 4 (some 3)],(q [(.reg [o 2 (.box 3 (t 0)),o 4 (.alloc [(n 0),(.nils 1),(.nils 1)])]),
 (.reg [o 13 (m 1),o 14 (ln 13),o 15 (.build [(n 0),(.nils 1),(.nils 1)] [(0,1,(t 14))]),o 5 (.alloc [(n 0),(.nils 1),(.nils 1)]),w (.store 3 (t 5) (t 15))]),
 (q [(.reg [o 16 (f 1 2),o 17 (l 16),o 18 (ln 17),o 19 (.mv (c (n 0)))]),
 (.block 0 (.loop (q [(.reg [o 20 (b .lss 19 18)]),
 (i 20 .skip (.exit 0)),
 (.block 1 (q [(.reg [o 21 (ia 1 17 19),o 22 (l 21),o 7 (m 22)]),
 (.regd [o 23 (f 1 5),o 24 (l 23),o 25 (m 7),o 26 (m 1),o 27 (.call 119 [(t 25),(t 26)]),o 28 (.bslice 1 1 [(u 0)] [(0,(t 27))]),o 29 (.app 1 8 (t 24) (t 28)),o 30 (f 1 5),w (.store 1 (t 30) (t 29))] [0,1,0,0,12,28,63,127,255])])),
 (.reg [o 31 (bc .add 19 (n 1)),o 19 (m 31)])])))]),
 (q [(.reg [o 32 (f 2 2),o 33 (l 32),o 34 (ln 33),o 35 (.mv (c (n 0)))]),
 (.block 2 (.loop (q [(.reg [o 36 (b .lss 35 34)]),
 (i 36 .skip (.exit 2)),
 (.block 3 (q [(.reg [o 37 (ia 1 33 35),o 38 (l 37),o 9 (m 38)]),
 (.reg [o 10 (.mv (c (.nils 1)))]),
 (q [(.reg [o 39 (m 1),o 40 (ln 39),o 41 (.mv (c (n 0)))]),
 (.block 4 (.loop (q [(.reg [o 42 (b .lss 41 40)]),
 (i 42 .skip (.exit 4)),
 (.block 5 (q [(.reg [o 43 (ia 1 39 41),o 44 (l 43),o 12 (m 44)]),
 (.reg [o 45 (m 10),o 46 (m 9),o 47 (m 12),o 48 (ia 1 46 47),o 49 (l 48),o 50 (m 1),o 51 (.call 119 [(t 49),(t 50)]),o 52 (.bslice 1 1 [(u 0)] [(0,(t 51))]),o 53 (.app 1 8 (t 45) (t 52)),o 10 (m 53)])])),
 (.reg [o 54 (bc .add 41 (n 1)),o 41 (m 54)])])))]),
 (.reg [o 55 (f 2 5),o 56 (l 55),o 57 (m 10),o 58 (.bslice 1 1 [(.nils 1)] [(0,(t 57))]),o 59 (.app 1 24 (t 56) (t 58)),o 60 (f 2 5),w (.store 1 (t 60) (t 59))])])),
 (.reg [o 61 (bc .add 35 (n 1)),o 35 (m 61)])])))]),
 (.reg [o 62 (la 3 5),w (.store 3 (t 4) (t 62))]),
 .ret])⟩
def zlC:CFn:=⟨16,[.tmp 2],(q [(.reg [o 2 (.mv (c (.nils 1)))]),
 (.reg [o 3 (.mv (c (.nils 1)))]),
 (.block 0 (.loop (q [(q [(.reg [o 4 (m 0),o 5 (bc .neq 4 (u 0))]),
 (i 5 .skip (.exit 0))]),
 (.block 1 (.reg [o 10 (m 3),o 11 (m 0),o 12 (.call 104 [(t 11)]),o 13 (.bslice 1 1 [(n 0)] [(0,(t 12))]),o 14 (.app 1 8 (t 10) (t 13)),o 3 (m 14)])),
 (.reg [o 6 (m 0),o 7 (m 0),o 8 (bc .sub 7 (u 1)),o 9 (b .and 6 8),o 0 (m 9)])]))),
 (.reg [o 15 (m 3),o 2 (m 15)]),
 .ret])⟩
def zn4:CFn:=⟨37,[.tmp 2,.tmp 3],(q [(.reg [o 2 (.mv (c (.nils 1))),o 3 (.mv (c (n 0)))]),
 (.reg [o 8 (m 0),o 9 (.call 120 [(t 8)]),o 4 (m 9)]),
 (.reg [o 10 (m 4),o 11 (.call 121 [(t 10),(c (.fn zU []))])]),
 (.reg [o 12 (m 4),o 13 (.call 123 [(t 12),(c (.fn zcQ []))]),o 4 (m 13)]),
 (.reg [o 14 (m 0),o 15 (ln 14),o 16 (.mkslice 1 8 [(n 0)] (t 15) (t 15)),o 5 (m 16)]),
 (q [(.reg [o 17 (m 0),o 18 (ln 17),o 19 (.mv (c (n 0)))]),
 (.block 0 (.loop (q [(.reg [o 20 (b .lss 19 18)]),
 (i 20 .skip (.exit 0)),
 (.block 1 (q [(.reg [o 21 (m 19),o 22 (ia 1 17 19),o 23 (l 22),o 6 (m 21),o 7 (m 23)]),
 (.reg [o 25 (m 5),o 26 (m 6),o 27 (m 4),o 28 (m 7),o 29 (.call 125 [(t 27),(t 28),(c (.fn zU []))]),o 24 (m 29),o 30 (e 24 0),o 31 (e 24 1),o 32 (ia 1 25 26),w (.store 1 (t 32) (t 30))])])),
 (.reg [o 33 (bc .add 19 (n 1)),o 19 (m 33)])])))]),
 (.reg [o 34 (m 5),o 35 (m 4),o 36 (ln 35),o 2 (m 34),o 3 (m 36)]),
 .ret])⟩
def zis:CFn:=⟨11,[],(q [(.reg [o 3 (m 0),o 4 (ln 3),o 2 (m 4)]),
 (.reg [o 5 (m 0),o 6 (m 2),o 7 (m 2),o 8 (.conv .u64 (t 7)),o 9 (.call 127 [(t 8)]),o 10 (.call 126 [(t 5),(c (n 0)),(t 6),(t 9)])])])⟩
def zn6:CFn:=⟨29,[.tmp 4],(q [(.reg [o 4 (.mv (c (n 0)))]),
 (q [(.reg [o 7 (m 0),o 8 (bc .lss 7 (n 0)),o 9 (m 8),g 10 9 false (m 0),g 11 9 false (bc .gtr 10 (n 64)),o 12 (pt 9 11)]),
 (i 12 (q [(.reg [o 4 (.mv (c (n 2)))]),
 .ret]) .skip)]),
 (q [(.reg [o 13 (m 1),o 14 (ln 13),o 15 (m 0),o 16 (b .neq 14 15)]),
 (i 16 (q [(.reg [o 4 (.mv (c (n 3)))]),
 .ret]) .skip)]),
 (q [(.reg [o 17 (m 1),o 18 (ln 17),o 19 (.mv (c (n 0)))]),
 (.block 0 (.loop (q [(.reg [o 20 (b .lss 19 18)]),
 (i 20 .skip (.exit 0)),
 (.block 1 (q [(.reg [o 21 (ia 1 17 19),o 22 (l 21),o 6 (m 22)]),
 (.reg [o 23 (m 6),o 24 (m 0),o 25 (.call 108 [(t 24)]),o 26 (b .andNot 23 25),o 27 (bc .neq 26 (u 0))]),
 (i 27 (q [(.reg [o 4 (.mv (c (n 1)))]),
 .ret]) .skip)])),
 (.reg [o 28 (bc .add 19 (n 1)),o 19 (m 28)])])))]),
 (.reg [o 4 (.mv (c (n 0)))]),
 .ret])⟩
def zqq:CFn:=⟨8,[.tmp 2],(q [(.reg [o 2 (.mv (c (u 0)))]),
 (q [(.reg [o 3 (m 0),o 4 (bc .geq 3 (n 64))]),
 (i 4 (q [(.reg [o 2 (.mv (c (u 18446744073709551615)))]),
 .ret]) .skip)]),
 (.reg [o 5 (m 0),o 6 (.bin .shl (c (u 1)) (t 5)),o 7 (bc .sub 6 (u 1)),o 2 (m 7)]),
 .ret])⟩
def zqn:CFn:=⟨64,[.tmp 6],(q [(.reg [o 3 (.box 3 (t 0)),o 6 (.mv (c (.nils 1)))]),
 (q [(.reg [o 11 (la 3 3),o 12 (.call 27 [(t 11)]),o 13 (bc .neq 12 (n 0)),o 14 (m 13),g 15 14 false (m 1),g 16 14 false (bc .lss 15 (n 1)),o 17 (pt 14 16),o 18 (m 17),g 19 18 false (m 1),g 20 18 false (f 2 3),g 21 18 false (l 20),g 22 18 false (ln 21),g 23 18 false (.bin .shl (c (n 1)) (t 22)),g 24 18 false (b .geq 19 23),o 25 (pt 18 24)]),
 (i 25 (q [(.reg [o 6 (.mv (c (.nils 1)))]),
 .ret]) .skip)]),
 (.reg [o 7 (.mv (c (.nils 1)))]),
 (q [(.reg [o 26 (f 2 3),o 27 (l 26),o 28 (ln 27),o 29 (.mv (c (n 0)))]),
 (.block 0 (.loop (q [(.reg [o 30 (b .lss 29 28)]),
 (i 30 .skip (.exit 0)),
 (.block 1 (q [(.reg [o 31 (m 29),o 32 (ia 1 27 29),o 33 (l 32),o 8 (m 31),o 9 (m 33)]),
 (q [(.reg [o 34 (m 1),o 35 (m 8),o 36 (b .shr 34 35),o 37 (bc .and 36 (n 1)),o 38 (bc .eql 37 (n 0))]),
 (i 38 (.exit 1) .skip)]),
 (q [(.reg [o 39 (m 7),o 40 (.eqN false (t 39) (c (.nils 1)))]),
 (i 40 (q [(.reg [o 41 (m 9),o 42 (.call 128 [(t 41)]),o 7 (m 42)]),
 (.exit 1)]) .skip)]),
 (.reg [o 43 (m 7),o 44 (ln 43),o 45 (.mv (c (n 0)))]),
 (.block 2 (.loop (q [(.reg [o 46 (b .lss 45 44)]),
 (i 46 .skip (.exit 2)),
 (.block 3 (q [(.reg [o 47 (m 45),o 10 (m 47)]),
 (.regd [o 48 (m 7),o 49 (m 10),o 50 (m 2),o 51 (m 7),o 52 (m 10),o 53 (ia 1 51 52),o 54 (l 53),o 55 (m 9),o 56 (m 10),o 57 (ia 1 55 56),o 58 (l 57),o 59 (.callv (t 50) [(t 54),(t 58)]),o 60 (ia 1 48 49),w (.store 1 (t 60) (t 59))] [0,0,0,0,0,24,56,0,0,384,896,2044,4095,8191])])),
 (.reg [o 61 (bc .add 45 (n 1)),o 45 (m 61)])])))])),
 (.reg [o 62 (bc .add 29 (n 1)),o 29 (m 62)])])))]),
 (.reg [o 63 (m 7),o 6 (m 63)]),
 .ret])⟩
def zqm:CFn:=⟨8,[.tmp 4],(q [(.reg [o 4 (.mv (c (u 0)))]),
 (.reg [o 5 (m 0),o 6 (m 1),o 7 (b .and 5 6),o 4 (m 7)]),
 .ret])⟩
def zpe:CFn:=⟨8,[.tmp 4],(q [(.reg [o 4 (.mv (c (u 0)))]),
 (.reg [o 5 (m 0),o 6 (m 1),o 7 (b .or 5 6),o 4 (m 7)]),
 .ret])⟩
def zlA:CFn:=⟨12,[.tmp 4],(q [(.reg [o 2 (.box 6 (t 0)),o 3 (.box 7 (t 1)),o 4 (.mv (c (n 0)))]),
 (q [(.reg [o 5 (f 3 3),o 6 (l 5)]),
 (i 6 (q [(.reg [o 7 (f 1 2),o 8 (l 7),o 9 (.bin .shl (c (n 1)) (t 8)),o 4 (m 9)]),
 .ret]) .skip)]),
 (.reg [o 10 (f 3 2),o 11 (l 10),o 4 (m 11)]),
 .ret])⟩
def zm6:CFn:=⟨10,[.tmp 4],(q [(.reg [o 2 (.box 6 (t 0)),o 3 (.box 7 (t 1)),o 4 (.mv (c (n 0)))]),
 (q [(.reg [o 5 (f 2 3),o 6 (l 5)]),
 (i 6 (q [(.reg [o 7 (f 1 2),o 8 (l 7),o 9 (.bin .shl (c (n 1)) (t 8)),o 4 (m 9)]),
 .ret]) .skip)]),
 (.reg [o 4 (.mv (c (n 0)))]),
 .ret])⟩
def zeQ:CFn:=⟨19,[.tmp 4],(q [(.reg [o 4 (.mv (c (n 0)))]),
 (q [(.reg [o 6 (m 0),o 7 (ln 6),o 8 (.mv (c (n 0)))]),
 (.block 0 (.loop (q [(.reg [o 9 (b .lss 8 7)]),
 (i 9 .skip (.exit 0)),
 (.block 1 (q [(.reg [o 10 (m 8),o 5 (m 10)]),
 (.reg [o 11 (m 1),o 12 (m 0),o 13 (m 5),o 14 (ia 1 12 13),o 15 (l 14),o 16 (.callv (t 11) [(t 15)])]),
 (i 16 (q [(.reg [o 17 (m 5),o 4 (m 17)]),
 .ret]) .skip)])),
 (.reg [o 18 (bc .add 8 (n 1)),o 8 (m 18)])])))]),
 (.reg [o 4 (.mv (c (n (-1))))]),
 .ret])⟩
def zsJ:CFn:=⟨25,[.tmp 4],(q [(.reg [o 4 (.mv (c (u 0)))]),
 (.reg [o 5 (.mv (c (u 0)))]),
 (q [(.reg [o 8 (m 1),o 9 (ln 8),o 10 (.mv (c (n 0)))]),
 (.block 0 (.loop (q [(.reg [o 11 (b .lss 10 9)]),
 (i 11 .skip (.exit 0)),
 (.block 1 (q [(.reg [o 12 (m 10),o 13 (ia 1 8 10),o 14 (l 13),o 6 (m 12),o 7 (m 14)]),
 (.reg [o 15 (m 5),o 16 (m 0),o 17 (m 7),o 18 (b .shr 16 17),o 19 (bc .and 18 (u 1)),o 20 (m 6),o 21 (b .shl 19 20),o 22 (b .or 15 21),o 5 (m 22)])])),
 (.reg [o 23 (bc .add 10 (n 1)),o 10 (m 23)])])))]),
 (.reg [o 24 (m 5),o 4 (m 24)]),
 .ret])⟩
def zcD:CFn:=⟨8,[.tmp 2],(q [(.reg [o 2 (.mv (c (.nils 1)))]),
 (q [(.reg [o 3 (m 0),o 4 (.eqN false (t 3) (c (.nils 1)))]),
 (i 4 (q [(.reg [o 2 (.mv (c (.nils 1)))]),
 .ret]) .skip)]),
 (.reg [o 5 (.bslice 1 0 [(.nils 1)] []),o 6 (m 0),o 7 (.app 1 24 (t 5) (t 6)),o 2 (m 7)]),
 .ret])⟩
def zch:CFn:=⟨14,[],(q [(.reg [o 5 (m 0),o 6 (ln 5),o 4 (m 6)]),
 (.reg [o 7 (m 0),o 8 (m 4),o 9 (m 4),o 10 (.conv .u64 (t 9)),o 11 (.call 127 [(t 10)]),o 12 (m 1),o 13 (.call 136 [(t 7),(c (n 0)),(t 8),(t 11),(t 12)])])])⟩
def zn3:CFn:=⟨8,[.tmp 4],(q [(.reg [o 4 (.mv (c (n 0)))]),
 (.reg [o 5 (m 0),o 6 (m 1),o 7 (.call 137 [(t 5),(t 6),(c (.fn zbR []))]),o 4 (m 7)]),
 .ret])⟩
def zb1:CFn:=⟨66,[.tmp 4],(q [(.reg [o 4 (.mv (c (.nils 1)))]),
 (q [(.reg [o 8 (m 0),o 9 (ln 8),o 10 (bc .lss 9 (n 2))]),
 (i 10 (q [(.reg [o 11 (m 0),o 4 (m 11)]),
 .ret]) .skip)]),
 (q [(.reg [o 5 (.mv (c (n 1)))]),
 (.block 0 (.loop (q [(q [(.reg [o 12 (m 5),o 13 (m 0),o 14 (ln 13),o 15 (b .lss 12 14)]),
 (i 15 .skip (.exit 0))]),
 (.block 1 (q [(.regd [o 18 (m 1),o 19 (m 0),o 20 (m 5),o 21 (ia 1 19 20),o 22 (l 21),o 23 (m 0),o 24 (m 5),o 25 (bc .sub 24 (n 1)),o 26 (ia 1 23 25),o 27 (l 26),o 28 (.callv (t 18) [(t 22),(t 27)])] [0,0,0,6,14,0,0,64,224,480,1023]),
 (i 28 (q [(.reg [o 29 (m 0),o 30 (m 5),o 31 (.slice 1 (t 29) (some (t 30)) none),o 6 (m 31)]),
 (q [(.reg [o 7 (.mv (c (n 1)))]),
 (.block 2 (.loop (q [(q [(.reg [o 32 (m 7),o 33 (m 6),o 34 (ln 33),o 35 (b .lss 32 34)]),
 (i 35 .skip (.exit 2))]),
 (.block 3 (q [(.regd [o 38 (m 1),o 39 (m 6),o 40 (m 7),o 41 (ia 1 39 40),o 42 (l 41),o 43 (m 6),o 44 (m 7),o 45 (bc .sub 44 (n 1)),o 46 (ia 1 43 45),o 47 (l 46),o 48 (.callv (t 38) [(t 42),(t 47)]),o 49 (.un .not (t 48))] [0,0,0,6,14,0,0,64,224,480,1023,2047]),
 (i 49 (q [(.reg [o 50 (m 0),o 51 (m 5),o 52 (m 6),o 53 (m 7),o 54 (ia 1 52 53),o 55 (l 54),o 56 (ia 1 50 51),w (.store 1 (t 56) (t 55))]),
 (.reg [o 57 (m 5),o 58 (bc .add 57 (n 1)),o 5 (m 58)])]) .skip)])),
 (.reg [o 36 (m 7),o 37 (bc .add 36 (n 1)),o 7 (m 37)])])))]),
 (.reg [o 59 (m 0),o 60 (m 5),o 61 (.slice 1 (t 59) (some (t 60)) none),w (.clear 1 [(.nils 1)] (t 61))]),
 (.reg [o 62 (m 0),o 63 (m 5),o 64 (.slice 1 (t 62) none (some (t 63))),o 4 (m 64)]),
 .ret]) .skip)])),
 (.reg [o 16 (m 5),o 17 (bc .add 16 (n 1)),o 5 (m 17)])])))]),
 (.reg [o 65 (m 0),o 4 (m 65)]),
 .ret])⟩
def zlE:CFn:=⟨9,[.tmp 4],(q [(.reg [o 4 (.mv (c .bf))]),
 (.reg [o 5 (m 0),o 6 (m 1),o 7 (.call 122 [(t 5),(t 6)]),o 8 (bc .eql 7 (n 0)),o 4 (m 8)]),
 .ret])⟩
def zaO:CFn:=⟨49,[.tmp 6,.tmp 7],(q [(.reg [o 6 (.mv (c (n 0))),o 7 (.mv (c .bf))]),
 (.reg [o 12 (m 0),o 13 (ln 12),o 8 (m 13)]),
 (.reg [o 14 (m 8),o 9 (.mv (c (n 0))),o 10 (m 14)]),
 (.block 0 (.loop (q [(q [(.reg [o 15 (m 9),o 16 (m 10),o 17 (b .lss 15 16)]),
 (i 17 .skip (.exit 0))]),
 (.block 1 (q [(.reg [o 18 (m 9),o 19 (m 10),o 20 (b .add 18 19),o 21 (.conv .u64 (t 20)),o 22 (bc .shr 21 (u 1)),o 23 (.conv .i64 (t 22)),o 11 (m 23)]),
 (.reg [o 24 (m 2),o 25 (m 0),o 26 (m 11),o 27 (ia 1 25 26),o 28 (l 27),o 29 (m 1),o 30 (.callv (t 24) [(t 28),(t 29)]),o 31 (bc .lss 30 (n 0))]),
 (i 31 (.reg [o 32 (m 11),o 33 (bc .add 32 (n 1)),o 9 (m 33)]) (.reg [o 34 (m 11),o 10 (m 34)]))]))]))),
 (.reg [o 35 (m 9),o 36 (m 9),o 37 (m 8),o 38 (b .lss 36 37),o 39 (m 38),g 40 39 true (m 2),g 41 39 true (m 0),g 42 39 true (m 9),g 43 39 true (ia 1 41 42),g 44 39 true (l 43),g 45 39 true (m 1),g 46 39 true (.callv (t 40) [(t 44),(t 45)]),g 47 39 true (bc .eql 46 (n 0)),o 48 (pf 39 47),o 6 (m 35),o 7 (m 48)]),
 .ret])⟩
def zgg:CFn:=⟨134,[],(q [(.reg [o 8 (.mv (c .bt))]),
 (.reg [o 9 (.mv (c .bt))]),
 (.block 0 (.loop (.block 1 (q [(.reg [o 19 (m 2),o 20 (m 1),o 21 (b .sub 19 20),o 10 (m 21)]),
 (q [(.reg [o 22 (m 10),o 23 (bc .leq 22 (n 12))]),
 (i 23 (q [(.reg [o 24 (m 0),o 25 (m 1),o 26 (m 2),o 27 (.call 141 [(t 24),(t 25),(t 26)])]),
 .ret]) .skip)]),
 (q [(.reg [o 28 (m 3),o 29 (bc .eql 28 (n 0))]),
 (i 29 (q [(.reg [o 30 (m 0),o 31 (m 1),o 32 (m 2),o 33 (.call 142 [(t 30),(t 31),(t 32)])]),
 .ret]) .skip)]),
 (q [(.reg [o 34 (m 8),o 35 (.un .not (t 34))]),
 (i 35 (q [(.reg [o 36 (m 0),o 37 (m 1),o 38 (m 2),o 39 (.call 143 [(t 36),(t 37),(t 38)])]),
 (.reg [o 40 (m 3),o 41 (bc .sub 40 (n 1)),o 3 (m 41)])]) .skip)]),
 (.reg [o 43 (m 0),o 44 (m 1),o 45 (m 2),o 46 (.call 144 [(t 43),(t 44),(t 45)]),o 42 (m 46),o 47 (e 42 0),o 48 (e 42 1),o 11 (m 47),o 12 (m 48)]),
 (q [(.reg [o 49 (m 12),o 50 (bc .eql 49 (n 2))]),
 (i 50 (q [(.reg [o 51 (m 0),o 52 (m 1),o 53 (m 2),o 54 (.call 145 [(t 51),(t 52),(t 53)])]),
 (.reg [o 55 (m 2),o 56 (bc .sub 55 (n 1)),o 57 (m 11),o 58 (m 1),o 59 (b .sub 57 58),o 60 (b .sub 56 59),o 11 (m 60)]),
 (.reg [o 12 (.mv (c (n 1)))])]) .skip)]),
 (q [(.reg [o 61 (m 8),o 62 (m 61),g 63 62 true (m 9),o 64 (pf 62 63),o 65 (m 64),g 66 65 true (m 12),g 67 65 true (bc .eql 66 (n 1)),o 68 (pf 65 67)]),
 (i 68 (q [(.reg [o 69 (m 0),o 70 (m 1),o 71 (m 2),o 72 (.call 146 [(t 69),(t 70),(t 71)])]),
 (i 72 .ret .skip)]) .skip)]),
 (q [(.regd [o 73 (m 1),o 74 (bc .gtr 73 (n 0)),o 75 (m 74),g 76 75 true (m 0),g 77 75 true (m 1),g 78 75 true (bc .sub 77 (n 1)),g 79 75 true (ia 1 76 78),g 80 75 true (l 79),g 81 75 true (m 0),g 82 75 true (m 11),g 83 75 true (ia 1 81 82),g 84 75 true (l 83),g 85 75 true (.call 147 [(t 80),(t 84)]),g 86 75 true (.un .not (t 85)),o 87 (pf 75 86)] [0,1,3,7,7,23,63,127,7,7,775,1799,4095,8191,16383]),
 (i 87 (q [(.reg [o 88 (m 0),o 89 (m 1),o 90 (m 2),o 91 (m 11),o 92 (.call 148 [(t 88),(t 89),(t 90),(t 91)]),o 13 (m 92)]),
 (.reg [o 93 (m 13),o 1 (m 93)]),
 (.exit 1)]) .skip)]),
 (.reg [o 95 (m 0),o 96 (m 1),o 97 (m 2),o 98 (m 11),o 99 (.call 149 [(t 95),(t 96),(t 97),(t 98)]),o 94 (m 99),o 100 (e 94 0),o 101 (e 94 1),o 14 (m 100),o 15 (m 101)]),
 (.reg [o 102 (m 15),o 9 (m 102)]),
 (.reg [o 103 (m 14),o 104 (m 1),o 105 (b .sub 103 104),o 106 (m 2),o 107 (m 14),o 108 (b .sub 106 107),o 16 (m 105),o 17 (m 108)]),
 (.reg [o 109 (m 10),o 110 (bc .quo 109 (n 8)),o 18 (m 110)]),
 (.reg [o 111 (m 16),o 112 (m 17),o 113 (b .lss 111 112)]),
 (i 113 (q [(.reg [o 114 (m 16),o 115 (m 18),o 116 (b .geq 114 115),o 8 (m 116)]),
 (.reg [o 117 (m 0),o 118 (m 1),o 119 (m 14),o 120 (m 3),o 121 (.call 126 [(t 117),(t 118),(t 119),(t 120)])]),
 (.reg [o 122 (m 14),o 123 (bc .add 122 (n 1)),o 1 (m 123)])]) (q [(.reg [o 124 (m 17),o 125 (m 18),o 126 (b .geq 124 125),o 8 (m 126)]),
 (.reg [o 127 (m 0),o 128 (m 14),o 129 (bc .add 128 (n 1)),o 130 (m 2),o 131 (m 3),o 132 (.call 126 [(t 127),(t 129),(t 130),(t 131)])]),
 (.reg [o 133 (m 14),o 2 (m 133)])]))]))))])⟩
def zpc:CFn:=⟨8,[.tmp 2],(q [(.reg [o 2 (.mv (c (n 0)))]),
 (.cond (c .bf) (q [(.reg [o 3 (m 0),o 4 (.conv .u32 (t 3)),o 5 (.call 150 [(t 4)]),o 2 (m 5)]),
 .ret]) .skip),
 (.reg [o 6 (m 0),o 7 (.call 130 [(t 6)]),o 2 (m 7)]),
 .ret])⟩
def zfN:CFn:=⟨8,[.tmp 2],(q [(.reg [o 2 (.mv (c (.nils 1)))]),
 (q [(.reg [o 3 (m 0),o 4 (.eqN false (t 3) (c (.nils 1)))]),
 (i 4 (q [(.reg [o 2 (.mv (c (.nils 1)))]),
 .ret]) .skip)]),
 (.reg [o 5 (.bslice 1 0 [(u 0)] []),o 6 (m 0),o 7 (.app 1 8 (t 5) (t 6)),o 2 (m 7)]),
 .ret])⟩
def zdS:CFn:=⟨148,[],(q [(.reg [o 10 (.mv (c .bt))]),
 (.reg [o 11 (.mv (c .bt))]),
 (.block 0 (.loop (.block 1 (q [(.reg [o 21 (m 2),o 22 (m 1),o 23 (b .sub 21 22),o 12 (m 23)]),
 (q [(.reg [o 24 (m 12),o 25 (bc .leq 24 (n 12))]),
 (i 25 (q [(.reg [o 26 (m 0),o 27 (m 1),o 28 (m 2),o 29 (m 4),o 30 (.call 152 [(t 26),(t 27),(t 28),(t 29)])]),
 .ret]) .skip)]),
 (q [(.reg [o 31 (m 3),o 32 (bc .eql 31 (n 0))]),
 (i 32 (q [(.reg [o 33 (m 0),o 34 (m 1),o 35 (m 2),o 36 (m 4),o 37 (.call 153 [(t 33),(t 34),(t 35),(t 36)])]),
 .ret]) .skip)]),
 (q [(.reg [o 38 (m 10),o 39 (.un .not (t 38))]),
 (i 39 (q [(.reg [o 40 (m 0),o 41 (m 1),o 42 (m 2),o 43 (m 4),o 44 (.call 154 [(t 40),(t 41),(t 42),(t 43)])]),
 (.reg [o 45 (m 3),o 46 (bc .sub 45 (n 1)),o 3 (m 46)])]) .skip)]),
 (.reg [o 48 (m 0),o 49 (m 1),o 50 (m 2),o 51 (m 4),o 52 (.call 155 [(t 48),(t 49),(t 50),(t 51)]),o 47 (m 52),o 53 (e 47 0),o 54 (e 47 1),o 13 (m 53),o 14 (m 54)]),
 (q [(.reg [o 55 (m 14),o 56 (bc .eql 55 (n 2))]),
 (i 56 (q [(.reg [o 57 (m 0),o 58 (m 1),o 59 (m 2),o 60 (m 4),o 61 (.call 156 [(t 57),(t 58),(t 59),(t 60)])]),
 (.reg [o 62 (m 2),o 63 (bc .sub 62 (n 1)),o 64 (m 13),o 65 (m 1),o 66 (b .sub 64 65),o 67 (b .sub 63 66),o 13 (m 67)]),
 (.reg [o 14 (.mv (c (n 1)))])]) .skip)]),
 (q [(.reg [o 68 (m 10),o 69 (m 68),g 70 69 true (m 11),o 71 (pf 69 70),o 72 (m 71),g 73 72 true (m 14),g 74 72 true (bc .eql 73 (n 1)),o 75 (pf 72 74)]),
 (i 75 (q [(.reg [o 76 (m 0),o 77 (m 1),o 78 (m 2),o 79 (m 4),o 80 (.call 157 [(t 76),(t 77),(t 78),(t 79)])]),
 (i 80 .ret .skip)]) .skip)]),
 (q [(.regd [o 81 (m 1),o 82 (bc .gtr 81 (n 0)),o 83 (m 82),g 84 83 true (m 4),g 85 83 true (m 0),g 86 83 true (m 1),g 87 83 true (bc .sub 86 (n 1)),g 88 83 true (ia 1 85 87),g 89 83 true (l 88),g 90 83 true (m 0),g 91 83 true (m 13),g 92 83 true (ia 1 90 91),g 93 83 true (l 92),g 94 83 true (.callv (t 84) [(t 89),(t 93)]),g 95 83 true (bc .lss 94 (n 0)),g 96 83 true (.un .not (t 95)),o 97 (pf 83 96)] [0,1,3,7,7,7,39,119,247,7,7,1543,3591,8191,16383,32767,65535]),
 (i 97 (q [(.reg [o 98 (m 0),o 99 (m 1),o 100 (m 2),o 101 (m 13),o 102 (m 4),o 103 (.call 158 [(t 98),(t 99),(t 100),(t 101),(t 102)]),o 15 (m 103)]),
 (.reg [o 104 (m 15),o 1 (m 104)]),
 (.exit 1)]) .skip)]),
 (.reg [o 106 (m 0),o 107 (m 1),o 108 (m 2),o 109 (m 13),o 110 (m 4),o 111 (.call 159 [(t 106),(t 107),(t 108),(t 109),(t 110)]),o 105 (m 111),o 112 (e 105 0),o 113 (e 105 1),o 16 (m 112),o 17 (m 113)]),
 (.reg [o 114 (m 17),o 11 (m 114)]),
 (.reg [o 115 (m 16),o 116 (m 1),o 117 (b .sub 115 116),o 118 (m 2),o 119 (m 16),o 120 (b .sub 118 119),o 18 (m 117),o 19 (m 120)]),
 (.reg [o 121 (m 12),o 122 (bc .quo 121 (n 8)),o 20 (m 122)]),
 (.reg [o 123 (m 18),o 124 (m 19),o 125 (b .lss 123 124)]),
 (i 125 (q [(.reg [o 126 (m 18),o 127 (m 20),o 128 (b .geq 126 127),o 10 (m 128)]),
 (.reg [o 129 (m 0),o 130 (m 1),o 131 (m 16),o 132 (m 3),o 133 (m 4),o 134 (.call 136 [(t 129),(t 130),(t 131),(t 132),(t 133)])]),
 (.reg [o 135 (m 16),o 136 (bc .add 135 (n 1)),o 1 (m 136)])]) (q [(.reg [o 137 (m 19),o 138 (m 20),o 139 (b .geq 137 138),o 10 (m 139)]),
 (.reg [o 140 (m 0),o 141 (m 16),o 142 (bc .add 141 (n 1)),o 143 (m 2),o 144 (m 3),o 145 (m 4),o 146 (.call 136 [(t 140),(t 142),(t 143),(t 144),(t 145)])]),
 (.reg [o 147 (m 16),o 2 (m 147)])]))]))))])⟩
def zhT:CFn:=⟨36,[.tmp 6],(q [(.reg [o 6 (.mv (c (n 0)))]),
 (q [(.reg [o 9 (m 0),o 10 (ln 9),o 11 (m 1),o 12 (ln 11),o 13 (.mm false (t 10) (t 12)),o 14 (.mv (c (n 0)))]),
 (.block 0 (.loop (q [(.reg [o 15 (b .lss 14 13)]),
 (i 15 .skip (.exit 0)),
 (.block 1 (q [(.reg [o 16 (m 14),o 7 (m 16)]),
 (.regd [o 17 (m 2),o 18 (m 0),o 19 (m 7),o 20 (ia 1 18 19),o 21 (l 20),o 22 (m 1),o 23 (m 7),o 24 (ia 1 22 23),o 25 (l 24),o 26 (.callv (t 17) [(t 21),(t 25)]),o 8 (m 26)] [0,0,0,6,14,0,0,96,224,511,1023]),
 (.reg [o 27 (m 8),o 28 (bc .neq 27 (n 0))]),
 (i 28 (q [(.reg [o 29 (m 8),o 6 (m 29)]),
 .ret]) .skip)])),
 (.reg [o 30 (bc .add 14 (n 1)),o 14 (m 30)])])))]),
 (.reg [o 31 (m 0),o 32 (ln 31),o 33 (m 1),o 34 (ln 33),o 35 (.call 140 [(t 32),(t 34)]),o 6 (m 35)]),
 .ret])⟩
def zlD:CFn:=⟨8,[.tmp 4],(q [(.reg [o 4 (.mv (c (n 0)))]),
 (.reg [o 5 (m 0),o 6 (m 1),o 7 (.call 139 [(t 5),(t 6),(c (.fn zbQ []))]),o 4 (m 7)]),
 .ret])⟩
def zir:CFn:=⟨36,[.tmp 6],(q [(.reg [o 6 (.mv (c (n 0)))]),
 (q [(.reg [o 9 (m 0),o 10 (ln 9),o 11 (m 1),o 12 (ln 11),o 13 (.mm false (t 10) (t 12)),o 14 (.mv (c (n 0)))]),
 (.block 0 (.loop (q [(.reg [o 15 (b .lss 14 13)]),
 (i 15 .skip (.exit 0)),
 (.block 1 (q [(.reg [o 16 (m 14),o 7 (m 16)]),
 (.regd [o 17 (m 2),o 18 (m 0),o 19 (m 7),o 20 (ia 1 18 19),o 21 (l 20),o 22 (m 1),o 23 (m 7),o 24 (ia 1 22 23),o 25 (l 24),o 26 (.callv (t 17) [(t 21),(t 25)]),o 8 (m 26)] [0,0,0,6,14,0,0,96,224,511,1023]),
 (.reg [o 27 (m 8),o 28 (bc .neq 27 (n 0))]),
 (i 28 (q [(.reg [o 29 (m 8),o 6 (m 29)]),
 .ret]) .skip)])),
 (.reg [o 30 (bc .add 14 (n 1)),o 14 (m 30)])])))]),
 (.reg [o 31 (m 0),o 32 (ln 31),o 33 (m 1),o 34 (ln 33),o 35 (.call 140 [(t 32),(t 34)]),o 6 (m 35)]),
 .ret])⟩
def zlz:CFn:=⟨20,[.tmp 4],(q [(.reg [o 4 (.mv (c (n 0)))]),
 (.reg [o 7 (m 0),o 8 (.call 160 [(t 7)]),o 5 (m 8)]),
 (.reg [o 9 (m 1),o 10 (.call 160 [(t 9)]),o 6 (m 10)]),
 (q [(.reg [o 11 (m 5)]),
 (i 11 (q [(q [(.reg [o 12 (m 6)]),
 (i 12 (q [(.reg [o 4 (.mv (c (n 0)))]),
 .ret]) .skip)]),
 (.reg [o 4 (.mv (c (n (-1))))]),
 .ret]) .skip)]),
 (q [(.reg [o 13 (m 6)]),
 (i 13 (q [(.reg [o 4 (.mv (c (n 1)))]),
 .ret]) .skip)]),
 (q [(.reg [o 14 (m 0),o 15 (m 1),o 16 (b .lss 14 15)]),
 (i 16 (q [(.reg [o 4 (.mv (c (n (-1))))]),
 .ret]) .skip)]),
 (q [(.reg [o 17 (m 0),o 18 (m 1),o 19 (b .gtr 17 18)]),
 (i 19 (q [(.reg [o 4 (.mv (c (n 1)))]),
 .ret]) .skip)]),
 (.reg [o 4 (.mv (c (n 0)))]),
 .ret])⟩
def zeR:CFn:=⟨49,[],(q [(.reg [o 8 (m 1),o 9 (bc .add 8 (n 1)),o 6 (m 9)]),
 (.block 0 (.loop (q [(q [(.reg [o 10 (m 6),o 11 (m 2),o 12 (b .lss 10 11)]),
 (i 12 .skip (.exit 0))]),
 (.block 1 (q [(.reg [o 15 (m 6),o 7 (m 15)]),
 (.block 2 (.loop (q [(q [(.regd [o 16 (m 7),o 17 (m 1),o 18 (b .gtr 16 17),o 19 (m 18),g 20 19 true (m 0),g 21 19 true (m 7),g 22 19 true (ia 1 20 21),g 23 19 true (l 22),g 24 19 true (m 0),g 25 19 true (m 7),g 26 19 true (bc .sub 25 (n 1)),g 27 19 true (ia 1 24 26),g 28 19 true (l 27),g 29 19 true (.call 147 [(t 23),(t 28)]),o 30 (pf 19 29)] [0,0,3,7,15,15,63,127,15,15,527,1807,3855,8191,16383]),
 (i 30 .skip (.exit 2))]),
 (.block 3 (.regd [o 33 (m 0),o 34 (m 7),o 35 (m 0),o 36 (m 7),o 37 (bc .sub 36 (n 1)),o 38 (m 0),o 39 (m 7),o 40 (bc .sub 39 (n 1)),o 41 (ia 1 38 40),o 42 (l 41),o 43 (m 0),o 44 (m 7),o 45 (ia 1 43 44),o 46 (l 45),o 47 (ia 1 33 34),w (.store 1 (t 47) (t 42)),o 48 (ia 1 35 37),w (.store 1 (t 48) (t 46))] [0,0,0,0,8,0,0,64,224,480,0,0,3072,7168,16355,32739,65535,131071])),
 (.reg [o 31 (m 7),o 32 (bc .sub 31 (n 1)),o 7 (m 32)])])))])),
 (.reg [o 13 (m 6),o 14 (bc .add 13 (n 1)),o 6 (m 14)])])))])⟩
def zo2:CFn:=⟨17,[.tmp 4],(q [(.reg [o 4 (.mv (c .bf))]),
 (.reg [o 5 (m 0),o 6 (.call 160 [(t 5)]),o 7 (m 6),g 8 7 true (m 1),g 9 7 true (.call 160 [(t 8)]),g 10 7 true (.un .not (t 9)),o 11 (pf 7 10),o 12 (m 11),g 13 12 false (m 0),g 14 12 false (m 1),g 15 12 false (b .lss 13 14),o 16 (pt 12 15),o 4 (m 16)]),
 .ret])⟩
def zcL:CFn:=⟨53,[],(q [(.reg [o 10 (m 1),o 11 (bc .add 10 (n 1)),o 8 (m 11)]),
 (.block 0 (.loop (q [(q [(.reg [o 12 (m 8),o 13 (m 2),o 14 (b .lss 12 13)]),
 (i 14 .skip (.exit 0))]),
 (.block 1 (q [(.reg [o 17 (m 8),o 9 (m 17)]),
 (.block 2 (.loop (q [(q [(.regd [o 18 (m 9),o 19 (m 1),o 20 (b .gtr 18 19),o 21 (m 20),g 22 21 true (m 3),g 23 21 true (m 0),g 24 21 true (m 9),g 25 21 true (ia 1 23 24),g 26 21 true (l 25),g 27 21 true (m 0),g 28 21 true (m 9),g 29 21 true (bc .sub 28 (n 1)),g 30 21 true (ia 1 27 29),g 31 21 true (l 30),g 32 21 true (.callv (t 22) [(t 26),(t 31)]),g 33 21 true (bc .lss 32 (n 0)),o 34 (pf 21 33)] [0,0,3,7,15,15,15,111,239,15,15,1039,3599,7695,16383,32767,65535]),
 (i 34 .skip (.exit 2))]),
 (.block 3 (.regd [o 37 (m 0),o 38 (m 9),o 39 (m 0),o 40 (m 9),o 41 (bc .sub 40 (n 1)),o 42 (m 0),o 43 (m 9),o 44 (bc .sub 43 (n 1)),o 45 (ia 1 42 44),o 46 (l 45),o 47 (m 0),o 48 (m 9),o 49 (ia 1 47 48),o 50 (l 49),o 51 (ia 1 37 38),w (.store 1 (t 51) (t 46)),o 52 (ia 1 39 41),w (.store 1 (t 52) (t 50))] [0,0,0,0,8,0,0,64,224,480,0,0,3072,7168,16355,32739,65535,131071])),
 (.reg [o 35 (m 9),o 36 (bc .sub 35 (n 1)),o 9 (m 36)])])))])),
 (.reg [o 15 (m 8),o 16 (bc .add 15 (n 1)),o 8 (m 16)])])))])⟩
def znZ:CFn:=⟨6,[.tmp 2],(q [(.reg [o 2 (.mv (c .bf))]),
 (.reg [o 3 (m 0),o 4 (m 0),o 5 (b .neq 3 4),o 2 (m 5)]),
 .ret])⟩
end Go.Ab
namespace Go.Ab
open Go Go.Proofs
theorem zk:Tryd.prog.follows .mixedOrders=true:=by kernel_rfl
theorem zmh:ze Tryd.prog zgQ=some zlH:=by kernel_rfl
theorem zjT:ze Tryd.prog zfu=some zjo:=by kernel_rfl
theorem zqH:ze Tryd.prog zjC=some zqk:=by kernel_rfl
theorem zpB:ze Tryd.prog ziz=some zo0:=by kernel_rfl
theorem zr0:ze Tryd.prog zk6=some zrV:=by kernel_rfl
theorem zmb:ze Tryd.prog zcP=some zlB:=by kernel_rfl
theorem ziT:ze Tryd.prog zd6=some zo4:=by kernel_rfl
theorem zjR:ze Tryd.prog zdu=some zqo:=by kernel_rfl
theorem zkN:ze Tryd.prog zfW=some zkt:=by kernel_rfl
theorem zls:ze Tryd.prog zgd=some zln:=by kernel_rfl
theorem zbe:ze Tryd.prog zfs=some zjm:=by kernel_rfl
theorem zor:ze Tryd.prog zh2=some zn2:=by kernel_rfl
theorem zpI:ze Tryd.prog ziF=some zo8:=by kernel_rfl
theorem zqF:ze Tryd.prog zjy=some zqi:=by kernel_rfl
theorem zni:ze Tryd.prog zha=some zm4:=by kernel_rfl
theorem znj:ze Tryd.prog zhb=some zm5:=by kernel_rfl
theorem zdV:ze Tryd.prog zb2=some zgZ:=by kernel_rfl
theorem zdU:ze Tryd.prog zaq=some zgY:=by kernel_rfl
theorem zr2:ze Tryd.prog ze9=some zrX:=by kernel_rfl
theorem ztp:ze Tryd.prog zlT=some zsH:=by kernel_rfl
theorem zng:ze Tryd.prog zg8=some zm2:=by kernel_rfl
theorem zh9:ze Tryd.prog zer=some zhV:=by kernel_rfl
theorem zjS:ze Tryd.prog zft=some zjn:=by kernel_rfl
theorem zhj:ze Tryd.prog zhe=some zna:=by kernel_rfl
theorem zpK:ze Tryd.prog ziH=some zpa:=by kernel_rfl
theorem zno:ze Tryd.prog zhg=some znc:=by kernel_rfl
theorem zit:ze Tryd.prog zao=some ziq:=by kernel_rfl
theorem zpL:ze Tryd.prog ziI=some zpb:=by kernel_rfl
theorem zpF:ze Tryd.prog ziC=some zo5:=by kernel_rfl
theorem zjQ:ze Tryd.prog z1=some zql:=by kernel_rfl
theorem zlp:ze Tryd.prog zd2=some zlj:=by kernel_rfl
theorem znl:ze Tryd.prog zhc=some zm8:=by kernel_rfl
theorem znh:ze Tryd.prog zg9=some zm3:=by kernel_rfl
theorem zpC:ze Tryd.prog zfT=some zo1:=by kernel_rfl
theorem zpE:ze Tryd.prog ziB=some zo3:=by kernel_rfl
theorem zpH:ze Tryd.prog ziE=some zo7:=by kernel_rfl
theorem zqG:ze Tryd.prog zjA=some zqj:=by kernel_rfl
theorem zdz:ze Tryd.prog zbk=some zdy:=by kernel_rfl
theorem zlo:ze Tryd.prog za3=some zlh:=by kernel_rfl
theorem zr1:ze Tryd.prog zk7=some zrW:=by kernel_rfl
theorem zgb:ze Tryd.prog zde=some zga:=by kernel_rfl
theorem zpR:ze Tryd.prog ziK=some zph:=by kernel_rfl
theorem zdW:ze Tryd.prog zbw=some zdR:=by kernel_rfl
theorem zpN:ze Tryd.prog zd8=some zpd:=by kernel_rfl
theorem zou:ze Tryd.prog zh3=some zn5:=by kernel_rfl
theorem zmg:ze Tryd.prog zgP=some zlG:=by kernel_rfl
theorem zr3:ze Tryd.prog zfa=some zrY:=by kernel_rfl
theorem zlr:ze Tryd.prog zgc=some zll:=by kernel_rfl
theorem znn:ze Tryd.prog zhf=some znb:=by kernel_rfl
theorem zlq:ze Tryd.prog zcw=some zlk:=by kernel_rfl
theorem znp:ze Tryd.prog zeU=some znd:=by kernel_rfl
theorem zge:ze Tryd.prog zcx=some zlm:=by kernel_rfl
theorem zh8:ze Tryd.prog zcn=some zhU:=by kernel_rfl
theorem znm:ze Tryd.prog zhd=some zm9:=by kernel_rfl
theorem zjP:ze Tryd.prog zdt=some zjl:=by kernel_rfl
theorem zS:ze Tryd.prog zn=some zli:=by kernel_rfl
theorem zqK:ze Tryd.prog zjF=some zqp:=by kernel_rfl
theorem zmf:ze Tryd.prog zgO=some zlF:=by kernel_rfl
theorem ztq:ze Tryd.prog zlU=some zsI:=by kernel_rfl
theorem zr4:ze Tryd.prog zk8=some zrZ:=by kernel_rfl
theorem zoo:ze Tryd.prog zh0=some znY:=by kernel_rfl
theorem zpJ:ze Tryd.prog ziG=some zo9:=by kernel_rfl
theorem znk:ze Tryd.prog zeT=some zm7:=by kernel_rfl
theorem zoq:ze Tryd.prog zff=some zn1:=by kernel_rfl
theorem zop:ze Tryd.prog zh1=some zn0:=by kernel_rfl
theorem zpG:ze Tryd.prog ziD=some zo6:=by kernel_rfl
theorem zd3:ze Tryd.prog zbD=some zdZ:=by kernel_rfl
theorem zfD:ze Tryd.prog zcA=some zfC:=by kernel_rfl
theorem zf3:ze Tryd.prog zcO=some zfM:=by kernel_rfl
theorem ze2:ze Tryd.prog zcc=some zeZ:=by kernel_rfl
theorem zef:ze Tryd.prog zbI=some zee:=by kernel_rfl
theorem znq:ze Tryd.prog zdi=some zne:=by kernel_rfl
theorem zuz:ze Tryd.prog zny=some zt9:=by kernel_rfl
theorem zet:ze Tryd.prog zbS=some zel:=by kernel_rfl
theorem zpQ:ze Tryd.prog ziJ=some zpg:=by kernel_rfl
theorem zpP:ze Tryd.prog zfV=some zpf:=by kernel_rfl
theorem zmc:ze Tryd.prog zgN=some zlC:=by kernel_rfl
theorem zot:ze Tryd.prog zfg=some zn4:=by kernel_rfl
theorem ziv:ze Tryd.prog zeO=some zis:=by kernel_rfl
theorem zov:ze Tryd.prog zfh=some zn6:=by kernel_rfl
theorem zqL:ze Tryd.prog zjG=some zqq:=by kernel_rfl
theorem zqJ:ze Tryd.prog zjD=some zqn:=by kernel_rfl
theorem zqI:ze Tryd.prog zgk=some zqm:=by kernel_rfl
theorem zpO:ze Tryd.prog zfU=some zpe:=by kernel_rfl
theorem zgS:ze Tryd.prog zep=some zlA:=by kernel_rfl
theorem zhi:ze Tryd.prog zeS=some zm6:=by kernel_rfl
theorem zeV:ze Tryd.prog zb6=some zeQ:=by kernel_rfl
theorem ztr:ze Tryd.prog zlV=some zsJ:=by kernel_rfl
theorem zcE:ze Tryd.prog zap=some zcD:=by kernel_rfl
theorem zcj:ze Tryd.prog zaM=some zch:=by kernel_rfl
theorem zos:ze Tryd.prog zU=some zn3:=by kernel_rfl
theorem zaC:ze Tryd.prog zD=some zb1:=by kernel_rfl
theorem zme:ze Tryd.prog zcQ=some zlE:=by kernel_rfl
theorem zaS:ze Tryd.prog z6=some zaO:=by kernel_rfl
theorem zgn:ze Tryd.prog zdv=some zgg:=by kernel_rfl
theorem zpM:ze Tryd.prog zd7=some zpc:=by kernel_rfl
theorem zf4:ze Tryd.prog zcR=some zfN:=by kernel_rfl
theorem zdX:ze Tryd.prog zbx=some zdS:=by kernel_rfl
theorem zh7:ze Tryd.prog zeq=some zhT:=by kernel_rfl
theorem zmd:ze Tryd.prog zbR=some zlD:=by kernel_rfl
theorem ziu:ze Tryd.prog zeN=some zir:=by kernel_rfl
theorem zma:ze Tryd.prog zbQ=some zlz:=by kernel_rfl
theorem zeW:ze Tryd.prog zaZ=some zeR:=by kernel_rfl
theorem zpD:ze Tryd.prog ziA=some zo2:=by kernel_rfl
theorem zcW:ze Tryd.prog za0=some zcL:=by kernel_rfl
theorem zh6:ze Tryd.prog zfe=some znZ:=by kernel_rfl
end Go.Ab
namespace Go.Ab
open Go Go.Proofs
set_option maxRecDepth 10000
set_option maxHeartbeats 4000000
variable {T:Nat→Obj→Prop}
def z2 (n:Int):BitVec 64:=if n ≥ 64 then -1 else (1#64 <<< n.toNat) - 1#64
theorem ziQ (n:Int) (h:0≤n):Fn Tryd.prog T zjG [.d (.int .i64 n)] [] (.d (.u64 (z2 n))) []:=by
 refine zb zk zqL (by show 1≤8;decide) ?_
 (repeat' ((conv=>whnf);first|refine vA ?_|(refine vF ?_ ?_<;>intro hc<;>try simp only [vL] at hc)|refine vT ?_|(refine vP ?_ ?_;·omega)|refine vY ?_));all_goals try conv=>whnf
 ·simp [z2, *]
 ·rw [z2,if_neg (by omega)];rfl
def bad (n:Int) (s:BitVec 64):Bool:=s &&& ~~~ (z2 n)≠0
def zxF (worlds agents:Int) (val:List (BitVec 64)):Int :=
 if worlds < 1∨64 < worlds then 2 else if 8 < val.length∨4 < agents then 8 else if val.any (bad worlds) then 3 else 0
structure PM where
 W:Int
 val:List (BitVec 64)
 cell:List (List Int)
 rank:List (List Int)
 deriving DecidableEq
theorem zcg (s:BitVec 64) (n:Nat):(s >>> n)&&&1#64=1#64↔s.getLsbD n=true:=by
 constructor
 ·intro h
  have:=congrArg (fun x=>x.getLsbD 0) h
  simpa using this
 ·intro h
  apply BitVec.eq_of_getLsbD_eq
  intro i hi
  by_cases h0:i=0
  ·subst h0;simpa using h
  ·simp [h0]
theorem zek (s:BitVec 64) (n:Nat):(s >>> n)&&&1#64=0#64↔s.getLsbD n=false:=by
 constructor
 ·intro h
  have:=congrArg (fun x=>x.getLsbD 0) h
  simpa using this
 ·intro h
  apply BitVec.eq_of_getLsbD_eq
  intro i hi
  by_cases h0:i=0
  ·subst h0;simpa using h
  ·simp [h0]
@[irreducible] def bit (s:BitVec 64) (i:Nat):Bool:=s.getLsbD i
def at0 (l:List Int) (i:Nat):Int:=l.getD i 0
theorem zwz {l:List Int} {i:Nat} {x:Int} (h:l[i]? = some x):at0 l i=x:=by simp [at0,List.getD,h]
theorem zhz {l:List Int} {i:Nat} (h:i < l.length):l[i]? = some (at0 l i):=by simp [at0,List.getD,h]
abbrev zBL (cell:List Int):Prop := ∀ w,w < cell.length→0≤at0 cell w∧at0 cell w≤w∧at0 cell (at0 cell w).toNat=at0 cell w
abbrev zAV (cell rank:List Int):Prop := ∀ w,w < cell.length→0≤at0 rank w∧(at0 rank w=0 ∨ ∃ v,v < cell.length∧at0 cell v=at0 cell w∧at0 rank v=at0 rank w - 1)
end Go.Ab
namespace Go.Ab
open Go Go.Proofs
set_option maxRecDepth 10000
set_option maxHeartbeats 4000000
variable {T:Nat→Obj→Prop}
def zbb (f:Nat→Bool):Nat→BitVec 64
 | 0=>0#64
 | k+1=>if f k then zbb f k|||1#64 <<< k else zbb f k
theorem zqg (k i:Nat):(1#64 <<< k).getLsbD i=(decide (i < 64)&&decide (i=k)):=by
 rw [BitVec.getLsbD_shiftLeft]
 by_cases h:i < 64
 ·by_cases h1:i < k
  ·simp [h,h1];omega
  ·by_cases h2:i=k
   ·subst h2;simp [h]
   ·have:i - k≠0:=by omega
    simp [h,h1,h2,this]
 ·simp [h]
theorem zmx (f:Nat→Bool) : ∀ (n i:Nat),(zbb f n).getLsbD i=(decide (i < 64)&&decide (i < n)&&f i)
 | 0,i=>by simp [zbb]
 | n+1,i=>by
  have ih:=zmx f n i
  unfold zbb
  split
  ·rename_i h
   rw [BitVec.getLsbD_or,ih,zqg]
   by_cases h1:i=n
   ·subst h1;simp [h]
   ·by_cases h2:i < n
    ·simp [h1,h2,show i < n+1 by omega]
    ·simp [h1,h2,show ¬ i < n+1 by omega]
  ·rename_i h
   rw [ih]
   by_cases h1:i=n
   ·subst h1;simp [h]
   ·by_cases h2:i < n
    ·simp [h2,show i < n+1 by omega]
    ·simp [h2,show ¬ i < n+1 by omega]
end Go.Ab
namespace Go.Ab
open Go Go.Proofs
set_option maxRecDepth 10000
set_option maxHeartbeats 4000000
variable {T:Nat→Obj→Prop}
def zp5 (l:List (List Int)) (a:Nat):List Int:=l.getD a []
abbrev zAS (p:PM):Prop := ∀ a,a < p.cell.length→((zp5 p.cell a).length:Int)=p.W∧((zp5 p.rank a).length:Int)=p.W
abbrev zsq (p:PM):Prop := ∀ a,a < p.cell.length→zBL (zp5 p.cell a)
abbrev zq0 (p:PM):Prop := ∀ a,a < p.cell.length→zAV (zp5 p.cell a) (zp5 p.rank a)
def zwH (p:PM):Int :=
 if zxF p.W p.cell.length p.val≠0 then zxF p.W p.cell.length p.val
 else if p.rank.length≠p.cell.length then 3
 else if ¬zAS p then 3
 else if ¬zsq p then 1
 else if ¬zq0 p then 9
 else 0
structure zCz (p:PM):Prop where
 w1:1≤p.W
 w2:p.W≤64
 val : ∀ s∈p.val,bad p.W s=false
 n4:p.cell.length≤4
 v8:p.val.length≤8
 len:p.rank.length=p.cell.length
 lens:zAS p
 cells:zsq p
 ranked:zq0 p
theorem znf (n:Int) (r:List (BitVec 64)):Fn Tryd.prog T zfh [.d (.int .i64 n),.d (dU r)] [] (.d (.int .i64 (if n < 0∨64 < n then 2 else if (r.length:Int)≠n then 3 else if r.any (bad n) then 1 else 0))) []:=by
 refine zb zk zov (by show 2≤29;decide) ?_
 (repeat' ((conv=>whnf);first|refine vA ?_|((first|refine vD ?_ ?_|refine vF ?_ ?_)<;>intro hc<;>try simp only [vL] at hc)|refine vJ fun hg=>?_|refine vT ?_|refine vX ?_));all_goals try conv=>whnf
 ·rw [if_pos (.inl hc)]
 ·rw [if_pos (.inr hc)]
 ·rw [if_neg (by omega),if_pos hc]
 refine zar (fun (k:Nat)=>[(0,.d (.int .i64 (n))),(17,.d (dU r)),(18,.d (.int .i64 ((r.map D.u64).length:Int))),(19,.d (.int .i64 ((k:Int))))]) (fun (k:Nat)=>k≤r.length∧r.any (bad n)=(r.drop k).any (bad n)) (fun (k:Nat)=>r.length - k) (0) (⟨by simp,by simp⟩) (by (repeat' first|exact trivial|exact rfl|refine And.intro ?_ ?_)) ?_
 rintro k ⟨hk,hI⟩
 (repeat' ((conv=>whnf);first|refine vA ?_|((first|refine vD ?_ ?_|refine vF ?_ ?_)<;>intro hc<;>try simp only [vL] at hc)|refine vT ?_|(refine vQ ?_ fun x hx=>?_;·omega)|(refine vO ?_ ?_;·omega)|refine vX ?_|(refine yD (ziQ _ ?_) ⟨⟨rfl,rfl⟩,rfl⟩ rfl ?_;(·omega))|fail));all_goals try conv=>whnf
 ·have hb:bad n x=true:=by simpa [bad] using hc
  rw [if_neg (by omega),if_neg (by omega),hI,zab hx];simp [hb]
 ·have hb:bad n x=false:=by simpa [bad] using hc
  exact ⟨k+1,[],[],⟨by (omega),by rw [hI,zab hx];simp [hb]⟩,by (omega),by (refine ⟨rfl,rfl,rfl,?_,?_⟩;repeat' first|exact trivial|exact rfl|refine And.intro ?_ ?_)⟩
 ·rw [if_neg (by omega),if_neg (by omega),hI,List.drop_eq_nil_of_le (by omega)];simp
end Go.Ab
namespace Go.Ab
open Go Go.Proofs
set_option maxRecDepth 10000
set_option maxHeartbeats 4000000
variable {T:Nat→Obj→Prop}
structure At (p:PM) (a w:Int):Prop where
 ok:zwH p=0
 a0:0≤a
 a1:a < p.cell.length
 w0:0≤w
 w1:w < p.W
instance (p:PM) (a w:Int):Decidable (At p a w):=decidable_of_iff (zwH p=0∧0≤a∧a < p.cell.length∧0≤w∧w < p.W) ⟨fun ⟨a,b,c,d,e⟩=>⟨a,b,c,d,e⟩,fun ⟨a,b,c,d,e⟩=>⟨a,b,c,d,e⟩⟩
theorem zxq {k:Nat} (h:k < 18446744073709551616):(BitVec.ofInt 64 (k:Int)).toNat=k:=by
 rw [BitVec.toNat_ofInt,Int.emod_eq_of_lt (by omega) (by omega)];rfl
theorem zgU {β:Type} {g:Nat→β} {n k:Nat} (x:β):((List.range n).map g).set k x=(List.range n).map fun u=>if u=k then x else g u:=by
 refine List.ext_getElem (by simp) fun i h1 h2=>?_
 rw [List.getElem_set]
 by_cases e:k=i
 ·subst e;simp
 ·simp [e,Ne.symm e]
theorem zaJ {β:Type} {g h:Nat→β} {n:Nat} (e : ∀ u,u < n→g u=h u):(List.range n).map g=(List.range n).map h :=
 List.map_congr_left fun u hu=>e u (List.mem_range.1 hu)
theorem zw7 {n k x:Nat} (h:(List.range n)[k]? = some x):x=k:=by
 obtain ⟨h1,rfl⟩:=List.getElem?_eq_some_iff.1 h
 simp
theorem zf6 {β:Type} (x:β) (n:Nat):List.replicate n x=(List.range n).map fun _=>x:=by
 refine List.ext_getElem (by simp) fun i h1 h2=>by simp
end Go.Ab
namespace Go.Ab
open Go Go.Proofs
set_option maxRecDepth 10000
set_option maxHeartbeats 4000000
variable {T:Nat→Obj→Prop}
structure KM where
 W:Int
 val:List (BitVec 64)
 rel:List (List (BitVec 64))
 deriving DecidableEq
abbrev dKM (m:KM):D := .agg [.int .i64 m.W,dU m.val,dUU m.rel]
abbrev zaH (m:KM):Ob := .box [.d (.int .i64 m.W),.d (dU m.val),.d (dUU m.rel)]
end Go.Ab
namespace Go.Ab
open Go Go.Proofs
set_option maxRecDepth 10000
set_option maxHeartbeats 4000000
variable {T:Nat→Obj→Prop}
theorem zc4 {n:Int} {i:Nat} (h1:0≤n) (hi:i < 64):(z2 n).getLsbD i=decide ((i:Int) < n):=by
 unfold z2
 split
 ·rename_i h
  rw [show ((-1:BitVec 64))=BitVec.allOnes 64 from rfl,BitVec.getLsbD_allOnes]
  simp [hi];omega
 ·rename_i h
  obtain ⟨m,rfl⟩:=Int.eq_ofNat_of_zero_le h1
  have hm:m < 64:=by omega
  rw [show (1#64 <<< (m:Int).toNat - 1#64)=BitVec.setWidth 64 (BitVec.allOnes m) from ?_]
  ·rw [BitVec.getLsbD_setWidth,BitVec.getLsbD_allOnes];simp [hi]
  ·apply BitVec.eq_of_toNat_eq
   have h2:2 ^ m < 2 ^ 64:=Nat.pow_lt_pow_right (by omega) hm
   have h3:0 < 2 ^ m:=Nat.two_pow_pos m
   rw [BitVec.toNat_sub,BitVec.toNat_shiftLeft,BitVec.toNat_setWidth,BitVec.toNat_allOnes]
   simp only [Int.toNat_natCast,Nat.shiftLeft_eq]
   rw [show (1#64).toNat=1 from rfl,Nat.one_mul,Nat.mod_eq_of_lt h2,Nat.mod_eq_of_lt (show 2 ^ m - 1 < 2 ^ 64 by omega)]
   omega
end Go.Ab
namespace Go.Ab
open Go Go.Proofs
set_option maxRecDepth 10000
set_option maxHeartbeats 4000000
variable {T:Nat→Obj→Prop}
def za (s:BitVec 64):List Nat:=(List.range 64).filter fun i=>s.getLsbD i
theorem zlY {p:Nat→Bool} {k:Nat} (hk:p k=true) (hlow : ∀ i,i < k→p i=false) : ∀ n,k < n→(List.range n).filter p=k::(List.range n).filter fun i=>p i&&i != k
 | 0,h=>by omega
 | n+1,h=>by
  rw [List.range_succ,List.filter_append,List.filter_append]
  by_cases e:k=n
  ·subst e
   have h1:(List.range k).filter p=[]:=by
    rw [List.filter_eq_nil_iff];intro i hi;rw [hlow i (List.mem_range.1 hi)];simp
   have h2:((List.range k).filter fun i=>p i&&i != k)=[]:=by
    rw [List.filter_eq_nil_iff];intro i hi;rw [hlow i (List.mem_range.1 hi)];simp
   rw [h1,h2]
   simp [hk]
  ·rw [zlY hk hlow n (by omega)]
   have:(n != k)=true:=by simp;omega
   have:List.filter (fun i=>p i&&i != k) [n]=List.filter p [n]:=by
    simp only [List.filter,this,Bool.and_true]
   rw [this];rfl
theorem zAi (s:BitVec 64) (h:s≠0#64):Lib.ctz 64 s.toNat < 64∧s.getLsbD (Lib.ctz 64 s.toNat)=true∧(∀ i,i < Lib.ctz 64 s.toNat→s.getLsbD i=false) ∧
  ∀ i,(s&&&(s - 1#64)).getLsbD i=(s.getLsbD i&&i != Lib.ctz 64 s.toNat):=by
 have h0:s.toNat≠0:=fun e=>h (BitVec.eq_of_toNat_eq (by simpa using e))
 have hc:Lib.ctz 64 s.toNat=Lib.ctzFrom 64 s.toNat:=by rw [Lib.ctz,if_neg h0]
 rw [hc]
 obtain ⟨m,hm,hlt⟩:=Lib.ctzFrom_spec 64 s.toNat (by omega) s.isLt
 generalize Lib.ctzFrom 64 s.toNat=k at hm hlt
 have hp:0 < 2 ^ k:=Nat.two_pow_pos k
 have hs:s.toNat=2 ^ k * (2 * m+1)+0:=hm
 have hbit : ∀ i,s.getLsbD i=if i < k then false else (2 * m+1).testBit (i - k):=fun i=>by
  rw [BitVec.getLsbD,hs,Nat.testBit_two_pow_mul_add _ hp]
  simp
 have hsub:(s - 1#64).toNat=2 ^ k * (2 * m)+(2 ^ k - 1):=by
  rw [BitVec.toNat_sub]
  have hlt':=s.isLt
  rw [hm] at hlt' ⊢
  rw [show (1#64).toNat=1 from rfl,Nat.mul_add,Nat.mul_one]
  rw [Nat.mul_add,Nat.mul_one] at hlt'
  omega
 have hbit' : ∀ i,(s - 1#64).getLsbD i=if i < k then (2 ^ k - 1).testBit i else (2 * m).testBit (i - k):=fun i=>by
  rw [BitVec.getLsbD,hsub,Nat.testBit_two_pow_mul_add _ (by omega)]
 refine ⟨hlt,?_,fun i hi=>?_,fun i=>?_⟩
 ·rw [hbit,if_neg (by omega),Nat.sub_self,Nat.testBit_zero];simp
 ·rw [hbit,if_pos hi]
 ·rw [BitVec.getLsbD_and,hbit,hbit']
  by_cases h1:i < k
  ·simp [h1]
  ·simp only [h1,if_false]
   by_cases h2:i=k
   ·subst h2;simp [Nat.testBit_zero]
   ·obtain ⟨j,hj⟩ : ∃ j,i - k=j+1:=⟨i - k - 1,by omega⟩
    rw [hj,Nat.testBit_succ,Nat.testBit_succ]
    have e1:(2 * m+1) / 2=m:=by omega
    have e2:2 * m / 2=m:=by omega
    rw [e1,e2]
    simp [h2]
theorem znt (s:BitVec 64) (h:s≠0#64):za s=Lib.ctz 64 s.toNat::za (s&&&(s - 1#64)):=by
 obtain ⟨h1,h2,h3,h4⟩:=zAi s h
 rw [za,zlY h2 h3 64 h1,za]
 congr 1
 exact List.filter_congr fun i _=>(h4 i).symm
theorem znu:za 0#64=[]:=by decide
def zcl (T:Nat→Obj→Prop):Prop := ∀ x:BitVec 64,Fn Tryd.prog T zan [.d (.u64 x)] [] (.d (.int .i64 (Lib.ctz 64 x.toNat))) []
def rb (r:List (BitVec 64)) (w v:Nat):Bool:=(r.getD w 0#64).getLsbD v
theorem zpY {r:List (BitVec 64)} {w:Nat} {s:BitVec 64} (h:r[w]? = some s) (v:Nat):rb r w v=s.getLsbD v:=by simp [rb,List.getD,h]
theorem zxu {r:List (BitVec 64)} {w v:Nat} (h:r.length≤w):rb r w v=false:=by simp [rb,List.getD,h]
def zlt (r:List (BitVec 64)):Prop := ∀ w v,rb r w v=true→v < r.length
theorem zbK {s:BitVec 64} {v:Nat} : v∈za s↔s.getLsbD v=true:=by
 rw [za,List.mem_filter,List.mem_range]
 constructor
 ·exact fun h=>h.2
 ·exact fun h=>⟨BitVec.lt_of_getLsbD h,h⟩
theorem zmk (s:BitVec 64):(za s).Nodup:=List.nodup_range.filter _
def zfY {α:Type} (p:α→Bool) (l:List α):Int:=if l.findIdx p < l.length then (l.findIdx p:Int) else -1
theorem ziM {α:Type} {p:α→Bool} {l:List α} {k:Nat} {x:α} (h:l[k]? = some x) (hp:p x=true) (hI : ∀ i y,i < k→l[i]? = some y→p y=false):zfY p l=k:=by
 obtain ⟨hk,rfl⟩:=List.getElem?_eq_some_iff.1 h
 have:l.findIdx p=k:=by
  rw [List.findIdx_eq hk]
  exact ⟨hp,fun j hj=>by simpa using hI j l[j] hj (List.getElem?_eq_getElem (by omega))⟩
 rw [zfY,this,if_pos hk]
theorem zkD {α:Type} {p:α→Bool} {l:List α} (hI : ∀ i y,i < l.length→l[i]? = some y→p y=false):zfY p l = -1:=by
 rw [zfY,if_neg]
 intro h
 have h1:=List.findIdx_getElem (p:=p) (xs:=l) (w:=h)
 rw [hI _ _ h (List.getElem?_eq_getElem h)] at h1;cases h1
theorem zs2 {α:Type} {p:α→Bool} {l:List α} : 0≤zfY p l ↔ ∃ x∈l,p x=true:=by
 rw [zfY,← List.findIdx_lt_length]
 split<;>omega
theorem zs8 (l:List Int) (x:Int):Fn Tryd.prog T zer [.d (dI l),.d (.int .i64 x)] [] (.d (.int .i64 (zfY (fun y=>x==y) l))) []:=by
 refine zb zk zh9 (by show 2≤19;decide) ?_
 (repeat' ((conv=>whnf);first|refine vA ?_|refine vJ fun hg=>?_|refine vT ?_));all_goals try conv=>whnf
 refine zar (fun (k:Nat)=>[(0,.d (dI l)),(1,.d (.int .i64 (x))),(7,.d (.int .i64 ((l.map (D.int .i64)).length:Int))),(8,.d (.int .i64 ((k:Int))))]) (fun (k:Nat)=>k≤l.length ∧ ∀ i y,i < k→l[i]? = some y→(x==y)=false) (fun (k:Nat)=>l.length - k) (0) (⟨by simp,by simp⟩) (by (repeat' first|exact trivial|exact rfl|refine And.intro ?_ ?_)) ?_
 rintro k ⟨hk,hI⟩
 (repeat' ((conv=>whnf);first|refine vA ?_|(refine vF ?_ ?_<;>intro hc<;>try simp only [vL] at hc)|refine vT ?_|(refine vQ ?_ fun x hx=>?_;·omega)|(refine vO ?_ ?_;·omega)|refine vX ?_));all_goals try conv=>whnf
 ·exact (ziM hx (by simpa using hc) hI).symm
 ·have hne:=hc
  exact ⟨k+1,[],[],⟨by (omega),fun i y hi hy=>by
   by_cases e:i=k
   ·subst e;rw [hx] at hy;cases hy;simpa using hne
   ·exact hI i y (by omega) hy⟩,by (omega),by (refine ⟨rfl,rfl,rfl,?_,?_⟩;repeat' first|exact trivial|exact rfl|refine And.intro ?_ ?_)⟩
 ·exact (zkD fun i y hi hy=>hI i y (by omega) hy).symm
def zai (r:List (BitVec 64)):Int:=if 64 < r.length then 2 else if r.any (bad r.length) then 1 else 0
theorem znF (r:List (BitVec 64)):Fn Tryd.prog T zfh [.d (.int .i64 ((r.map D.u64).length:Int)),.d (dU r)] [] (.d (.int .i64 (zai r))) []:=by
 have h:=znf (T:=T) (r.length:Int) r
 have e:zai r=if (r.length:Int) < 0∨(64:Int) < (r.length:Int) then 2 else if (r.length:Int)≠(r.length:Int) then 3 else if r.any (bad (r.length:Int)) then 1 else 0:=by
  unfold zai
  by_cases h1:64 < r.length
  ·rw [if_pos h1,if_pos (.inr (Int.ofNat_lt.2 h1))]
  ·rw [if_neg h1,if_neg (show ¬((r.length:Int) < 0∨(64:Int) < (r.length:Int)) by omega),if_neg (show ¬((r.length:Int)≠(r.length:Int)) by simp)]
 rw [List.length_map,e];exact h
theorem zlx {n:Int} {s:BitVec 64} (h:0≤n):bad n s=false ↔ ∀ i,s.getLsbD i=true→(i:Int) < n:=by
 rw [bad,decide_eq_false_iff_not,Classical.not_not]
 constructor
 ·intro e i hi
  have hlt:=BitVec.lt_of_getLsbD hi
  have:=congrArg (fun x=>x.getLsbD i) e
  simp only [BitVec.getLsbD_and,BitVec.getLsbD_not,hlt,decide_true,Bool.true_and,hi,zc4 h hlt] at this
  simpa using this
 ·intro hs
  apply BitVec.eq_of_getLsbD_eq
  intro i hi
  rw [BitVec.getLsbD_and,BitVec.getLsbD_not,zc4 h hi]
  cases hb:s.getLsbD i with
  | false=>simp
  | true=>have:=hs i hb;simp [hi,this]
theorem zbM {r:List (BitVec 64)} : zai r=0↔r.length≤64∧zlt r:=by
 unfold zai
 by_cases h1:64 < r.length
 ·rw [if_pos h1];simp;omega
 ·rw [if_neg h1]
  have:(r.any (bad r.length)=false)↔zlt r:=by
   rw [List.any_eq_false]
   constructor
   ·intro h w v hv
    by_cases hw:w < r.length
    ·have:=(zlx (n:=(r.length:Int)) (by omega)).1 (by simpa using h r[w] (List.getElem_mem hw)) v (by rw [← zpY (List.getElem?_eq_getElem hw)];exact hv)
     omega
    ·rw [zxu (by omega)] at hv;cases hv
   ·intro h s hs
    obtain ⟨w,hw⟩:=List.getElem?_of_mem hs
    rw [(zlx (n:=(r.length:Int)) (by omega)).2 (fun i hi=>by have:=h w i (by rw [zpY hw];exact hi);omega)]
    simp
  cases hb:r.any (bad r.length) with
  | true =>
   rw [if_pos rfl]
   have : ¬ zlt r:=fun h=>by have:=this.2 h;rw [hb] at this;cases this
   simp [this]
  | false =>
   simp only [Bool.false_eq_true,if_false,true_iff]
   exact ⟨by omega,this.1 hb⟩
theorem zt8 {x y:BitVec 64} : x &&& ~~~y=0#64 ↔ ∀ i,x.getLsbD i=true→y.getLsbD i=true:=by
 constructor
 ·intro e i hi
  have hlt:=BitVec.lt_of_getLsbD hi
  have:=congrArg (fun x=>x.getLsbD i) e
  simp only [BitVec.getLsbD_and,BitVec.getLsbD_not,hlt,decide_true,Bool.true_and,hi] at this
  simpa using this
 ·intro h
  apply BitVec.eq_of_getLsbD_eq
  intro i hi
  rw [BitVec.getLsbD_and,BitVec.getLsbD_not]
  cases hb:x.getLsbD i with
  | false=>simp
  | true=>simp [hi,h i hb]
end Go.Ab
namespace Go.Ab
open Go Go.Proofs
set_option maxRecDepth 10000
set_option maxHeartbeats 4000000
variable {T:Nat→Obj→Prop}
theorem zo.objs {P:Program} {M:Nat→Option Ob} {n f:Nat} {vs lvs:List V} {obs:List Ob} {lv:V} {obs':List (Option Ob)} {K:V→Upd→Nat→Prop} (js:List Nat) (hf:Fn P T f lvs obs lv obs') (ha:VPasses M js [] 20 lvs vs)
  (ho:zaN M js [] obs js) (hnd:nodup js=true) (hsj:zdM js (zL M vs)=true) (hle:js.length≤obs'.length)
  (hK:K (zje js n 20 lv) (zfO js [] n obs' false) (obs'.length - js.length)):zo (zdf P T) M n f vs K :=
 ⟨⟨_,_,_,⟨js,[],false,lvs,obs,lv,obs',hf,ha,ho,hnd,by simp [zd1],hsj,by simp [zdM],hle,nofun,rfl,rfl,rfl⟩,hK⟩⟩
section
variable {α:Type} [Inhabited α]
theorem zcf {d:Array α} {i:Nat} (h:i < d.size):d.toList[i]? = some d[i]! := by
 simp [h]
theorem zeY {d:Array α} {i:Nat} {x:α} (h:d.toList[i]? = some x):d[i]! = x∧i < d.size:=by
 obtain ⟨h1,h2⟩:=List.getElem?_eq_some_iff.1 h
 rw [Array.length_toList] at h1
 exact ⟨by simp [h1];simpa using h2,h1⟩
theorem zvn {enc:α→D} {d:Array α} {i j:Nat} {x y:α} (hi:d.toList[i]? = some x) (hj:d.toList[j]? = some y):((d.toList.map enc).set i (enc y)).set j (enc x)=(Sort.swp d i j).toList.map enc:=by
 obtain ⟨e1,_⟩:=zeY hi
 obtain ⟨e2,_⟩:=zeY hj
 simp [Sort.swp,e1,e2,List.map_set]
theorem zt2 (d:Array α) (i j:Nat):(Sort.swp d i j).size=d.size:=by simp [Sort.swp]
variable {lt:α→α→Bool}
theorem zld {a j:Nat} {d:Array α} (h : ¬(a < j∧lt d[j]! d[j - 1]! = true)):Sort.insInner lt a j d=d:=by
 cases j with
 | zero=>rfl
 | succ j =>
  unfold Sort.insInner
  rw [if_neg]
  simpa using h
theorem zlc {a j:Nat} {d:Array α} (h1:a < j) (h2:lt d[j]! d[j - 1]! = true):Sort.insInner lt a j d=Sort.insInner lt a (j - 1) (Sort.swp d j (j - 1)):=by
 cases j with
 | zero=>omega
 | succ j =>
  rw [Sort.insInner,if_pos]
  ·simp
  ·simp at h2 ⊢;exact ⟨by omega,h2⟩
end
end Go.Ab
namespace Go.Ab
open Go
structure zCy (n:Nat) (q:Nat→Nat):Prop where
 le : ∀ w,w < n→q w≤w
 idem : ∀ w,w < n→q (q w)=q w
theorem zrc {p p':Nat→Bool} (hi : ∀ w,p w=true→p' w=true) : ∀ l:List Nat,(l.filter p).length≤(l.filter p').length∧((∃ w∈l,p w=false∧p' w=true)→(l.filter p).length < (l.filter p').length)
 | []=>⟨Nat.le_refl _,fun ⟨w,h,_⟩=>by cases h⟩
 | x::l=>by
  obtain ⟨h1,h2⟩:=zrc hi l
  cases hp:p x with
  | true =>
   rw [List.filter_cons_of_pos hp,List.filter_cons_of_pos (hi x hp)]
   refine ⟨by simpa using h1,fun ⟨w,hw,h3,h4⟩=>?_⟩
   rcases List.mem_cons.1 hw with rfl|hw
   ·rw [hp] at h3;cases h3
   ·have:=h2 ⟨w,hw,h3,h4⟩;simpa using this
  | false =>
   rw [List.filter_cons_of_neg (by simp [hp])]
   cases hp':p' x with
   | true =>
    rw [List.filter_cons_of_pos hp',List.length_cons]
    exact ⟨by omega,fun _=>by omega⟩
   | false =>
    rw [List.filter_cons_of_neg (by simp [hp'])]
    refine ⟨h1,fun ⟨w,hw,h3,h4⟩=>?_⟩
    rcases List.mem_cons.1 hw with rfl|hw
    ·rw [hp'] at h4;cases h4
    ·exact h2 ⟨w,hw,h3,h4⟩
end Go.Ab
namespace Go.Ab
open Go Go.Proofs
set_option maxRecDepth 10000
set_option maxHeartbeats 4000000
variable {T:Nat→Obj→Prop}
theorem zyz (n:Int) (h:0≤n):Fn Tryd.prog T zgP [.d (.int .i64 n)] [] (.d (.u64 (z2 n))) []:=by
 refine zb zk zmg (by show 1≤8;decide) ?_
 (repeat' ((conv=>whnf);first|refine vA ?_|(refine vF ?_ ?_<;>intro hc<;>try simp only [vL] at hc)|refine vT ?_|(refine vP ?_ ?_;·omega)|refine vY ?_));all_goals try conv=>whnf
 ·rw [z2,if_pos (by omega)];rfl
 ·rw [z2,if_neg (by omega)];rfl
theorem zrj (l:List (BitVec 64)) (n:Int) (h:0≤n):Fn Tryd.prog T zft [.d (dU l),.d (.int .i64 n)] [] (.d (.bool (l.any (bad n)))) []:=by
 refine zb zk zjS (by show 2≤20;decide) ?_
 (repeat' ((conv=>whnf);first|refine vA ?_|refine vT ?_));all_goals try conv=>whnf
 refine zar (fun (k:Nat)=>[(0,.d (dU l)),(1,.d (.int .i64 (n))),(5,.d (.int .i64 ((k:Int))))]) (fun (k:Nat)=>k≤l.length∧l.any (bad n)=(l.drop k).any (bad n)) (fun (k:Nat)=>l.length - k) (0) (⟨by simp,rfl⟩) (by (repeat' first|exact trivial|exact rfl|refine And.intro ?_ ?_)) ?_
 rintro k ⟨hk,hI⟩
 (repeat' ((conv=>whnf);first|refine vA ?_|((first|refine vD ?_ ?_|refine vF ?_ ?_)<;>intro hc<;>try simp only [vL] at hc)|refine vJ fun hg=>?_|refine vT ?_|(refine vQ ?_ fun x hx=>?_;·omega)|(refine vO ?_ ?_;·omega)|(refine vU ?_ ?_;·kernel_rfl)|refine vZ ?_|refine yD (zyz n h) ⟨⟨rfl,rfl⟩,rfl⟩ rfl ?_));all_goals try conv=>whnf
 ·rw [hI,zab hx,List.any_cons,show bad n x=true from decide_eq_true ‹_›];rfl
 ·exact ⟨k+1,[],[],⟨by (omega),by rw [hI,zab hx,List.any_cons,show bad n x=false from decide_eq_false (by simpa using ‹x &&& ~~~z2 n=0#64›)];rfl⟩,by (omega),by (refine ⟨rfl,rfl,rfl,?_,?_⟩;repeat' first|exact trivial|exact rfl|refine And.intro ?_ ?_)⟩
 ·rw [hI,List.drop_eq_nil_of_le (by omega)];rfl
def zi (m:KM):Int :=
 if m.W < 1∨64 < m.W then 2 else if 4 < m.rel.length∨8 < m.val.length then 8 else if m.rel.any (fun r=>decide ((r.length:Int)≠m.W)) then 3 else if m.val.any (bad m.W) then 2 else if m.rel.any (fun r=>r.any (bad m.W)) then 2 else 0
structure zd5 (m:KM):Prop where
 w1:1≤m.W
 w2:m.W≤64
 n4:m.rel.length≤4
 v8:m.val.length≤8
 len : ∀ r∈m.rel,(r.length:Int)=m.W
 val : ∀ s∈m.val,bad m.W s=false
 rel : ∀ r∈m.rel,∀ s∈r,bad m.W s=false
theorem zw {m:KM} (h:zi m=0):zd5 m:=by
 unfold zi at h
 split at h
 ·cases h
 ·split at h
  ·cases h
  ·split at h
   ·cases h
   ·split at h
    ·cases h
    ·split at h
     ·cases h
     ·rename_i h1 h2 h3 h4 h5
      refine ⟨by omega,by omega,by omega,by omega,fun r hr=>?_,fun s hs=>?_,fun r hr s hs=>?_⟩
      ·simp only [List.any_eq_true,not_exists,not_and] at h3;simpa using h3 r hr
      ·simp only [List.any_eq_true,not_exists,not_and] at h4;simpa using h4 s hs
      ·simp only [List.any_eq_true,not_exists,not_and] at h5;simpa using h5 r hr s hs
theorem zCd (m:KM):Fn Tryd.prog T zfW [.d (dKM m)] [] (.d (.int .i64 (zi m))) []:=by
 refine zb zk zkN (by show 1≤59;decide) ?_
 (repeat' ((conv=>whnf);first|refine vA ?_|(refine vF ?_ ?_<;>intro hc<;>try simp only [vL] at hc)|refine vJ fun hg=>?_|refine vT ?_|refine vX ?_));all_goals try conv=>whnf
 ·rw [zi,if_pos (by omega)]
 ·rw [zi,if_pos (by omega)]
 ·rw [zi,if_neg (by omega),if_pos (by omega)]
 ·rw [zi,if_neg (by omega),if_pos (by omega)]
 ·have e0:zi m=if m.rel.any (fun r=>decide ((r.length:Int)≠m.W)) then 3 else if m.val.any (bad m.W) then 2 else if m.rel.any (fun r=>r.any (bad m.W)) then 2 else 0:=by rw [zi,if_neg (by omega),if_neg (by omega)]
  refine zy (fun (k:Nat)=>[(1,.ptr 0 0),(3,.d (.int .i64 ((k:Int))))]) (fun (k:Nat)=>[(0,some (zaH m))]) 1 (fun (k:Nat)=>k≤m.rel.length∧m.rel.any (fun r=>decide ((r.length:Int)≠m.W))=(m.rel.drop k).any (fun r=>decide ((r.length:Int)≠m.W))) (fun (k:Nat)=>m.rel.length - k) (0) [(0,0)] [] (⟨by simp,rfl⟩) (by (refine ⟨rfl,rfl,rfl,?_,?_⟩;repeat' first|exact trivial|exact rfl|refine And.intro ?_ ?_|refine ⟨_,rfl,?_⟩|decide)) ?_
  rintro k ⟨hk,hI⟩
  (repeat' ((conv=>whnf);first|refine vA ?_|((first|refine vD ?_ ?_|refine vF ?_ ?_)<;>intro hc<;>try simp only [vL] at hc)|refine vJ fun hg=>?_|refine vT ?_|(refine vQ ?_ fun x hx=>?_;·omega)|(refine vO ?_ ?_;·omega)|(refine vU ?_ ?_;·kernel_rfl)|refine vX ?_));all_goals try conv=>whnf
  ·rw [e0,if_pos (by rw [hI,zab hx,List.any_cons,decide_eq_true (by simpa using ‹_›)];rfl)]
  ·exact ⟨k+1,[(0,0)],[],⟨by (omega),by rw [hI,zab hx,List.any_cons,decide_eq_false (by simpa using ‹_›)];rfl⟩,by (omega),by (refine ⟨rfl,rfl,rfl,?_,?_⟩;repeat' first|exact trivial|exact rfl|refine And.intro ?_ ?_|refine ⟨_,rfl,?_⟩|decide)⟩
  ·have h1:m.rel.any (fun r=>decide ((r.length:Int)≠m.W))=false:=by rw [hI,List.drop_eq_nil_of_le (by omega)];rfl
   rw [h1,if_neg (by decide)] at e0
   (repeat' ((conv=>whnf);first|refine vA ?_|(refine vI ?_ ?_<;>intro hc)|refine vT ?_|refine vX ?_|refine yD (zrj _ m.W (by omega)) ⟨⟨rfl,rfl⟩,⟨rfl,rfl⟩,rfl⟩ rfl ?_));all_goals try conv=>whnf
   ·rw [e0,if_pos ‹_›]
   ·rw [show m.val.any (bad m.W)=false from ‹_›,if_neg (by decide)] at e0
    refine zy (fun (k:Nat)=>[(1,.ptr 0 0),(4,.d (.int .i64 ((k:Int))))]) (fun (k:Nat)=>[(0,some (zaH m))]) 1 (fun (k:Nat)=>k≤m.rel.length∧m.rel.any (fun r=>r.any (bad m.W))=(m.rel.drop k).any (fun r=>r.any (bad m.W))) (fun (k:Nat)=>m.rel.length - k) (0) [(0,0)] [] (⟨by simp,rfl⟩) (by (refine ⟨rfl,rfl,rfl,?_,?_⟩;repeat' first|exact trivial|exact rfl|refine And.intro ?_ ?_|refine ⟨_,rfl,?_⟩|decide)) ?_
    clear hI hk
    rintro k ⟨hk,hI⟩
    (repeat' ((conv=>whnf);first|refine vA ?_|((first|refine vF ?_ ?_|refine vI ?_ ?_)<;>intro hc<;>try simp only [vL] at hc)|refine vJ fun hg=>?_|refine vT ?_|(refine vQ ?_ fun x hx=>?_;·omega)|(refine vO ?_ ?_;·omega)|(refine vU ?_ ?_;·kernel_rfl)|refine vX ?_|refine yD (zrj _ m.W (by omega)) ⟨⟨rfl,rfl⟩,⟨rfl,rfl⟩,rfl⟩ rfl ?_));all_goals try conv=>whnf
    ·rw [e0,if_pos (by rw [hI,zab hx,List.any_cons,show x.any (bad m.W)=true from ‹_›];rfl)]
    ·exact ⟨k+1,[(0,0)],[],⟨by (omega),by rw [hI,zab hx,List.any_cons,show x.any (bad m.W)=false from ‹_›];rfl⟩,by (omega),by (refine ⟨rfl,rfl,rfl,?_,?_⟩;repeat' first|exact trivial|exact rfl|refine And.intro ?_ ?_|refine ⟨_,rfl,?_⟩|decide)⟩
    ·rw [e0,if_neg]
     rw [hI,List.drop_eq_nil_of_le (by omega)];simp
theorem zj4 {k:IntKind} {a:Nat} (h:a < 2 ^ k.bits):(BitVec.ofInt k.bits (a:Int)).toNat=a:=by
 rw [BitVec.toNat_ofInt,Int.emod_eq_of_lt (Int.natCast_nonneg a) (show (a:Int) < ((2 ^ k.bits:Nat):Int) from Int.ofNat_lt.2 h)]
 rfl
theorem zoM {a:Nat} (h:a < 2 ^ 63):IntKind.wrap .i64 (a:Int)=a:=zt7 ⟨by omega,by omega⟩
theorem zqh {a b:Nat} (ha:a < 2 ^ 63) (hb:b < 2 ^ 63):za6 .i64 (fun p q=>p|||q) (a:Int) (b:Int)=((a|||b:Nat):Int):=by
 unfold za6
 rw [BitVec.toNat_or,zj4 (k := .i64) (by simp [IntKind.bits];omega),zj4 (k := .i64) (by simp [IntKind.bits];omega)]
 exact zoM (Nat.or_lt_two_pow ha hb)
theorem zkS {x:BitVec 64} {k i:Nat} (hk:k < 64):(x|||1#64 <<< k).getLsbD i=true↔x.getLsbD i=true∨i=k:=by
 rw [BitVec.getLsbD_or,Bool.or_eq_true,zqg]
 constructor
 ·rintro (h|h)
  ·exact .inl h
  ·simp at h;exact .inr h.2
 ·rintro (h|rfl)
  ·exact .inl h
  ·exact .inr (by simp [hk])
def zfX (l:List (BitVec 64)) (w:Nat):Nat→Nat
 | 0=>0
 | k+1=>zfX l w k+if (l.getD k 0#64).getLsbD w=true then 2 ^ k else 0
theorem zsZ (l:List (BitVec 64)) (w:Nat) : ∀ k,zfX l w k < 2 ^ k
 | 0=>by simp [zfX]
 | k+1=>by
  have:=zsZ l w k
  have h2:=Nat.two_pow_pos k
  rw [zfX,Nat.pow_succ]
  split<;>omega
theorem zAp {x k:Nat} (h:x < 2 ^ k):x|||2 ^ k=x+2 ^ k:=by
 have:=Nat.two_pow_add_eq_or_of_lt (i:=k) h 1
 rw [Nat.or_comm,show 2 ^ k=2 ^ k * 1 by omega,← this];omega
theorem zyx {l:List (BitVec 64)} {w k:Nat} {s:BitVec 64} (hs:l[k]? = some s) (hk:k < 8) :
  za6 .i64 (fun p q=>p|||q) (zfX l w k:Int) ((((s >>> w&&&1#64).toNat:Int)) * 2 ^ (min k IntKind.i64.bits))=(zfX l w (k+1):Int):=by
 have h1:=zsZ l w k
 have hp:2 ^ k≤2 ^ 7:=Nat.pow_le_pow_right (by decide) (by omega)
 have hb:min k IntKind.i64.bits=k:=by show min k 64=k;omega
 rw [hb,zfX,show l.getD k 0#64=s by rw [List.getD,hs];rfl]
 by_cases h:s.getLsbD w=true
 ·have e:s >>> w&&&1#64=1#64:=(zcg s w).2 h
  rw [e,if_pos h]
  have:=zqh (a:=zfX l w k) (b:=2 ^ k) (by omega) (by omega)
  rw [show ((1#64).toNat:Int) * 2 ^ k=((2 ^ k:Nat):Int) by simp,this,zAp h1]
 ·have e:s >>> w&&&1#64=0#64:=(zek s w).2 (by simpa using h)
  rw [e,if_neg h]
  have:=zqh (a:=zfX l w k) (b:=0) (by omega) (by omega)
  rw [show ((0#64).toNat:Int) * 2 ^ k=((0:Nat):Int) by simp,this];simp
theorem zwD (s:BitVec 64) (w:Nat):(s >>> w&&&1#64).toNat≤1:=by
 cases h:s.getLsbD w with
 | true=>rw [(zcg s w).2 h];decide
 | false=>rw [(zek s w).2 h];decide
theorem zxH {x k:Nat} (hx:x≤1) (hk:k < 8):0≤(x:Int) * 2 ^ (min (k:Int).toNat IntKind.i64.bits)∧(x:Int) * 2 ^ (min (k:Int).toNat IntKind.i64.bits)≤9223372036854775807:=by
 have hp:2 ^ k≤2 ^ 7:=Nat.pow_le_pow_right (by decide) (by omega)
 have hb:min (k:Int).toNat IntKind.i64.bits=k:=by show min k 64=k;omega
 rw [hb]
 match x,hx with
 | 0,_=>simp
 | 1,_ =>
  rw [show ((1:Nat):Int) * 2 ^ k=((2 ^ k:Nat):Int) by simp]
  have h7:(2:Nat) ^ 7=128:=rfl
  exact ⟨Int.natCast_nonneg _,Int.ofNat_le.2 (show 2 ^ k≤9223372036854775807 by omega)⟩
theorem zrE {i:Int} (h0:0≤i) (h7:i≤7):(-9223372036854775808≤(1:Int) * 2 ^ (min i.toNat IntKind.i64.bits)∧(1:Int) * 2 ^ (min i.toNat IntKind.i64.bits)≤9223372036854775807)∧((2 ^ i.toNat:Nat):Int)=(1:Int) * 2 ^ (min i.toNat IntKind.i64.bits):=by
 have:i=0∨i=1∨i=2∨i=3∨i=4∨i=5∨i=6∨i=7:=by omega
 rcases this with rfl|rfl|rfl|rfl|rfl|rfl|rfl|rfl<;>decide
def ptL (n:Nat) (q:Nat→Nat):List Int:=(List.range n).map fun w=>((q w:Nat):Int)
theorem zmo {n:Nat} {q:Nat→Nat} {w:Nat} (hw:w < n):(ptL n q)[w]? = some ((q w:Nat):Int):=by simp [ptL,hw]
theorem zqR {n:Nat} {q:Nat→Nat} : (ptL n q).length=n:=by simp [ptL]
end Go.Ab
namespace Go.Ab
def zav {α:Type} (c:α→α→Int):List α→List α→Int
 | [],[]=>0
 | [],_::_ => -1
 | _::_,[]=>1
 | x::r,y::s=>if c x y=0 then zav c r s else c x y
structure zmG {α:Type} (c:α→α→Int):Prop where
 zero : ∀ {x y},c x y=0↔x=y
 anti : ∀ x y,c y x = - c x y
 tr : ∀ {x y z},c x y < 0→c y z < 0→c x z < 0
theorem zmG.refl {α:Type} {c:α→α→Int} (h:zmG c) (x:α):c x x=0:=h.zero.2 rfl
theorem zuW {α:Type} {c:α→α→Int} (h:zmG c):zmG (zav c) where
 zero:=by
  intro x
  induction x with
  | nil=>intro y;cases y<;>simp [zav]
  | cons a r ih =>
   intro y
   cases y with
   | nil=>simp [zav]
   | cons b s =>
    unfold zav
    by_cases e:c a b=0
    ·rw [if_pos e,ih,h.zero.1 e];simp
    ·rw [if_neg e]
     constructor
     ·intro h';exact absurd h' e
     ·intro h';cases h';exact absurd (h.refl _) e
 anti:=by
  intro x
  induction x with
  | nil=>intro y;cases y<;>simp [zav]
  | cons a r ih =>
   intro y
   cases y with
   | nil=>simp [zav]
   | cons b s =>
    unfold zav
    have:=h.anti a b
    by_cases e:c a b=0
    ·rw [if_pos e,if_pos (by omega),ih]
    ·rw [if_neg e,if_neg (by omega),this]
 tr:=by
  intro x
  induction x with
  | nil =>
   intro y z h1 h2
   cases y with
   | nil=>simp [zav] at h1
   | cons b s=>cases z with
    | nil=>simp [zav] at h2
    | cons d t=>simp [zav]
  | cons a r ih =>
   intro y z h1 h2
   cases y with
   | nil=>simp [zav] at h1
   | cons b s=>cases z with
    | nil=>simp [zav] at h2
    | cons d t =>
     unfold zav at h1 h2 ⊢
     by_cases e1:c a b=0
     ·obtain rfl:=h.zero.1 e1
      rw [if_pos e1] at h1
      by_cases e2:c a d=0
      ·rw [if_pos e2] at h2 ⊢;exact ih h1 h2
      ·rw [if_neg e2] at h2 ⊢;exact h2
     ·rw [if_neg e1] at h1
      by_cases e2:c b d=0
      ·obtain rfl:=h.zero.1 e2
       rw [if_neg e1];exact h1
      ·rw [if_neg e2] at h2
       have h3:=h.tr h1 h2
       rw [if_neg (by omega)];exact h3
def zbO (x y:Int):Int:=if x < y then -1 else if y < x then 1 else 0
theorem zz0:zmG zbO where
 zero:=by
  intro x y;unfold zbO
  by_cases h1:x < y
  ·rw [if_pos h1];omega
  ·rw [if_neg h1]
   by_cases h2:y < x
   ·rw [if_pos h2];omega
   ·rw [if_neg h2];omega
 anti:=by
  intro x y;unfold zbO
  by_cases h1:x < y
  ·rw [if_pos h1,if_neg (by omega),if_pos h1];rfl
  ·rw [if_neg h1]
   by_cases h2:y < x
   ·rw [if_pos h2,if_neg h1,if_pos h2]
   ·rw [if_neg h2,if_neg h1,if_neg h2];rfl
 tr:=by
  intro x y z;unfold zbO
  by_cases h1:x < y
  ·rw [if_pos h1]
   by_cases h2:y < z
   ·rw [if_pos h2,if_pos (by omega)];simp
   ·rw [if_neg h2]
    by_cases h3:z < y
    ·rw [if_pos h3];intro _ h;omega
    ·rw [if_neg h3];intro _ h;omega
  ·rw [if_neg h1]
   by_cases h2:y < x
   ·rw [if_pos h2];intro h;omega
   ·rw [if_neg h2];intro h;omega
abbrev Tup:=List (List Int)
def zbi:Tup→Tup→Int:=zav (zav zbO)
theorem zaU:zmG zbi:=zuW (zuW zz0)
def ddT {α:Type} [DecidableEq α]:List α→List α
 | []=>[]
 | x::r=>if x∈r then ddT r else x::ddT r
theorem zck {α:Type} [DecidableEq α] {x:α} : ∀ {l:List α},x∈ddT l↔x∈l
 | []=>Iff.rfl
 | y::r=>by
  unfold ddT
  have ih:=zck (x:=x) (l:=r)
  by_cases h:y∈r
  ·rw [if_pos h,ih,List.mem_cons]
   exact ⟨.inr,fun h'=>h'.elim (fun e=>e▸h) id⟩
  ·rw [if_neg h,List.mem_cons,List.mem_cons,ih]
theorem ze3 {α:Type} [DecidableEq α] : ∀ l:List α,(ddT l).Nodup
 | []=>List.nodup_nil
 | y::r=>by
  unfold ddT
  by_cases h:y∈r
  ·rw [if_pos h];exact ze3 r
  ·rw [if_neg h];exact List.nodup_cons.2 ⟨fun h'=>h (zck.1 h'),ze3 r⟩
def rkN (ts:List Tup) (t:Tup):Nat:=((ddT ts).filter fun s=>decide (zbi s t < 0)).length
def cnN (ts:List Tup):Nat:=(ddT ts).length
theorem zkP {α:Type} [DecidableEq α] {l l':List α} (h:l.Nodup) (h':l'.Nodup) (hm : ∀ x,x∈l↔x∈l'):l.Perm l':=by
 rw [List.perm_iff_count]
 intro a
 have c : ∀ l:List α,l.Nodup→l.count a=if a∈l then 1 else 0:=fun l hl=>by
  by_cases ha:a∈l
  ·rw [if_pos ha]
   have h1:=List.nodup_iff_count.1 hl a
   have h2:=List.count_pos_iff.2 ha
   omega
  ·rw [if_neg ha];exact List.count_eq_zero.2 ha
 rw [c l h,c l' h']
 by_cases ha:a∈l
 ·rw [if_pos ha,if_pos ((hm a).1 ha)]
 ·rw [if_neg ha,if_neg (fun h=>ha ((hm a).2 h))]
theorem zzS {ts S:List Tup} (hn:S.Nodup) (hm : ∀ x,x∈S↔x∈ts) (t:Tup):(S.filter fun s=>decide (zbi s t < 0)).length=rkN ts t :=
 ((zkP hn (ze3 _) fun x=>by rw [hm,zck]).filter _).length_eq
theorem zzJ {ts S:List Tup} (hn:S.Nodup) (hm : ∀ x,x∈S↔x∈ts):S.length=cnN ts :=
 (zkP hn (ze3 _) fun x=>by rw [hm,zck]).length_eq
theorem zzb {ts ts':List Tup} (hm : ∀ x,x∈ts↔x∈ts') (t:Tup):rkN ts t=rkN ts' t :=
 zzS (ze3 _) (fun x=>by rw [zck];exact hm x) t
theorem zyq {ts ts':List Tup} (hm : ∀ x,x∈ts↔x∈ts'):cnN ts=cnN ts' :=
 zzJ (ze3 _) (fun x=>by rw [zck];exact hm x)
theorem zrH {ts:List Tup} {s t:Tup} (hs:s∈ts) (ht:t∈ts):rkN ts s < rkN ts t↔zbi s t < 0:=by
 have key : ∀ {s t:Tup},s∈ts→zbi s t < 0→rkN ts s < rkN ts t:=by
  intro s t hs h
  unfold rkN
  have h1 : ∀ x,decide (zbi x s < 0)=true→decide (zbi x t < 0)=true:=fun x hx=>decide_eq_true (zaU.tr (of_decide_eq_true hx) h)
  have h2:s∈(ddT ts):=zck.2 hs
  generalize (ddT ts)=l at h2
  induction l with
  | nil=>cases h2
  | cons a r ih =>
   have hle:(r.filter fun x=>decide (zbi x s < 0)).length≤(r.filter fun x=>decide (zbi x t < 0)).length:=by
    clear ih h2
    induction r with
    | nil=>simp
    | cons b r ih =>
     simp only [List.filter_cons]
     by_cases hb:decide (zbi b s < 0)=true
     ·rw [if_pos hb,if_pos (h1 b hb)];simpa using ih
     ·rw [if_neg hb]
      split
      ·rw [List.length_cons];omega
      ·exact ih
   simp only [List.filter_cons]
   by_cases hb:decide (zbi a s < 0)=true
   ·rw [if_pos hb,if_pos (h1 a hb)]
    rcases List.mem_cons.1 h2 with rfl|h2
    ·have:=zaU.refl s;have:=of_decide_eq_true hb;omega
    ·simpa using ih h2
   ·rw [if_neg hb]
    rcases List.mem_cons.1 h2 with rfl|h2
    ·rw [if_pos (decide_eq_true h)];simp;omega
    ·have:=ih h2
     split
     ·rw [List.length_cons];omega
     ·exact this
 refine ⟨fun h=>?_,key hs⟩
 have ha:=zaU.anti s t
 rcases Int.lt_trichotomy (zbi s t) 0 with h'|h'|h'
 ·exact h'
 ·rw [zaU.zero.1 h'] at h;omega
 ·have:=key (s:=t) (t:=s) ht (by omega);omega
theorem zBx {ts:List Tup} {s t:Tup} (hs:s∈ts) (ht:t∈ts) (h:rkN ts s=rkN ts t):s=t:=by
 have h1:=zrH hs ht
 have h2:=zrH ht hs
 have h3:=zaU.anti s t
 exact zaU.zero.1 (by omega)
end Go.Ab
namespace Go.Ab
theorem ze4 {α:Type} [DecidableEq α] : ∀ {l l':List α},l.Nodup→(∀ x∈l,x∈l')→l.length≤l'.length
 | [],_,_,_=>Nat.zero_le _
 | x::t,l',h,hs=>by
  obtain ⟨h1,h2⟩:=List.nodup_cons.1 h
  have:=ze4 (l:=t) (l':=l'.erase x) h2 fun y hy=>by
   have hne:y≠x:=fun e=>h1 (e▸hy)
   exact (List.mem_erase_of_ne hne).2 (hs y (List.mem_cons_of_mem _ hy))
  have hx:=hs x (by simp)
  rw [List.length_erase_of_mem hx] at this
  have:=List.length_pos_of_mem hx
  rw [List.length_cons];omega
def dcN (n:Nat) (q:Nat→Nat):Nat:=(ddT ((List.range n).map q)).length
theorem zsN (n:Nat) (q:Nat→Nat):dcN n q≤n:=by
 have:=ze4 (ze3 ((List.range n).map q)) (l':=(List.range n).map q) fun x hx=>zck.1 hx
 rwa [List.length_map,List.length_range] at this
theorem zvH {α β:Type} [DecidableEq α] [DecidableEq β] {n:Nat} {f:Nat→α} {g:Nat→β} (h : ∀ v w,v < n→w < n→f v=f w→g v=g w):(ddT ((List.range n).map g)).length≤(ddT ((List.range n).map f)).length:=by
 classical
 by_cases h0:n=0
 ·subst h0;exact Nat.le_refl _
 let pick:α→β:=fun a=>g (((List.range n).find? fun w=>decide (f w=a)).getD 0)
 have:=ze4 (ze3 ((List.range n).map g)) (l':=(ddT ((List.range n).map f)).map pick) fun x hx=>by
  obtain ⟨w,hw,rfl⟩:=List.mem_map.1 (zck.1 hx)
  have hw':=List.mem_range.1 hw
  refine List.mem_map.2 ⟨f w,zck.2 (List.mem_map.2 ⟨w,hw,rfl⟩),?_⟩
  show g (((List.range n).find? fun u=>decide (f u=f w)).getD 0)=g w
  cases hf:(List.range n).find? fun u=>decide (f u=f w) with
  | none =>
   have:=List.find?_eq_none.1 hf w hw
   simp at this
  | some u =>
   have h1:=List.find?_some hf
   have h2:=List.mem_range.1 (List.mem_of_find?_eq_some hf)
   exact h u w h2 hw' (of_decide_eq_true h1)
 rwa [List.length_map] at this
section
variable (n:Nat) (next:(Nat→Nat)→Nat→Tup)
def rfT (q:Nat→Nat):List Tup:=(List.range n).map (next q)
def ze5 (q:Nat→Nat):Nat→Nat:=fun w=>rkN (rfT n next q) (next q w)
def zdj (q:Nat→Nat):Nat:=cnN (rfT n next q)
def zex:Nat→(Nat→Nat)→Nat→(Nat→Nat)×Nat
 | 0,q,k=>(q,k)
 | f+1,q,k=>if zdj n next q=k then (q,k) else zex f (ze5 n next q) (zdj n next q)
end
section
variable {n:Nat} {next:(Nat→Nat)→Nat→Tup} (hF : ∀ q v w,v < n→w < n→next q v=next q w→q v=q w)
theorem zve {q:Nat→Nat} {w:Nat} (hw:w < n):next q w∈rfT n next q:=List.mem_map.2 ⟨w,List.mem_range.2 hw,rfl⟩
theorem zt1 {q:Nat→Nat} {v w:Nat} (hv:v < n) (hw:w < n):ze5 n next q v=ze5 n next q w↔next q v=next q w :=
 ⟨fun h=>zBx (zve hv) (zve hw) h,fun h=>by unfold ze5;rw [h]⟩
theorem zgs (q:Nat→Nat):dcN n (ze5 n next q)=zdj n next q:=by
 have h1:=zvH (n:=n) (f:=next q) (g:=ze5 n next q) fun v w hv hw h=>(zt1 hv hw).2 h
 have h2:=zvH (n:=n) (f:=ze5 n next q) (g:=next q) fun v w hv hw h=>(zt1 hv hw).1 h
 exact Nat.le_antisymm h1 h2
theorem zA5 (q:Nat→Nat):zdj n next q≤n:=by rw [← zgs];exact zsN _ _
include hF
theorem zwJ (q:Nat→Nat):dcN n q≤zdj n next q:=zvH fun v w hv hw h=>hF q v w hv hw h
theorem zvf : ∀ (f g:Nat) (q:Nat→Nat),n < f+dcN n q→n < g+dcN n q→zex n next f q (dcN n q)=zex n next g q (dcN n q)
 | 0,g,q,h,_=>by have:=zsN n q;omega
 | f+1,0,q,_,h=>by have:=zsN n q;omega
 | f+1,g+1,q,h1,h2=>by
  unfold zex
  by_cases h:zdj n next q=dcN n q
  ·rw [if_pos h,if_pos h]
  ·rw [if_neg h,if_neg h]
   have h3:=zwJ hF q
   have h4:=zvf f g (ze5 n next q) (by rw [zgs];omega) (by rw [zgs];omega)
   rwa [zgs] at h4
end
end Go.Ab
namespace Go.Ab
structure Ren (n:Nat) (f:Nat→Nat):Prop where
 lt : ∀ w,w < n→f w < n
 inj : ∀ v w,v < n→w < n→f v=f w→v=w
theorem Ren.surj {n:Nat} {f:Nat→Nat} (h:Ren n f) {x:Nat} (hx:x < n) : ∃ w,w < n∧f w=x:=by
 refine Classical.byContradiction fun hn=>?_
 have:=ze4 (l:=x::(List.range n).map f) (l':=List.range n) (List.nodup_cons.2 ⟨fun hm=>?_,?_⟩) fun y hy=>?_
 ·simp at this
  omega
 ·obtain ⟨w,hw,e⟩:=List.mem_map.1 hm
  exact hn ⟨w,List.mem_range.1 hw,e⟩
 ·rw [List.Nodup,List.pairwise_map]
  exact List.Pairwise.imp_of_mem (fun {a b} ha hb hab e=>hab (h.inj a b (List.mem_range.1 ha) (List.mem_range.1 hb) e)) List.nodup_range
 ·rcases List.mem_cons.1 hy with rfl|hy
  ·exact List.mem_range.2 hx
  ·obtain ⟨w,hw,rfl⟩:=List.mem_map.1 hy
   exact List.mem_range.2 (h.lt w (List.mem_range.1 hw))
section
variable {n:Nat} {f:Nat→Nat} (hf:Ren n f) {t t':Nat→Tup} (ht : ∀ w,w < n→t' (f w)=t w)
include hf ht
theorem zvb (x:Tup):x∈(List.range n).map t'↔x∈(List.range n).map t:=by
 constructor
 ·intro h
  obtain ⟨y,hy,rfl⟩:=List.mem_map.1 h
  obtain ⟨w,hw,rfl⟩:=hf.surj (List.mem_range.1 hy)
  exact List.mem_map.2 ⟨w,List.mem_range.2 hw,(ht w hw).symm⟩
 ·intro h
  obtain ⟨w,hw,rfl⟩:=List.mem_map.1 h
  exact List.mem_map.2 ⟨f w,List.mem_range.2 (hf.lt w (List.mem_range.1 hw)),ht w (List.mem_range.1 hw)⟩
theorem zxy {w:Nat} (hw:w < n):rkN ((List.range n).map t') (t' (f w))=rkN ((List.range n).map t) (t w):=by
 rw [ht w hw];exact zzb (zvb hf ht) _
theorem zxx:cnN ((List.range n).map t')=cnN ((List.range n).map t):=zyq (zvb hf ht)
end
theorem ztP {n:Nat} {f:Nat→Nat} (hf:Ren n f) {next next':(Nat→Nat)→Nat→Tup} (hn : ∀ q q',(∀ w,w < n→q' (f w)=q w) → ∀ w,w < n→next' q' (f w)=next q w) :
  ∀ (k:Nat) (q q':Nat→Nat) (c:Nat),(∀ w,w < n→q' (f w)=q w)→(∀ w,w < n→(zex n next' k q' c).1 (f w)=(zex n next k q c).1 w)∧(zex n next' k q' c).2=(zex n next k q c).2
 | 0,q,q',c,h=>⟨h,rfl⟩
 | k+1,q,q',c,h=>by
  have ht:=hn q q' h
  have hc:zdj n next' q'=zdj n next q:=zxx hf ht
  unfold zex
  rw [hc]
  by_cases he:zdj n next q=c
  ·rw [if_pos he,if_pos he];exact ⟨h,rfl⟩
  ·rw [if_neg he,if_neg he]
   exact ztP hf hn k _ _ _ fun w hw=>zxy hf ht hw
def leI (x y:Int):Bool:=decide (x≤y)
theorem zBs (a b c:Int) (h1:leI a b=true) (h2:leI b c=true):leI a c=true:=by simp [leI] at *;omega
theorem zAg (a b:Int):(leI a b||leI b a)=true:=by simp [leI];omega
def zeC (l:List Int):List Int:=l.mergeSort leI
theorem zij (l:List Int):(zeC l).Perm l:=List.mergeSort_perm l leI
theorem zkZ (l:List Int):(zeC l).Pairwise (· ≤ ·):=(List.pairwise_mergeSort zBs zAg l).imp fun h=>by simpa [leI] using h
theorem zg6 : ∀ {l l':List Int},l.Pairwise (· ≤ ·)→l'.Pairwise (· ≤ ·)→l.Perm l'→l=l'
 | [],l',_,_,h=>(List.nil_perm.1 h).symm
 | a::r,[],_,_,h=>by cases List.perm_nil.1 h
 | a::r,b::s,h1,h2,h=>by
  obtain ⟨h3,h4⟩:=List.pairwise_cons.1 h1
  obtain ⟨h5,h6⟩:=List.pairwise_cons.1 h2
  have e:a=b:=by
   have hb:b∈a::r:=h.mem_iff.2 (by simp)
   have ha:a∈b::s:=h.mem_iff.1 (by simp)
   rcases List.mem_cons.1 hb with e|hb
   ·exact e.symm
   ·rcases List.mem_cons.1 ha with e|ha
    ·exact e
    ·have:=h3 b hb;have:=h5 a ha;omega
  subst e
  rw [zg6 h4 h6 ((List.perm_cons a).1 h)]
theorem zrP {l l':List Int} (h:l.Perm l'):zeC l=zeC l':=zg6 (zkZ l) (zkZ l') (((zij l).trans h).trans (zij l').symm)
theorem zBD {l s:List Int} (hs:s.Pairwise (· ≤ ·)) (hp:s.Perm l):s=zeC l:=zg6 hs (zkZ l) (hp.trans (zij l).symm)
def zt0 (l:List Int):List Int:=zeC (ddT l)
theorem zyu {α:Type} [DecidableEq α] {l l':List α} (h : ∀ x,x∈l↔x∈l'):(ddT l).Perm (ddT l'):=by
 rw [List.perm_iff_count]
 intro a
 have c : ∀ l:List α,(ddT l).count a=if a∈l then 1 else 0:=fun l=>by
  by_cases ha:a∈l
  ·rw [if_pos ha]
   have h1:=List.nodup_iff_count.1 (ze3 l) a
   have h2:=List.count_pos_iff.2 (zck.2 ha)
   omega
  ·rw [if_neg ha];exact List.count_eq_zero.2 (fun h=>ha (zck.1 h))
 rw [c,c]
 by_cases ha:a∈l
 ·rw [if_pos ha,if_pos ((h a).1 ha)]
 ·rw [if_neg ha,if_neg (fun h'=>ha ((h a).2 h'))]
theorem zwp {l l':List Int} (h : ∀ x,x∈l↔x∈l'):zt0 l=zt0 l':=zrP (zyu h)
abbrev zbl:=List (Nat→Nat→Bool)
def zez (n:Nat) (r:Nat→Nat→Bool) (q:Nat→Nat) (w:Nat):List Int:=((List.range n).filter fun v=>r w v).map fun v=>(q v:Int)
def zdI (n:Nat) (R:zbl) (q:Nat→Nat) (w:Nat):Tup:=[(q w:Int)]::R.map fun r=>zeC (zez n r q w)
def ziX (n:Nat) (R:zbl) (q:Nat→Nat) (w:Nat):Tup:=[(q w:Int)]::R.map fun r=>zt0 (zez n r q w)
theorem zv5 {n:Nat} {R:zbl} (q:Nat→Nat) (v w:Nat) (_:v < n) (_:w < n) (h:zdI n R q v=zdI n R q w):q v=q w:=by
 unfold zdI at h
 have:=(List.cons.inj h).1
 simp at this;omega
structure zqe (n:Nat) (f:Nat→Nat) (R R':zbl):Prop where
 len:R'.length=R.length
 rel : ∀ (i:Nat) (r r':Nat→Nat→Bool),R[i]? = some r→R'[i]? = some r' → ∀ v w,v < n→w < n→r' (f v) (f w)=r v w
theorem zzk {n:Nat} {f:Nat→Nat} (hf:Ren n f) {r r':Nat→Nat→Bool} (h : ∀ v w,v < n→w < n→r' (f v) (f w)=r v w) {q q':Nat→Nat} (hq : ∀ w,w < n→q' (f w)=q w) {w:Nat} (hw:w < n):(zez n r' q' (f w)).Perm (zez n r q w):=by
 have h1:((List.range n).filter fun v=>r' (f w) v).Perm (((List.range n).filter fun v=>r w v).map f):=by
  refine zkP (List.Nodup.sublist List.filter_sublist List.nodup_range) ?_ fun x=>?_
  ·rw [List.Nodup,List.pairwise_map]
   refine List.Pairwise.imp_of_mem (fun {a b} ha hb hab e=>hab (hf.inj a b ?_ ?_ e)) (List.Nodup.sublist List.filter_sublist List.nodup_range)
   ·exact List.mem_range.1 (List.mem_filter.1 ha).1
   ·exact List.mem_range.1 (List.mem_filter.1 hb).1
  ·constructor
   ·intro hx
    obtain ⟨h1,h2⟩:=List.mem_filter.1 hx
    obtain ⟨v,hv,rfl⟩:=hf.surj (List.mem_range.1 h1)
    exact List.mem_map.2 ⟨v,List.mem_filter.2 ⟨List.mem_range.2 hv,by rw [← h w v hw hv];exact h2⟩,rfl⟩
   ·intro hx
    obtain ⟨v,hv,rfl⟩:=List.mem_map.1 hx
    obtain ⟨h1,h2⟩:=List.mem_filter.1 hv
    have h1:=List.mem_range.1 h1
    exact List.mem_filter.2 ⟨List.mem_range.2 (hf.lt v h1),by rw [h w v hw h1];exact h2⟩
 unfold zez
 refine (h1.map _).trans ?_
 rw [List.map_map]
 refine List.Perm.of_eq (List.map_congr_left fun v hv=>?_)
 have:=List.mem_range.1 (List.mem_filter.1 hv).1
 show ((q' (f v):Nat):Int)=_
 rw [hq v this]
theorem ztC {n:Nat} {f:Nat→Nat} (hf:Ren n f) {R R':zbl} (hR:zqe n f R R') {q q':Nat→Nat} (hq : ∀ w,w < n→q' (f w)=q w) {w:Nat} (hw:w < n):zdI n R' q' (f w)=zdI n R q w∧ziX n R' q' (f w)=ziX n R q w:=by
 have key : ∀ (g:List Int→List Int),(∀ l l':List Int,l.Perm l'→g l=g l')→(R'.map fun r=>g (zez n r q' (f w)))=R.map fun r=>g (zez n r q w):=by
  intro g hg
  refine List.ext_getElem? fun i=>?_
  rw [List.getElem?_map,List.getElem?_map]
  by_cases hi:i < R.length
  ·obtain ⟨r,hr⟩ : ∃ r,R[i]? = some r:=⟨_,List.getElem?_eq_getElem hi⟩
   obtain ⟨r',hr'⟩ : ∃ r',R'[i]? = some r':=⟨_,List.getElem?_eq_getElem (by rw [hR.len];exact hi)⟩
   rw [hr,hr']
   exact congrArg some (hg _ _ (zzk hf (hR.rel i r r' hr hr') hq hw))
  ·rw [List.getElem?_eq_none (by rw [hR.len];omega),List.getElem?_eq_none (by omega)];rfl
 exact ⟨by unfold zdI;rw [hq w hw,key zeC fun l l' h=>zrP h],by unfold ziX;rw [hq w hw,key zt0 fun l l' h=>zwp fun x=>h.mem_iff]⟩
def zqT (n:Nat) (R:zbl) (first:Nat→Tup):(Nat→Nat)×Nat:=zex n (zdI n R) (n+1) (fun w=>rkN ((List.range n).map first) (first w)) (cnN ((List.range n).map first))
def ztN (n:Nat) (R:zbl) (first:Nat→Tup):(Nat→Nat)×Nat:=zex n (ziX n R) (n+1) (fun w=>rkN ((List.range n).map first) (first w)) (cnN ((List.range n).map first))
theorem zAs {n:Nat} {f:Nat→Nat} (hf:Ren n f) {R R':zbl} (hR:zqe n f R R') {first first':Nat→Tup} (h1 : ∀ w,w < n→first' (f w)=first w) :
  (∀ w,w < n→(zqT n R' first').1 (f w)=(zqT n R first).1 w)∧(zqT n R' first').2=(zqT n R first).2∧(∀ w,w < n→(ztN n R' first').1 (f w)=(ztN n R first).1 w)∧(ztN n R' first').2=(ztN n R first).2:=by
 have hc:=zxx hf h1
 have hr : ∀ w,w < n→(fun w=>rkN ((List.range n).map first') (first' w)) (f w)=(fun w=>rkN ((List.range n).map first) (first w)) w:=fun w hw=>zxy hf h1 hw
 have ha:=ztP hf (next:=zdI n R) (next':=zdI n R') (fun q q' hq w hw=>(ztC hf hR hq hw).1) (n+1) (fun w=>rkN ((List.range n).map first) (first w)) (fun w=>rkN ((List.range n).map first') (first' w)) (cnN ((List.range n).map first)) hr
 have ho:=ztP hf (next:=ziX n R) (next':=ziX n R') (fun q q' hq w hw=>(ztC hf hR hq hw).2) (n+1) (fun w=>rkN ((List.range n).map first) (first w)) (fun w=>rkN ((List.range n).map first') (first' w)) (cnN ((List.range n).map first)) hr
 unfold zqT ztN
 rw [hc]
 exact ⟨ha.1,ha.2,ho.1,ho.2⟩
end Go.Ab
namespace Go.Ab
structure zfF (n:Nat) (fa fb:Nat→Int) (R R':zbl) (f:Nat→Nat):Prop where
 ren:Ren n f
 fac : ∀ w,w < n→fb (f w)=fa w
 rel:zqe n f R R'
def zfJ (R:zbl):zbl:=R.map fun r=>fun v w=>r w v
theorem zqe.back {n:Nat} {f:Nat→Nat} {R R':zbl} (h:zqe n f R R'):zqe n f (R++zfJ R) (R'++zfJ R'):=by
 refine ⟨by simp [zfJ,h.len],fun i r r' h1 h2 v w hv hw=>?_⟩
 by_cases hi:i < R.length
 ·rw [List.getElem?_append_left hi] at h1
  rw [List.getElem?_append_left (by rw [h.len];exact hi)] at h2
  exact h.rel i r r' h1 h2 v w hv hw
 ·rw [List.getElem?_append_right (by omega),zfJ,List.getElem?_map,Option.map_eq_some_iff] at h1
  rw [List.getElem?_append_right (by rw [h.len];omega),zfJ,List.getElem?_map,Option.map_eq_some_iff] at h2
  obtain ⟨s,hs,rfl⟩:=h1
  obtain ⟨s',hs',rfl⟩:=h2
  exact h.rel _ s s' hs (by rw [← h.len];exact hs') w v hw hv
def zi5 (n:Nat) (fa:Nat→Int) (R:zbl):(Nat→Nat)×Nat:=zqT n (R++zfJ R) fun w=>[[fa w]]
theorem zz2 {n:Nat} {fa fb:Nat→Int} {R R':zbl} {f:Nat→Nat} (h:zfF n fa fb R R' f) : ∀ w,w < n→(zi5 n fb R').1 (f w)=(zi5 n fa R).1 w :=
 (zAs h.ren h.rel.back (first:=fun w=>[[fa w]]) (first':=fun w=>[[fb w]]) fun w hw=>by rw [h.fac w hw]).1
def dfs (ok:List Nat→Nat→Bool) (n:Nat):Nat→List Nat→List (List Nat)
 | 0,to=>[to]
 | k+1,to=>(List.range n).flatMap fun w=>if ok to w=true then dfs ok n k (to++[w]) else []
theorem zhx {ok:List Nat→Nat→Bool} {n:Nat} : ∀ {k:Nat} {to x:List Nat},x∈dfs ok n k to↔x.length=to.length+k∧to <+: x ∧ ∀ v,to.length≤v→v < x.length→x.getD v 0 < n∧ok (x.take v) (x.getD v 0)=true
 | 0,to,x=>by
  unfold dfs
  rw [List.mem_singleton]
  constructor
  ·rintro rfl;exact ⟨rfl,List.prefix_rfl,fun v h1 h2=>by omega⟩
  ·rintro ⟨h1,h2,-⟩;exact (h2.eq_of_length (by omega)).symm
 | k+1,to,x=>by
  unfold dfs
  rw [List.mem_flatMap]
  constructor
  ·rintro ⟨w,hw,hx⟩
   by_cases hok:ok to w=true
   ·rw [if_pos hok] at hx
    obtain ⟨h1,h2,h3⟩:=zhx.1 hx
    rw [List.length_append,List.length_singleton] at h1 h3
    have hp:to <+: x:=(List.prefix_append to [w]).trans h2
    refine ⟨by omega,hp,fun v h4 h5=>?_⟩
    by_cases e:v=to.length
    ·subst e
     obtain ⟨s,rfl⟩:=h2
     have e1:(to++[w]++s).getD to.length 0=w:=by simp [List.getD]
     have e2:(to++[w]++s).take to.length=to:=by simp
     rw [e1,e2]
     exact ⟨List.mem_range.1 hw,hok⟩
    ·exact h3 v (by omega) h5
   ·rw [if_neg hok] at hx;cases hx
  ·rintro ⟨h1,h2,h3⟩
   obtain ⟨s,rfl⟩:=h2
   match s,h1 with
   | [],h1=>simp at h1
   | w::s,h1 =>
    have e1:(to++w::s).getD to.length 0=w:=by simp [List.getD]
    have e2:(to++w::s).take to.length=to:=by simp
    obtain ⟨h4,h5⟩:=h3 to.length (Nat.le_refl _) (by simp)
    rw [e1] at h4 h5
    rw [e2] at h5
    refine ⟨w,List.mem_range.2 h4,?_⟩
    rw [if_pos h5]
    exact zhx.2 ⟨by simp at *;omega,⟨s,by simp⟩,fun v h6 h7=>h3 v (by simp at h6;omega) h7⟩
abbrev fnL (x:List Nat):Nat→Nat:=fun v=>x.getD v 0
section
variable (n:Nat) (fa fb:Nat→Int) (R R':zbl)
def zic (x:Nat→Nat) (v u:Nat):Bool:=(R.zip R').all fun r=>r.1 v u==r.2 (x v) (x u)&&r.1 u v==r.2 (x u) (x v)
def okS (to:List Nat) (w:Nat):Bool := !to.contains w&&(fa to.length==fb w&&(List.range (to.length+1)).all fun u=>zic R R' (fnL (to++[w])) to.length u)
end
theorem zfB {R R':zbl} (hl:R'.length=R.length) {p:(Nat→Nat→Bool)×(Nat→Nat→Bool)→Bool} : (R.zip R').all p=true ↔ ∀ (i:Nat) r r',R[i]? = some r→R'[i]? = some r'→p (r,r')=true:=by
 rw [List.all_eq_true]
 constructor
 ·intro h i r r' h1 h2
  refine h (r,r') (List.mem_of_getElem? (i:=i) ?_)
  rw [List.getElem?_zip_eq_some]
  exact ⟨h1,h2⟩
 ·intro h x hx
  obtain ⟨i,hi⟩:=List.mem_iff_getElem?.1 hx
  obtain ⟨h1,h2⟩:=List.getElem?_zip_eq_some.1 hi
  exact h i x.1 x.2 h1 h2
theorem zk0 {x:List Nat} {v u:Nat} (hv:v < x.length) (hu:u≤v):fnL (x.take v++[x.getD v 0]) u=fnL x u:=by
 have:x.take v++[x.getD v 0]=x.take (v+1):=by
  rw [List.take_add_one,List.getElem?_eq_getElem hv]
  simp [List.getD,hv]
 show (x.take v++[x.getD v 0]).getD u 0=x.getD u 0
 rw [this,List.getD,List.getD,List.getElem?_take_of_lt (by omega)]
theorem zqQ {n:Nat} {fa fb:Nat→Int} {R R':zbl} (hl:R'.length=R.length) {x:List Nat} (hx:x.length=n) :
  (∀ v,v < n→x.getD v 0 < n∧okS fa fb R R' (x.take v) (x.getD v 0)=true)↔zfF n fa fb R R' (fnL x):=by
 constructor
 ·intro h
  have h1 : ∀ v,v < n → ∀ u,u < v→fnL x u≠fnL x v:=fun v hv u hu e=>by
   have:=(h v hv).2
   unfold okS at this
   simp only [Bool.and_eq_true,Bool.not_eq_true',List.contains_iff_mem] at this
   have h2 : ¬(x.take v).contains (x.getD v 0)=true:=by rw [this.1];decide
   refine h2 (List.contains_iff_mem.2 ?_)
   rw [← (show fnL x u=x.getD v 0 from e)]
   exact List.mem_of_getElem? (i:=u) (by rw [List.getElem?_take_of_lt hu,List.getElem?_eq_getElem (by omega)];simp [fnL,List.getD,show u < x.length by omega])
  have h2 : ∀ v,v < n→fa v=fb (fnL x v) ∧ ∀ u,u≤v→zic R R' (fnL x) v u=true:=fun v hv=>by
   have:=(h v hv).2
   unfold okS at this
   simp only [Bool.and_eq_true,List.length_take,beq_iff_eq,List.all_eq_true,List.mem_range] at this
   rw [show min v x.length=v by omega] at this
   refine ⟨this.2.1,fun u hu=>?_⟩
   have h3:=this.2.2 u (by omega)
   unfold zic at h3 ⊢
   rw [zk0 (by omega) (Nat.le_refl _),zk0 (by omega) hu] at h3
   exact h3
  refine ⟨⟨fun w hw=>(h w hw).1,fun v w hv hw e=>?_⟩,fun w hw=>(h2 w hw).1.symm,hl,fun i r r' hr hr' v w hv hw=>?_⟩
  ·rcases Nat.lt_trichotomy v w with hlt|e'|hlt
   ·exact absurd e (h1 w hw v hlt)
   ·exact e'
   ·exact absurd e.symm (h1 v hv w hlt)
  ·rcases Nat.le_total w v with hle|hle
   ·have:=(zfB hl).1 ((h2 v hv).2 w hle) i r r' hr hr'
    simp only [Bool.and_eq_true,beq_iff_eq] at this
    exact this.1.symm
   ·have:=(zfB hl).1 ((h2 w hw).2 v hle) i r r' hr hr'
    simp only [Bool.and_eq_true,beq_iff_eq] at this
    exact this.2.symm
 ·intro h v hv
  refine ⟨h.ren.lt v hv,?_⟩
  unfold okS
  simp only [Bool.and_eq_true,List.length_take,beq_iff_eq,List.all_eq_true,List.mem_range]
  rw [show min v x.length=v by omega]
  refine ⟨?_,(h.fac v hv).symm,fun u hu=>?_⟩
  ·rw [Bool.not_eq_true',← Bool.not_eq_true,List.contains_iff_mem]
   intro hm
   obtain ⟨u,hu⟩:=List.mem_iff_getElem?.1 hm
   have hlt:u < v:=by have:=(List.getElem?_eq_some_iff.1 hu).1;simp at this;omega
   rw [List.getElem?_take_of_lt hlt] at hu
   have:fnL x u=fnL x v:=by show x.getD u 0=_;rw [List.getD,hu];rfl
   have:=h.ren.inj u v (by omega) hv this
   omega
  ·unfold zic
   rw [zk0 (by omega) (Nat.le_refl _),zk0 (by omega) (by omega)]
   refine (zfB hl).2 fun i r r' hr hr'=>?_
   simp only [Bool.and_eq_true,beq_iff_eq]
   exact ⟨(h.rel.rel i r r' hr hr' v u hv (by omega)).symm,(h.rel.rel i r r' hr hr' u v (by omega) hv).symm⟩
def okC (n:Nat) (fa fb:Nat→Int) (R R':zbl) (to:List Nat) (w:Nat):Bool:=decide ((zi5 n fa R).1 to.length=(zi5 n fb R').1 w)&&okS fa fb R R' to w
theorem zyO {n:Nat} {fa fb:Nat→Int} {R R':zbl} (hl:R'.length=R.length) {x:List Nat} : x∈dfs (okS fa fb R R') n n []↔x.length=n∧zfF n fa fb R R' (fnL x):=by
 rw [zhx]
 constructor
 ·rintro ⟨h1,-,h3⟩
  have h1:x.length=n:=by simpa using h1
  exact ⟨h1,(zqQ hl h1).1 fun v hv=>h3 v (Nat.zero_le _) (by omega)⟩
 ·rintro ⟨h1,h2⟩
  exact ⟨by simpa using h1,List.nil_prefix,fun v _ hv=>(zqQ hl h1).2 h2 v (by omega)⟩
theorem zxd {n:Nat} {fa fb:Nat→Int} {R R':zbl} (hl:R'.length=R.length) {x:List Nat} : x∈dfs (okC n fa fb R R') n n []↔x.length=n∧zfF n fa fb R R' (fnL x):=by
 rw [← zyO hl,zhx,zhx]
 constructor
 ·rintro ⟨h1,h2,h3⟩
  exact ⟨h1,h2,fun v hv hv'=>⟨(h3 v hv hv').1,by have:=(h3 v hv hv').2;unfold okC at this;exact (Bool.and_eq_true _ _▸this).2⟩⟩
 ·rintro ⟨h1,h2,h3⟩
  have hn:x.length=n:=by simpa using h1
  have hiso:=(zqQ hl hn).1 fun v hv=>h3 v (Nat.zero_le _) (by omega)
  refine ⟨h1,h2,fun v hv hv'=>⟨(h3 v hv hv').1,?_⟩⟩
  unfold okC
  rw [(h3 v hv hv').2,Bool.and_true,List.length_take,show min v x.length=v by omega]
  exact decide_eq_true (zz2 hiso v (by omega)).symm
end Go.Ab
namespace Go.Ab
def ztn (n:Nat) (f:Nat→Nat) (x:Nat):Nat:=((List.range n).find? fun w=>decide (f w=x)).getD 0
theorem zB0 {n:Nat} {f:Nat→Nat} (hf:Ren n f) {w:Nat} (hw:w < n):ztn n f (f w)=w:=by
 unfold ztn
 cases h:(List.range n).find? fun u=>decide (f u=f w) with
 | none=>have:=List.find?_eq_none.1 h w (List.mem_range.2 hw);simp at this
 | some u =>
  have h1:=List.find?_some h
  exact hf.inj u w (List.mem_range.1 (List.mem_of_find?_eq_some h)) hw (of_decide_eq_true h1)
theorem zkA {n:Nat} {f:Nat→Nat} (hf:Ren n f) {x:Nat} (hx:x < n):ztn n f x < n∧f (ztn n f x)=x:=by
 obtain ⟨w,hw,rfl⟩:=hf.surj hx
 rw [zB0 hf hw];exact ⟨hw,rfl⟩
theorem Ren.inv {n:Nat} {f:Nat→Nat} (hf:Ren n f):Ren n (ztn n f) :=
 ⟨fun x hx=>(zkA hf hx).1,fun x y hx hy e=>by rw [← (zkA hf hx).2,← (zkA hf hy).2,e]⟩
theorem zfF.congr {n:Nat} {fa fb:Nat→Int} {R R':zbl} {f g:Nat→Nat} (h:zfF n fa fb R R' f) (e : ∀ w,w < n→g w=f w):zfF n fa fb R R' g :=
 ⟨⟨fun w hw=>by rw [e w hw];exact h.ren.lt w hw,fun v w hv hw h'=>h.ren.inj v w hv hw (by rw [← e v hv,← e w hw,h'])⟩,fun w hw=>by rw [e w hw];exact h.fac w hw,
  ⟨h.rel.len,fun i r r' h1 h2 v w hv hw=>by rw [e v hv,e w hw];exact h.rel.rel i r r' h1 h2 v w hv hw⟩⟩
theorem zfF.id {n:Nat} {fa:Nat→Int} {R:zbl} : zfF n fa fa R R fun w=>w:=⟨⟨fun _ h=>h,fun _ _ _ _ h=>h⟩,fun _ _=>rfl,⟨rfl,fun i r r' h1 h2 v w _ _=>by rw [h1] at h2;cases h2;rfl⟩⟩
def prs (n:Nat) (r:Nat→Nat→Bool):List (Nat×Nat):=(List.range n).flatMap fun v=>((List.range n).filter fun w=>r v w).map fun w=>(v,w)
theorem zfx {n:Nat} {r:Nat→Nat→Bool} {v w:Nat} : (v,w)∈prs n r↔v < n∧w < n∧r v w=true:=by
 unfold prs
 rw [List.mem_flatMap]
 constructor
 ·rintro ⟨a,ha,hm⟩
  obtain ⟨b,hb,e⟩:=List.mem_map.1 hm
  cases e
  obtain ⟨h1,h2⟩:=List.mem_filter.1 hb
  exact ⟨List.mem_range.1 ha,List.mem_range.1 h1,h2⟩
 ·rintro ⟨h1,h2,h3⟩
  exact ⟨v,List.mem_range.2 h1,List.mem_map.2 ⟨w,List.mem_filter.2 ⟨List.mem_range.2 h2,h3⟩,rfl⟩⟩
theorem zrF (n:Nat) (r:Nat→Nat→Bool):(prs n r).Nodup:=by
 unfold prs
 rw [List.Nodup,List.pairwise_flatMap]
 constructor
 ·intro v _
  rw [List.pairwise_map]
  exact (List.Nodup.sublist List.filter_sublist List.nodup_range).imp fun hne e=>hne (by cases e;rfl)
 ·refine List.nodup_range.imp fun {a b} hne x hx y hy e=>?_
  obtain ⟨c,-,rfl⟩:=List.mem_map.1 hx
  obtain ⟨d,-,rfl⟩:=List.mem_map.1 hy
  cases e;exact hne rfl
theorem zy8 {n:Nat} {r r':Nat→Nat→Bool} {a b:Nat} (ha:a < n) (hb:b < n) (h : ∀ v w,v < n→w < n→r' v w=if v=a∧w=b then !(r v w) else r v w):(prs n r').length≠(prs n r).length:=by
 have key : ∀ {s t:Nat→Nat→Bool},(∀ v w,v < n→w < n→t v w=if v=a∧w=b then !(s v w) else s v w)→s a b=true→(prs n t).length < (prs n s).length:=by
  intro s t hst hs
  have:=ze4 (l:=(a,b)::prs n t) (l':=prs n s) (List.nodup_cons.2 ⟨fun hm=>?_,zrF n t⟩) fun x hx=>?_
  ·rw [List.length_cons] at this;omega
  ·have:=(zfx.1 hm).2.2
   rw [hst a b ha hb,if_pos ⟨rfl,rfl⟩,hs] at this
   cases this
  ·rcases List.mem_cons.1 hx with rfl|hx
   ·exact zfx.2 ⟨ha,hb,hs⟩
   ·obtain ⟨v,w⟩:=x
    obtain ⟨h1,h2,h3⟩:=zfx.1 hx
    refine zfx.2 ⟨h1,h2,?_⟩
    rw [hst v w h1 h2] at h3
    by_cases e:v=a∧w=b
    ·obtain ⟨rfl,rfl⟩:=e;exact hs
    ·rwa [if_neg e] at h3
 cases hr:r a b with
 | true=>have:=key h hr;omega
 | false =>
  have h' : ∀ v w,v < n→w < n→r v w=if v=a∧w=b then !(r' v w) else r' v w:=fun v w hv hw=>by
   rw [h v w hv hw]
   by_cases e:v=a∧w=b
   ·rw [if_pos e,if_pos e,Bool.not_not]
   ·rw [if_neg e,if_neg e]
  have hr':r' a b=true:=by rw [h a b ha hb,if_pos ⟨rfl,rfl⟩,hr];rfl
  have:=key h' hr'
  omega
theorem zAr {n:Nat} {f:Nat→Nat} (hf:Ren n f) {r r':Nat→Nat→Bool} (h : ∀ v w,v < n→w < n→r' (f v) (f w)=r v w):(prs n r').length=(prs n r).length:=by
 have key : ∀ {g:Nat→Nat} {s t:Nat→Nat→Bool},Ren n g→(∀ v w,v < n→w < n→t (g v) (g w)=s v w)→(prs n s).length≤(prs n t).length:=by
  intro g s t hg hst
  have:=ze4 (l:=(prs n s).map fun x=>(g x.1,g x.2)) (l':=prs n t) ?_ ?_
  ·rwa [List.length_map] at this
  ·rw [List.Nodup,List.pairwise_map]
   refine List.Pairwise.imp_of_mem (fun {x y} hx hy hne e=>hne ?_) (zrF n s)
   obtain ⟨x1,x2⟩:=x
   obtain ⟨y1,y2⟩:=y
   have h1:=zfx.1 hx
   have h2:=zfx.1 hy
   simp only [Prod.mk.injEq] at e
   rw [hg.inj _ _ h1.1 h2.1 e.1,hg.inj _ _ h1.2.1 h2.2.1 e.2]
  ·intro x hx
   obtain ⟨y,hy,rfl⟩:=List.mem_map.1 hx
   obtain ⟨v,w⟩:=y
   obtain ⟨h1,h2,h3⟩:=zfx.1 hy
   exact zfx.2 ⟨hg.lt v h1,hg.lt w h2,by rw [hst v w h1 h2];exact h3⟩
 refine Nat.le_antisymm (key hf.inv fun v w hv hw=>?_) (key hf h)
 have:=h _ _ (zkA hf hv).1 (zkA hf hw).1
 rw [(zkA hf hv).2,(zkA hf hw).2] at this
 exact this.symm
theorem zuk {n:Nat} {fa fb:Nat→Int} {R R':zbl} {k:Nat} {r r':Nat→Nat→Bool} (h1:R[k]? = some r) (h2:R'[k]? = some r') {a b:Nat} (ha:a < n) (hb:b < n) (h : ∀ v w,v < n→w < n→r' v w=if v=a∧w=b then !(r v w) else r v w) {f:Nat→Nat} : ¬zfF n fa fb R R' f :=
 fun hi=>zy8 ha hb h (zAr hi.ren (hi.rel.rel k r r' h1 h2))
end Go.Ab
namespace Go.Ab
theorem zok {l:List Nat} {i:Nat} (h:i < l.length):l.getD i 0∈l:=by
 rw [List.getD,List.getElem?_eq_getElem h];exact List.getElem_mem h
end Go.Ab
namespace Go.Ab
theorem zeB {n:Nat} (hn:n≤64) {f:Nat→Bool} {w:Nat} : (zbb f n).getLsbD w=true↔w < n∧f w=true:=by
 rw [zmx];simp only [Bool.and_eq_true,decide_eq_true_eq]
 exact ⟨fun h=>⟨h.1.2,h.2⟩,fun h=>⟨⟨by omega,h.1⟩,h.2⟩⟩
def z7 (m:KM):zbl:=m.rel.map fun r=>fun v w=>rb r v w
def zbE (m:KM) (w:Nat):Int:=(zfX m.val w m.val.length:Int)
def zec (s:BitVec 64) (l:List Nat):BitVec 64:=zbb (fun i=>s.getLsbD (l.getD i 0)) l.length
def zaE (m:KM) (l:List Nat):KM:=⟨l.length,m.val.map fun s=>zec s l,m.rel.map fun r=>l.map fun w=>zec (r.getD w 0#64) l⟩
theorem ztM {s:BitVec 64} {l:List Nat} (hl:l.length≤64) {i:Nat} : (zec s l).getLsbD i=true↔i < l.length∧s.getLsbD (l.getD i 0)=true:=zeB hl
theorem zfr {n:Int} {s:BitVec 64} (h:0≤n):bad n s=false ↔ ∀ i,s.getLsbD i=true→i < n.toNat:=by
 rw [zlx h]
 exact ⟨fun k i hi=>by have:=k i hi;omega,fun k i hi=>by have:=k i hi;omega⟩
theorem zhr {m:KM} (h:zd5 m):zi m=0:=by
 obtain ⟨h1,h2,h3,h4,h5,h6,h7⟩:=h
 unfold zi
 rw [if_neg (by omega),if_neg (by omega),if_neg,if_neg,if_neg]
 ·simp only [List.any_eq_true,not_exists,not_and]
  intro r hr s hs e
  rw [h7 r hr s hs] at e;cases e
 ·simp only [List.any_eq_true,not_exists,not_and]
  intro s hs e
  rw [h6 s hs] at e;cases e
 ·simp only [List.any_eq_true,not_exists,not_and,decide_eq_true_eq]
  intro r hr e
  exact e (h5 r hr)
theorem znW {m:KM} (hm:zd5 m) {l:List Nat} (h1:1≤l.length) (h2:l.length≤64):zd5 (zaE m l) where
 w1:=by show (1:Int)≤(l.length:Int);omega
 w2:=by show (l.length:Int)≤64;omega
 n4:=by have:=hm.n4;simpa [zaE] using this
 v8:=by have:=hm.v8;simpa [zaE] using this
 len:=fun r hr=>by
  obtain ⟨r',-,rfl⟩:=List.mem_map.1 hr
  simp [zaE]
 val:=fun s hs=>by
  obtain ⟨s',-,rfl⟩:=List.mem_map.1 hs
  rw [zfr (by show (0:Int)≤(l.length:Int);omega)]
  intro i hi
  exact ((ztM h2).1 hi).1
 rel:=fun r hr s hs=>by
  obtain ⟨r',-,rfl⟩:=List.mem_map.1 hr
  obtain ⟨w,-,rfl⟩:=List.mem_map.1 hs
  rw [zfr (by show (0:Int)≤(l.length:Int);omega)]
  intro i hi
  exact ((ztM h2).1 hi).1
theorem zid (m:KM):(z7 m).length=m.rel.length:=by simp [z7]
theorem zyJ {l:List (BitVec 64)} {W:Int} (hW:0≤W) (h : ∀ s∈l,bad W s=false) (i w:Nat) (hw:(l.getD i 0#64).getLsbD w=true):w < W.toNat:=by
 cases hi:l[i]? with
 | none=>rw [List.getD,hi] at hw;simp at hw
 | some s =>
  rw [List.getD,hi] at hw
  exact (zfr hW).1 (h s (List.mem_of_getElem? hi)) w hw
theorem zbF {α:Type} {l:List α} {i:Nat} {d:α} (h:i < l.length):l[i]? = some (l.getD i d):=by simp [List.getD,h]
theorem zr5 {α:Type} {a b:List α} {d:α} (hl:a.length=b.length) (h : ∀ i,i < a.length→a.getD i d=b.getD i d):a=b:=by
 refine List.ext_getElem hl fun i h1 h2=>?_
 have:=h i h1
 rw [List.getD,List.getD,List.getElem?_eq_getElem h1,List.getElem?_eq_getElem h2] at this
 exact this
def zcp (to:List Int) (n:Nat):Bool:=decide (to.length=n∧(∀ x∈to,0≤x∧x < n)∧to.Nodup)
def zBq (to:List Int) (n:Nat):List Nat:=(List.range n).map fun (i:Nat)=>to.idxOf (i:Int)
def zx6:KM:=⟨0,[],[]⟩
theorem zew {to:List Int} {n:Nat} : zcp to n=true↔to.length=n∧(∀ x∈to,0≤x∧x < n)∧to.Nodup:=by simp only [zcp,decide_eq_true_eq]
theorem zy7 {to:List Int} {n:Nat} (h:zcp to n=true) {i:Nat} (hi:i < n):(i:Int)∈to:=by
 obtain ⟨h1,h2,h3⟩:=zew.1 h
 have key : ∀ x∈to,x∈(List.range n).map fun (i:Nat)=>(i:Int):=fun x hx=>List.mem_map.2 ⟨x.toNat,List.mem_range.2 (by have:=h2 x hx;omega),by have:=h2 x hx;omega⟩
 apply Classical.byContradiction
 intro hn
 have:=ze4 (l:=(i:Int)::to) (l':=(List.range n).map fun (i:Nat)=>(i:Int)) (List.nodup_cons.2 ⟨hn,h3⟩) fun x hx=>by
  rcases List.mem_cons.1 hx with rfl|hx
  ·exact List.mem_map.2 ⟨i,List.mem_range.2 hi,rfl⟩
  ·exact key x hx
 simp at this;omega
abbrev toF (to:List Int) (w:Nat):Nat:=(at0 to w).toNat
theorem ztL {to:List Int} {n:Nat} (h:zcp to n=true):Ren n (toF to):=by
 obtain ⟨h1,h2,h3⟩:=zew.1 h
 refine ⟨fun w hw=>?_,fun v w hv hw e=>?_⟩
 ·have:=h2 (at0 to w) (List.mem_of_getElem? (zhz (by omega)))
  unfold toF;omega
 ·have a1:=h2 (at0 to v) (List.mem_of_getElem? (zhz (by omega)))
  have a2:=h2 (at0 to w) (List.mem_of_getElem? (zhz (by omega)))
  have e':at0 to v=at0 to w:=by unfold toF at e;omega
  have g1:=zhz (l:=to) (i:=v) (by omega)
  have g2:=zhz (l:=to) (i:=w) (by omega)
  rw [e'] at g1
  obtain ⟨p1,q1⟩:=List.getElem?_eq_some_iff.1 g1
  obtain ⟨p2,q2⟩:=List.getElem?_eq_some_iff.1 g2
  exact (List.getElem_inj h3).1 (q1.trans q2.symm)
end Go.Ab
namespace Go.Ab
theorem zzQ {m:KM} (hc:zi m=0) {r:List (BitVec 64)} (hr:r∈m.rel) {v u:Nat} (h:rb r v u=true):v < m.W.toNat∧u < m.W.toNat:=by
 have hg:=zw hc
 have w1:=hg.w1
 refine ⟨?_,zyJ (by omega) (hg.rel r hr) v u h⟩
 apply Classical.byContradiction
 intro hn
 have:=hg.len r hr
 rw [zxu (by omega)] at h;cases h
structure zya (m:KM) (out todo:BitVec 64) (w k:Nat) (o t:BitVec 64):Prop where
 o : ∀ v,o.getLsbD v=true↔out.getLsbD v=true ∨ ∃ r∈m.rel.take k,rb r w v=true
 t : ∀ v,t.getLsbD v=true↔(todo.getLsbD v=true∧v≠w)∨(out.getLsbD v=false ∧ ∃ r∈m.rel.take k,rb r w v=true)
theorem zle {α:Type} {l:List α} {k:Nat} {x:α} (h:l[k]? = some x) (p:α→Prop):(∃ r∈l.take (k+1),p r)↔(∃ r∈l.take k,p r)∨p x:=by
 rw [List.take_add_one,h]
 simp only [Option.toList_some,List.mem_append,List.mem_singleton]
 constructor
 ·rintro ⟨r,h1|rfl,h2⟩
  ·exact .inl ⟨r,h1,h2⟩
  ·exact .inr h2
 ·rintro (⟨r,h1,h2⟩|h2)
  ·exact ⟨r,.inl h1,h2⟩
  ·exact ⟨x,.inr rfl,h2⟩
theorem zya.next {m:KM} {out todo:BitVec 64} {w k:Nat} {o t:BitVec 64} (h:zya m out todo w k o t) {r:List (BitVec 64)} {x:BitVec 64} (hr:m.rel[k]? = some r) (hx:r[w]? = some x):zya m out todo w (k+1) (o|||x) (t|||(x &&& ~~~o)):=by
 have e : ∀ v,rb r w v=x.getLsbD v:=fun v=>zpY hx v
 refine ⟨fun v=>?_,fun v=>?_⟩
 ·rw [zle hr,BitVec.getLsbD_or,Bool.or_eq_true,h.o v,e]
  simp only [or_assoc]
 ·rw [zle hr,BitVec.getLsbD_or,Bool.or_eq_true,h.t v,BitVec.getLsbD_and,Bool.and_eq_true,BitVec.getLsbD_not,e]
  have ho:=h.o v
  by_cases hv:v < 64
  ·simp only [hv,decide_true,Bool.true_and,Bool.not_eq_true']
   by_cases h1:out.getLsbD v=true
   ·have:o.getLsbD v=true:=ho.2 (.inl h1)
    simp [h1,this]
   ·simp only [Bool.not_eq_true] at h1
    by_cases h2 : ∃ r∈m.rel.take k,rb r w v=true
    ·have:o.getLsbD v=true:=ho.2 (.inr h2)
     simp [h1,h2,this]
    ·have:o.getLsbD v=false:=by rw [← Bool.not_eq_true];intro h3;rcases ho.1 h3 with h3|h3; (rw [h1] at h3;cases h3);exact h2 h3
     simp [h1,h2,this]
  ·have:x.getLsbD v=false:=BitVec.getLsbD_of_ge _ _ (by omega)
   simp [hv,this]
def zA4 (s:BitVec 64):Nat:=(za s).length
theorem zz1 {n:Nat} {s:BitVec 64} (h : ∀ v,s.getLsbD v=true→v < n):zA4 s≤n:=by
 have:=ze4 (zmk s) (l':=List.range n) fun v hv=>List.mem_range.2 (h v (zbK.1 hv))
 simpa [zA4] using this
theorem ziL {p:Nat→Bool} {n:Nat} (h : ∀ v,p v=true→v < n) : ∀ k,n≤k→(List.range k).filter p=(List.range n).filter p
 | 0,hk=>by rw [show n=0 by omega]
 | k+1,hk=>by
  by_cases e:n=k+1
  ·rw [e]
  ·rw [List.range_succ,List.filter_append,ziL h k (by omega)]
   have:p k=false:=by rw [← Bool.not_eq_true];intro hp;have:=h k hp;omega
   simp [this]
end Go.Ab
namespace Go.Ab
open Go Go.Proofs
set_option maxRecDepth 10000
set_option maxHeartbeats 4000000
variable {T:Nat→Obj→Prop}
theorem zu1 (n:Int) (h:0≤n):Fn Tryd.prog T zny [.d (.int .i64 n)] [] (.d (.u64 (z2 n))) []:=by
 refine zb zk zuz (by show 1≤8;decide) ?_
 (repeat' ((conv=>whnf);first|refine vA ?_|(refine vF ?_ ?_<;>intro hc<;>try simp only [vL] at hc)|refine vT ?_|(refine vP ?_ ?_;·omega)|refine vY ?_));all_goals try conv=>whnf
 ·simp [z2, *]
 ·rw [z2,if_neg (by omega)];rfl
theorem zz9 (l:List (BitVec 64)) (g:Nat) (y:D) (p:BitVec 64→Bool) (hF : ∀ x,Fn Tryd.prog T g [.d (.u64 x),.d y] [] (.d (.bool (p x))) []):Fn Tryd.prog T zb6 [.d (dU l),.d (.fn g [y])] [] (.d (.int .i64 (zfY p l))) []:=by
 refine zb zk zeV (by show 2≤19;decide) ?_
 (repeat' ((conv=>whnf);first|refine vA ?_|refine vJ fun hg=>?_|refine vT ?_));all_goals try conv=>whnf
 refine zar (fun (k:Nat)=>[(0,.d (dU l)),(1,.d (.fn g [y])),(7,.d (.int .i64 ((l.map D.u64).length:Int))),(8,.d (.int .i64 ((k:Int))))]) (fun (k:Nat)=>k≤l.length ∧ ∀ (i:Nat) x,i < k→l[i]? = some x→p x=false) (fun (k:Nat)=>l.length - k) (0) (⟨by simp,fun i x h=>by omega⟩) (by (repeat' first|exact trivial|exact rfl|refine And.intro ?_ ?_)) ?_
 rintro k ⟨hk,hI⟩
 (repeat' ((conv=>whnf);first|refine vA ?_|((first|refine vF ?_ ?_|refine vI ?_ ?_)<;>intro hc<;>try simp only [vL] at hc)|refine vT ?_|(refine vQ ?_ fun x hx=>?_;·omega)|(refine vO ?_ ?_;·omega)|refine vX ?_|refine yD (hF _) (by (repeat refine ⟨⟨rfl,rfl⟩,?_⟩);rfl) rfl ?_));all_goals try conv=>whnf
 ·rw [ziM hx ‹_› hI]
 ·exact ⟨k+1,[],[],⟨by (omega),fun i z hi hz=>by
   by_cases e:i=k
   ·subst e;rw [hx] at hz;cases hz;assumption
   ·exact hI i z (by omega) hz⟩,by (omega),by (refine ⟨rfl,rfl,rfl,?_,?_⟩;repeat' first|exact trivial|exact rfl|refine And.intro ?_ ?_)⟩
 ·rw [zkD fun i x hi hx=>hI i x (by omega) hx]
theorem zyC (l:List (List (BitVec 64))) (g:Nat) (y:D) (p:List (BitVec 64)→Bool) (hF : ∀ x,Fn Tryd.prog T g [.d (dU x),.d y] [] (.d (.bool (p x))) []):Fn Tryd.prog T zbS [.d (dUU l),.d (.fn g [y])] [] (.d (.int .i64 (zfY p l))) []:=by
 refine zb zk zet (by show 2≤19;decide) ?_
 (repeat' ((conv=>whnf);first|refine vA ?_|refine vJ fun hg=>?_|refine vT ?_));all_goals try conv=>whnf
 refine zar (fun (k:Nat)=>[(0,.d (dUU l)),(1,.d (.fn g [y])),(7,.d (.int .i64 ((l.map dU).length:Int))),(8,.d (.int .i64 ((k:Int))))]) (fun (k:Nat)=>k≤l.length ∧ ∀ (i:Nat) x,i < k→l[i]? = some x→p x=false) (fun (k:Nat)=>l.length - k) (0) (⟨by simp,fun i x h=>by omega⟩) (by (repeat' first|exact trivial|exact rfl|refine And.intro ?_ ?_)) ?_
 rintro k ⟨hk,hI⟩
 (repeat' ((conv=>whnf);first|refine vA ?_|((first|refine vF ?_ ?_|refine vI ?_ ?_)<;>intro hc<;>try simp only [vL] at hc)|refine vT ?_|(refine vQ ?_ fun x hx=>?_;·omega)|(refine vO ?_ ?_;·omega)|refine vX ?_|refine yD (hF _) (by (repeat refine ⟨⟨rfl,rfl⟩,?_⟩);rfl) rfl ?_));all_goals try conv=>whnf
 ·rw [ziM hx ‹_› hI]
 ·exact ⟨k+1,[],[],⟨by (omega),fun i z hi hz=>by
   by_cases e:i=k
   ·subst e;rw [hx] at hz;cases hz;assumption
   ·exact hI i z (by omega) hz⟩,by (omega),by (refine ⟨rfl,rfl,rfl,?_,?_⟩;repeat' first|exact trivial|exact rfl|refine And.intro ?_ ?_)⟩
 ·rw [zkD fun i x hi hx=>hI i x (by omega) hx]
theorem zrf {α:Type} {p:α→Bool} {l:List α} : decide (0≤zfY p l)=l.any p:=by
 rw [Bool.eq_iff_iff,decide_eq_true_eq,zs2,List.any_eq_true]
theorem zuw (n:Int) (h:0≤n) (s:BitVec 64):Fn Tryd.prog T zdi [.d (.u64 s),.d (.box [.int .i64 n])] [] (.d (.bool (bad n s))) []:=by
 refine zb zk znq (by show 2≤9;decide) ?_
 (repeat' ((conv=>whnf);first|refine vT ?_|refine vZ ?_|refine yD (zu1 n h) ⟨⟨rfl,rfl⟩,rfl⟩ rfl ?_));all_goals try conv=>whnf
 rfl
theorem znE (l:List (BitVec 64)) (n:Int) (h:0≤n):Fn Tryd.prog T ziK [.d (dU l),.d (.int .i64 n)] [] (.d (.bool (l.any (bad n)))) []:=by
 have c1:Fn Tryd.prog T zbI [.d (dU l),.d (.fn zdi [.box [.int .i64 n]])] [] (.d (.bool (l.any (bad n)))) []:=by
  refine zb zk zef (by show 2≤9;decide) ?_
  (repeat' ((conv=>whnf);first|refine vT ?_|refine vZ ?_|refine yD (zz9 l _ _ (bad n) (zuw n h)) ⟨⟨rfl,rfl⟩,⟨rfl,rfl⟩,rfl⟩ rfl ?_));all_goals try conv=>whnf
  exact zrf
 refine zb zk zpR (by show 2≤8;decide) ?_
 (repeat' ((conv=>whnf);first|refine vT ?_|refine vZ ?_|refine yD c1 (by (repeat refine ⟨⟨rfl,rfl⟩,?_⟩);rfl) rfl ?_));all_goals try conv=>whnf
abbrev bKM (m:KM):D := .box [.int .i64 m.W,dU m.val,dUU m.rel]
theorem zbU (m:KM):Fn Tryd.prog T ze9 [.d (dKM m)] [] (.d (.int .i64 (zi m))) []:=by
 have c1:0≤m.W → ∀ x:List (BitVec 64),Fn Tryd.prog T zd8 [.d (dU x),.d (bKM m)] [] (.d (.bool (x.any (bad m.W)))) []:=fun h x=>by
  refine zb zk zpN (by show 2≤8;decide) ?_
  (repeat' ((conv=>whnf);first|refine vT ?_|refine vZ ?_|refine yD (znE x m.W h) ⟨⟨rfl,rfl⟩,⟨rfl,rfl⟩,rfl⟩ rfl ?_));all_goals try conv=>whnf
 have c2:0≤m.W→Fn Tryd.prog T zbw [.d (dUU m.rel),.d (.fn zd8 [bKM m])] [] (.d (.bool (m.rel.any fun x=>x.any (bad m.W)))) []:=fun h=>by
  refine zb zk zdW (by show 2≤9;decide) ?_
  (repeat' ((conv=>whnf);first|refine vT ?_|refine vZ ?_|refine yD (zyC m.rel _ _ (fun x=>x.any (bad m.W)) (c1 h)) ⟨⟨rfl,rfl⟩,⟨rfl,rfl⟩,rfl⟩ rfl ?_));all_goals try conv=>whnf
  exact zrf
 refine zb zk zr2 (by show 1≤47;decide) ?_
 (repeat' ((conv=>whnf);first|refine vA ?_|(refine vF ?_ ?_<;>intro hc<;>try simp only [vL] at hc)|refine vJ fun hg=>?_|refine vT ?_|refine vX ?_));all_goals try conv=>whnf
 ·rw [zi,if_pos (by omega)]
 ·rw [zi,if_pos (by omega)]
 ·rw [zi,if_neg (by omega),if_pos (by omega)]
 ·rw [zi,if_neg (by omega),if_pos (by omega)]
 ·have e0:zi m=if m.rel.any (fun r=>decide ((r.length:Int)≠m.W)) then 3 else if m.val.any (bad m.W) then 2 else if m.rel.any (fun r=>r.any (bad m.W)) then 2 else 0:=by rw [zi,if_neg (by omega),if_neg (by omega)]
  refine zy (fun (k:Nat)=>[(1,.ptr 0 0),(24,.d (dUU m.rel)),(25,.d (.int .i64 ((m.rel.map dU).length:Int))),(26,.d (.int .i64 ((k:Int))))]) (fun (k:Nat)=>[(0,some (zaH m))]) 1 (fun (k:Nat)=>k≤m.rel.length∧m.rel.any (fun r=>decide ((r.length:Int)≠m.W))=(m.rel.drop k).any (fun r=>decide ((r.length:Int)≠m.W))) (fun (k:Nat)=>m.rel.length - k) (0) [(0,0)] [] (⟨by simp,rfl⟩) (by (refine ⟨rfl,rfl,rfl,?_,?_⟩;repeat' first|exact trivial|exact rfl|refine And.intro ?_ ?_|refine ⟨_,rfl,?_⟩|decide)) ?_
  rintro k ⟨hk,hI⟩
  (repeat' ((conv=>whnf);first|refine vA ?_|((first|refine vD ?_ ?_|refine vF ?_ ?_)<;>intro hc<;>try simp only [vL] at hc)|refine vJ fun hg=>?_|refine vT ?_|(refine vQ ?_ fun x hx=>?_;·omega)|(refine vO ?_ ?_;·omega)|refine vX ?_));all_goals try conv=>whnf
  ·rw [e0,if_pos (by rw [hI,zab hx,List.any_cons,decide_eq_true (by simpa using ‹_›)];rfl)]
  ·exact ⟨k+1,[(0,0)],[],⟨by (omega),by rw [hI,zab hx,List.any_cons,decide_eq_false (by simpa using ‹_›)];rfl⟩,by (omega),by (refine ⟨rfl,rfl,rfl,?_,?_⟩;repeat' first|exact trivial|exact rfl|refine And.intro ?_ ?_|refine ⟨_,rfl,?_⟩|decide)⟩
  ·have h1:m.rel.any (fun r=>decide ((r.length:Int)≠m.W))=false:=by rw [hI,List.drop_eq_nil_of_le (by omega)];rfl
   rw [h1,if_neg (by decide)] at e0
   have co:=znE (T:=T) m.val m.W (by omega)
   have c2:=c2 (by omega)
   (repeat' ((conv=>whnf);first|(refine vI ?_ ?_<;>intro hc)|refine vT ?_|refine vX ?_|refine yD co ⟨⟨rfl,rfl⟩,⟨rfl,rfl⟩,rfl⟩ rfl ?_|refine yD c2 (by (repeat refine ⟨⟨rfl,rfl⟩,?_⟩);rfl) rfl ?_));all_goals try conv=>whnf
   ·rw [e0,if_pos ‹_›]
   ·rw [e0,if_neg (by simp [‹m.val.any (bad m.W)=false›]),if_pos ‹_›]
   ·rw [e0,if_neg (by simp [‹m.val.any (bad m.W)=false›]),if_neg (by simp [‹(m.rel.any fun x=>x.any (bad m.W))=false›])]
def zlW (m:KM) (w:Int):Int:=if zi m≠0∨w < 0∨m.W≤w then -1 else zbE m w.toNat
theorem zqw {m:KM} (hc:zi m=0) {w:Nat} (hw:w < m.W.toNat):zlW m (w:Int)=zbE m w:=by
 unfold zlW;rw [if_neg (by omega)];rfl
theorem ziP (m:KM) (w:Int):Fn Tryd.prog T zfa [.d (dKM m),.d (.int .i64 w)] [] (.d (.int .i64 (zlW m w))) []:=by
 refine zb zk zr3 (by show 2≤40;decide) ?_
 (repeat' ((conv=>whnf);first|refine vA ?_|((first|refine vD ?_ ?_|refine vF ?_ ?_)<;>intro hc<;>try simp only [vL] at hc)|refine vJ fun hg=>?_|refine vT ?_|refine vX ?_|refine yD (zbU m) ⟨⟨rfl,rfl⟩,rfl⟩ rfl ?_));all_goals try conv=>whnf
 ·rw [zlW,if_pos (by omega)]
 ·rw [zlW,if_pos (by omega)]
 ·rw [zlW,if_pos (by omega)]
 ·have hc0:zi m=0:=by omega
  have hg0:=zw hc0
  have w2:=hg0.w2
  have v8:=hg0.v8
  refine zy (fun ((k,f):Nat×Int)=>[(1,.d (.int .i64 (w))),(5,.d (.int .i64 (f))),(22,.d (dU m.val)),(23,.d (.int .i64 ((m.val.map D.u64).length:Int))),(24,.d (.int .i64 ((k:Int))))]) (fun ((k,f):Nat×Int)=>[(0,some (zaH m))]) 1 (fun ((k,f):Nat×Int)=>k≤m.val.length∧f=(zfX m.val w.toNat k:Int)) (fun ((k,f):Nat×Int)=>m.val.length - k) ((0,0)) [(0,0)] [] (⟨by simp,rfl⟩) (by (refine ⟨rfl,rfl,rfl,?_,?_⟩;repeat' first|exact trivial|exact rfl|refine And.intro ?_ ?_|refine ⟨_,rfl,?_⟩|decide)) ?_
  rintro ⟨k,f⟩ ⟨hk,hI⟩
  subst hI
  by_cases hkl:k < m.val.length
  ·obtain ⟨s,hs⟩ : ∃ s,m.val[k]? = some s:=⟨_,List.getElem?_eq_getElem hkl⟩
   have hw:w=((w.toNat:Nat):Int):=by omega
   have bs:(s >>> w.toNat&&&(1:BitVec 64)).toNat≤1:=zwD s _
   have hor:=zyx (w:=w.toNat) hs (by omega)
   have hsh:0≤(((s >>> w.toNat&&&(1:BitVec 64)).toNat:Int)) * 2 ^ (min (k:Int).toNat IntKind.i64.bits)∧(((s >>> w.toNat&&&(1:BitVec 64)).toNat:Int)) * 2 ^ (min (k:Int).toNat IntKind.i64.bits)≤9223372036854775807:=zxH bs (by omega)
   (repeat' ((conv=>whnf);first|refine vA ?_|(refine vF ?_ ?_<;>intro hc<;>try simp only [vL] at hc)|refine vT ?_|refine vN ‹_› ?_|((first|refine vO ?_ ?_|refine vP ?_ ?_);·omega)|refine vX ?_));all_goals try conv=>whnf
   ·refine ⟨(k+1,_),[(0,0)],[],?_,?_,by (refine ⟨rfl,rfl,rfl,?_,?_⟩;repeat' first|exact trivial|exact rfl|refine And.intro ?_ ?_|refine ⟨_,rfl,?_⟩|decide)⟩
    ·exact ⟨by (omega),hor⟩
    ·((simp only [vM] at *;omega))
   all_goals omega
  ·(repeat' ((conv=>whnf);first|refine vA ?_|(refine vF ?_ ?_<;>intro hc<;>try simp only [vL] at hc)|refine vT ?_|(refine vQ ?_ fun x hx=>?_;·omega)|((first|refine vO ?_ ?_|refine vP ?_ ?_);·omega)|refine vX ?_));all_goals try conv=>whnf
   ·omega
   ·unfold zlW
    rw [if_neg (by omega),show k=m.val.length by omega];rfl
abbrev dN (l:List Nat):D:=dI (l.map fun (x:Nat)=>(x:Int))
theorem zut (hT:zcl T) (s:BitVec 64):Fn Tryd.prog T ziJ [.d (.u64 s)] [] (.d (dN (za s))) []:=by
 refine zb zk zpQ (by show 1≤16;decide) ?_
 (repeat' ((conv=>whnf);first|refine vA ?_|refine vT ?_));all_goals try conv=>whnf
 refine zy (fun ((r,zs):BitVec 64×List D)=>[(0,.d (.u64 (r))),(3,.own 0)]) (fun ((r,zs):BitVec 64×List D)=>[(0,some (.row 1 zs))]) 1 (fun ((r,zs):BitVec 64×List D) => ∃ l:List Nat,zs=l.map (fun (x:Nat)=>D.int .i64 (x:Int))∧za s=l++za r) (fun ((r,zs):BitVec 64×List D)=>(za r).length) ((s,[])) []   [0] (⟨[],rfl,rfl⟩) (by (refine ⟨rfl,rfl,rfl,?_,?_⟩;repeat' first|exact trivial|exact rfl|exact ⟨_,rfl⟩|refine And.intro ?_ ?_|decide)) ?_
 rintro ⟨r,zs⟩ ⟨l,rfl,hI⟩
 by_cases hr:r=0#64
 ·subst hr
  (repeat' ((conv=>whnf);first|refine vA ?_|refine vH ?_|refine vT ?_));all_goals try conv=>whnf
  rw [hI,znu,List.append_nil]
  show some (D.arr 1 _)=some (D.arr 1 _)
  rw [List.map_map];rfl
 ·have hb:=znt r hr
  have hl:=congrArg List.length hI
  have hlen:(za s).length≤64:=by unfold za;have:=List.length_filter_le (fun i=>s.getLsbD i) (List.range 64);simpa using this
  rw [List.length_append] at hl
  (repeat' ((conv=>whnf);first|refine vA ?_|(refine vD ?_ ?_<;>intro hc)|refine vT ?_|(refine vP ?_ ?_;·(simp only [vM] at *;omega))|refine yD (hT r) (by (repeat refine ⟨⟨rfl,rfl⟩,?_⟩);rfl) rfl ?_));all_goals try conv=>whnf
  ·refine ⟨(r&&&(r - 1#64),_),[(0,2)],[],?_,?_,by (refine ⟨rfl,rfl,rfl,?_,?_⟩;repeat' first|exact trivial|exact rfl|refine And.intro ?_ ?_|refine ⟨_,rfl,?_⟩|decide)⟩
   ·exact ⟨l++[Lib.ctz 64 r.toNat],by simp,by rw [hI,hb];simp⟩
   ·show (za (r&&&(r - 1#64))).length < (za r).length
    rw [hb];simp
  ·exact absurd ‹r=0› hr
theorem zth (s:BitVec 64) (l:List Nat) (hl:l.length≤64):Fn Tryd.prog T zlV [.d (.u64 s),.d (dN l)] [] (.d (.u64 (zec s l))) []:=by
 refine zb zk ztr (by show 2≤25;decide) ?_
 (repeat' ((conv=>whnf);first|refine vA ?_|refine vJ fun hg=>?_|refine vT ?_));all_goals try conv=>whnf
 refine zar (fun ((k,o):Nat×BitVec 64)=>[(0,.d (.u64 (s))),(5,.d (.u64 (o))),(8,.d (dN l)),(9,.d (.int .i64 (((l.map fun (x:Nat)=>(x:Int)).map (D.int .i64)).length:Int))),(10,.d (.int .i64 ((k:Int))))]) (fun ((k,o):Nat×BitVec 64)=>k≤l.length∧o=zbb (fun i=>s.getLsbD (l.getD i 0)) k) (fun ((k,o):Nat×BitVec 64)=>l.length - k) ((0,0#64)) (⟨by simp,rfl⟩) (by (repeat' first|exact trivial|exact rfl|refine And.intro ?_ ?_)) ?_
 rintro ⟨k,o⟩ ⟨hk,hI⟩
 by_cases hkl:k < l.length
 ·have e1:(l.map fun (x:Nat)=>(x:Int))[k]? = some ((l.getD k 0:Nat):Int):=by simp [hkl]
  (repeat' ((conv=>whnf);first|refine vA ?_|(refine vF ?_ ?_<;>intro hc<;>try simp only [vL] at hc)|refine vT ?_|refine vN ‹_› ?_|((first|refine vO ?_ ?_|refine vP ?_ ?_);·omega)|refine vY ?_));all_goals try conv=>whnf
  ·refine ⟨(k+1,_),[],[],?_,?_,by (refine ⟨rfl,rfl,rfl,?_,?_⟩;repeat' first|exact trivial|exact rfl|refine And.intro ?_ ?_)⟩
   ·refine ⟨by omega,?_⟩
    rw [zbb,hI]
    show _|||(s >>> (l.getD k 0)&&&1#64) <<< k=_
    by_cases hb:s.getLsbD (l.getD k 0)=true
    ·rw [(zcg _ _).2 hb,if_pos hb]
    ·rw [(zek _ _).2 (by simpa using hb),if_neg hb,BitVec.zero_shiftLeft,BitVec.or_zero]
   ·((simp only [vM] at *;omega))
  ·omega
 ·(repeat' ((conv=>whnf);first|refine vA ?_|(refine vF ?_ ?_<;>intro hc<;>try simp only [vL] at hc)|refine vT ?_|(refine vQ ?_ fun x hx=>?_;·omega)|((first|refine vO ?_ ?_|refine vP ?_ ?_);·omega)|refine vY ?_));all_goals try conv=>whnf
  ·omega
  ·rw [hI,show k=l.length by omega];rfl
theorem zj9 {l:List Nat} {k:Nat} (h:k < l.length):(l.map fun (x:Nat)=>(x:Int))[k]? = some ((l.getD k 0:Nat):Int):=by simp [h]
abbrev zg2 (l:List Nat):Nat:=((l.map fun (x:Nat)=>(x:Int)).map (D.int .i64)).length
theorem zjW (l:List Nat):zg2 l=l.length:=by simp [zg2]
theorem zvQ (m:KM) (l:List Nat) (hl:l.length≤64) (hr : ∀ r∈m.rel,∀ w∈l,w < r.length) (hv:m.val.length≤8) (hrl:m.rel.length≤4):Fn Tryd.prog T zfV [.d (dKM m),.d (dN l)] [] (.d (dKM (zaE m l))) []:=by
 refine zb zk zpP (by show 2≤63;decide) ?_
 (repeat' ((conv=>whnf);first|refine vA ?_|refine vJ fun hg=>?_|refine vT ?_));all_goals try conv=>whnf
 refine zy (fun ((k,zs):Nat×List D)=>[(1,.d (dN l)),(2,.ptr 0 0),(4,.ptr 1 0),(5,.ptr 2 0),(17,.d (dU m.val)),(18,.d (.int .i64 ((m.val.map D.u64).length:Int))),(19,.d (.int .i64 ((k:Int))))]) (fun ((k,zs):Nat×List D)=>[(0,some (zaH m)),(1,some (.box [.d (.int .i64 0),.nils 1,.nils 1])),(2,some (.box [.d (.int .i64 (zg2 l:Int)),.own 3,.nils 1])),(3,some (.row 1 zs))]) 4 (fun ((k,zs):Nat×List D)=>k≤m.val.length∧zs=(m.val.take k).map fun s=>D.u64 (zec s l)) (fun ((k,zs):Nat×List D)=>m.val.length - k) ((0,[])) [(0,0),(1,1),(2,2)]   [3] (⟨by simp,by simp⟩) (by (refine ⟨rfl,rfl,rfl,?_,?_⟩;repeat' first|exact trivial|exact rfl|exact ⟨_,rfl⟩|refine And.intro ?_ ?_|refine ⟨_,rfl,?_⟩|decide)) ?_
 rintro ⟨k,zs⟩ ⟨hk,hz⟩
 have hzl:zs.length≤8:=by rw [hz];simp;omega
 by_cases hkl:k < m.val.length
 ·obtain ⟨s,hs⟩ : ∃ s,m.val[k]? = some s:=⟨_,List.getElem?_eq_getElem hkl⟩
  (repeat' ((conv=>whnf);first|refine vA ?_|(refine vF ?_ ?_<;>intro hc<;>try simp only [vL] at hc)|refine vJ fun hg=>?_|refine vT ?_|refine vN ‹_› ?_|((first|refine vO ?_ ?_|refine vP ?_ ?_);·first|omega|(simp only [vM] at *;omega))|(refine vU ?_ ?_;·kernel_rfl)|refine yD (zth s l hl) ⟨⟨rfl,rfl⟩,⟨rfl,rfl⟩,rfl⟩ rfl ?_));all_goals try conv=>whnf
  ·refine ⟨(k+1,_),[(0,0),(1,1),(2,2),(3,5)],[],?_,?_,by (refine ⟨rfl,rfl,rfl,?_,?_⟩;repeat' first|exact trivial|exact rfl|refine And.intro ?_ ?_|refine ⟨_,rfl,?_⟩|decide)⟩
   ·exact ⟨by omega,by rw [List.take_add_one,hs,hz];simp⟩
   ·((simp only [vM] at *;omega))
  all_goals omega
 ·have hzz:zs=m.val.map fun s=>D.u64 (zec s l):=by rw [hz,List.take_of_length_le (by omega)]
  clear hz
  subst hzz
  (repeat' ((conv=>whnf);first|refine vA ?_|(refine vF ?_ ?_<;>intro hc<;>try simp only [vL] at hc)|refine vJ fun hg=>?_|refine vT ?_|(refine vQ ?_ fun x hx=>?_;·omega)|fail));all_goals try conv=>whnf
  ·omega
  refine zy (fun ((k,zs):Nat×List D)=>[(1,.d (dN l)),(4,.ptr 1 0),(5,.ptr 2 0),(33,.d (dUU m.rel)),(34,.d (.int .i64 ((m.rel.map dU).length:Int))),(35,.d (.int .i64 ((k:Int))))]) (fun ((k,zs):Nat×List D)=>[(1,some (.box [.d (.int .i64 0),.nils 1,.nils 1])),(2,some (.box [.d (.int .i64 (zg2 l:Int)),.own 3,.own 4])),(3,some (.row 1 (m.val.map fun s=>D.u64 (zec s l)))),(4,some (.row 1 zs))]) 5 (fun ((k,zs):Nat×List D)=>k≤m.rel.length∧zs=(m.rel.take k).map fun r=>dU (l.map fun w=>zec (r.getD w 0#64) l)) (fun ((k,zs):Nat×List D)=>m.rel.length - k) ((0,[])) [(1,1),(2,2),(3,3)]   [4] (⟨by simp,by simp⟩) (by (refine ⟨rfl,rfl,rfl,?_,?_⟩;repeat' first|exact trivial|exact rfl|exact ⟨_,rfl⟩|refine And.intro ?_ ?_|refine ⟨_,rfl,?_⟩|decide)) ?_
  rintro ⟨k,zs⟩ ⟨hk,hz⟩
  have hzl:zs.length≤4:=by rw [hz];simp;omega
  by_cases hkl:k < m.rel.length
  ·obtain ⟨r,hrr⟩ : ∃ r,m.rel[k]? = some r:=⟨_,List.getElem?_eq_getElem hkl⟩
   have hrw:=hr r (List.mem_of_getElem? hrr)
   (repeat' ((conv=>whnf);first|refine vA ?_|(refine vF ?_ ?_<;>intro hc<;>try simp only [vL] at hc)|refine vJ fun hg=>?_|refine vT ?_|refine vN ‹_› ?_));all_goals try conv=>whnf
   ·refine zy (fun ((j,ys):Nat×List D)=>[(1,.d (dN l)),(4,.ptr 1 0),(5,.ptr 2 0),(9,.d (dU r)),(10,.own 5),(33,.d (dUU m.rel)),(34,.d (.int .i64 ((m.rel.map dU).length:Int))),(35,.d (.int .i64 ((k:Int)))),(39,.d (dN l)),(40,.d (.int .i64 (((l.map fun (x:Nat)=>(x:Int)).map (D.int .i64)).length:Int))),(41,.d (.int .i64 ((j:Int))))]) (fun ((j,ys):Nat×List D)=>[(1,some (.box [.d (.int .i64 0),.nils 1,.nils 1])),(2,some (.box [.d (.int .i64 (zg2 l:Int)),.own 3,.own 4])),(3,some (.row 1 (m.val.map fun s=>D.u64 (zec s l)))),(4,some (.row 1 zs)),(5,some (.row 1 ys))]) 6 (fun ((j,ys):Nat×List D)=>j≤l.length∧ys=(l.take j).map fun w=>D.u64 (zec (r.getD w 0#64) l)) (fun ((j,ys):Nat×List D)=>l.length - j) ((0,[])) [(1,1),(2,2),(3,3),(4,4)]   [5] (⟨by simp,by simp⟩) (by (refine ⟨rfl,rfl,rfl,?_,?_⟩;repeat' first|exact trivial|exact rfl|exact ⟨_,rfl⟩|refine And.intro ?_ ?_|refine ⟨_,rfl,?_⟩|decide)) ?_
    rintro ⟨j,ys⟩ ⟨hj,hy⟩
    have hyl:ys.length≤64:=by rw [hy];simp;omega
    by_cases hjl:j < l.length
    ·have e1:=zj9 hjl
     have e2:=hrw _ (zok hjl)
     have e3:r[l.getD j 0]? = some (r.getD (l.getD j 0) 0#64):=zbF e2
     (repeat' ((conv=>whnf);first|refine vA ?_|(refine vF ?_ ?_<;>intro hc<;>try simp only [vL] at hc)|refine vT ?_|refine vN ‹_› ?_|((first|refine vO ?_ ?_|refine vP ?_ ?_);·first|omega|(simp only [vM] at *;omega))|refine yD (zth (r.getD (l.getD j 0) 0#64) l hl) ⟨⟨rfl,rfl⟩,⟨rfl,rfl⟩,rfl⟩ rfl ?_));all_goals try conv=>whnf
     ·refine ⟨(j+1,_),[(1,1),(2,2),(3,3),(4,4),(5,7)],[],?_,?_,by (refine ⟨rfl,rfl,rfl,?_,?_⟩;repeat' first|exact trivial|exact rfl|refine And.intro ?_ ?_|refine ⟨_,rfl,?_⟩|decide)⟩
      ·exact ⟨by omega,by rw [List.take_add_one,hy,zbF (d:=0) hjl];simp⟩
      ·((simp only [vM] at *;omega))
     ·omega
    ·(repeat' ((conv=>whnf);first|refine vA ?_|(refine vF ?_ ?_<;>intro hc<;>try simp only [vL] at hc)|refine vT ?_|(refine vQ ?_ fun x hx=>?_;·omega)|((first|refine vO ?_ ?_|refine vS ?_ fun x hx=>?_|refine vP ?_ ?_);·first|omega|(simp only [vM] at *;omega))|fail));all_goals try conv=>whnf
     ·omega
     ·have hyy:ys=l.map fun w=>D.u64 (zec (r.getD w 0#64) l):=by rw [hy,List.take_of_length_le (by omega)]
      refine ⟨(k+1,_),[(1,1),(2,2),(3,3),(4,7)],[],?_,?_,by (refine ⟨rfl,rfl,rfl,?_,?_⟩;repeat' first|exact trivial|exact rfl|refine And.intro ?_ ?_|refine ⟨_,rfl,?_⟩|decide)⟩
      ·refine ⟨by omega,?_⟩
       rw [List.take_add_one,hrr,hz,hyy];simp
      ·((simp only [vM] at *;omega))
   all_goals omega
  ·(repeat' ((conv=>whnf);first|refine vA ?_|(refine vF ?_ ?_<;>intro hc<;>try simp only [vL] at hc)|refine vJ fun hg=>?_|refine vT ?_|(refine vQ ?_ fun x hx=>?_;·omega)|fail));all_goals try conv=>whnf
   ·omega
   ·have hzz:zs=m.rel.map fun r=>dU (l.map fun w=>zec (r.getD w 0#64) l):=by rw [hz,List.take_of_length_le (by omega)]
    subst hzz
    refine congrArg some (show D.agg [.int .i64 (zg2 l:Int),.arr 1 (m.val.map fun s=>D.u64 (zec s l)),.arr 1 (m.rel.map fun r=>dU (l.map fun w=>zec (r.getD w 0#64) l))]=dKM (zaE m l) from ?_)
    rw [zjW]
    simp [zaE,Function.comp_def]
theorem zyL {m:KM} (hc:zi m=0) {l:List Nat} (h : ∀ w∈l,w < m.W.toNat) : ∀ r∈m.rel,∀ w∈l,w < r.length:=fun r hr w hw=>by
 have hg:=zw hc
 have:=hg.len r hr
 have:=h w hw
 have:=hg.w1
 omega
theorem zuo {m:KM} (hc:zi m=0) {l:List Nat} (hl:l.length≤64) (h : ∀ w∈l,w < m.W.toNat):Fn Tryd.prog T zfV [.d (dKM m),.d (dN l)] [] (.d (dKM (zaE m l))) [] :=
 zvQ m l hl (zyL hc h) (zw hc).v8 (zw hc).n4
theorem zoW (s:BitVec 64):(za s).length≤64:=by
 unfold za;have:=List.length_filter_le (fun i=>s.getLsbD i) (List.range 64);simpa using this
theorem zBp {m:KM} (hc:zi m=0) {s:BitVec 64} (hs : ∀ v,s.getLsbD v=true→v < m.W.toNat):s &&& ~~~(z2 m.W)=0#64:=by
 have w1:=(zw hc).w1
 have:=(zfr (n:=m.W) (s:=s) (by omega)).2 hs
 simpa [bad] using this
theorem zl2 (hT:zcl T) {m:KM} (hk0:zi m=0) {s:BitVec 64} (h0:s≠0#64) (hs : ∀ v,s.getLsbD v=true→v < m.W.toNat):Fn Tryd.prog T zh3 [.d (dKM m),.d (.u64 s)] [] (.d (.tup [dKM (zaE m (za s)),dN (za s),.int .i64 0])) []:=by
 have w1:=(zw hk0).w1
 have h1:=zBp hk0 hs
 have cc:=zbU (T:=T) m
 rw [hk0] at cc
 refine zb zk zou (by show 2≤31;decide) ?_
 (repeat' ((conv=>whnf);first|refine vA ?_|refine vH ?_|((first|refine vD ?_ ?_|refine vF ?_ ?_)<;>intro hc)|refine vT ?_|refine yD cc ⟨⟨rfl,rfl⟩,rfl⟩ rfl ?_|refine yD (zu1 m.W (by omega)) ⟨⟨rfl,rfl⟩,rfl⟩ rfl ?_|refine yN (zut hT s) ⟨⟨rfl,rfl⟩,rfl⟩ ?_|refine yN (zuo hk0 (zoW s) (fun w hw=>hs w (zbK.1 hw))) (by (repeat refine ⟨⟨rfl,rfl⟩,?_⟩);rfl) ?_));all_goals try conv=>whnf
 ·exact absurd h1 ‹_›
 ·exact absurd ‹s=0› h0
 ·rfl
theorem zv0 {to:List Int} {k:Nat} (hk:k < to.length) (hn:at0 to k ∉ to.take k):to.idxOf (at0 to k)=k:=by
 have e:to=to.take k++at0 to k::to.drop (k+1):=by
  rw [← zab (zhz hk),List.take_append_drop]
 have hl:(to.take k).length=k:=by simp;omega
 generalize at0 to k=x at e hn
 generalize to.take k=a at e hn hl
 rw [e,List.idxOf_append,if_neg hn,List.idxOf_cons_self,hl];simp
structure zsu (to:List Int) (k:Nat) (s:BitVec 64) (zs:List D):Prop where
 le:k≤to.length
 rng : ∀ x∈to.take k,0≤x∧x < to.length
 nd:(to.take k).Nodup
 bit : ∀ x:Nat,x < 64→(s.getLsbD x=true↔(x:Int)∈to.take k)
 row:zs=(List.range to.length).map fun (x:Nat)=>D.int .i64 (if (x:Int)∈to.take k then (to.idxOf (x:Int):Int) else 0)
theorem zsu.next {to:List Int} (h64:to.length≤64) {k:Nat} {s:BitVec 64} {zs:List D} (h:zsu to k s zs) (hk:k < to.length) {x:Nat} (hx:to[k]? = some (x:Int)) (hx1:x < to.length) (hx2:s.getLsbD x=false) :
  zsu to (k+1) (s|||1#64 <<< x) (zs.set x (.int .i64 (k:Int))):=by
 have e0:at0 to k=(x:Int):=zwz hx
 have hn:(x:Int) ∉ to.take k:=fun hm=>by rw [(h.bit x (by omega)).2 hm] at hx2;cases hx2
 have hi:to.idxOf (x:Int)=k:=by rw [← e0];exact zv0 hk (by rw [e0];exact hn)
 have ht:to.take (k+1)=to.take k++[(x:Int)]:=by rw [List.take_add_one,hx];rfl
 refine ⟨by omega,fun y hy=>?_,?_,fun y hy=>?_,?_⟩
 ·rw [ht] at hy
  rcases List.mem_append.1 hy with hy|hy
  ·exact h.rng y hy
  ·simp only [List.mem_singleton] at hy;omega
 ·rw [ht]
  refine List.nodup_append.2 ⟨h.nd,by simp,fun a ha b hb e=>?_⟩
  simp only [List.mem_singleton] at hb
  subst hb;subst e;exact hn ha
 ·rw [ht,zkS (by omega),h.bit y hy,List.mem_append,List.mem_singleton]
  exact ⟨fun h=>h.elim .inl fun e => .inr (by omega),fun h=>h.elim .inl fun e => .inr (by omega)⟩
 ·rw [h.row]
  refine (zgU _).trans (zaJ fun u hu=>?_)
  rw [ht]
  by_cases e:u=x
  ·subst e;rw [if_pos rfl,if_pos (by simp),hi]
  ·rw [if_neg e]
   have:((u:Int)∈to.take k++[(x:Int)])↔(u:Int)∈to.take k:=by
    rw [List.mem_append,List.mem_singleton]
    exact ⟨fun h=>h.elim id fun e'=>absurd (by omega) e,.inl⟩
   by_cases h2:(u:Int)∈to.take k
   ·rw [if_pos h2,if_pos (this.2 h2)]
   ·rw [if_neg h2,if_neg (fun h=>h2 (this.1 h))]
theorem zsu.done {to:List Int} {s:BitVec 64} {zs:List D} (h:zsu to to.length s zs):zcp to to.length=true∧zs=(zBq to to.length).map fun (x:Nat)=>D.int .i64 (x:Int):=by
 have h1:=h.rng;have h2:=h.nd;have h3:=h.row
 rw [List.take_length] at h1 h2 h3
 have hp:zcp to to.length=true:=zew.2 ⟨rfl,h1,h2⟩
 refine ⟨hp,?_⟩
 rw [h3]
 unfold zBq
 rw [List.map_map]
 exact zaJ fun u hu=>by rw [if_pos (zy7 hp hu)];rfl
end Go.Ab
namespace Go.Ab
open Go Go.Proofs
set_option maxRecDepth 10000
set_option maxHeartbeats 4000000
variable {T:Nat→Obj→Prop}
def zs0 (m:KM) (n:Int):Bool:=decide (¬(n < m.W∧m.W≤64)∧m.val.length≤20∧m.rel.length≤10 ∧ ∀ r∈m.rel,r.length≤70)
theorem zCt (m:KM) (n:Int):Fn Tryd.prog T zgQ [.d (dKM m),.d (.int .i64 n)] [] (.d (.bool (zs0 m n))) []:=by
 have no:(n < m.W∧m.W≤64∨20 < m.val.length∨10 < m.rel.length)→false=zs0 m n:=fun h=>by
  rw [zs0,decide_eq_false];rintro ⟨a,b,c,-⟩;omega
 refine zb zk zmh (by show 2≤41;decide) ?_
 (repeat' ((conv=>whnf);first|refine vA ?_|(refine vF ?_ ?_<;>intro hc<;>try simp only [vL] at hc)|refine vJ fun hg=>?_|refine vT ?_|refine vZ ?_));all_goals try conv=>whnf
 iterate 3 exact no (by omega)
 rotate_left
 iterate 2 exact no (by omega)
 all_goals
  have h1 : ¬(n < m.W∧m.W≤64):=by omega
  refine zy (fun (k:Nat)=>[(2,.ptr 0 0),(5,.d (.int .i64 ((k:Int))))]) (fun (k:Nat)=>[(0,some (zaH m))]) 1 (fun (k:Nat)=>k≤m.rel.length ∧ ∀ (i:Nat) r,i < k→m.rel[i]? = some r→r.length≤70) (fun (k:Nat)=>m.rel.length - k) (0) [(0,0)] [] (⟨by simp,fun i r hi=>by omega⟩) (by (refine ⟨rfl,rfl,rfl,?_,?_⟩;repeat' first|exact trivial|exact rfl|refine And.intro ?_ ?_|refine ⟨_,rfl,?_⟩|decide)) ?_
  rintro k ⟨hk,hI⟩
  (repeat' ((conv=>whnf);first|refine vA ?_|(refine vF ?_ ?_<;>intro hc<;>try simp only [vL] at hc)|refine vJ fun hg=>?_|refine vT ?_|(refine vQ ?_ fun x hx=>?_;·omega)|(refine vO ?_ ?_;·omega)|refine vZ ?_));all_goals try conv=>whnf
  ·rw [zs0,decide_eq_false]
   rintro ⟨-,-,-,h⟩
   have:=h _ (List.mem_of_getElem? hx);omega
  ·exact ⟨k+1,[(0,0)],[],⟨by (omega),fun i r hi hr=>by
    by_cases e:i=k
    ·subst e;rw [hx] at hr;cases hr;omega
    ·exact hI i r (by omega) hr⟩,by (omega),by (refine ⟨rfl,rfl,rfl,?_,?_⟩;repeat' first|exact trivial|exact rfl|refine And.intro ?_ ?_|refine ⟨_,rfl,?_⟩|decide)⟩
  ·rw [zs0,decide_eq_true]
   refine ⟨h1,by omega,by omega,fun r hr=>?_⟩
   obtain ⟨i,hi⟩:=List.getElem?_of_mem hr
   have:=(List.getElem?_eq_some_iff.1 hi).1
   exact hI i r (by omega) hi
end Go.Ab
namespace Go.Ab
theorem zz8 {n:Nat} {fa fb:Nat→Int} {R R':zbl} (hl:R'.length=R.length) {f:Nat→Nat} (hf:Ren n f) :
  (∀ v,v < n→fa v=fb (f v) ∧ ∀ u,u≤v→zic R R' f v u=true)↔zfF n fa fb R R' f:=by
 constructor
 ·intro h
  refine ⟨hf,fun w hw=>(h w hw).1.symm,⟨hl,fun i r r' h1 h2 v w hv hw=>?_⟩⟩
  by_cases e:w≤v
  ·have:=(zfB hl).1 ((h v hv).2 w e) i r r' h1 h2
   simp only [Bool.and_eq_true,beq_iff_eq] at this
   exact this.1.symm
  ·have:=(zfB hl).1 ((h w hw).2 v (by omega)) i r r' h1 h2
   simp only [Bool.and_eq_true,beq_iff_eq] at this
   exact this.2.symm
 ·intro h v hv
  refine ⟨(h.fac v hv).symm,fun u hu=>(zfB hl).2 fun i r r' h1 h2=>?_⟩
  simp only [Bool.and_eq_true,beq_iff_eq]
  exact ⟨(h.rel.rel i r r' h1 h2 v u hv (by omega)).symm,(h.rel.rel i r r' h1 h2 u v (by omega) hv).symm⟩
def zbr (a b:KM):Int:=if zi a≠0 then zi a else if zi b≠0 then zi b else if a.rel.length≠b.rel.length∨a.val.length≠b.val.length then 1 else 0
theorem zrt {a b:KM} (h:zbr a b=0):zi a=0∧zi b=0∧a.rel.length=b.rel.length∧a.val.length=b.val.length:=by
 unfold zbr at h
 split at h
 ·contradiction
 ·split at h
  ·contradiction
  ·split at h
   ·cases h
   ·rename_i h1 h2 h3;exact ⟨by omega,by omega,by omega,by omega⟩
def zqE (a b:KM) (to:List Int):Bool:=(List.range a.W.toNat).all fun v=>zbE a v==zbE b (toF to v)&&(List.range (v+1)).all fun u=>zic (z7 a) (z7 b) (toF to) v u
def zbV (a b:KM) (to:List Int):Int:=if zbr a b≠0 then zbr a b else if a.W≠b.W then 1 else if zcp to a.W.toNat=false then 3 else if zqE a b to=true then 0 else 13
theorem zto {a b:KM} (hl:b.rel.length=a.rel.length) {to:List Int} (h:zcp to a.W.toNat=true):zqE a b to=true↔zfF a.W.toNat (zbE a) (zbE b) (z7 a) (z7 b) (toF to):=by
 rw [← zz8 (by rw [zid,zid];exact hl) (ztL h)]
 unfold zqE
 simp only [List.all_eq_true,List.mem_range,Bool.and_eq_true,beq_iff_eq]
 exact ⟨fun k v hv=>⟨(k v hv).1,fun u hu=>(k v hv).2 u (by omega)⟩,fun k v hv=>⟨(k v hv).1,fun u hu=>(k v hv).2 u (by omega)⟩⟩
theorem zva {n:Nat} {q:Nat→Nat} (h:Ren n q):zcp (ptL n q) n=true:=by
 rw [zew]
 refine ⟨zqR,fun x hx=>?_,?_⟩
 ·obtain ⟨w,hw,rfl⟩:=List.mem_map.1 hx
  have:=h.lt w (List.mem_range.1 hw);omega
 ·unfold ptL
  rw [List.Nodup,List.pairwise_map]
  exact List.Pairwise.imp_of_mem (fun {a b} ha hb hab e=>hab (h.inj a b (List.mem_range.1 ha) (List.mem_range.1 hb) (by omega))) List.nodup_range
theorem zBG {n:Nat} {q:Nat→Nat} {w:Nat} (hw:w < n):toF (ptL n q) w=q w:=by
 have:at0 (ptL n q) w=((q w:Nat):Int):=zwz (zmo hw)
 unfold toF;omega
end Go.Ab
namespace Go.Proofs
def Tryd.lays129_ren:Go.Shelf.Ren:=⟨fun|129=>130|n=>n,fun|53=>31|3=>3|4=>4|46=>42|5=>5|9=>9|n=>n,fun|n=>n⟩
theorem Tryd.lays129:Go.Proofs.Lays.n129 Tryd.prog Tryd.lays129_ren := {
 mixed:=by kernel_rfl
 f129:=Tryd.func130.trans (congrArg some (by kernel_rfl))
 t3:=Tryd.underlying3
 a3:=Tryd.isAgg3
 z3:=Tryd.sizeOf3
 v3:=Tryd.zeroValue3
 t4:=Tryd.underlying4
 a4:=Tryd.isAgg4
 z4:=Tryd.sizeOf4
 v4:=Tryd.zeroValue4
 t5:=Tryd.underlying5
 a5:=Tryd.isAgg5
 z5:=Tryd.sizeOf5
 v5:=Tryd.zeroValue5
 t9:=Tryd.underlying9
 a9:=Tryd.isAgg9
 z9:=Tryd.sizeOf9
 v9:=Tryd.zeroValue9
 t46:=Tryd.underlying42
 a46:=Tryd.isAgg42
 z46:=Tryd.sizeOf42
 v46:=Tryd.zeroValue42
 t53:=Tryd.underlying31
 a53:=Tryd.isAgg31
 z53:=Tryd.sizeOf31
 v53:=Tryd.zeroValue31 }
end Go.Proofs
namespace Go.Ab
open Go Go.Proofs
set_option maxRecDepth 10000
set_option maxHeartbeats 4000000
variable {T:Nat→Obj→Prop}
theorem zvA:zc5 Tryd.prog zhh:=⟨_,Tryd.func130,by kernel_rfl,by kernel_rfl⟩
theorem zyD (x:BitVec 64):Fn Tryd.prog T zhh [.d (.u64 x)] [] (.d (.int .i64 (Sort.bitsLen x.toNat:Int))) []:=by
 refine zu2 (ds:=[.u64 x]) zvA fun w args hw hsz hargs=>?_
 obtain ⟨X,hX⟩:=hargs 0 (by simp)
 have ha:args = #[.int .u64 (x.toNat:Int)]:=by
  have h0:args.getD 0 undef = .int .u64 (x.toNat:Int):=by
   generalize args.getD 0 undef=y at hX
   cases hX;rfl
  obtain ⟨l⟩:=args
  match l,hsz with
  | [y],_=>rw [← h0];rfl
 rw [ha]
 have:=Any.bits_Len64 Tryd.lays129 (x.toNat:Int) w (by omega) (by have:=x.isLt;omega)
 refine this.mono fun e w' he=>⟨_,he.1,he.2,fun X=>?_⟩
 rw [Int.toNat_natCast,Go.Proofs.bitLen_eq _ x.isLt]
 exact .int _ _ (by decide)
theorem zs9 (x:BitVec 64):Fn Tryd.prog T zd7 [.d (.u64 x)] [] (.d (.int .i64 (Sort.bitsLen x.toNat:Int))) []:=by
 refine zb zk zpM (by show 1≤8;decide) ?_
 (repeat' ((conv=>whnf);first|refine vT ?_|refine vX ?_|refine yD (zyD _) ⟨⟨rfl,rfl⟩,rfl⟩ rfl ?_));all_goals try conv=>whnf
end Go.Ab
namespace Go.Ab
open Go Go.Proofs
set_option maxRecDepth 10000
set_option maxHeartbeats 4000000
section
variable {α:Type} [Inhabited α] [DecidableEq α]
def ddA (d:Array α):Nat→List α
 | 0=>[]
 | n+1=>if 0 < n∧d[n]! = d[n - 1]! then ddA d n else ddA d n++[d[n]!]
def Steps (d:Array α):Prop := ∀ j,0 < j→j < d.size→d[j]! ≠ d[j - 1]!
theorem zx0 {d:Array α} {n:Nat} (h:n < d.size):d.toList.take (n+1)=d.toList.take n++[d[n]!]:=by
 rw [List.take_add_one,zcf h];rfl
theorem zqs {d:Array α} : ∀ {n:Nat},n≤d.size→(∀ j,0 < j→j < n→d[j]! ≠ d[j - 1]!)→ddA d n=d.toList.take n
 | 0,_,_=>rfl
 | n+1,h,hs=>by
  rw [ddA,if_neg (fun hh=>hs n hh.1 (by omega) hh.2),zqs (by omega) (fun j h0 h1=>hs j h0 (by omega)),zx0 (by omega)]
theorem zyv {d:Array α} {k:Nat} (h0:0 < k) (h1:k < d.size) (hk : ∀ j,0 < j→j < k→d[j]! ≠ d[j - 1]!) (he:d[k]! = d[k - 1]!):d.toList.take k=ddA d (k+1):=by
 rw [ddA,if_pos ⟨h0,he⟩,zqs (by omega) hk]
theorem zzn {e:Array α} {a:Nat} {x:α} (h:a < e.size):(e.setIfInBounds a x).toList.take (a+1)=e.toList.take a++[x]:=by
 have hl:a < e.toList.length:=by simpa using h
 rw [Array.toList_setIfInBounds,List.take_add_one,List.getElem?_set_self hl,List.take_set_of_le (Nat.le_refl a)];rfl
theorem zAy {e:Array α} {a j:Nat} {x:α} (h:a≠j):(e.setIfInBounds a x)[j]! = e[j]! := by
 simp [getElem!_def,Array.getElem?_setIfInBounds_ne h]
theorem zz4 {d:Array α} {n:Nat} (h:0 < n) (he:d[n]! = d[n - 1]!):ddA d (n+1)=ddA d n:=by rw [ddA,if_pos ⟨h,he⟩]
theorem zA7 {d:Array α} {n:Nat} (he:d[n]! ≠ d[n - 1]!):ddA d (n+1)=ddA d n++[d[n]!]:=by rw [ddA,if_neg (fun h=>he h.2)]
theorem zz3 {enc:α→D} {e:Array α} {z:D} {a n:Nat} (h:a≤e.size):((List.take a (e.toList.map enc))++(List.replicate n z++List.drop (a+n) (e.toList.map enc))).take a=(e.toList.take a).map enc:=by
 rw [List.take_append_of_le_length (by simp;omega),List.take_take,Nat.min_self,List.map_take]
end
end Go.Ab
namespace Go.Ab
section
variable {α:Type} [Inhabited α] [DecidableEq α]
theorem zgh {d:Array α} {x:α} : ∀ {n:Nat},x∈ddA d n ↔ ∃ i,i < n∧d[i]! = x
 | 0=>by simp [ddA]
 | n+1=>by
  rw [ddA]
  constructor
  ·intro h
   split at h
   ·obtain ⟨i,h1,h2⟩:=zgh.1 h
    exact ⟨i,by omega,h2⟩
   ·rcases List.mem_append.1 h with h|h
    ·obtain ⟨i,h1,h2⟩:=zgh.1 h
     exact ⟨i,by omega,h2⟩
    ·exact ⟨n,by omega,by simp at h;exact h.symm⟩
  ·rintro ⟨i,h1,h2⟩
   split
   ·rename_i hc
    by_cases e:i=n
    ·subst e
     exact zgh.2 ⟨i - 1,by omega,by rw [← hc.2];exact h2⟩
    ·exact zgh.2 ⟨i,by omega,h2⟩
   ·by_cases e:i=n
    ·subst e;exact List.mem_append.2 (.inr (by simp [h2]))
    ·exact List.mem_append.2 (.inl (zgh.2 ⟨i,by omega,h2⟩))
theorem zn8 {lt:α→α→Bool} {d:Array α} (hs : ∀ i j,i < j→j < d.size→lt d[j]! d[i]! = false) (tri : ∀ x y,lt x y=false→lt y x=false→x=y) : ∀ {n:Nat},n≤d.size→(ddA d n).Pairwise fun x y=>lt x y=true
 | 0,_=>List.Pairwise.nil
 | n+1,h=>by
  rw [ddA]
  split
  ·exact zn8 hs tri (by omega)
  ·rename_i hc
   refine List.pairwise_append.2 ⟨zn8 hs tri (by omega),List.pairwise_singleton _ _,fun x hx y hy=>?_⟩
   obtain ⟨i,hi,rfl⟩:=zgh.1 hx
   have hy:y=d[n]! := by simpa using hy
   subst hy
   cases hb:lt d[i]! d[n]! with
   | true=>rfl
   | false =>
    have e1:=tri _ _ hb (hs i n hi (by omega))
    refine absurd ⟨by omega,?_⟩ hc
    by_cases e:i=n - 1
    ·rw [← e];exact e1.symm
    ·refine (tri _ _ ?_ ?_)
     ·exact hs (n - 1) n (by omega) (by omega)
     ·rw [← e1];exact hs i (n - 1) (by omega) (by omega)
end
def ltT (x y:Tup):Bool:=decide (zbi x y < 0)
theorem zhA {x y:Tup} : ltT x y=true↔zbi x y < 0:=by simp [ltT]
theorem ztv {x y:Tup} : ltT x y=false↔0≤zbi x y:=by simp [ltT]
theorem zBF:Sort.SWO ltT:=by
 refine ⟨fun x=>ztv.2 (by rw [zaU.refl];omega),fun x y z h1 h2=>zhA.2 (zaU.tr (zhA.1 h1) (zhA.1 h2)),fun x y z h1 h2=>?_⟩
 rw [ztv] at *
 have a1:=zaU.anti x y
 have a2:=zaU.anti y z
 have a3:=zaU.anti x z
 by_cases e1:zbi x y=0
 ·rw [zaU.zero.1 e1];exact h2
 ·by_cases e2:zbi y z=0
  ·rw [← zaU.zero.1 e2];exact h1
  ·have:=zaU.tr (x:=z) (y:=y) (z:=x) (by omega) (by omega)
   omega
theorem zlZ {α:Type} {p:α→Bool} : ∀ {S:List α} {i:Nat},i≤S.length→(∀ (k:Nat) x,k < i→S[k]? = some x→p x=true)→(∀ (k:Nat) x,i≤k→S[k]? = some x→p x=false)→(S.filter p).length=i
 | [],i,hi,_,_=>by simp at hi;simp [hi]
 | a::S,0,hi,h1,h2=>by
  have:(a::S).filter p=[]:=by
   rw [List.filter_eq_nil_iff]
   intro x hx
   obtain ⟨k,hk⟩:=List.getElem?_of_mem hx
   rw [h2 k x (by omega) hk];simp
  rw [this];rfl
 | a::S,i+1,hi,h1,h2=>by
  rw [List.filter_cons_of_pos (h1 0 a (by omega) rfl),List.length_cons,zlZ (i:=i) (by simpa using hi) (fun k x hk hx=>h1 (k+1) x (by omega) (by simpa using hx)) fun k x hk hx=>h2 (k+1) x (by omega) (by simpa using hx)]
structure zcG (ts S:List Tup):Prop where
 pw:S.Pairwise fun x y=>zbi x y < 0
 mem : ∀ x,x∈S↔x∈ts
theorem zcG.nodup {ts S:List Tup} (h:zcG ts S):S.Nodup:=h.pw.imp fun {a b} h e=>by subst e;rw [zaU.refl] at h;omega
theorem zcG.cnt {ts S:List Tup} (h:zcG ts S):S.length=cnN ts:=zzJ h.nodup h.mem
theorem zcG.le {ts S:List Tup} (h:zcG ts S):S.length≤ts.length:=ze4 h.nodup fun x hx=>(h.mem x).1 hx
theorem zcG.rk {ts S:List Tup} (h:zcG ts S) {t:Tup} {i:Nat} (hi:i≤S.length) (h1 : ∀ (k:Nat) x,k < i→S[k]? = some x→zbi x t < 0) (h2 : ∀ (k:Nat) x,i≤k→S[k]? = some x → ¬zbi x t < 0):i=rkN ts t:=by
 rw [← zzS h.nodup h.mem]
 exact (zlZ hi (fun k x hk hx=>decide_eq_true (h1 k x hk hx)) fun k x hk hx=>decide_eq_false (h2 k x hk hx)).symm
theorem zcG.lt_of {ts S:List Tup} (h:zcG ts S) {t:Tup} {i k:Nat} {x y:Tup} (hx:S[i]? = some x) (hy:S[k]? = some y) (hik:k≤i) (hl:zbi x t < 0):zbi y t < 0:=by
 by_cases e:k=i
 ·subst e;rw [hx] at hy;cases hy;exact hl
 ·obtain ⟨a,b⟩:=List.getElem?_eq_some_iff.1 hx
  obtain ⟨c,d⟩:=List.getElem?_eq_some_iff.1 hy
  have:=List.pairwise_iff_getElem.1 h.pw k i c a (by omega)
  rw [b,d] at this
  exact zaU.tr this hl
theorem zrO (d:Array Tup):(Sort.sort ltT d).toList.Perm d.toList:=by
 obtain ⟨⟨h1,-,h2⟩,-⟩:=Sort.sort_sorts ltT zBF d
 have e1:(Sort.sort ltT d).extract 0 d.size=Sort.sort ltT d:=by rw [← h1];simp
 have e2:d.extract 0 d.size=d:=by simp
 rwa [e1,e2] at h2
theorem zwn {ts:List Tup} {S:Array Tup} (hS:S=Sort.sort ltT ts.toArray):zcG ts (ddA S S.size):=by
 subst hS
 obtain ⟨⟨h1,-,-⟩,h3⟩:=Sort.sort_sorts _ zBF ts.toArray
 have hp:=zrO ts.toArray
 generalize Sort.sort ltT ts.toArray=S at h1 h3 hp
 refine ⟨?_,fun x=>?_⟩
 ·refine (zn8 (fun i j hij hj=>h3 i j (Nat.zero_le _) hij (by rw [← h1];exact hj)) (fun x y h1 h2=>zaU.zero.1 (by rw [ztv] at h1 h2;have:=zaU.anti x y;omega)) (Nat.le_refl _)).imp fun h=>zhA.1 h
 ·rw [zgh]
  have:=hp.mem_iff (a:=x)
  rw [show ts.toArray.toList=ts from rfl] at this
  rw [← this]
  constructor
  ·rintro ⟨i,hi,rfl⟩;exact List.mem_of_getElem? (zcf hi)
  ·intro hx
   obtain ⟨i,hi⟩:=List.getElem?_of_mem hx
   exact ⟨i,(zeY hi).2,(zeY hi).1⟩
end Go.Ab
namespace Go.Ab
open Go Go.Proofs
set_option maxRecDepth 10000
set_option maxHeartbeats 4000000
variable {T:Nat→Obj→Prop}
theorem zeG (a b:Int):Fn Tryd.prog T zbQ [.d (.int .i64 a),.d (.int .i64 b)] [] (.d (.int .i64 (zbO a b))) []:=by
 have hn : ∀ z:Int,Fn Tryd.prog T zfe [.d (.int .i64 z)] [] (.d (.bool false)) []:=fun z=>by
  refine zb zk zh6 (by show 1≤6;decide) ?_
  (repeat' ((conv=>whnf);first|refine vT ?_|refine vZ ?_));all_goals try conv=>whnf
  simp
 refine zb zk zma (by show 2≤20;decide) ?_
 (repeat' ((conv=>whnf);first|refine vA ?_|refine vH ?_|(refine vF ?_ ?_<;>intro hc<;>try simp only [vL] at hc)|refine vT ?_|refine vX ?_|refine yD (hn _) (by (repeat refine ⟨⟨rfl,rfl⟩,?_⟩);rfl) rfl ?_));all_goals try conv=>whnf
 all_goals (unfold zbO;first|rw [if_pos ‹_›]|(rw [if_neg (by omega)];first|rw [if_pos ‹_›]|rw [if_neg (by omega)])|skip)
theorem zsK {α:Type} {c:α→α→Int} {a b:List α} {k:Nat} (h:k=min a.length b.length):zav c (a.drop k) (b.drop k)=zbO (a.length:Int) (b.length:Int):=by
 rcases Nat.lt_trichotomy a.length b.length with h1|h1|h1
 ·rw [List.drop_eq_nil_of_le (show a.length≤k by omega)]
  obtain ⟨x,hx⟩ : ∃ x,b[k]? = some x:=⟨_,List.getElem?_eq_getElem (by omega)⟩
  rw [zab hx,zav,zbO,if_pos (by omega)]
 ·rw [List.drop_eq_nil_of_le (show a.length≤k by omega),List.drop_eq_nil_of_le (show b.length≤k by omega),zav,zbO,if_neg (by omega),if_neg (by omega)]
 ·rw [List.drop_eq_nil_of_le (show b.length≤k by omega)]
  obtain ⟨x,hx⟩ : ∃ x,a[k]? = some x:=⟨_,List.getElem?_eq_getElem (by omega)⟩
  rw [zab hx,zav,zbO,if_neg (by omega),if_pos (by omega)]
theorem zqB (a b:List Int) (ha:a.length≤1000000):Fn Tryd.prog T zeN [.d (dI a),.d (dI b),.d (.fn zbQ [])] [] (.d (.int .i64 (zav zbO a b))) []:=by
 refine zb zk ziu (by show 3≤36;decide) ?_
 (repeat' ((conv=>whnf);first|refine vA ?_|refine vJ fun hg=>?_|refine vT ?_));all_goals try conv=>whnf
 refine zar (fun (k:Nat)=>[(0,.d (dI a)),(1,.d (dI b)),(2,.d (.fn zbQ [])),(13,.d (.int .i64 ((min ((a.map (D.int .i64)).length:Int) ((b.map (D.int .i64)).length:Int))))),(14,.d (.int .i64 ((k:Int))))]) (fun (k:Nat)=>k≤a.length∧k≤b.length∧zav zbO a b=zav zbO (a.drop k) (b.drop k)) (fun (k:Nat)=>a.length - k) (0) (⟨by simp,by simp,rfl⟩) (by (repeat' first|exact trivial|exact rfl|refine And.intro ?_ ?_)) ?_
 rintro k ⟨hk,hk2,hI⟩
 by_cases hkl:k < a.length∧k < b.length
 ·obtain ⟨x,hx⟩ : ∃ x,a[k]? = some x:=⟨_,List.getElem?_eq_getElem hkl.1⟩
  obtain ⟨y,hy⟩ : ∃ y,b[k]? = some y:=⟨_,List.getElem?_eq_getElem hkl.2⟩
  have hs:zav zbO a b=if zbO x y=0 then zav zbO (a.drop (k+1)) (b.drop (k+1)) else zbO x y:=by rw [hI,zab hx,zab hy,zav]
  (repeat' ((conv=>whnf);first|refine vA ?_|((first|refine vD ?_ ?_|refine vF ?_ ?_)<;>intro hc<;>try simp only [vL] at hc)|refine vJ fun hg=>?_|refine vT ?_|refine vN ‹_› ?_|(refine vO ?_ ?_;·omega)|(refine vU ?_ ?_;·kernel_rfl)|refine vX ?_|refine yD (zeG _ _) ⟨⟨rfl,rfl⟩,⟨rfl,rfl⟩,rfl⟩ rfl ?_));all_goals try conv=>whnf
  ·rw [hs,if_neg hc]
  ·exact ⟨k+1,[],[],⟨by omega,by omega,by rw [hs,if_pos hc]⟩,by (omega),by (refine ⟨rfl,rfl,rfl,?_,?_⟩;repeat' first|exact trivial|exact rfl|refine And.intro ?_ ?_)⟩
  ·omega
 ·(repeat' ((conv=>whnf);first|refine vA ?_|((first|refine vD ?_ ?_|refine vF ?_ ?_)<;>intro hc<;>try simp only [vL] at hc)|refine vJ fun hg=>?_|refine vT ?_|(refine vQ ?_ fun x hx=>?_;·omega)|(refine vO ?_ ?_;·omega)|(refine vU ?_ ?_;·kernel_rfl)|refine vX ?_|refine yD (zeG _ _) ⟨⟨rfl,rfl⟩,⟨rfl,rfl⟩,rfl⟩ rfl ?_));all_goals try conv=>whnf
  iterate 2 (exfalso;omega)
  ·rw [hI,zsK (by omega),List.length_map,List.length_map]
def Sml (t:Tup):Prop:=t.length≤1000 ∧ ∀ r∈t,r.length≤1000
theorem zw3 (x y:List Int) (h:x.length≤1000000):Fn Tryd.prog T zbR [.d (dI x),.d (dI y)] [] (.d (.int .i64 (zav zbO x y))) []:=by
 refine zb zk zmd (by show 2≤8;decide) ?_
 (repeat' ((conv=>whnf);first|refine vT ?_|refine vX ?_|refine yD (zqB x y h) ⟨⟨rfl,rfl⟩,⟨rfl,rfl⟩,⟨rfl,rfl⟩,rfl⟩ rfl ?_));all_goals try conv=>whnf
theorem ztc (a b:Tup) (ha:a.length≤1000000) (hb : ∀ r∈a,r.length≤1000000):Fn Tryd.prog T zeq [.d (dII a),.d (dII b),.d (.fn zbR [])] [] (.d (.int .i64 (zav (zav zbO) a b))) []:=by
 refine zb zk zh7 (by show 3≤36;decide) ?_
 (repeat' ((conv=>whnf);first|refine vA ?_|refine vJ fun hg=>?_|refine vT ?_));all_goals try conv=>whnf
 refine zar (fun (k:Nat)=>[(0,.d (dII a)),(1,.d (dII b)),(2,.d (.fn zbR [])),(13,.d (.int .i64 ((min ((a.map dI).length:Int) ((b.map dI).length:Int))))),(14,.d (.int .i64 ((k:Int))))]) (fun (k:Nat)=>k≤a.length∧k≤b.length∧zav (zav zbO) a b=zav (zav zbO) (a.drop k) (b.drop k)) (fun (k:Nat)=>a.length - k) (0) (⟨by simp,by simp,rfl⟩) (by (repeat' first|exact trivial|exact rfl|refine And.intro ?_ ?_)) ?_
 rintro k ⟨hk,hk2,hI⟩
 by_cases hkl:k < a.length∧k < b.length
 ·obtain ⟨x,hx⟩ : ∃ x,a[k]? = some x:=⟨_,List.getElem?_eq_getElem hkl.1⟩
  obtain ⟨y,hy⟩ : ∃ y,b[k]? = some y:=⟨_,List.getElem?_eq_getElem hkl.2⟩
  have hs:zav (zav zbO) a b=if (zav zbO) x y=0 then zav (zav zbO) (a.drop (k+1)) (b.drop (k+1)) else (zav zbO) x y:=by rw [hI,zab hx,zab hy,zav]
  have cA:=zw3 (T:=T) x y (hb x (List.mem_of_getElem? hx))
  (repeat' ((conv=>whnf);first|refine vA ?_|((first|refine vD ?_ ?_|refine vF ?_ ?_)<;>intro hc<;>try simp only [vL] at hc)|refine vJ fun hg=>?_|refine vT ?_|refine vN ‹_› ?_|(refine vO ?_ ?_;·omega)|(refine vU ?_ ?_;·kernel_rfl)|refine vX ?_|refine yD cA ⟨⟨rfl,rfl⟩,⟨rfl,rfl⟩,rfl⟩ rfl ?_|refine yD (zeG _ _) ⟨⟨rfl,rfl⟩,⟨rfl,rfl⟩,rfl⟩ rfl ?_));all_goals try conv=>whnf
  ·rw [hs,if_neg hc]
  ·exact ⟨k+1,[],[],⟨by omega,by omega,by rw [hs,if_pos hc]⟩,by (omega),by (refine ⟨rfl,rfl,rfl,?_,?_⟩;repeat' first|exact trivial|exact rfl|refine And.intro ?_ ?_)⟩
  ·omega
 ·(repeat' ((conv=>whnf);first|refine vA ?_|(refine vF ?_ ?_<;>intro hc<;>try simp only [vL] at hc)|refine vJ fun hg=>?_|refine vT ?_|(refine vQ ?_ fun x hx=>?_;·omega)|refine vX ?_|refine yD (zeG _ _) ⟨⟨rfl,rfl⟩,⟨rfl,rfl⟩,rfl⟩ rfl ?_));all_goals try conv=>whnf
  ·exfalso;omega
  ·rw [hI,zsK (by omega),List.length_map,List.length_map]
theorem zh5 (x y:Tup) (h:Sml x):Fn Tryd.prog T zU [.d (dII x),.d (dII y)] [] (.d (.int .i64 (zbi x y))) []:=by
 have cB:=ztc (T:=T) x y (by have:=h.1;omega) (fun r hr=>by have:=h.2 r hr;omega)
 refine zb zk zos (by show 2≤8;decide) ?_
 (repeat' ((conv=>whnf);first|refine vT ?_|refine vX ?_|refine yD cB ⟨⟨rfl,rfl⟩,⟨rfl,rfl⟩,⟨rfl,rfl⟩,rfl⟩ rfl ?_));all_goals try conv=>whnf
 rfl
theorem zAK {α:Type} [Inhabited α] {d:Array α} {i j:Nat} (hi:i < d.size) (hj:j < d.size) {x:α} (h:x∈(Sort.swp d i j).toList):x∈d.toList:=by
 have a1:=List.mem_of_getElem? (zcf hi)
 have a2:=List.mem_of_getElem? (zcf hj)
 unfold Sort.swp at h
 simp only [Array.set!_eq_setIfInBounds,Array.toList_setIfInBounds] at h
 rcases List.mem_or_eq_of_mem_set h with h|rfl
 ·rcases List.mem_or_eq_of_mem_set h with h|rfl
  ·exact h
  ·exact a2
 ·exact a1
abbrev zgr (d:Array Tup):Ob := .row 1 (d.toList.map dII)
theorem zAc (d:Array Tup) (b:Nat) (hd : ∀ x∈d.toList,Sml x) (hb:b≤d.size) (hs:d.size≤1000) :
  Fn Tryd.prog T za0 [.own 0,.d (.int .i64 0),.d (.int .i64 (b:Int)),.d (.fn zU [])] [zgr d] (.tup []) [some (zgr (Sort.insertionSort ltT d 0 b))]:=by
 refine zB zk zcW (by show 4≤53;decide) _ (fun e env mem n h=>h) ?_
 (repeat' ((conv=>whnf);first|refine vT ?_|(refine vO ?_ ?_;·omega)|fail));all_goals try conv=>whnf
 refine zy (fun ((ii,xs):Int×List D)=>[(0,.own 0),(1,.d (.int .i64 (0))),(2,.d (.int .i64 ((b:Int)))),(3,.d (.fn zU [])),(8,.d (.int .i64 (ii))),(zc,.own 0)]) (fun ((ii,xs):Int×List D)=>[(0,some (.row 1 xs))]) 1 (fun ((ii,xs):Int×List D) => ∃ (i:Nat) (e:Array Tup),ii=i∧xs=e.toList.map dII∧0 < i∧i≤b+1∧e.size=d.size∧(∀ x∈e.toList,Sml x)∧Sort.insOuter ltT 0 b i e=Sort.insertionSort ltT d 0 b) (fun ((ii,xs):Int×List D)=>(b - ii).toNat) (((0:Int)+1,d.toList.map dII)) [(0,0)] [] (⟨1,d,by omega,rfl,by omega,by omega,rfl,hd,rfl⟩) (by (refine ⟨rfl,rfl,rfl,?_,?_⟩;repeat' first|exact trivial|exact rfl|refine And.intro ?_ ?_|refine ⟨_,rfl,?_⟩|decide)) ?_
 rintro ⟨_,_⟩ ⟨i,e,rfl,rfl,hi,hi2,he,hsm,hI⟩
 (repeat' ((conv=>whnf);first|refine vA ?_|(refine vF ?_ ?_<;>intro hc<;>try simp only [vL] at hc)|refine vT ?_));all_goals try conv=>whnf
 ·refine zy (fun ((jj,xs):Int×List D)=>[(0,.own 0),(1,.d (.int .i64 (0))),(2,.d (.int .i64 ((b:Int)))),(3,.d (.fn zU [])),(8,.d (.int .i64 ((i:Int)))),(9,.d (.int .i64 (jj))),(zc,.own 0)]) (fun ((jj,xs):Int×List D)=>[(0,some (.row 1 xs))]) 1 (fun ((jj,xs):Int×List D) => ∃ (j:Nat) (g:Array Tup),jj=j∧xs=g.toList.map dII∧j≤i∧g.size=d.size∧(∀ x∈g.toList,Sml x)∧Sort.insInner ltT 0 j g=Sort.insInner ltT 0 i e) (fun ((jj,xs):Int×List D)=>jj.toNat) (((i:Int),e.toList.map dII)) [(0,0)] [] (⟨i,e,rfl,rfl,by omega,he,hsm,rfl⟩) (by (refine ⟨rfl,rfl,rfl,?_,?_⟩;repeat' first|exact trivial|exact rfl|refine And.intro ?_ ?_|refine ⟨_,rfl,?_⟩|decide)) ?_
  rintro ⟨_,_⟩ ⟨j,g,rfl,rfl,hj,hg,hgm,hJ⟩
  have hgl:g.toList.length=d.size:=by rw [Array.length_toList];exact hg
  have stop : ¬(0 < j∧ltT g[j]! g[j - 1]! = true)→Sort.insOuter ltT 0 b (i+1) g=Sort.insertionSort ltT d 0 b:=fun h=>by
   rw [← hI,Sort.insOuter.eq_def ltT 0 b i,if_pos (by omega),← hJ,zld h]
  by_cases hj0:0 < j
  ·have hx1:g.toList[j]? = some g[j]! := zcf (by omega)
   have hx2:g.toList[((j:Int) - 1).toNat]? = some g[j - 1]! := by rw [show ((j:Int) - 1).toNat=j - 1 by omega];exact zcf (by omega)
   have co:=zh5 (T:=T) g[j]! g[j - 1]! (hgm _ (List.mem_of_getElem? hx1))
   (repeat' ((conv=>whnf);first|refine vA ?_|(refine vF ?_ ?_<;>intro hc<;>try simp only [vL] at hc)|refine vT ?_|refine vN ‹_› ?_|((first|refine vO ?_ ?_|refine vP ?_ ?_);·first|omega|(simp only [vM] at *;omega))|(refine vU ?_ ?_;·kernel_rfl)|refine yD co ⟨⟨rfl,rfl⟩,⟨rfl,rfl⟩,rfl⟩ rfl ?_));all_goals try conv=>whnf
   ·refine ⟨(_,_),[(0,0)],[],?_,?_,by (refine ⟨rfl,rfl,rfl,?_,?_⟩;repeat' first|exact trivial|exact rfl|refine And.intro ?_ ?_|refine ⟨_,rfl,?_⟩|decide)⟩
    ·refine ⟨j - 1,Sort.swp g j (j - 1),by omega,?_,by omega,by rw [zt2,hg],fun x hx=>hgm x (zAK (by omega) (by omega) hx),?_⟩
     ·rw [show ((j:Int) - 1).toNat=j - 1 by omega] at hx2 ⊢
      exact zvn hx1 hx2
     ·exact (zlc (d:=g) (j:=j) (by omega) (zhA.2 ‹_›)).symm.trans hJ
    ·((simp only [vM] at *;omega))
   ·refine ⟨(_,_),[(0,0)],[],?_,?_,by (refine ⟨rfl,rfl,rfl,?_,?_⟩;repeat' first|exact trivial|exact rfl|refine And.intro ?_ ?_|refine ⟨_,rfl,?_⟩|decide)⟩
    ·exact ⟨i+1,g,by omega,rfl,by omega,by omega,hg,hgm,stop fun h=>by
      have:=zhA.1 h.2;omega⟩
    ·((simp only [vM] at *;omega))
   ·exfalso;omega
  ·(repeat' ((conv=>whnf);first|refine vA ?_|(refine vF ?_ ?_<;>intro hc<;>try simp only [vL] at hc)|refine vT ?_|(refine vQ ?_ fun x hx=>?_;·omega)|((first|refine vO ?_ ?_|refine vP ?_ ?_);·omega)|(refine vU ?_ ?_;·kernel_rfl)|fail));all_goals try conv=>whnf
   ·exfalso;omega
   ·refine ⟨(_,_),[(0,0)],[],?_,?_,by (refine ⟨rfl,rfl,rfl,?_,?_⟩;repeat' first|exact trivial|exact rfl|refine And.intro ?_ ?_|refine ⟨_,rfl,?_⟩|decide)⟩
    ·exact ⟨i+1,g,by omega,rfl,by omega,by omega,hg,hgm,stop fun h=>by omega⟩
    ·((simp only [vM] at *;omega))
 ·have e0:Sort.insertionSort ltT d 0 b=e:=by
   rw [← hI,Sort.insOuter,if_neg (by omega)]
  rw [e0]
  refine ⟨trivial,_,[(0,0)],[],rfl,.inl (by (repeat' first|exact rfl|refine ⟨_,rfl,?_⟩)),⟨by rfl,by rfl,by rfl,trivial,by (repeat' first|exact trivial|exact rfl|refine And.intro ?_ ?_|refine ⟨_,rfl,?_⟩|exact of_decide_eq_true rfl)⟩,by (repeat' first|exact trivial|exact rfl|refine And.intro ?_ ?_)⟩
theorem zAe (d:Array Tup) (hd : ∀ x∈d.toList,Sml x) (h12:d.size≤12) (l:Nat) :
  Fn Tryd.prog T zbx [.own 0,.d (.int .i64 0),.d (.int .i64 (d.size:Int)),.d (.int .i64 (l:Int)),.d (.fn zU [])] [zgr d] (.tup []) [some (zgr (Sort.pdq ltT d 0 d.size l true true))]:=by
 have hR:Sort.pdq ltT d 0 d.size l true true=Sort.insertionSort ltT d 0 d.size:=by rw [Sort.pdq,if_pos (by omega)]
 rw [hR]
 refine zB zk zdX (by show 5≤148;decide) _ (fun e env mem n h=>h) ?_
 (repeat' ((conv=>whnf);refine vT ?_));all_goals try conv=>whnf
 refine zy (fun (u:Unit)=>[(0,.own 0),(1,.d (.int .i64 (0))),(2,.d (.int .i64 ((d.size:Int)))),(3,.d (.int .i64 ((l:Int)))),(4,.d (.fn zU [])),(10,.d (.bool (true))),(11,.d (.bool (true))),(zc,.own 0)]) (fun (u:Unit)=>[(0,some (zgr d))]) 1 (fun (u:Unit)=>True) (fun (u:Unit)=>0) (()) [(0,0)] [] (trivial) (by (refine ⟨rfl,rfl,rfl,?_,?_⟩;repeat' first|exact trivial|exact rfl|exact .inr (.inl ⟨rfl,rfl⟩)|refine And.intro ?_ ?_|refine ⟨_,rfl,?_⟩|decide)) ?_
 rintro u -
 (repeat' ((conv=>whnf);first|refine zhO.but 39 rfl ?_|(refine vF ?_ ?_<;>intro hc<;>try simp only [vL] at hc)|refine vT ?_|(refine vO ?_ ?_;·omega)|fail));all_goals try conv=>whnf
 ·refine zo.objs [0] (zAc d d.size hd (Nat.le_refl _) (by omega)) (by (repeat' first|exact rfl|refine And.intro ?_ ?_|refine ⟨_,rfl,?_⟩)) (by (repeat' first|exact rfl|refine And.intro ?_ ?_)) (by rfl) (by rfl) (by simp) ?_
  (repeat' ((conv=>whnf);refine vT ?_));all_goals try conv=>whnf
  refine ⟨trivial,_,[(0,0)],[],rfl,.inl (by (repeat' first|exact rfl|refine ⟨_,rfl,?_⟩)),⟨by rfl,by rfl,by rfl,trivial,by (repeat' first|exact trivial|exact rfl|refine And.intro ?_ ?_|refine ⟨_,rfl,?_⟩|exact of_decide_eq_true rfl)⟩,by (repeat' first|exact trivial|exact rfl|refine And.intro ?_ ?_)⟩
 all_goals (exfalso;omega)
theorem zta (d:Array Tup) (hd : ∀ x∈d.toList,Sml x) (h12:d.size≤12):Fn Tryd.prog T zaM [.own 0,.d (.fn zU [])] [zgr d] (.tup []) [some (zgr (Sort.sort ltT d))]:=by
 have hn:((BitVec.ofInt 64 (d.size:Int)).toNat)=d.size:=by simp;omega
 have hl:(d.toList.map dII).length=d.size:=by simp
 have hp:=zAe (T:=T) d hd h12 (Sort.bitsLen d.size)
 refine zB zk zcj (by show 2≤14;decide) _ (fun e env mem n h=>h) ?_
 (repeat' ((conv=>whnf);first|refine vJ fun hg=>?_|refine vT ?_|refine yD (zs9 _) ⟨⟨rfl,rfl⟩,rfl⟩ rfl ?_));all_goals try conv=>whnf
 have e1:((d.toList.map dII).length:Int)=(d.size:Int):=by rw [hl]
 have e2:(Sort.bitsLen (BitVec.ofInt 64 ((d.toList.map dII).length:Int)).toNat:Int)=(Sort.bitsLen d.size:Int):=by rw [hl,hn]
 rw [← e1,← e2] at hp
 refine zo.objs [0] (hp) (by (repeat' first|exact rfl|refine And.intro ?_ ?_|refine ⟨_,rfl,?_⟩)) (by (repeat' first|exact rfl|refine And.intro ?_ ?_)) (by rfl) (by rfl) (by simp) ?_
 (repeat' ((conv=>whnf);refine vT ?_));all_goals try conv=>whnf
 refine ⟨trivial,_,[(0,0)],[],rfl,.inl (by (repeat' first|exact rfl|refine ⟨_,rfl,?_⟩)),⟨by rfl,by rfl,by rfl,trivial,by (repeat' first|exact trivial|exact rfl|refine And.intro ?_ ?_|refine ⟨_,rfl,?_⟩|exact of_decide_eq_true rfl)⟩,by (repeat' first|exact trivial|exact rfl|refine And.intro ?_ ?_)⟩
end Go.Ab
namespace Go.Ab
open Go Go.Proofs
set_option maxRecDepth 10000
set_option maxHeartbeats 4000000
variable {T:Nat→Obj→Prop}
theorem zte (x y:Tup) (h:Sml x):Fn Tryd.prog T zcQ [.d (dII x),.d (dII y)] [] (.d (.bool (decide (x=y)))) []:=by
 have cA:=zh5 (T:=T) x y h
 refine zb zk zme (by show 2≤9;decide) ?_
 (repeat' ((conv=>whnf);first|refine vT ?_|refine vZ ?_|refine yD cA ⟨⟨rfl,rfl⟩,⟨rfl,rfl⟩,rfl⟩ rfl ?_));all_goals try conv=>whnf
 rw [Bool.eq_iff_iff,decide_eq_true_eq,decide_eq_true_eq];exact zaU.zero
abbrev fEq:D := .fn zcQ []
theorem zul (d:Array Tup) (hm : ∀ x∈d.toList,Sml x) (hs:d.size≤1000) (hd:Steps d):Fn Tryd.prog T zD [.own 0,.d fEq] [zgr d] (.own 1) [none,some (zgr d)]:=by
 have hln:d.toList.length=d.size:=Array.length_toList
 refine zB zk zaC (by show 2≤66;decide) _ (fun e env mem n h=>h) ?_
 (repeat' ((conv=>whnf);first|refine vA ?_|(refine vF ?_ ?_<;>intro hc<;>try simp only [vL] at hc)|refine vJ fun hg=>?_|refine vT ?_));all_goals try conv=>whnf
 ·refine ⟨trivial,_,[(1,0)],[],rfl,.inl (by (repeat' exact rfl)),⟨by rfl,by rfl,by rfl,trivial,by (repeat' first|exact trivial|exact rfl|refine And.intro ?_ ?_|refine ⟨_,rfl,?_⟩|exact of_decide_eq_true rfl)⟩,by (repeat' first|exact trivial|refine And.intro ?_ ?_)⟩
 refine zy (fun (i:Int)=>[(0,.own 0),(1,.d fEq),(5,.d (.int .i64 (i))),(zc,.own 0)]) (fun (i:Int)=>[(0,some (zgr d))]) 1 (fun (i:Int) => ∃ k:Nat,i=k∧0 < k∧k≤d.size) (fun (i:Int)=>(d.size - i).toNat) (1) [(0,0)] [] (⟨1,rfl,by omega,by omega⟩) (by (refine ⟨rfl,rfl,rfl,?_,?_⟩;repeat' first|exact trivial|exact rfl|refine And.intro ?_ ?_|refine ⟨_,rfl,?_⟩|decide)) ?_
 rintro _ ⟨k,rfl,hk0,hk1⟩
 by_cases hkl:k < d.size
 ·have hx1:d.toList[k]? = some d[k]! := zcf hkl
  have hx2:d.toList[((k:Int) - 1).toNat]? = some d[k - 1]! := by rw [show ((k:Int) - 1).toNat=k - 1 by omega];exact zcf (by omega)
  have cA:=zte (T:=T) d[k]! d[k - 1]! (hm _ (List.mem_of_getElem? hx1))
  (repeat' ((conv=>whnf);first|refine vA ?_|(refine vF ?_ ?_<;>intro hc<;>try simp only [vL] at hc)|refine vJ fun hg=>?_|refine vT ?_|refine vN ‹_› ?_|((first|refine vO ?_ ?_|refine vP ?_ ?_);·first|omega|(simp only [vM] at *;omega))|(refine vU ?_ ?_;·kernel_rfl)|refine yD cA ⟨⟨rfl,rfl⟩,⟨rfl,rfl⟩,rfl⟩ rfl ?_));all_goals try conv=>whnf
  ·exact absurd ‹d[k]! = d[k - 1]!› (hd k hk0 hkl)
  ·refine ⟨_,[(0,0)],[],?_,?_,by (refine ⟨rfl,rfl,rfl,?_,?_⟩;repeat' first|exact trivial|exact rfl|refine And.intro ?_ ?_|refine ⟨_,rfl,?_⟩|decide)⟩
   ·exact ⟨k+1,by omega,by omega,by omega⟩
   ·(omega)
  ·exfalso;omega
 ·(repeat' ((conv=>whnf);first|refine vA ?_|(refine vF ?_ ?_<;>intro hc<;>try simp only [vL] at hc)|refine vJ fun hg=>?_|refine vT ?_|(refine vQ ?_ fun x hx=>?_;·omega)|((first|refine vO ?_ ?_|refine vP ?_ ?_);·omega)|fail));all_goals try conv=>whnf
  ·exfalso;omega
  ·refine ⟨trivial,_,[(1,0)],[],rfl,.inl (by (repeat' exact rfl)),⟨by rfl,by rfl,by rfl,trivial,by (repeat' first|exact trivial|exact rfl|refine And.intro ?_ ?_|refine ⟨_,rfl,?_⟩|exact of_decide_eq_true rfl)⟩,by (repeat' first|exact trivial|refine And.intro ?_ ?_)⟩
theorem zs6 (d:Array Tup) (hm : ∀ x∈d.toList,Sml x) (hs:d.size≤1000) (hd : ¬Steps d):Fn Tryd.prog T zD [.own 0,.d fEq] [zgr d] (.own 1) [none,some (.row 1 ((ddA d d.size).map dII))]:=by
 generalize hR:(ddA d d.size).map dII=R
 have hln:d.toList.length=d.size:=Array.length_toList
 refine zB zk zaC (by show 2≤66;decide) _ (fun e env mem n h=>h) ?_
 (repeat' ((conv=>whnf);first|refine vA ?_|(refine vF ?_ ?_<;>intro hc<;>try simp only [vL] at hc)|refine vJ fun hg=>?_|refine vT ?_));all_goals try conv=>whnf
 ·exact absurd (fun j hj0 hj1=>by omega) hd
 refine zy (fun (i:Int)=>[(0,.own 0),(1,.d fEq),(5,.d (.int .i64 (i))),(zc,.own 0)]) (fun (i:Int)=>[(0,some (zgr d))]) 1 (fun (i:Int) => ∃ k:Nat,i=k∧0 < k∧k≤d.size ∧ ∀ j,0 < j→j < k→d[j]! ≠ d[j - 1]!) (fun (i:Int)=>(d.size - i).toNat) (1) [(0,0)] [] (⟨1,rfl,by omega,by omega,fun j _ _=>by omega⟩) (by (refine ⟨rfl,rfl,rfl,?_,?_⟩;repeat' first|exact trivial|exact rfl|refine And.intro ?_ ?_|refine ⟨_,rfl,?_⟩|decide)) ?_
 rintro _ ⟨k,rfl,hk0,hk1,hk⟩
 by_cases hkl:k < d.size
 ·have hx1:d.toList[k]? = some d[k]! := zcf hkl
  have hx2:d.toList[((k:Int) - 1).toNat]? = some d[k - 1]! := by rw [show ((k:Int) - 1).toNat=k - 1 by omega];exact zcf (by omega)
  have cA:=zte (T:=T) d[k]! d[k - 1]! (hm _ (List.mem_of_getElem? hx1))
  (repeat' ((conv=>whnf);first|refine vA ?_|(refine vF ?_ ?_<;>intro hc<;>try simp only [vL] at hc)|refine vJ fun hg=>?_|refine vT ?_|refine vN ‹_› ?_|((first|refine vO ?_ ?_|refine vP ?_ ?_);·first|omega|(simp only [vM] at *;omega))|(refine vU ?_ ?_;·kernel_rfl)|refine yD cA ⟨⟨rfl,rfl⟩,⟨rfl,rfl⟩,rfl⟩ rfl ?_));all_goals try conv=>whnf
  ·have hkk:d[k]! = d[k - 1]! := ‹_›
   refine zy (fun ((w,q,xs):Int×Int×List D)=>[(0,.own 0),(1,.d fEq),(5,.d (.int .i64 (w))),(6,.view 0 k ((d.toList.map dII).length - k)),(7,.d (.int .i64 (q))),(zc,.own 0)]) (fun ((w,q,xs):Int×Int×List D)=>[(0,some (.row 1 xs))]) 1 (fun ((w,q,xs):Int×Int×List D) => ∃ (a b:Nat) (e:Array Tup),w=a∧q=b∧xs=e.toList.map dII∧0 < b∧k+b≤d.size∧a < k+b∧e.size=d.size∧e.toList.take a=ddA d (k+b) ∧ ∀ j,k+b - 1≤j→j < d.size→e[j]! = d[j]!) (fun ((w,q,xs):Int×Int×List D)=>(d.size - k - q).toNat) (((k:Int),(1:Int),d.toList.map dII)) [(0,0)] [] (⟨k,1,d,rfl,rfl,rfl,by omega,by omega,by omega,rfl,zyv hk0 hkl hk hkk,fun _ _ _=>rfl⟩) (by (refine ⟨rfl,rfl,rfl,?_,?_⟩;repeat' first|exact trivial|exact rfl|refine And.intro ?_ ?_|refine ⟨_,rfl,?_⟩|decide)) ?_
   rintro ⟨_,_,_⟩ ⟨a,b,e,rfl,rfl,rfl,hb0,hb1,hab,he,ha,hj⟩
   have hle:e.toList.length=e.size:=Array.length_toList
   by_cases hbl:k+b < d.size
   ·have hy1:e.toList[k+((b:Nat):Int).toNat]? = some e[k+b]! := by rw [Int.toNat_natCast];exact zcf (by omega)
    have hy2:e.toList[k+(((b:Nat):Int) - 1).toNat]? = some e[k+b - 1]! := by rw [show k+(((b:Nat):Int) - 1).toNat=k+b - 1 by omega];exact zcf (by omega)
    have e1:=hj (k+b) (by omega) (by omega)
    have e2:=hj (k+b - 1) (by omega) (by omega)
    have cC:=zte (T:=T) e[k+b]! e[k+b - 1]! (by rw [e1];exact hm _ (List.mem_of_getElem? (zcf hbl)))
    (repeat' ((conv=>whnf);first|refine vA ?_|refine vE ?_|(refine vF ?_ ?_<;>intro hc<;>try simp only [vL] at hc)|refine vT ?_|refine vN ‹_› ?_|((first|refine vO ?_ ?_|refine vP ?_ ?_);·first|omega|(simp only [vM] at *;omega))|(refine vU ?_ ?_;·kernel_rfl)|refine yD cC ⟨⟨rfl,rfl⟩,⟨rfl,rfl⟩,rfl⟩ rfl ?_));all_goals try conv=>whnf
    ·refine ⟨(_,_,_),[(0,0)],[],?_,?_,by (refine ⟨rfl,rfl,rfl,?_,?_⟩;repeat' first|exact trivial|exact rfl|refine And.intro ?_ ?_|refine ⟨_,rfl,?_⟩|decide)⟩
     ·exact ⟨a,b+1,e,rfl,by omega,rfl,by omega,by omega,by omega,he,
       by rw [ha,← Nat.add_assoc,zz4 (by omega) (by rw [← e1,← e2];assumption)],
       fun j h0 h1=>hj j (by omega) h1⟩
     ·((simp only [vM] at *;omega))
    ·refine ⟨(_,_,_),[(0,0)],[],?_,?_,by (refine ⟨rfl,rfl,rfl,?_,?_⟩;repeat' first|exact trivial|exact rfl|refine And.intro ?_ ?_|refine ⟨_,rfl,?_⟩|decide)⟩
     ·exact ⟨a+1,b+1,e.setIfInBounds a e[k+b]!,by omega,by omega,by simp [List.map_set],by omega,by omega,by omega,by simp [he],
       by rw [zzn (by omega),ha,← Nat.add_assoc,zA7 (by rw [← e1,← e2];assumption),e1],
       fun j h0 h1=>by rw [zAy (by omega)];exact hj j (by omega) h1⟩
     ·((simp only [vM] at *;omega))
    ·exfalso;omega
   ·(repeat' ((conv=>whnf);first|refine vA ?_|(refine vF ?_ ?_<;>intro hc<;>try simp only [vL] at hc)|refine vT ?_|(refine vQ ?_ fun x hx=>?_;·omega)|((first|refine vO ?_ ?_|refine vP ?_ ?_);·first|omega|(simp only [vM] at *;omega))|fail));all_goals try conv=>whnf
    ·exfalso;omega
    ·have hE:=zz3 (enc:=dII) (e:=e) (z:=D.arr 1 []) (a:=a) (n:=(e.toList.map dII).length - a) (by omega)
     rw [ha,show k+b=d.size by omega,hR] at hE
     subst hE
     refine zsb.mk (by simp only [List.length_append,List.length_take,List.length_replicate,List.length_drop,List.length_map,hle];omega) ?_
     (repeat' ((conv=>whnf);refine vT ?_));all_goals try conv=>whnf
     refine ⟨trivial,_,[(1,1)],[],rfl,.inl (by (repeat' exact rfl)),⟨by rfl,by rfl,by rfl,trivial,by (repeat' first|exact trivial|exact rfl|refine And.intro ?_ ?_|refine ⟨_,rfl,?_⟩|exact of_decide_eq_true rfl)⟩,by (repeat' first|exact trivial|refine And.intro ?_ ?_)⟩
  ·refine ⟨_,[(0,0)],[],?_,?_,by (refine ⟨rfl,rfl,rfl,?_,?_⟩;repeat' first|exact trivial|exact rfl|refine And.intro ?_ ?_|refine ⟨_,rfl,?_⟩|decide)⟩
   ·exact ⟨k+1,by omega,by omega,by omega,fun j h0 h1=>by
     by_cases hjk:j=k
     ·subst hjk;assumption
     ·exact hk j h0 (by omega)⟩
   ·(omega)
  ·exfalso;omega
 ·(repeat' ((conv=>whnf);first|refine vA ?_|(refine vF ?_ ?_<;>intro hc<;>try simp only [vL] at hc)|refine vJ fun hg=>?_|refine vT ?_|(refine vQ ?_ fun x hx=>?_;·omega)|((first|refine vO ?_ ?_|refine vP ?_ ?_);·omega)|fail));all_goals try conv=>whnf
  ·exfalso;omega
  ·exact absurd (fun j h0 h1=>hk j h0 (by omega)) hd
theorem zyA (d:Array Tup) (hm : ∀ x∈d.toList,Sml x) (hs:d.size≤1000):Fn Tryd.prog T zD [.own 0,.d fEq] [zgr d] (.own 1) [none,some (.row 1 ((ddA d d.size).map dII))]:=by
 by_cases hd:Steps d
 ·have:=zul (T:=T) d hm hs hd
  rw [zqs (Nat.le_refl _) hd,List.take_of_length_le (by rw [Array.length_toList];exact Nat.le_refl _)]
  exact this
 ·exact zs6 d hm hs hd
theorem zwT (ts:List Tup) (h:ts≠[]) (hl:ts.length≤1000):Fn Tryd.prog T zap [.d (.arr 1 (ts.map dII))] [] (.own 0) [some (.row 1 (ts.map dII))]:=by
 refine zB zk zcE (by show 1≤8;decide) _ (fun e env mem n h=>h) ?_
 (repeat' ((conv=>whnf);first|refine vA ?_|refine vB fun b hb=>?_|refine vE ?_|(refine vF ?_ ?_<;>intro hc)|refine vT ?_|(refine vP ?_ ?_;·(simp only [vM] at *;omega))|fail));all_goals try conv=>whnf
 ·refine ⟨trivial,_,[(0,1)],[],rfl,.inl (by (repeat' exact rfl)),⟨by rfl,by rfl,by rfl,trivial,by (repeat' first|exact trivial|exact rfl|refine And.intro ?_ ?_|refine ⟨_,rfl,?_⟩|exact of_decide_eq_true rfl)⟩,by (repeat' exact trivial)⟩
 ·exact absurd (List.map_eq_nil_iff.1 (hb (by simpa using hc))) h
theorem zBl (S:List Tup) (ts:List Tup) (hS:zcG ts S) (hl:S.length≤1000) (hm : ∀ x∈S,Sml x) (t:Tup) :
  ∃ b:Bool,Fn Tryd.prog T z6 [.d (.arr 1 (S.map dII)),.d (dII t),.d (.fn zU [])] [] (.d (.tup [.int .i64 (rkN ts t:Int),.bool b])) []:=by
 have key : ∀ i:Nat,i≤S.length→(∀ (k:Nat) x,k < i→S[k]? = some x→zbi x t < 0)→(∀ (k:Nat) x,i≤k→S[k]? = some x → ¬zbi x t < 0)→i=rkN ts t:=fun i h1 h2 h3=>hS.rk h1 h2 h3
 refine ⟨decide (rkN ts t < S.length∧zbi (S.getD (rkN ts t) []) t=0),?_⟩
 refine zb zk zaS (by show 3≤49;decide) ?_
 (repeat' ((conv=>whnf);first|refine vA ?_|refine vJ fun hg=>?_|refine vT ?_));all_goals try conv=>whnf
 refine zar (fun ((i,j):Nat×Nat)=>[(0,.d (.arr 1 (S.map dII))),(1,.d (dII t)),(2,.d (.fn zU [])),(8,.d (.int .i64 ((S.map dII).length:Int))),(9,.d (.int .i64 ((i:Int)))),(10,.d (.int .i64 ((j:Int))))]) (fun ((i,j):Nat×Nat)=>i≤j∧j≤S.length∧(∀ (k:Nat) x,k < i→S[k]? = some x→zbi x t < 0)∧(∀ (k:Nat) x,j≤k→S[k]? = some x → ¬zbi x t < 0)) (fun ((i,j):Nat×Nat)=>j - i) ((0,(S.map dII).length)) (⟨by omega,by simp,fun k x hk=>by omega,fun k x hk hx=>by have:=(List.getElem?_eq_some_iff.1 hx).1;simp at hk;omega⟩) (by (repeat' first|exact trivial|exact rfl|refine And.intro ?_ ?_)) ?_
 rintro ⟨i,j⟩ ⟨hij,hj,h1,h2⟩
 by_cases hlt:i < j
 ·have hh:(i+j) / 2 < S.length:=by omega
  have e2:(BitVec.ofInt 64 ((i:Int)+(j:Int)) >>> BitVec.toNat (1:BitVec 64)).toNat=(i+j) / 2:=by
   rw [BitVec.toNat_ushiftRight,show BitVec.toNat (1:BitVec 64)=1 from rfl,show ((i:Int)+(j:Int))=((i+j:Nat):Int) by omega,zxq (by omega),Nat.shiftRight_eq_div_pow,Nat.pow_one]
  have hx:S[(BitVec.ofInt 64 ((i:Int)+(j:Int)) >>> BitVec.toNat (1:BitVec 64)).toNat]? = some (S.getD ((i+j) / 2) []):=by rw [e2];exact zbF hh
  have hx':=zbF (d:=[]) hh
  have cA:=zh5 (T:=T) (S.getD ((i+j) / 2) []) t (hm _ (List.mem_of_getElem? hx))
  (repeat' ((conv=>whnf);first|refine vA ?_|(refine vF ?_ ?_<;>intro hc<;>try simp only [vL] at hc)|refine vT ?_|refine vN ‹_› ?_|(refine vQ ?_ fun x hx=>?_;·omega)|(refine vO ?_ ?_;·omega)|refine yD cA ⟨⟨rfl,rfl⟩,⟨rfl,rfl⟩,rfl⟩ rfl ?_));all_goals try conv=>whnf
  ·refine ⟨((BitVec.ofInt 64 ((i:Int)+(j:Int)) >>> BitVec.toNat (1:BitVec 64)).toNat+1,j),[],[],?_,?_,by (refine ⟨rfl,rfl,rfl,?_,?_⟩;repeat' first|exact trivial|exact rfl|refine And.intro ?_ ?_)⟩
   ·rw [e2]
    refine ⟨by omega,hj,fun k x hk hxk=>?_,h2⟩
    by_cases e:k=(i+j) / 2
    ·subst e;rw [hx'] at hxk;cases hxk;assumption
    ·by_cases e':k < (i+j) / 2
     ·exact hS.lt_of hx' hxk (by omega) ‹_›
     ·exfalso;omega
   ·((simp only [vM] at *;omega))
  ·refine ⟨(i,(BitVec.ofInt 64 ((i:Int)+(j:Int)) >>> BitVec.toNat (1:BitVec 64)).toNat),[],[],?_,?_,by (refine ⟨rfl,rfl,rfl,?_,?_⟩;repeat' first|exact trivial|exact rfl|refine And.intro ?_ ?_)⟩
   ·rw [e2]
    refine ⟨by omega,by omega,h1,fun k x hk hxk hlk=>?_⟩
    have:=hS.lt_of hxk hx' hk hlk
    omega
   ·((simp only [vM] at *;omega))
  iterate 2 (exfalso;omega)
 ·have e0:j=i:=by omega
  subst e0
  have ek:=key j hj h1 h2
  by_cases hjl:j < S.length
  ·have hx:=zbF (d:=[]) hjl
   have cA:=zh5 (T:=T) (S.getD j []) t (hm _ (List.mem_of_getElem? hx))
   (repeat' ((conv=>whnf);first|refine vA ?_|(refine vF ?_ ?_<;>intro hc<;>try simp only [vL] at hc)|refine vT ?_|refine vN ‹_› ?_|(refine vQ ?_ fun x hx=>?_;·omega)|(refine vO ?_ ?_;·omega)|refine yD cA ⟨⟨rfl,rfl⟩,⟨rfl,rfl⟩,rfl⟩ rfl ?_));all_goals try conv=>whnf
   ·exfalso;omega
   ·show some (D.tup [.int .i64 (j:Int),.bool (decide (zbi (S.getD j []) t=0))])=_
    rw [← ek];simp [hjl]
   ·exfalso;omega
  ·(repeat' ((conv=>whnf);first|refine vA ?_|(refine vF ?_ ?_<;>intro hc<;>try simp only [vL] at hc)|refine vT ?_|(refine vQ ?_ fun x hx=>?_;·omega)|(refine vO ?_ ?_;·omega)|fail));all_goals try conv=>whnf
   iterate 2 (exfalso;omega)
   show some (D.tup [.int .i64 (j:Int),.bool false])=_
   rw [← ek];simp [hjl]
theorem zw4 (ts:List Tup) (h0:ts≠[]) (h12:ts.length≤12) (hm : ∀ x∈ts,Sml x):Fn Tryd.prog T zfg [.d (.arr 1 (ts.map dII))] [] (.d (.tup [dN (ts.map (rkN ts)),.int .i64 (cnN ts:Int)])) []:=by
 have c1:=zwT (T:=T) ts h0 (by omega)
 have c2:=zta (T:=T) ts.toArray hm (by simpa using h12)
 have hS:=zwn (ts:=ts) rfl
 have hp:=zrO ts.toArray
 have hms : ∀ x∈(Sort.sort ltT ts.toArray).toList,Sml x:=fun x hx=>hm x (hp.mem_iff.1 hx)
 have hsz:(Sort.sort ltT ts.toArray).size=ts.length:=by have:=hp.length_eq;simpa using this
 generalize Sort.sort ltT ts.toArray=A at c2 hS hp hms hsz
 have hmd : ∀ x∈ddA A A.size,Sml x:=fun x hx=>hm x ((hS.mem x).1 hx)
 have hcn:=hS.cnt
 have hle:=hS.le
 have cb:=fun t=>zBl (T:=T) (ddA A A.size) ts hS (by omega) hmd t
 have c3:=zyA (T:=T) A hms (by omega)
 generalize ddA A A.size=S at hS hmd hcn hle cb c3
 refine zb zk zot (by show 1≤37;decide) ?_
 (repeat' ((conv=>whnf);refine vT ?_));all_goals try conv=>whnf
 refine zo.res (c1) (by (repeat refine ⟨⟨rfl,rfl⟩,?_⟩);rfl) ?_
 (repeat' ((conv=>whnf);refine vT ?_));all_goals try conv=>whnf
 refine zo.objs [0] (c2) (by (repeat' first|exact rfl|refine And.intro ?_ ?_|refine ⟨_,rfl,?_⟩)) (by (repeat' first|exact rfl|refine And.intro ?_ ?_)) (by rfl) (by rfl) (by simp) ?_
 (repeat' ((conv=>whnf);refine vT ?_));all_goals try conv=>whnf
 refine zo.objs [0] (c3) (by (repeat' first|exact rfl|refine And.intro ?_ ?_|refine ⟨_,rfl,?_⟩)) (by (repeat' first|exact rfl|refine And.intro ?_ ?_)) (by rfl) (by rfl) (by simp) ?_
 (repeat' ((conv=>whnf);first|refine vA ?_|refine vJ fun hg=>?_|refine vT ?_|(refine vP ?_ ?_;·(simp only [vM] at *;omega))|fail));all_goals try conv=>whnf
 refine zy (fun ((k,zs):Nat×List D)=>[(4,.own 0),(5,.own 1),(17,.d (.arr 1 (ts.map dII))),(18,.d (.int .i64 ((ts.map dII).length:Int))),(19,.d (.int .i64 ((k:Int))))]) (fun ((k,zs):Nat×List D)=>[(0,some (.row 1 (S.map dII))),(1,some (.row 1 zs))]) 2 (fun ((k,zs):Nat×List D)=>k≤ts.length∧zs=(List.range ts.length).map fun i=>D.int .i64 (if i < k then (rkN ts (ts.getD i []):Int) else 0)) (fun ((k,zs):Nat×List D)=>ts.length - k) ((0,List.replicate (((ts.map dII).length:Int)).toNat (D.int .i64 0))) [(0,1),(1,2)] [] (⟨by omega,by simp only [Nat.not_lt_zero,if_false];rw [List.length_map,Int.toNat_natCast];exact zf6 _ _⟩) (by (refine ⟨rfl,rfl,rfl,?_,?_⟩;repeat' first|exact trivial|exact rfl|refine And.intro ?_ ?_|refine ⟨_,rfl,?_⟩|decide)) ?_
 rintro ⟨k,zs⟩ ⟨hk,hz⟩
 have hzl:zs.length=ts.length:=by rw [hz];simp
 by_cases hkl:k < ts.length
 ·have hx:=zbF (d:=[]) hkl
  obtain ⟨b,cbk⟩:=cb (ts.getD k [])
  (repeat' ((conv=>whnf);first|refine vA ?_|(refine vF ?_ ?_<;>intro hc<;>try simp only [vL] at hc)|refine vJ fun hg=>?_|refine vT ?_|refine vN ‹_› ?_|((first|refine vO ?_ ?_|refine vP ?_ ?_);·omega)|refine yD cbk (by (repeat refine ⟨⟨rfl,rfl⟩,?_⟩);rfl) rfl ?_));all_goals try conv=>whnf
  ·refine ⟨(k+1,_),[(0,0),(1,1)],[],?_,?_,by (refine ⟨rfl,rfl,rfl,?_,?_⟩;repeat' first|exact trivial|exact rfl|refine And.intro ?_ ?_|refine ⟨_,rfl,?_⟩|decide)⟩
   ·refine ⟨by omega,?_⟩
    rw [hz]
    refine (zgU _).trans (zaJ fun u hu=>?_)
    show (if u=k then _ else _)=_
    by_cases e:u=k
    ·subst e;rw [if_pos rfl,if_pos (by omega)]
    ·rw [if_neg e]
     by_cases e2:u < k
     ·rw [if_pos e2,if_pos (by omega)]
     ·rw [if_neg e2,if_neg (by omega)]
   ·((simp only [vM] at *;omega))
  ·exfalso;omega
 ·(repeat' ((conv=>whnf);first|refine vA ?_|(refine vF ?_ ?_<;>intro hc<;>try simp only [vL] at hc)|refine vJ fun hg=>?_|refine vT ?_|(refine vQ ?_ fun x hx=>?_;·omega)|fail));all_goals try conv=>whnf
  ·exfalso;omega
  ·have e0:k=ts.length:=by omega
   subst e0
   have hzz:zs=(ts.map (rkN ts)).map fun (x:Nat)=>D.int .i64 (x:Int):=by
    rw [hz]
    refine zr5 (d := .nil) (by simp) fun i hi=>?_
    rw [List.length_map,List.length_range] at hi
    simp [List.getD,hi]
   refine congrArg some (show D.tup [.arr 1 zs,.int .i64 ((S.map dII).length:Int)]=_ from ?_)
   rw [hzz,List.length_map,hcn]
   simp [Function.comp_def]
end Go.Ab
namespace Go.Ab
open Go Go.Proofs
set_option maxRecDepth 10000
set_option maxHeartbeats 4000000
variable {T:Nat→Obj→Prop}
def ltI (x y:Int):Bool:=decide (x < y)
abbrev zey (d:Array (Int)):Ob := .row 1 (d.toList.map (D.int .i64))
theorem zum (x y:Int):Fn Tryd.prog T ziA [.d (.int .i64 x),.d (.int .i64 y)] [] (.d (.bool (ltI x y))) []:=by
 have hn : ∀ z:Int,Fn Tryd.prog T zfe [.d (.int .i64 z)] [] (.d (.bool false)) []:=fun z=>by
  refine zb zk zh6 (by show 1≤6;decide) ?_
  (repeat' ((conv=>whnf);first|refine vT ?_|refine vZ ?_));all_goals try conv=>whnf
  simp
 refine zb zk zpD (by show 2≤17;decide) ?_
 (repeat' ((conv=>whnf);first|refine vA ?_|refine vH ?_|refine vT ?_|refine vZ ?_|refine yD (hn _) (by (repeat refine ⟨⟨rfl,rfl⟩,?_⟩);rfl) rfl ?_));all_goals try conv=>whnf
 rfl
theorem zvT (d:Array (Int)) (a b:Nat) (hb:b≤d.size) (hs:d.size≤1073741824) (ha:a≤b) :
  Fn Tryd.prog T zaZ [.own 0,.d (.int .i64 (a:Int)),.d (.int .i64 (b:Int))] [zey d] (.tup []) [some (zey (Sort.insertionSort ltI d a b))]:=by
 refine zB zk zeW (by show 3≤49;decide) _ (fun e env mem n h=>h) ?_
 (repeat' ((conv=>whnf);first|refine vT ?_|(refine vO ?_ ?_;·omega)|fail));all_goals try conv=>whnf
 refine zy (fun ((ii,xs):Int×List D)=>[(0,.own 0),(1,.d (.int .i64 ((a:Int)))),(2,.d (.int .i64 ((b:Int)))),(6,.d (.int .i64 (ii))),(zc,.own 0)]) (fun ((ii,xs):Int×List D)=>[(0,some (.row 1 xs))]) 1 (fun ((ii,xs):Int×List D) => ∃ (i:Nat) (e:Array (Int)),ii=i∧xs=e.toList.map (D.int .i64)∧a < i∧i≤b+1∧e.size=d.size∧Sort.insOuter ltI a b i e=Sort.insertionSort ltI d a b) (fun ((ii,xs):Int×List D)=>(b - ii).toNat) (((a:Int)+1,d.toList.map (D.int .i64))) [(0,0)] [] (⟨a+1,d,by omega,rfl,by omega,by omega,rfl,rfl⟩) (by (refine ⟨rfl,rfl,rfl,?_,?_⟩;repeat' first|exact trivial|exact rfl|refine And.intro ?_ ?_|refine ⟨_,rfl,?_⟩|decide)) ?_
 rintro ⟨_,_⟩ ⟨i,e,rfl,rfl,hi,hi2,he,hI⟩
 (repeat' ((conv=>whnf);first|refine vA ?_|(refine vF ?_ ?_<;>intro hc<;>try simp only [vL] at hc)|refine vT ?_));all_goals try conv=>whnf
 ·refine zy (fun ((jj,xs):Int×List D)=>[(0,.own 0),(1,.d (.int .i64 ((a:Int)))),(2,.d (.int .i64 ((b:Int)))),(6,.d (.int .i64 ((i:Int)))),(7,.d (.int .i64 (jj))),(zc,.own 0)]) (fun ((jj,xs):Int×List D)=>[(0,some (.row 1 xs))]) 1 (fun ((jj,xs):Int×List D) => ∃ (j:Nat) (g:Array (Int)),jj=j∧xs=g.toList.map (D.int .i64)∧j≤i∧g.size=d.size∧Sort.insInner ltI a j g=Sort.insInner ltI a i e) (fun ((jj,xs):Int×List D)=>jj.toNat) (((i:Int),e.toList.map (D.int .i64))) [(0,0)] [] (⟨i,e,rfl,rfl,by omega,he,rfl⟩) (by (refine ⟨rfl,rfl,rfl,?_,?_⟩;repeat' first|exact trivial|exact rfl|refine And.intro ?_ ?_|refine ⟨_,rfl,?_⟩|decide)) ?_
  rintro ⟨_,_⟩ ⟨j,g,rfl,rfl,hj,hg,hJ⟩
  have hgl:g.toList.length=d.size:=by rw [Array.length_toList];exact hg
  have stop : ¬(a < j∧ltI g[j]! g[j - 1]! = true)→Sort.insOuter ltI a b (i+1) g=Sort.insertionSort ltI d a b:=fun h=>by
   rw [← hI,Sort.insOuter.eq_def ltI a b i,if_pos (by omega),← hJ,zld h]
  (repeat' ((conv=>whnf);first|refine vA ?_|(refine vF ?_ ?_<;>intro hc<;>try simp only [vL] at hc)|refine vT ?_|refine vN ‹_› ?_|(refine vQ ?_ fun x hx=>?_;·omega)|((first|refine vO ?_ ?_|refine vP ?_ ?_);·first|omega|(simp only [vM] at *;omega))|(refine vU ?_ ?_;·kernel_rfl)|refine yD (zum _ _) ⟨⟨rfl,rfl⟩,⟨rfl,rfl⟩,rfl⟩ rfl ?_));all_goals try conv=>whnf
  ·have e1:((j:Int) - 1).toNat=j - 1:=by omega
   have hx1:g.toList[j]? = some _:=‹g.toList[(j:Int).toNat]? = some _›
   have hx2:g.toList[j - 1]? = some x:=by rw [← e1];exact hx
   refine ⟨(_,_),[(0,0)],[],?_,?_,by (refine ⟨rfl,rfl,rfl,?_,?_⟩;repeat' first|exact trivial|exact rfl|refine And.intro ?_ ?_|refine ⟨_,rfl,?_⟩|decide)⟩
   ·refine ⟨j - 1,Sort.swp g j (j - 1),by omega,?_,by omega,by rw [zt2,hg],?_⟩
    ·rw [e1];exact zvn hx1 hx2
    ·exact (zlc (d:=g) (j:=j) (by omega) (by rw [(zeY hx1).1,(zeY hx2).1];exact decide_eq_true hc)).symm.trans hJ
   ·((simp only [vM] at *;omega))
  ·have e1:((j:Int) - 1).toNat=j - 1:=by omega
   have hx1:g.toList[j]? = some _:=‹g.toList[(j:Int).toNat]? = some _›
   have hx2:g.toList[j - 1]? = some x:=by rw [← e1];exact hx
   refine ⟨(_,_),[(0,0)],[],?_,?_,by (refine ⟨rfl,rfl,rfl,?_,?_⟩;repeat' first|exact trivial|exact rfl|refine And.intro ?_ ?_|refine ⟨_,rfl,?_⟩|decide)⟩
   ·exact ⟨i+1,g,by omega,rfl,by omega,by omega,hg,stop fun h=>by
     rw [(zeY hx1).1,(zeY hx2).1] at h
     have:=of_decide_eq_true h.2;omega⟩
   ·((simp only [vM] at *;omega))
  ·refine ⟨(_,_),[(0,0)],[],?_,?_,by (refine ⟨rfl,rfl,rfl,?_,?_⟩;repeat' first|exact trivial|exact rfl|refine And.intro ?_ ?_|refine ⟨_,rfl,?_⟩|decide)⟩
   ·exact ⟨i+1,g,by omega,rfl,by omega,by omega,hg,stop fun h=>by omega⟩
   ·((simp only [vM] at *;omega))
 ·have e0:Sort.insertionSort ltI d a b=e:=by
   rw [← hI,Sort.insOuter,if_neg (by omega)]
  rw [e0]
  refine ⟨trivial,_,[(0,0)],[],rfl,.inl (by (repeat' first|exact rfl|refine ⟨_,rfl,?_⟩)),⟨by rfl,by rfl,by rfl,trivial,by (repeat' first|exact trivial|exact rfl|refine And.intro ?_ ?_|refine ⟨_,rfl,?_⟩|exact of_decide_eq_true rfl)⟩,by (repeat' first|exact trivial|exact rfl|refine And.intro ?_ ?_)⟩
theorem zus (d:Array Int) {a b:Nat} {ai bi:Int} (ea:ai=a) (eb:bi=b) (hb:b≤d.size) (hs:d.size≤1073741824) (ha:a≤b) :
  Fn Tryd.prog T zaZ [.own 0,.d (.int .i64 ai),.d (.int .i64 bi)] [zey d] (.tup []) [some (zey (Sort.insertionSort ltI d a b))]:=by
 subst ea;subst eb;exact zvT d a b hb hs ha
theorem zvW (d:Array Int) {b l:Nat} {bi li:Int} (eb:bi=b) (el:li=l) (h12:b≤12) (hb:b≤d.size) (hs:d.size≤536870912) :
  Fn Tryd.prog T zdv [.own 0,.d (.int .i64 0),.d (.int .i64 bi),.d (.int .i64 li)] [zey d] (.tup []) [some (zey (Sort.pdq ltI d 0 b l true true))]:=by
 subst eb;subst el
 have hR:Sort.pdq ltI d 0 b l true true=Sort.insertionSort ltI d 0 b:=by rw [Sort.pdq,if_pos (by omega)]
 rw [hR]
 refine zB zk zgn (by show 4≤134;decide) _ (fun e env mem n h=>h) ?_
 (repeat' ((conv=>whnf);refine vT ?_));all_goals try conv=>whnf
 refine zy (fun (u:Unit)=>[(0,.own 0),(1,.d (.int .i64 (0))),(2,.d (.int .i64 ((b:Int)))),(3,.d (.int .i64 ((l:Int)))),(8,.d (.bool (true))),(9,.d (.bool (true))),(zc,.own 0)]) (fun (u:Unit)=>[(0,some (zey d))]) 1 (fun (u:Unit)=>True) (fun (u:Unit)=>0) (()) [(0,0)] [] (trivial) (by (refine ⟨rfl,rfl,rfl,?_,?_⟩;repeat' first|exact trivial|exact rfl|exact .inr (.inl ⟨rfl,rfl⟩)|refine And.intro ?_ ?_|refine ⟨_,rfl,?_⟩|decide)) ?_
 rintro u -
 (repeat' ((conv=>whnf);first|refine zhO.but 35 rfl ?_|(refine vF ?_ ?_<;>intro hc<;>try simp only [vL] at hc)|refine vT ?_|(refine vO ?_ ?_;·omega)|fail));all_goals try conv=>whnf
 ·refine zo.objs [0] (zus d (a:=0) (b:=b) rfl rfl (by omega) (by omega) (by omega)) (by (repeat' first|exact rfl|refine And.intro ?_ ?_|refine ⟨_,rfl,?_⟩)) (by (repeat' first|exact rfl|refine And.intro ?_ ?_)) (by rfl) (by rfl) (by simp) ?_
  (repeat' ((conv=>whnf);refine vT ?_));all_goals try conv=>whnf
  refine ⟨trivial,_,[(0,0)],[],rfl,.inl (by (repeat' first|exact rfl|refine ⟨_,rfl,?_⟩)),⟨by rfl,by rfl,by rfl,trivial,by (repeat' first|exact trivial|exact rfl|refine And.intro ?_ ?_|refine ⟨_,rfl,?_⟩|exact of_decide_eq_true rfl)⟩,by (repeat' first|exact trivial|exact rfl|refine And.intro ?_ ?_)⟩
 all_goals (exfalso;omega)
set_option maxHeartbeats 1000000 in
theorem zun (d:Array Int) (hs:d.size≤12):Fn Tryd.prog T zeO [.own 0] [zey d] (.tup []) [some (zey (Sort.sort ltI d))]:=by
 have hn:((BitVec.ofInt 64 (d.size:Int)).toNat)=d.size:=by simp;omega
 refine zB zk ziv (by show 1≤11;decide) _ (fun e env mem n h=>h) ?_
 (repeat' ((conv=>whnf);first|refine vJ fun hg=>?_|refine vT ?_|refine yD (zs9 _) ⟨⟨rfl,rfl⟩,rfl⟩ rfl ?_));all_goals try conv=>whnf
 refine zo.objs [0] (zvW d (b:=d.size) (l:=Sort.bitsLen d.size) (bi:=((d.toList.map (D.int .i64)).length:Int)) (li:=((Sort.bitsLen (BitVec.ofInt 64 ((d.toList.map (D.int .i64)).length:Int)).toNat:Nat):Int)) (by simp) (by rw [List.length_map,Array.length_toList,hn]) hs (Nat.le_refl _) (by omega)) (by (repeat' first|exact rfl|refine And.intro ?_ ?_|refine ⟨_,rfl,?_⟩)) (by (repeat' first|exact rfl|refine And.intro ?_ ?_)) (by rfl) (by rfl) (by simp) ?_
 (repeat' ((conv=>whnf);refine vT ?_));all_goals try conv=>whnf
 refine ⟨trivial,_,[(0,0)],[],rfl,.inl (by (repeat' first|exact rfl|refine ⟨_,rfl,?_⟩)),⟨by rfl,by rfl,by rfl,trivial,by (repeat' first|exact trivial|exact rfl|refine And.intro ?_ ?_|refine ⟨_,rfl,?_⟩|exact of_decide_eq_true rfl)⟩,by (repeat' first|exact trivial|exact rfl|refine And.intro ?_ ?_)⟩
end Go.Ab
namespace Go.Ab
open Go Go.Proofs
set_option maxRecDepth 10000
set_option maxHeartbeats 4000000
variable {T:Nat→Obj→Prop}
theorem zCp:Sort.SWO ltI:=⟨fun x=>by simp [ltI],fun x y z h1 h2=>by simp [ltI] at *;omega,fun x y z h1 h2=>by simp [ltI] at *;omega⟩
theorem zwm (l:List Int):(Sort.sort ltI l.toArray).toList=zeC l:=by
 obtain ⟨⟨h1,-,h2⟩,h3⟩:=Sort.sort_sorts ltI zCp l.toArray
 have e1:(Sort.sort ltI l.toArray).extract 0 l.toArray.size=Sort.sort ltI l.toArray:=by rw [← h1];simp
 have e2:l.toArray.extract 0 l.toArray.size=l.toArray:=by simp
 rw [e1,e2] at h2
 refine zBD ?_ h2
 rw [List.pairwise_iff_getElem]
 intro i j hi hj hij
 rw [Array.length_toList] at hi hj
 have:=h3 i j (Nat.zero_le _) hij (by rw [← h1];exact hj)
 have a1:=(zeY (List.getElem?_eq_getElem (l:=(Sort.sort ltI l.toArray).toList) (by rw [Array.length_toList];exact hi))).1
 have a2:=(zeY (List.getElem?_eq_getElem (l:=(Sort.sort ltI l.toArray).toList) (by rw [Array.length_toList];exact hj))).1
 rw [a1,a2] at this
 have:=of_decide_eq_false this
 omega
theorem znD (hT:zcl T) (s:BitVec 64):Fn Tryd.prog T zgN [.d (.u64 s)] [] (.d (dN (za s))) []:=by
 refine zb zk zmc (by show 1≤16;decide) ?_
 (repeat' ((conv=>whnf);first|refine vA ?_|refine vT ?_));all_goals try conv=>whnf
 refine zy (fun ((r,zs):BitVec 64×List D)=>[(0,.d (.u64 (r))),(3,.own 0)]) (fun ((r,zs):BitVec 64×List D)=>[(0,some (.row 1 zs))]) 1 (fun ((r,zs):BitVec 64×List D) => ∃ l:List Nat,zs=l.map (fun (x:Nat)=>D.int .i64 (x:Int))∧za s=l++za r) (fun ((r,zs):BitVec 64×List D)=>(za r).length) ((s,[])) []   [0] (⟨[],rfl,rfl⟩) (by (refine ⟨rfl,rfl,rfl,?_,?_⟩;repeat' first|exact trivial|exact rfl|exact ⟨_,rfl⟩|refine And.intro ?_ ?_|decide)) ?_
 rintro ⟨r,zs⟩ ⟨l,rfl,hI⟩
 by_cases hr:r=0#64
 ·subst hr
  (repeat' ((conv=>whnf);first|refine vA ?_|refine vH ?_|refine vT ?_));all_goals try conv=>whnf
  rw [hI,znu,List.append_nil]
  show some (D.arr 1 _)=some (D.arr 1 _)
  rw [List.map_map];rfl
 ·have hb:=znt r hr
  have hl:=congrArg List.length hI
  have hlen:=zoW s
  rw [List.length_append] at hl
  (repeat' ((conv=>whnf);first|refine vA ?_|(refine vD ?_ ?_<;>intro hc)|refine vT ?_|(refine vP ?_ ?_;·(simp only [vM] at *;omega))|refine yD (hT r) (by (repeat refine ⟨⟨rfl,rfl⟩,?_⟩);rfl) rfl ?_));all_goals try conv=>whnf
  ·refine ⟨(r&&&(r - 1#64),_),[(0,2)],[],?_,?_,by (refine ⟨rfl,rfl,rfl,?_,?_⟩;repeat' first|exact trivial|exact rfl|refine And.intro ?_ ?_|refine ⟨_,rfl,?_⟩|decide)⟩
   ·exact ⟨l++[Lib.ctz 64 r.toNat],by simp,by rw [hI,hb];simp⟩
   ·show (za (r&&&(r - 1#64))).length < (za r).length
    rw [hb];simp
  ·exact absurd ‹r=0› hr
def zcz (q:Nat→Nat) (s:BitVec 64):List Int:=(za s).map fun v=>(q v:Int)
theorem zzY {n:Nat} {s:BitVec 64} (hs : ∀ v,s.getLsbD v=true→v < n):(za s).length≤n:=zz1 hs
theorem zrn (hT:zcl T) (q:Nat→Nat) {n:Nat} (hn:n≤12) {s:BitVec 64} (hs : ∀ v,s.getLsbD v=true→v < n) :
  Fn Tryd.prog T zeU [.d (dI (ptL n q)),.d (.u64 s)] [] (.own 0) [some (.row 1 ((zeC (zcz q s)).map (D.int .i64)))]:=by
 have hbl:=zzY hs
 have hvl:(zcz q s).length=(za s).length:=by simp [zcz]
 have c1:=zun (T:=T) (zcz q s).toArray (by simp [hvl];omega)
 rw [show zey (Sort.sort ltI (zcz q s).toArray) = .row 1 ((zeC (zcz q s)).map (D.int .i64)) by rw [zey,zwm]] at c1
 have hln:(ptL n q).length=n:=zqR
 refine zB zk znp (by show 2≤26;decide) _ (fun e env mem n h=>h) ?_
 (repeat' ((conv=>whnf);first|refine vA ?_|refine vJ fun hg=>?_|refine vT ?_|refine yN (znD hT s) ⟨⟨rfl,rfl⟩,rfl⟩ ?_));all_goals try conv=>whnf
 refine zy (fun ((k,zs):Nat×List D)=>[(0,.d (dI (ptL n q))),(5,.own 0),(9,.d (dN (za s))),(10,.d (.int .i64 ((zg2 (za s):Int)))),(11,.d (.int .i64 ((k:Int))))]) (fun ((k,zs):Nat×List D)=>[(0,some (.row 1 zs))]) 1 (fun ((k,zs):Nat×List D)=>k≤(za s).length∧zs=((zcz q s).take k).map (D.int .i64)) (fun ((k,zs):Nat×List D)=>(za s).length - k) ((0,[])) []   [0] (⟨by omega,by simp⟩) (by (refine ⟨rfl,rfl,rfl,?_,?_⟩;repeat' first|exact trivial|exact rfl|exact ⟨_,rfl⟩|refine And.intro ?_ ?_|decide)) ?_
 rintro ⟨k,zs⟩ ⟨hk,hz⟩
 have hzl:zs.length≤12:=by rw [hz];simp;omega
 have hlD:=zjW (za s)
 by_cases hkl:k < (za s).length
 ·have e1:=zj9 hkl
  have hw:=hs _ (zbK.1 (zok hkl))
  have e2:=zmo (q:=q) hw
  (repeat' ((conv=>whnf);first|refine vA ?_|(refine vF ?_ ?_<;>intro hc<;>try simp only [vL] at hc)|refine vT ?_|refine vN ‹_› ?_|((first|refine vO ?_ ?_|refine vP ?_ ?_);·first|omega|(simp only [vM] at *;omega))|fail));all_goals try conv=>whnf
  ·refine ⟨(k+1,_),[(0,2)],[],?_,?_,by (refine ⟨rfl,rfl,rfl,?_,?_⟩;repeat' first|exact trivial|exact rfl|refine And.intro ?_ ?_|refine ⟨_,rfl,?_⟩|decide)⟩
   ·refine ⟨by omega,?_⟩
    have e3:(zcz q s)[k]? = some ((q ((za s).getD k 0):Nat):Int):=by
     rw [zcz,List.getElem?_map,zbF (d:=0) hkl];rfl
    rw [List.take_add_one,e3,hz];simp
   ·((simp only [vM] at *;omega))
  ·exfalso;omega
 ·(repeat' ((conv=>whnf);first|refine vA ?_|(refine vF ?_ ?_<;>intro hc<;>try simp only [vL] at hc)|refine vT ?_|(refine vQ ?_ fun x hx=>?_;·omega)|((first|refine vO ?_ ?_|refine vS ?_ fun x hx=>?_|refine vP ?_ ?_);·omega)|fail));all_goals try conv=>whnf
  ·exfalso;omega
  ·have e0:zs=(zcz q s).map (D.int .i64):=by rw [hz,List.take_of_length_le (by omega)]
   clear hz
   subst e0
   refine zo.objs [0] (c1) (by (repeat' first|exact rfl|refine And.intro ?_ ?_|refine ⟨_,rfl,?_⟩)) (by (repeat' first|exact rfl|refine And.intro ?_ ?_)) (by rfl) (by rfl) (by simp) ?_
   (repeat' ((conv=>whnf);refine vT ?_));all_goals try conv=>whnf
   refine ⟨trivial,_,[(0,0)],[],rfl,.inl (by (repeat' exact rfl)),⟨by rfl,by rfl,by rfl,trivial,by (repeat' first|exact trivial|exact rfl|refine And.intro ?_ ?_|refine ⟨_,rfl,?_⟩|exact of_decide_eq_true rfl)⟩,by (repeat' exact trivial)⟩
theorem ztU {n:Nat} {q:Nat→Nat} {s:BitVec 64} (hn:n≤64) (hs : ∀ v,s.getLsbD v=true→v < n) {r:Nat→Nat→Bool} {w:Nat} (hr : ∀ v,v < n→r w v=s.getLsbD v):zez n r q w=zcz q s:=by
 unfold zez zcz za
 rw [ziL (n:=n) hs 64 hn]
 congr 1
 exact List.filter_congr fun v hv=>hr v (List.mem_range.1 hv)
def zoE (n:Nat) (r:List (BitVec 64)):List (BitVec 64):=(List.range n).map fun w=>zbb (fun v=>rb r v w) n
theorem zup (hT:zcl T) {n:Nat} (hn:n≤64) (r:List (BitVec 64)) (hr:r.length=n) (hs : ∀ w v,rb r w v=true→v < n):Fn Tryd.prog T zgc [.d (dU r)] [] (.d (dU (zoE n r))) []:=by
 refine zb zk zlr (by show 1≤36;decide) ?_
 (repeat' ((conv=>whnf);first|refine vA ?_|refine vJ fun hg=>?_|refine vT ?_|(refine vP ?_ ?_;·(simp only [vM] at *;omega))|fail));all_goals try conv=>whnf
 refine zy (fun ((k,zs):Nat×List D)=>[(3,.own 0),(11,.d (dU r)),(12,.d (.int .i64 ((r.map D.u64).length:Int))),(13,.d (.int .i64 ((k:Int))))]) (fun ((k,zs):Nat×List D)=>[(0,some (.row 1 zs))]) 1 (fun ((k,zs):Nat×List D)=>k≤n∧zs=(List.range n).map fun w=>D.u64 (zbb (fun v=>rb r v w) k)) (fun ((k,zs):Nat×List D)=>n - k) ((0,List.replicate (((r.map D.u64).length:Int)).toNat (D.u64 0#64))) [(0,0)] [] (⟨by omega,by rw [List.length_map,Int.toNat_natCast,hr,zf6];rfl⟩) (by (refine ⟨rfl,rfl,rfl,?_,?_⟩;repeat' first|exact trivial|exact rfl|refine And.intro ?_ ?_|refine ⟨_,rfl,?_⟩|decide)) ?_
 rintro ⟨k,zs⟩ ⟨hk,hz⟩
 subst hz
 by_cases hkl:k < n
 ·have hx:=zbF (l:=r) (d:=0#64) (show k < r.length by omega)
  have hrb : ∀ v,rb r k v=(r.getD k 0#64).getLsbD v:=fun v=>rfl
  generalize r.getD k 0#64=s at hx hrb
  have hsn : ∀ v,s.getLsbD v=true→v < n:=fun v hv=>hs k v (by rw [hrb];exact hv)
  (repeat' ((conv=>whnf);first|refine vA ?_|(refine vF ?_ ?_<;>intro hc<;>try simp only [vL] at hc)|refine vJ fun hg=>?_|refine vT ?_|refine vN ‹_› ?_|refine yN (znD hT s) ⟨⟨rfl,rfl⟩,rfl⟩ ?_));all_goals try conv=>whnf
  ·refine zy (fun ((j,zs):Nat×List D)=>[(3,.own 0),(4,.d (.int .i64 ((k:Int)))),(11,.d (dU r)),(12,.d (.int .i64 ((r.map D.u64).length:Int))),(13,.d (.int .i64 ((k:Int)))),(19,.d (dN (za s))),(20,.d (.int .i64 ((zg2 (za s):Int)))),(21,.d (.int .i64 ((j:Int))))]) (fun ((j,zs):Nat×List D)=>[(0,some (.row 1 zs))]) 1 (fun ((j,zs):Nat×List D)=>j≤(za s).length∧zs=(List.range n).map fun w=>D.u64 (if w∈(za s).take j then zbb (fun v=>rb r v w) k|||1#64 <<< k else zbb (fun v=>rb r v w) k)) (fun ((j,zs):Nat×List D)=>(za s).length - j) ((0,(List.range n).map fun w=>D.u64 (zbb (fun v=>rb r v w) k))) [(0,0)] [] (⟨by omega,by simp⟩) (by (refine ⟨rfl,rfl,rfl,?_,?_⟩;repeat' first|exact trivial|exact rfl|refine And.intro ?_ ?_|refine ⟨_,rfl,?_⟩|decide)) ?_
   rintro ⟨j,zs⟩ ⟨hj,hz⟩
   subst hz
   have hlD:=zjW (za s)
   by_cases hjl:j < (za s).length
   ·have e1:=zj9 hjl
    have hw:=hsn _ (zbK.1 (zok hjl))
    have er:(List.range n)[(za s).getD j 0]? = some ((za s).getD j 0):=List.getElem?_range hw
    have hnt:(za s).getD j 0 ∉ (za s).take j:=fun hm=>by
     obtain ⟨i,hi⟩:=List.getElem?_of_mem hm
     rw [List.getElem?_take] at hi
     split at hi
     ·rename_i hij
      obtain ⟨p1,q1⟩:=List.getElem?_eq_some_iff.1 hi
      obtain ⟨p2,q2⟩:=List.getElem?_eq_some_iff.1 (zbF (d:=0) hjl)
      have:=(List.getElem_inj (zmk s)).1 (q1.trans q2.symm)
      omega
     ·cases hi
    have ht : ∀ u,u∈(za s).take (j+1)↔u∈(za s).take j∨u=(za s).getD j 0:=fun u=>by
     rw [List.take_add_one,zbF (d:=0) hjl];simp
    (repeat' ((conv=>whnf);first|refine vA ?_|(refine vF ?_ ?_<;>intro hc<;>try simp only [vL] at hc)|refine vT ?_|refine vN ‹_› ?_|((first|refine vO ?_ ?_|refine vP ?_ ?_);·first|omega|(simp only [vM] at *;omega))|(refine vU ?_ ?_;·kernel_rfl)|fail));all_goals try conv=>whnf
    ·refine ⟨(j+1,_),[(0,0)],[],?_,?_,by (refine ⟨rfl,rfl,rfl,?_,?_⟩;repeat' first|exact trivial|exact rfl|refine And.intro ?_ ?_|refine ⟨_,rfl,?_⟩|decide)⟩
     ·refine ⟨by omega,(zgU _).trans (zaJ fun u hu=>?_)⟩
      show (if u=(za s).getD j 0 then _ else _)=_
      by_cases e:u=(za s).getD j 0
      ·subst e
       rw [if_pos rfl,if_pos ((ht _).2 (.inr rfl)),if_neg hnt];rfl
      ·rw [if_neg e]
       by_cases e2:u∈(za s).take j
       ·rw [if_pos e2,if_pos ((ht _).2 (.inl e2))]
       ·rw [if_neg e2,if_neg (fun h=>((ht _).1 h).elim e2 e)]
     ·((simp only [vM] at *;omega))
    ·exfalso;omega
   ·(repeat' ((conv=>whnf);first|refine vA ?_|(refine vF ?_ ?_<;>intro hc<;>try simp only [vL] at hc)|refine vT ?_|(refine vQ ?_ fun x hx=>?_;·omega)|((first|refine vO ?_ ?_|refine vP ?_ ?_);·omega)|(refine vU ?_ ?_;·kernel_rfl)|fail));all_goals try conv=>whnf
    ·exfalso;omega
    ·refine ⟨(k+1,_),[(0,0)],[],?_,?_,by (refine ⟨rfl,rfl,rfl,?_,?_⟩;repeat' first|exact trivial|exact rfl|refine And.intro ?_ ?_|refine ⟨_,rfl,?_⟩|decide)⟩
     ·refine ⟨by omega,zaJ fun u hu=>?_⟩
      rw [List.take_of_length_le (by omega),zbb,hrb u]
      by_cases e:s.getLsbD u=true
      ·rw [if_pos (zbK.2 e),if_pos e]
      ·rw [if_neg (fun h=>e (zbK.1 h)),if_neg e]
     ·((simp only [vM] at *;omega))
  ·exfalso;omega
 ·(repeat' ((conv=>whnf);first|refine vA ?_|(refine vF ?_ ?_<;>intro hc<;>try simp only [vL] at hc)|refine vT ?_|(refine vQ ?_ fun x hx=>?_;·omega)|fail));all_goals try conv=>whnf
  ·exfalso;omega
  ·have e0:k=n:=by omega
   subst e0
   refine congrArg (fun l=>some (D.arr 1 l)) ?_
   unfold zoE
   rw [List.map_map];rfl
end Go.Ab
