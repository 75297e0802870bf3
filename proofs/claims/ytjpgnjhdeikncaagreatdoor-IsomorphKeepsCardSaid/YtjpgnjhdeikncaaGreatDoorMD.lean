/- A part of the proofs of this seat: functions and their contracts. -/
import Derived.Test.YtjpgnjhdeikncaaGreatDoorMC
import Derived.Test.YtjpgnjhdeikncaaGreatDoorProg
import Derived.Lib.TrailingZeros
import Derived.Sort.AssemblyPlain
import Derived.Shelf.Strconv.Itoa0
import Derived.Sort.WalkA14
set_option linter.unusedVariables false
set_option linter.unusedSimpArgs false
set_option linter.unusedSectionVars false
namespace Go.Ab.K
open Go
abbrev t:=Arg.t
abbrev c:=Arg.c
abbrev n (x:Int):V := .d (.int .i64 x)
abbrev u (x:BitVec 64):V := .d (.u64 x)
abbrev m (x:Nat):CO := .mv (.t x)
abbrev pf (x y:Nat):CO := .pick (.t x) (.t y) (.c .bf)
abbrev pt (x y:Nat):CO := .pick (.t x) (.c .bt) (.t y)
abbrev b (o:BinOp) (x y:Nat):CO := .bin o (.t x) (.t y)
abbrev bc (o:BinOp) (x:Nat) (y:V):CO := .bin o (.t x) (.c y)
abbrev l (x:Nat):CO := .load none (.t x)
abbrev la (k x:Nat):CO := .load (some k) (.t x)
abbrev f (o x:Nat):CO := .faddr o (.t x)
abbrev ia (s x i:Nat):CO := .iaddr s (.t x) (.t i)
abbrev e (x k:Nat):CO := .ext (.t x) k
abbrev ln (x:Nat):CO := .len (.t x)
abbrev o (d:Nat) (x:CO):COp:=⟨some d,none,x⟩
abbrev w (x:CO):COp:=⟨none,none,x⟩
abbrev g (d k:Nat) (v:Bool) (x:CO):COp:=⟨some d,some (k,v),x⟩
abbrev gw (k:Nat) (v:Bool) (x:CO):COp:=⟨none,some (k,v),x⟩
abbrev i (x:Nat) (p r:CC):CC := .cond (.t x) p r
def q:List CC→CC
 | [] => .skip
 | [x]=>x
 | x::y::r => .seq x (q (y::r))
end Go.Ab.K
namespace Go.Ab
open Go K
def zeR:Nat:=13
def zco:Nat:=14
def zfb:Nat:=15
def zcW:Nat:=17
def zfP:Nat:=20
def zdP:Nat:=22
def zd6:Nat:=27
def zdj:Nat:=28
def zdE:Nat:=31
def zdD:Nat:=32
def zg0:Nat:=34
def zee:Nat:=46
def zfc:Nat:=47
def zbx:Nat:=48
def zdp:Nat:=49
def zdo:Nat:=54
def zL:Nat:=55
def zgp:Nat:=57
def zgq:Nat:=58
def zQ:Nat:=61
def zdQ:Nat:=69
def z2:Nat:=70
def zbi:Nat:=71
def zaC:Nat:=72
def zjC:Nat:=73
def zaq:Nat:=74
def zgr:Nat:=75
def zaN:Nat:=76
def zcK:Nat:=77
def zd5:Nat:=78
def zfd:Nat:=92
def zeP:Nat:=98
def zdH:Nat:=99
def zdi:Nat:=100
def zaT:Nat:=104
def zbp:Nat:=105
def ze0:Nat:=111
def zeQ:Nat:=112
def zch:Nat:=117
def zaY:Nat:=118
def zb6:Nat:=119
def za4:Nat:=120
def ziy:Nat:=121
def zR:Nat:=133
def zac:Nat:=134
def zE:Nat:=135
def zt:Nat:=136
def zbL:Nat:=137
def zJ:Nat:=138
def zcd:Nat:=139
def zcJ:Nat:=140
def zbf:Nat:=145
def zbe:Nat:=147
def zaO:Nat:=159
def zcX:Nat:=160
def za3:Nat:=161
def zdh:Nat:=162
def za2:Nat:=163
def zao:Nat:=164
def zgo:Nat:=170
def zar:Nat:=183
def zdG:Nat:=191
def zim:CFn:=⟨41,[.tmp 4],(q [(.reg [o 2 (.box 3 (t 0)),o 4 (.mv (c .bf))]),
 (q [(.reg [o 6 (f 0 2),o 7 (l 6),o 8 (m 1),o 9 (b .gtr 7 8),o 10 (m 9),g 11 10 true (f 0 2),g 12 10 true (l 11),g 13 10 true (bc .leq 12 (n 64)),o 14 (pf 10 13),o 15 (m 14),g 16 15 false (f 1 2),g 17 15 false (l 16),g 18 15 false (ln 17),g 19 15 false (bc .gtr 18 (n 20)),o 20 (pt 15 19),o 21 (m 20),g 22 21 false (f 2 2),g 23 21 false (l 22),g 24 21 false (ln 23),g 25 21 false (bc .gtr 24 (n 10)),o 26 (pt 21 25)]),
 (i 26 (q [(.reg [o 4 (.mv (c .bf))]),
 .ret]) .skip)]),
 (q [(.reg [o 5 (.mv (c (n 0)))]),
 (.block 0 (.loop (q [(q [(.reg [o 27 (m 5),o 28 (f 2 2),o 29 (l 28),o 30 (ln 29),o 31 (b .lss 27 30)]),
 (i 31 .skip (.exit 0))]),
 (.block 1 (q [(.reg [o 34 (f 2 2),o 35 (l 34),o 36 (m 5),o 37 (ia 1 35 36),o 38 (l 37),o 39 (ln 38),o 40 (bc .gtr 39 (n 70))]),
 (i 40 (q [(.reg [o 4 (.mv (c .bf))]),
 .ret]) .skip)])),
 (.reg [o 32 (m 5),o 33 (bc .add 32 (n 1)),o 5 (m 33)])])))]),
 (.reg [o 4 (.mv (c .bt))]),
 .ret])⟩
def zjr:CFn:=⟨51,[.tmp 2,.tmp 3],(q [(.reg [o 1 (.box 3 (t 0)),o 2 (.mv (c (.nils 1))),o 3 (.mv (c (n 0)))]),
 (q [(.reg [o 12 (la 3 1),o 13 (.call 32 [(t 12)]),o 4 (m 13)]),
 (.reg [o 14 (m 4),o 15 (bc .neq 14 (n 0))]),
 (i 15 (q [(.reg [o 16 (m 4),o 2 (.mv (c (.nils 1))),o 3 (m 16)]),
 .ret]) .skip)]),
 (.reg [o 5 (.mv (c (.nils 1)))]),
 (q [(.reg [o 17 (f 0 1),o 18 (l 17),o 19 (.mv (c (n 0)))]),
 (.block 0 (.loop (q [(.reg [o 20 (b .lss 19 18)]),
 (i 20 .skip (.exit 0)),
 (.block 1 (q [(.reg [o 21 (m 19),o 6 (m 21)]),
 (.reg [o 22 (m 5),o 23 (la 3 1),o 24 (m 6),o 25 (.call 31 [(t 23),(t 24)]),o 26 (.bslice 1 1 [(n 0)] [(0,(t 25))]),o 27 (.bslice 1 1 [(.nils 1)] [(0,(t 26))]),o 28 (.bslice 1 1 [(.nils 1)] [(0,(t 27))]),o 29 (.app 1 24 (t 22) (t 28)),o 5 (m 29)])])),
 (.reg [o 30 (bc .add 19 (n 1)),o 19 (m 30)])])))]),
 (.reg [o 7 (.alloc [(.nils 1)])]),
 (q [(.reg [o 31 (f 2 1),o 32 (l 31),o 33 (ln 32),o 34 (.mv (c (n 0)))]),
 (.block 2 (.loop (q [(.reg [o 35 (b .lss 34 33)]),
 (i 35 .skip (.exit 2)),
 (.block 3 (q [(.reg [o 36 (ia 1 32 34),o 37 (l 36),o 9 (m 37)]),
 (.regd [o 38 (l 7),o 39 (m 9),o 40 (.call 46 [(t 39)]),o 41 (.bslice 1 1 [(.nils 1)] [(0,(t 40))]),o 42 (.app 1 24 (t 38) (t 41)),w (.store 1 (t 7) (t 42))] [0,0,2,6,15,31])])),
 (.reg [o 43 (bc .add 34 (n 1)),o 34 (m 43)])])))]),
 (.reg [o 45 (m 5),o 46 (.fnew zbx [(t 1),(t 7)]),o 47 (.call 47 [(t 45),(t 46)]),o 44 (m 47),o 48 (e 44 0),o 49 (e 44 1),o 10 (m 48),o 11 (m 49)]),
 (.reg [o 50 (m 10),o 2 (m 50),o 3 (.mv (c (n 0)))]),
 .ret])⟩
def zfJ:CFn:=⟨19,[.tmp 2,.tmp 3],(q [(.reg [o 1 (.box 3 (t 0)),o 2 (.mv (c (n 0))),o 3 (.mv (c (n 0)))]),
 (q [(.reg [o 6 (la 3 1),o 7 (.call 32 [(t 6)]),o 4 (m 7)]),
 (.reg [o 8 (m 4),o 9 (bc .neq 8 (n 0))]),
 (i 9 (q [(.reg [o 10 (m 4),o 2 (.mv (c (n 0))),o 3 (m 10)]),
 .ret]) .skip)]),
 (q [(.reg [o 11 (f 0 1),o 12 (l 11),o 13 (bc .gtr 12 (n 8))]),
 (i 13 (q [(.reg [o 2 (.mv (c (n 0))),o 3 (.mv (c (n 8)))]),
 .ret]) .skip)]),
 (.reg [o 5 (.alloc [(n 0)]),w (.store 1 (t 5) (c (n 0)))]),
 (.reg [o 14 (la 3 1),o 15 (la 3 1),o 16 (.fnew zL [(t 5)]),o 17 (.call 54 [(t 14),(t 15),(t 16)])]),
 (.reg [o 18 (l 5),o 2 (m 18),o 3 (.mv (c (n 0)))]),
 .ret])⟩
def zjW:CFn:=⟨66,[.tmp 6],(q [(.reg [o 3 (.box 3 (t 0)),o 4 (.box 3 (t 1)),o 6 (.mv (c (n 0)))]),
 (q [(.reg [o 12 (la 3 3),o 13 (la 3 4),o 14 (.call 57 [(t 12),(t 13)]),o 7 (m 14)]),
 (.reg [o 15 (m 7),o 16 (bc .neq 15 (n 0))]),
 (i 16 (q [(.reg [o 17 (m 7),o 6 (m 17)]),
 .ret]) .skip)]),
 (q [(.reg [o 18 (f 0 3),o 19 (l 18),o 20 (f 0 4),o 21 (l 20),o 22 (b .neq 19 21)]),
 (i 22 (q [(.reg [o 6 (.mv (c (n 1)))]),
 .ret]) .skip)]),
 (.reg [o 8 (.mv (c (u 0)))]),
 (q [(.reg [o 23 (m 2),o 24 (ln 23),o 25 (.mv (c (n 0)))]),
 (.block 0 (.loop (q [(.reg [o 26 (b .lss 25 24)]),
 (i 26 .skip (.exit 0)),
 (.block 1 (q [(.reg [o 27 (ia 1 23 25),o 28 (l 27),o 10 (m 28)]),
 (q [(.reg [o 29 (m 10),o 30 (bc .lss 29 (n 0)),o 31 (m 30),g 32 31 false (m 10),g 33 31 false (f 0 4),g 34 31 false (l 33),g 35 31 false (b .geq 32 34),o 36 (pt 31 35),o 37 (m 36),g 38 37 false (m 8),g 39 37 false (m 10),g 40 37 false (b .shr 38 39),g 41 37 false (bc .and 40 (u 1)),g 42 37 false (bc .eql 41 (u 1)),o 43 (pt 37 42)]),
 (i 43 (q [(.reg [o 6 (.mv (c (n 3)))]),
 .ret]) .skip)]),
 (.reg [o 44 (m 8),o 45 (m 10),o 46 (.bin .shl (c (u 1)) (t 45)),o 47 (b .or 44 46),o 8 (m 47)])])),
 (.reg [o 48 (bc .add 25 (n 1)),o 25 (m 48)])])))]),
 (q [(.reg [o 49 (m 2),o 50 (ln 49),o 51 (f 0 3),o 52 (l 51),o 53 (b .neq 50 52)]),
 (i 53 (q [(.reg [o 6 (.mv (c (n 3)))]),
 .ret]) .skip)]),
 (q [(.reg [o 54 (m 2),o 55 (ln 54),o 56 (.mv (c (n 0)))]),
 (.block 2 (.loop (q [(.reg [o 57 (b .lss 56 55)]),
 (i 57 .skip (.exit 2)),
 (.block 3 (q [(.reg [o 58 (m 56),o 11 (m 58)]),
 (.reg [o 59 (la 3 3),o 60 (la 3 4),o 61 (m 2),o 62 (m 11),o 63 (.call 58 [(t 59),(t 60),(t 61),(t 62)]),o 64 (.un .not (t 63))]),
 (i 64 (q [(.reg [o 6 (.mv (c (n 13)))]),
 .ret]) .skip)])),
 (.reg [o 65 (bc .add 56 (n 1)),o 56 (m 65)])])))]),
 (.reg [o 6 (.mv (c (n 0)))]),
 .ret])⟩
def zgS:CFn:=⟨34,[.tmp 4,.tmp 5],(q [(.reg [o 2 (.box 3 (t 0)),o 3 (.box 3 (t 1)),o 4 (.mv (c (.nils 1))),o 5 (.mv (c (n 0)))]),
 (q [(.reg [o 8 (la 3 2),o 9 (la 3 3),o 10 (.call 57 [(t 8),(t 9)]),o 6 (m 10)]),
 (.reg [o 11 (m 6),o 12 (bc .neq 11 (n 0))]),
 (i 12 (q [(.reg [o 13 (m 6),o 4 (.mv (c (.nils 1))),o 5 (m 13)]),
 .ret]) .skip)]),
 (q [(.reg [o 14 (f 0 2),o 15 (l 14),o 16 (bc .gtr 15 (n 12)),o 17 (m 16),g 18 17 false (f 0 3),g 19 17 false (l 18),g 20 17 false (bc .gtr 19 (n 12)),o 21 (pt 17 20)]),
 (i 21 (q [(.reg [o 4 (.mv (c (.nils 1))),o 5 (.mv (c (n 8)))]),
 .ret]) .skip)]),
 (.reg [o 7 (.alloc [(.nils 1)])]),
 (q [(.reg [o 22 (f 0 2),o 23 (l 22),o 24 (f 0 3),o 25 (l 24),o 26 (b .eql 23 25)]),
 (i 26 (.reg [o 27 (la 3 2),o 28 (la 3 3),o 29 (.fnew zQ [(t 7)]),o 30 (.call 54 [(t 27),(t 28),(t 29)])]) .skip)]),
 (q [(.reg [o 31 (l 7),o 32 (.eqN false (t 31) (c (.nils 1)))]),
 (i 32 (q [(.reg [o 4 (.mv (c (.nils 1))),o 5 (.mv (c (n 6)))]),
 .ret]) .skip)]),
 (.reg [o 33 (l 7),o 4 (m 33),o 5 (.mv (c (n 0)))]),
 .ret])⟩
def zhA:CFn:=⟨59,[.tmp 2],(q [(.reg [o 1 (.box 3 (t 0)),o 2 (.mv (c (n 0)))]),
 (q [(.reg [o 5 (f 0 1),o 6 (l 5),o 7 (bc .lss 6 (n 1)),o 8 (m 7),g 9 8 false (f 0 1),g 10 8 false (l 9),g 11 8 false (bc .gtr 10 (n 64)),o 12 (pt 8 11)]),
 (i 12 (q [(.reg [o 2 (.mv (c (n 2)))]),
 .ret]) .skip)]),
 (q [(.reg [o 13 (f 2 1),o 14 (l 13),o 15 (ln 14),o 16 (bc .gtr 15 (n 4)),o 17 (m 16),g 18 17 false (f 1 1),g 19 17 false (l 18),g 20 17 false (ln 19),g 21 17 false (bc .gtr 20 (n 8)),o 22 (pt 17 21)]),
 (i 22 (q [(.reg [o 2 (.mv (c (n 8)))]),
 .ret]) .skip)]),
 (q [(.reg [o 3 (.mv (c (n 0)))]),
 (.block 0 (.loop (q [(q [(.reg [o 23 (m 3),o 24 (f 2 1),o 25 (l 24),o 26 (ln 25),o 27 (b .lss 23 26)]),
 (i 27 .skip (.exit 0))]),
 (.block 1 (q [(.regd [o 30 (f 2 1),o 31 (l 30),o 32 (m 3),o 33 (ia 1 31 32),o 34 (l 33),o 35 (ln 34),o 36 (f 0 1),o 37 (l 36),o 38 (b .neq 35 37)] [0,1,0,7,15,31,0,64,255]),
 (i 38 (q [(.reg [o 2 (.mv (c (n 3)))]),
 .ret]) .skip)])),
 (.reg [o 28 (m 3),o 29 (bc .add 28 (n 1)),o 3 (m 29)])])))]),
 (q [(.reg [o 39 (f 1 1),o 40 (l 39),o 41 (f 0 1),o 42 (l 41),o 43 (.call 69 [(t 40),(t 42)])]),
 (i 43 (q [(.reg [o 2 (.mv (c (n 2)))]),
 .ret]) .skip)]),
 (q [(.reg [o 4 (.mv (c (n 0)))]),
 (.block 2 (.loop (q [(q [(.reg [o 44 (m 4),o 45 (f 2 1),o 46 (l 45),o 47 (ln 46),o 48 (b .lss 44 47)]),
 (i 48 .skip (.exit 2))]),
 (.block 3 (q [(.regd [o 51 (f 2 1),o 52 (l 51),o 53 (m 4),o 54 (ia 1 52 53),o 55 (l 54),o 56 (f 0 1),o 57 (l 56),o 58 (.call 69 [(t 55),(t 57)])] [0,1,0,7,15,0,32,127]),
 (i 58 (q [(.reg [o 2 (.mv (c (n 2)))]),
 .ret]) .skip)])),
 (.reg [o 49 (m 4),o 50 (bc .add 49 (n 1)),o 4 (m 50)])])))]),
 (.reg [o 2 (.mv (c (n 0)))]),
 .ret])⟩
def zge:CFn:=⟨64,[.cell 4 (some 3),.tmp 5,.tmp 6],(q [(.reg [o 2 (.box 3 (t 0)),o 3 (.box 1 (t 1)),o 4 (.alloc [(n 0),(.nils 1),(.nils 1)]),o 5 (.mv (c (.nils 1))),o 6 (.mv (c .bf))]),
 (.reg [o 15 (f 0 2),o 16 (l 15),o 17 (.mkslice 1 8 [(n 0)] (t 16) (t 16)),o 7 (m 17)]),
 (q [(.reg [o 18 (m 7),o 19 (ln 18),o 20 (.mv (c (n 0)))]),
 (.block 0 (.loop (q [(.reg [o 21 (b .lss 20 19)]),
 (i 21 .skip (.exit 0)),
 (.block 1 (q [(.reg [o 22 (m 20),o 8 (m 22)]),
 (.reg [o 23 (m 7),o 24 (m 8),o 25 (m 8),o 26 (ia 1 23 24),w (.store 1 (t 26) (t 25))])])),
 (.reg [o 27 (bc .add 20 (n 1)),o 20 (m 27)])])))]),
 (.reg [o 28 (.fnew z2 [(t 3)]),o 9 (.alloc [(.d .nil)]),w (.store 1 (t 9) (t 28))]),
 (.reg [o 29 (m 7),o 30 (.fnew zaC [(t 9)]),o 31 (.call 71 [(t 29),(t 30)])]),
 (.reg [o 32 (f 0 2),o 33 (l 32),o 34 (.mkslice 1 8 [(n 0)] (t 33) (t 33)),o 10 (m 34)]),
 (q [(.reg [o 35 (m 7),o 36 (ln 35),o 37 (.mv (c (n 0)))]),
 (.block 2 (.loop (q [(.reg [o 38 (b .lss 37 36)]),
 (i 38 .skip (.exit 2)),
 (.block 3 (q [(.reg [o 39 (m 37),o 40 (ia 1 35 37),o 41 (l 40),o 11 (m 39),o 12 (m 41)]),
 (.reg [o 42 (m 10),o 43 (m 12),o 44 (m 11),o 45 (ia 1 42 43),w (.store 1 (t 45) (t 44))])])),
 (.reg [o 46 (bc .add 37 (n 1)),o 37 (m 46)])])))]),
 (.reg [o 48 (la 3 2),o 49 (m 10),o 50 (.call 34 [(t 48),(t 49)]),o 47 (m 50),o 51 (e 47 0),o 52 (e 47 1),o 13 (.alloc [(n 0),(.nils 1),(.nils 1)]),w (.store 3 (t 13) (t 51)),o 14 (m 52)]),
 (.regd [o 53 (la 3 13),o 54 (m 10),o 55 (m 14),o 56 (bc .eql 55 (n 0)),o 57 (m 56),g 58 57 true (f 0 13),g 59 57 true (l 58),g 60 57 true (f 0 2),g 61 57 true (l 60),g 62 57 true (b .eql 59 61),o 63 (pf 57 62),w (.store 3 (t 4) (t 53)),o 5 (m 54),o 6 (m 63)] [0,0,0,4,12,28,60,28,156,508,1020,29,2079,8191]),
 .ret])⟩
def zmE:CFn:=⟨40,[.tmp 4],(q [(.reg [o 2 (.box 3 (t 0)),o 4 (.mv (c (n 0)))]),
 (q [(.reg [o 8 (la 3 2),o 9 (.call 32 [(t 8)]),o 10 (bc .neq 9 (n 0)),o 11 (m 10),g 12 11 false (m 1),g 13 11 false (bc .lss 12 (n 0)),o 14 (pt 11 13),o 15 (m 14),g 16 15 false (m 1),g 17 15 false (f 0 2),g 18 15 false (l 17),g 19 15 false (b .geq 16 18),o 20 (pt 15 19)]),
 (i 20 (q [(.reg [o 4 (.mv (c (n (-1))))]),
 .ret]) .skip)]),
 (.reg [o 5 (.mv (c (n 0)))]),
 (q [(.reg [o 21 (f 1 2),o 22 (l 21),o 23 (ln 22),o 24 (.mv (c (n 0)))]),
 (.block 0 (.loop (q [(.reg [o 25 (b .lss 24 23)]),
 (i 25 .skip (.exit 0)),
 (.block 1 (q [(.reg [o 26 (m 24),o 27 (ia 1 22 24),o 28 (l 27),o 6 (m 26),o 7 (m 28)]),
 (.reg [o 29 (m 5),o 30 (m 7),o 31 (m 1),o 32 (b .shr 30 31),o 33 (bc .and 32 (u 1)),o 34 (.conv .i64 (t 33)),o 35 (m 6),o 36 (b .shl 34 35),o 37 (b .or 29 36),o 5 (m 37)])])),
 (.reg [o 38 (bc .add 24 (n 1)),o 24 (m 38)])])))]),
 (.reg [o 39 (m 5),o 4 (m 39)]),
 .ret])⟩
def zmD:CFn:=⟨47,[.tmp 2],(q [(.reg [o 1 (.box 3 (t 0)),o 2 (.mv (c (n 0)))]),
 (q [(.reg [o 5 (f 0 1),o 6 (l 5),o 7 (bc .lss 6 (n 1)),o 8 (m 7),g 9 8 false (f 0 1),g 10 8 false (l 9),g 11 8 false (bc .gtr 10 (n 64)),o 12 (pt 8 11)]),
 (i 12 (q [(.reg [o 2 (.mv (c (n 2)))]),
 .ret]) .skip)]),
 (q [(.reg [o 13 (f 2 1),o 14 (l 13),o 15 (ln 14),o 16 (bc .gtr 15 (n 4)),o 17 (m 16),g 18 17 false (f 1 1),g 19 17 false (l 18),g 20 17 false (ln 19),g 21 17 false (bc .gtr 20 (n 8)),o 22 (pt 17 21)]),
 (i 22 (q [(.reg [o 2 (.mv (c (n 8)))]),
 .ret]) .skip)]),
 (q [(.reg [o 23 (f 2 1),o 24 (l 23),o 25 (ln 24),o 26 (.mv (c (n 0)))]),
 (.block 0 (.loop (q [(.reg [o 27 (b .lss 26 25)]),
 (i 27 .skip (.exit 0)),
 (.block 1 (q [(.reg [o 28 (ia 1 24 26),o 29 (l 28),o 4 (m 29)]),
 (.reg [o 30 (m 4),o 31 (ln 30),o 32 (f 0 1),o 33 (l 32),o 34 (b .neq 31 33)]),
 (i 34 (q [(.reg [o 2 (.mv (c (n 3)))]),
 .ret]) .skip)])),
 (.reg [o 35 (bc .add 26 (n 1)),o 26 (m 35)])])))]),
 (q [(.reg [o 36 (f 1 1),o 37 (l 36),o 38 (f 0 1),o 39 (l 38),o 40 (.call 75 [(t 37),(t 39)]),o 41 (m 40),g 42 41 false (f 2 1),g 43 41 false (l 42),g 44 41 false (.fnew zcK [(t 1)]),g 45 41 false (.call 76 [(t 43),(t 44)]),o 46 (pt 41 45)]),
 (i 46 (q [(.reg [o 2 (.mv (c (n 2)))]),
 .ret]) .skip)]),
 (.reg [o 2 (.mv (c (n 0)))]),
 .ret])⟩
def zlv:CFn:=⟨61,[.cell 4 (some 3),.tmp 5],(q [(.reg [o 2 (.box 3 (t 0)),o 4 (.alloc [(n 0),(.nils 1),(.nils 1)]),o 5 (.mv (c (n 0)))]),
 (q [(.reg [o 11 (la 3 2),o 12 (.call 32 [(t 11)]),o 6 (m 12)]),
 (.reg [o 13 (m 6),o 14 (bc .neq 13 (n 0))]),
 (i 14 (q [(.reg [o 15 (.build [(n 0),(.nils 1),(.nils 1)] []),o 16 (m 6),w (.store 3 (t 4) (t 15)),o 5 (m 16)]),
 .ret]) .skip)]),
 (q [(.reg [o 17 (m 1),o 18 (ln 17),o 19 (f 0 2),o 20 (l 19),o 21 (b .neq 18 20)]),
 (i 21 (q [(.reg [o 22 (.build [(n 0),(.nils 1),(.nils 1)] []),w (.store 3 (t 4) (t 22)),o 5 (.mv (c (n 1)))]),
 .ret]) .skip)]),
 (.reg [o 23 (m 1),o 24 (ln 23),o 25 (.mkslice 1 8 [(n 0)] (t 24) (t 24)),o 7 (m 25)]),
 (.reg [o 8 (.mv (c (u 0)))]),
 (q [(.reg [o 26 (m 1),o 27 (ln 26),o 28 (.mv (c (n 0)))]),
 (.block 0 (.loop (q [(.reg [o 29 (b .lss 28 27)]),
 (i 29 .skip (.exit 0)),
 (.block 1 (q [(.reg [o 30 (m 28),o 31 (ia 1 26 28),o 32 (l 31),o 9 (m 30),o 10 (m 32)]),
 (q [(.reg [o 33 (m 10),o 34 (bc .lss 33 (n 0)),o 35 (m 34),g 36 35 false (m 10),g 37 35 false (m 1),g 38 35 false (ln 37),g 39 35 false (b .geq 36 38),o 40 (pt 35 39),o 41 (m 40),g 42 41 false (m 8),g 43 41 false (m 10),g 44 41 false (b .shr 42 43),g 45 41 false (bc .and 44 (u 1)),g 46 41 false (bc .eql 45 (u 1)),o 47 (pt 41 46)]),
 (i 47 (q [(.reg [o 48 (.build [(n 0),(.nils 1),(.nils 1)] []),w (.store 3 (t 4) (t 48)),o 5 (.mv (c (n 1)))]),
 .ret]) .skip)]),
 (.reg [o 49 (m 8),o 50 (m 10),o 51 (.bin .shl (c (u 1)) (t 50)),o 52 (b .or 49 51),o 8 (m 52)]),
 (.reg [o 53 (m 7),o 54 (m 10),o 55 (m 9),o 56 (ia 1 53 54),w (.store 1 (t 56) (t 55))])])),
 (.reg [o 57 (bc .add 28 (n 1)),o 28 (m 57)])])))]),
 (.reg [o 58 (la 3 2),o 59 (m 7),o 60 (.call 78 [(t 58),(t 59)]),w (.store 3 (t 4) (t 60)),o 5 (.mv (c (n 0)))]),
 .ret])⟩
def zh8:CFn:=⟨36,[.tmp 2],(q [(.reg [o 2 (.mv (c (.nils 1)))]),
 (.reg [o 8 (m 0),o 9 (ln 8),o 10 (.mkslice 1 8 [(u 0)] (t 9) (t 9)),o 3 (m 10)]),
 (q [(.reg [o 11 (m 0),o 12 (ln 11),o 13 (.mv (c (n 0)))]),
 (.block 0 (.loop (q [(.reg [o 14 (b .lss 13 12)]),
 (i 14 .skip (.exit 0)),
 (.block 1 (q [(.reg [o 15 (m 13),o 16 (ia 1 11 13),o 17 (l 16),o 4 (m 15),o 5 (m 17)]),
 (.reg [o 18 (m 5),o 19 (.call 98 [(t 18)]),o 20 (ln 19),o 21 (.mv (c (n 0)))]),
 (.block 2 (.loop (q [(.reg [o 22 (b .lss 21 20)]),
 (i 22 .skip (.exit 2)),
 (.block 3 (q [(.reg [o 23 (ia 1 19 21),o 24 (l 23),o 7 (m 24)]),
 (.regd [o 25 (m 3),o 26 (m 7),o 27 (ia 1 25 26),o 28 (l 27),o 29 (m 4),o 30 (.bin .shl (c (u 1)) (t 29)),o 31 (b .or 28 30),o 32 (ia 1 25 26),w (.store 1 (t 32) (t 31))] [0,0,3,7,0,16,63,127,255])])),
 (.reg [o 33 (bc .add 21 (n 1)),o 21 (m 33)])])))])),
 (.reg [o 34 (bc .add 13 (n 1)),o 13 (m 34)])])))]),
 (.reg [o 35 (m 3),o 2 (m 35)]),
 .ret])⟩
def zjs:CFn:=⟨45,[.tmp 4,.tmp 5],(q [(.reg [o 4 (.mv (c (.nils 1))),o 5 (.mv (c (n 0)))]),
 (.reg [o 13 (m 0),o 14 (.call 99 [(t 13)]),o 12 (m 14),o 15 (e 12 0),o 16 (e 12 1),o 6 (m 15),o 7 (m 16)]),
 (.block 0 (.loop (.block 1 (q [(.reg [o 17 (m 6),o 18 (ln 17),o 19 (.mkslice 1 24 [(.nils 1)] (t 18) (t 18)),o 8 (m 19)]),
 (q [(.reg [o 20 (m 8),o 21 (ln 20),o 22 (.mv (c (n 0)))]),
 (.block 2 (.loop (q [(.reg [o 23 (b .lss 22 21)]),
 (i 23 .skip (.exit 2)),
 (.block 3 (q [(.reg [o 24 (m 22),o 9 (m 24)]),
 (.reg [o 25 (m 8),o 26 (m 9),o 27 (m 1),o 28 (m 6),o 29 (m 9),o 30 (.callv (t 27) [(t 28),(t 29)]),o 31 (ia 1 25 26),w (.store 1 (t 31) (t 30))])])),
 (.reg [o 32 (bc .add 22 (n 1)),o 22 (m 32)])])))]),
 (.reg [o 34 (m 8),o 35 (.call 99 [(t 34)]),o 33 (m 35),o 36 (e 33 0),o 37 (e 33 1),o 10 (m 36),o 11 (m 37)]),
 (q [(.reg [o 38 (m 11),o 39 (m 7),o 40 (b .eql 38 39)]),
 (i 40 (q [(.reg [o 41 (m 6),o 42 (m 7),o 4 (m 41),o 5 (m 42)]),
 .ret]) .skip)]),
 (.reg [o 43 (m 10),o 44 (m 11),o 6 (m 43),o 7 (m 44)])]))))])⟩
def zh7:CFn:=⟨52,[.tmp 6],(q [(.reg [o 6 (.mv (c (.nils 1)))]),
 (.reg [o 12 (m 0),o 13 (m 1),o 14 (ia 1 12 13),o 15 (l 14),o 16 (.bslice 1 1 [(n 0)] [(0,(t 15))]),o 17 (.bslice 1 1 [(.nils 1)] [(0,(t 16))]),o 7 (m 17)]),
 (q [(.reg [o 18 (f 2 2),o 19 (l 18),o 20 (ln 19),o 21 (.mv (c (n 0)))]),
 (.block 0 (.loop (q [(.reg [o 22 (b .lss 21 20)]),
 (i 22 .skip (.exit 0)),
 (.block 1 (q [(.reg [o 23 (ia 1 19 21),o 24 (l 23),o 9 (m 24)]),
 (.reg [o 25 (m 7),o 26 (m 0),o 27 (m 9),o 28 (m 1),o 29 (ia 1 27 28),o 30 (l 29),o 31 (.call 49 [(t 26),(t 30)]),o 32 (.bslice 1 1 [(.nils 1)] [(0,(t 31))]),o 33 (.app 1 24 (t 25) (t 32)),o 7 (m 33)])])),
 (.reg [o 34 (bc .add 21 (n 1)),o 21 (m 34)])])))]),
 (q [(.reg [o 35 (l 3),o 36 (ln 35),o 37 (.mv (c (n 0)))]),
 (.block 2 (.loop (q [(.reg [o 38 (b .lss 37 36)]),
 (i 38 .skip (.exit 2)),
 (.block 3 (q [(.reg [o 39 (ia 1 35 37),o 40 (l 39),o 11 (m 40)]),
 (.reg [o 41 (m 7),o 42 (m 0),o 43 (m 11),o 44 (m 1),o 45 (ia 1 43 44),o 46 (l 45),o 47 (.call 49 [(t 42),(t 46)]),o 48 (.bslice 1 1 [(.nils 1)] [(0,(t 47))]),o 49 (.app 1 24 (t 41) (t 48)),o 7 (m 49)])])),
 (.reg [o 50 (bc .add 37 (n 1)),o 37 (m 50)])])))]),
 (.reg [o 51 (m 7),o 6 (m 51)]),
 .ret])⟩
def zju:CFn:=⟨26,[.tmp 4],(q [(.reg [o 4 (.mv (c (.nils 1)))]),
 (.reg [o 5 (.mv (c (.nils 1)))]),
 (q [(.reg [o 8 (m 1),o 9 (.call 98 [(t 8)]),o 10 (ln 9),o 11 (.mv (c (n 0)))]),
 (.block 0 (.loop (q [(.reg [o 12 (b .lss 11 10)]),
 (i 12 .skip (.exit 0)),
 (.block 1 (q [(.reg [o 13 (ia 1 9 11),o 14 (l 13),o 7 (m 14)]),
 (.reg [o 15 (m 5),o 16 (m 0),o 17 (m 7),o 18 (ia 1 16 17),o 19 (l 18),o 20 (.bslice 1 1 [(n 0)] [(0,(t 19))]),o 21 (.app 1 8 (t 15) (t 20)),o 5 (m 21)])])),
 (.reg [o 22 (bc .add 11 (n 1)),o 11 (m 22)])])))]),
 (.reg [o 23 (m 5),o 24 (.call 100 [(t 23)])]),
 (.reg [o 25 (m 5),o 4 (m 25)]),
 .ret])⟩
def zjt:CFn:=⟨29,[],(q [(.reg [o 3 (.box 3 (t 0)),o 4 (.box 3 (t 1)),o 5 (.box 1 (t 2))]),
 (.reg [o 14 (la 3 3),o 15 (.call 15 [(t 14)]),o 13 (m 15),o 16 (e 13 0),o 17 (e 13 1),o 6 (.alloc [(.nils 1)]),w (.store 1 (t 6) (t 16)),o 7 (m 17)]),
 (.reg [o 19 (la 3 4),o 20 (.call 15 [(t 19)]),o 18 (m 20),o 21 (e 18 0),o 22 (e 18 1),o 8 (.alloc [(.nils 1)]),w (.store 1 (t 8) (t 21)),o 9 (m 22)]),
 (.reg [o 23 (f 0 3),o 24 (l 23),o 25 (.mkslice 1 8 [(n 0)] (c (n 0)) (t 24)),o 10 (.alloc [(.nils 1)]),w (.store 1 (t 10) (t 25))]),
 (.reg [o 11 (.alloc [(u 0)])]),
 (.reg [o 12 (.alloc [(.d .nil)])]),
 (.reg [o 26 (.fnew zaT [(t 10),(t 3),(t 5),(t 4),(t 11),(t 6),(t 8),(t 12)]),w (.store 1 (t 12) (t 26))]),
 (.reg [o 27 (l 12),o 28 (.callv (t 27) [])])])⟩
def zeY:CFn:=⟨6,[.tmp 3],(q [(.reg [o 3 (.mv (c .bf))]),
 (.reg [o 4 (l 1),o 5 (bc .add 4 (n 1)),w (.store 1 (t 1) (t 5))]),
 (.reg [o 3 (.mv (c .bt))]),
 .ret])⟩
def zkG:CFn:=⟨33,[.tmp 4],(q [(.reg [o 2 (.box 3 (t 0)),o 3 (.box 3 (t 1)),o 4 (.mv (c (n 0)))]),
 (q [(.reg [o 7 (la 3 2),o 8 (.call 32 [(t 7)]),o 5 (m 8)]),
 (.reg [o 9 (m 5),o 10 (bc .neq 9 (n 0))]),
 (i 10 (q [(.reg [o 11 (m 5),o 4 (m 11)]),
 .ret]) .skip)]),
 (q [(.reg [o 12 (la 3 3),o 13 (.call 32 [(t 12)]),o 6 (m 13)]),
 (.reg [o 14 (m 6),o 15 (bc .neq 14 (n 0))]),
 (i 15 (q [(.reg [o 16 (m 6),o 4 (m 16)]),
 .ret]) .skip)]),
 (q [(.reg [o 17 (f 2 2),o 18 (l 17),o 19 (ln 18),o 20 (f 2 3),o 21 (l 20),o 22 (ln 21),o 23 (b .neq 19 22),o 24 (m 23),g 25 24 false (f 1 2),g 26 24 false (l 25),g 27 24 false (ln 26),g 28 24 false (f 1 3),g 29 24 false (l 28),g 30 24 false (ln 29),g 31 24 false (b .neq 27 30),o 32 (pt 24 31)]),
 (i 32 (q [(.reg [o 4 (.mv (c (n 1)))]),
 .ret]) .skip)]),
 (.reg [o 4 (.mv (c (n 0)))]),
 .ret])⟩
def zkH:CFn:=⟨89,[.tmp 8],(q [(.reg [o 4 (.box 3 (t 0)),o 5 (.box 3 (t 1)),o 8 (.mv (c .bf))]),
 (q [(.regd [o 12 (la 3 4),o 13 (m 3),o 14 (.call 31 [(t 12),(t 13)]),o 15 (la 3 5),o 16 (m 2),o 17 (m 3),o 18 (ia 1 16 17),o 19 (l 18),o 20 (.call 31 [(t 15),(t 19)]),o 21 (b .neq 14 20)] [0,0,3,0,0,0,48,112,255,511]),
 (i 21 (q [(.reg [o 8 (.mv (c .bf))]),
 .ret]) .skip)]),
 (q [(.reg [o 22 (f 2 4),o 23 (l 22),o 24 (ln 23),o 25 (.mv (c (n 0)))]),
 (.block 0 (.loop (q [(.reg [o 26 (b .lss 25 24)]),
 (i 26 .skip (.exit 0)),
 (.block 1 (q [(.reg [o 27 (m 25),o 28 (ia 1 23 25),o 29 (l 28),o 9 (m 27),o 10 (m 29)]),
 (.reg [o 30 (m 3),o 31 (bc .add 30 (n 1)),o 32 (.mv (c (n 0)))]),
 (.block 2 (.loop (q [(.reg [o 33 (b .lss 32 31)]),
 (i 33 .skip (.exit 2)),
 (.block 3 (q [(.reg [o 34 (m 32),o 11 (m 34)]),
 (.regd [o 35 (m 10),o 36 (m 3),o 37 (ia 1 35 36),o 38 (l 37),o 39 (m 11),o 40 (b .shr 38 39),o 41 (bc .and 40 (u 1)),o 42 (f 2 5),o 43 (l 42),o 44 (m 9),o 45 (ia 1 43 44),o 46 (l 45),o 47 (m 2),o 48 (m 3),o 49 (ia 1 47 48),o 50 (l 49),o 51 (ia 1 46 50),o 52 (l 51),o 53 (m 2),o 54 (m 11),o 55 (ia 1 53 54),o 56 (l 55),o 57 (b .shr 52 56),o 58 (bc .and 57 (u 1)),o 59 (b .neq 41 58),o 60 (m 59),g 61 60 false (m 10),g 62 60 false (m 11),g 63 60 false (ia 1 61 62),g 64 60 false (l 63),g 65 60 false (m 3),g 66 60 false (b .shr 64 65),g 67 60 false (bc .and 66 (u 1)),g 68 60 false (f 2 5),g 69 60 false (l 68),g 70 60 false (m 9),g 71 60 false (ia 1 69 70),g 72 60 false (l 71),g 73 60 false (m 2),g 74 60 false (m 11),g 75 60 false (ia 1 73 74),g 76 60 false (l 75),g 77 60 false (ia 1 72 76),g 78 60 false (l 77),g 79 60 false (m 2),g 80 60 false (m 3),g 81 60 false (ia 1 79 80),g 82 60 false (l 81),g 83 60 false (b .shr 78 82),g 84 60 false (bc .and 83 (u 1)),g 85 60 false (b .neq 67 84),o 86 (pt 60 85)] [0,0,3,7,0,31,63,0,128,0,896,1920,0,0,12288,28672,65408,130944,0,0,786432,1835008,4194176,8388480,16777215,33554431,67108863,67108863,268435455,536870911,67108863,2147483647,4294967295,67108863,8657043455,67108863,60196651007,128916127743,67108863,67108863,824700829695,1924212457471,4389523685375,8787570196479,67108863,67108863,52776625242111,123145369419775,281466453884927,562941430595583,1125899906842623,2251799813685247]),
 (i 86 (q [(.reg [o 8 (.mv (c .bf))]),
 .ret]) .skip)])),
 (.reg [o 87 (bc .add 32 (n 1)),o 32 (m 87)])])))])),
 (.reg [o 88 (bc .add 25 (n 1)),o 25 (m 88)])])))]),
 (.reg [o 8 (.mv (c .bt))]),
 .ret])⟩
def zgb:CFn:=⟨5,[.tmp 3],(q [(.reg [o 3 (.mv (c .bf))]),
 (.reg [o 4 (m 0),w (.store 1 (t 1) (t 4))]),
 (.reg [o 3 (.mv (c .bf))]),
 .ret])⟩
def zgT:CFn:=⟨20,[.tmp 4],(q [(.reg [o 4 (.mv (c .bf))]),
 (q [(.reg [o 5 (.mv (c (n 0)))]),
 (.block 0 (.loop (q [(q [(.reg [o 6 (m 5),o 7 (m 0),o 8 (ln 7),o 9 (b .lss 6 8)]),
 (i 9 .skip (.exit 0))]),
 (.block 1 (q [(.regd [o 12 (m 0),o 13 (m 5),o 14 (ia 1 12 13),o 15 (l 14),o 16 (m 1),o 17 (.call 112 [(t 16)]),o 18 (b .andNot 15 17),o 19 (bc .neq 18 (u 0))] [0,0,3,7,0,16,63,127]),
 (i 19 (q [(.reg [o 4 (.mv (c .bt))]),
 .ret]) .skip)])),
 (.reg [o 10 (m 5),o 11 (bc .add 10 (n 1)),o 5 (m 11)])])))]),
 (.reg [o 4 (.mv (c .bf))]),
 .ret])⟩
def zfh:CFn:=⟨12,[.tmp 3],(q [(.reg [o 3 (.mv (c (n 0)))]),
 (q [(.reg [o 4 (m 0),o 5 (l 1),o 6 (ln 5),o 7 (b .lss 4 6)]),
 (i 7 (q [(.reg [o 8 (l 1),o 9 (m 0),o 10 (ia 1 8 9),o 11 (l 10),o 3 (m 11)]),
 .ret]) .skip)]),
 (.reg [o 3 (.mv (c (n 0)))]),
 .ret])⟩
def zdw:CFn:=⟨9,[],(.reg [o 4 (m 0),o 5 (m 0),o 6 (ln 5),o 7 (m 1),o 8 (.call 117 [(t 4),(t 6),(t 7)])])⟩
def zfi:CFn:=⟨20,[.tmp 5],(q [(.reg [o 5 (.mv (c (n 0)))]),
 (q [(.regd [o 6 (l 2),o 7 (m 0),o 8 (.callv (t 6) [(t 7)]),o 9 (l 2),o 10 (m 1),o 11 (.callv (t 9) [(t 10)]),o 12 (b .neq 8 11)] [0,0,3,0,0,31,63]),
 (i 12 (q [(q [(.regd [o 13 (l 2),o 14 (m 0),o 15 (.callv (t 13) [(t 14)]),o 16 (l 2),o 17 (m 1),o 18 (.callv (t 16) [(t 17)]),o 19 (b .lss 15 18)] [0,0,3,0,0,31,63]),
 (i 19 (q [(.reg [o 5 (.mv (c (n (-1))))]),
 .ret]) .skip)]),
 (.reg [o 5 (.mv (c (n 1)))]),
 .ret]) .skip)]),
 (.reg [o 5 (.mv (c (n 0)))]),
 .ret])⟩
def zon:CFn:=⟨8,[.tmp 2],(q [(.reg [o 2 (.mv (c (u 0)))]),
 (q [(.reg [o 3 (m 0),o 4 (bc .geq 3 (n 64))]),
 (i 4 (q [(.reg [o 2 (.mv (c (u 18446744073709551615)))]),
 .ret]) .skip)]),
 (.reg [o 5 (m 0),o 6 (.bin .shl (c (u 1)) (t 5)),o 7 (bc .sub 6 (u 1)),o 2 (m 7)]),
 .ret])⟩
def zkL:CFn:=⟨8,[.tmp 4],(q [(.reg [o 3 (.box 1 (t 1)),o 4 (.mv (c .bf))]),
 (.reg [o 5 (m 0),o 6 (.fnew zb6 [(t 3)]),o 7 (.call 118 [(t 5),(t 6)]),o 4 (m 7)]),
 .ret])⟩
def zcx:CFn:=⟨9,[.tmp 4],(q [(.reg [o 4 (.mv (c .bf))]),
 (.reg [o 5 (m 0),o 6 (m 1),o 7 (.call 120 [(t 5),(t 6)]),o 8 (bc .geq 7 (n 0)),o 4 (m 8)]),
 .ret])⟩
def zkJ:CFn:=⟨8,[.tmp 3],(q [(.reg [o 3 (.mv (c .bf))]),
 (.reg [o 4 (m 0),o 5 (f 0 1),o 6 (l 5),o 7 (.call 75 [(t 4),(t 6)]),o 3 (m 7)]),
 .ret])⟩
def zkK:CFn:=⟨63,[.cell 4 (some 3)],(q [(.reg [o 2 (.box 3 (t 0)),o 4 (.alloc [(n 0),(.nils 1),(.nils 1)])]),
 (.reg [o 13 (m 1),o 14 (ln 13),o 15 (.build [(n 0),(.nils 1),(.nils 1)] [(0,1,(t 14))]),o 5 (.alloc [(n 0),(.nils 1),(.nils 1)]),w (.store 3 (t 5) (t 15))]),
 (q [(.reg [o 16 (f 1 2),o 17 (l 16),o 18 (ln 17),o 19 (.mv (c (n 0)))]),
 (.block 0 (.loop (q [(.reg [o 20 (b .lss 19 18)]),
 (i 20 .skip (.exit 0)),
 (.block 1 (q [(.reg [o 21 (ia 1 17 19),o 22 (l 21),o 7 (m 22)]),
 (.regd [o 23 (f 1 5),o 24 (l 23),o 25 (m 7),o 26 (m 1),o 27 (.call 121 [(t 25),(t 26)]),o 28 (.bslice 1 1 [(u 0)] [(0,(t 27))]),o 29 (.app 1 8 (t 24) (t 28)),o 30 (f 1 5),w (.store 1 (t 30) (t 29))] [0,1,0,0,12,28,63,127,255])])),
 (.reg [o 31 (bc .add 19 (n 1)),o 19 (m 31)])])))]),
 (q [(.reg [o 32 (f 2 2),o 33 (l 32),o 34 (ln 33),o 35 (.mv (c (n 0)))]),
 (.block 2 (.loop (q [(.reg [o 36 (b .lss 35 34)]),
 (i 36 .skip (.exit 2)),
 (.block 3 (q [(.reg [o 37 (ia 1 33 35),o 38 (l 37),o 9 (m 38)]),
 (.reg [o 10 (.mv (c (.nils 1)))]),
 (q [(.reg [o 39 (m 1),o 40 (ln 39),o 41 (.mv (c (n 0)))]),
 (.block 4 (.loop (q [(.reg [o 42 (b .lss 41 40)]),
 (i 42 .skip (.exit 4)),
 (.block 5 (q [(.reg [o 43 (ia 1 39 41),o 44 (l 43),o 12 (m 44)]),
 (.reg [o 45 (m 10),o 46 (m 9),o 47 (m 12),o 48 (ia 1 46 47),o 49 (l 48),o 50 (m 1),o 51 (.call 121 [(t 49),(t 50)]),o 52 (.bslice 1 1 [(u 0)] [(0,(t 51))]),o 53 (.app 1 8 (t 45) (t 52)),o 10 (m 53)])])),
 (.reg [o 54 (bc .add 41 (n 1)),o 41 (m 54)])])))]),
 (.reg [o 55 (f 2 5),o 56 (l 55),o 57 (m 10),o 58 (.bslice 1 1 [(.nils 1)] [(0,(t 57))]),o 59 (.app 1 24 (t 56) (t 58)),o 60 (f 2 5),w (.store 1 (t 60) (t 59))])])),
 (.reg [o 61 (bc .add 35 (n 1)),o 35 (m 61)])])))]),
 (.reg [o 62 (la 3 5),w (.store 3 (t 4) (t 62))]),
 .ret])⟩
def zii:CFn:=⟨16,[.tmp 2],(q [(.reg [o 2 (.mv (c (.nils 1)))]),
 (.reg [o 3 (.mv (c (.nils 1)))]),
 (.block 0 (.loop (q [(q [(.reg [o 4 (m 0),o 5 (bc .neq 4 (u 0))]),
 (i 5 .skip (.exit 0))]),
 (.block 1 (.reg [o 10 (m 3),o 11 (m 0),o 12 (.call 74 [(t 11)]),o 13 (.bslice 1 1 [(n 0)] [(0,(t 12))]),o 14 (.app 1 8 (t 10) (t 13)),o 3 (m 14)])),
 (.reg [o 6 (m 0),o 7 (m 0),o 8 (bc .sub 7 (u 1)),o 9 (b .and 6 8),o 0 (m 9)])]))),
 (.reg [o 15 (m 3),o 2 (m 15)]),
 .ret])⟩
def zjY:CFn:=⟨37,[.tmp 2,.tmp 3],(q [(.reg [o 2 (.mv (c (.nils 1))),o 3 (.mv (c (n 0)))]),
 (.reg [o 8 (m 0),o 9 (.call 133 [(t 8)]),o 4 (m 9)]),
 (.reg [o 10 (m 4),o 11 (.call 134 [(t 10),(c (.fn zE []))])]),
 (.reg [o 12 (m 4),o 13 (.call 136 [(t 12),(c (.fn zbL []))]),o 4 (m 13)]),
 (.reg [o 14 (m 0),o 15 (ln 14),o 16 (.mkslice 1 8 [(n 0)] (t 15) (t 15)),o 5 (m 16)]),
 (q [(.reg [o 17 (m 0),o 18 (ln 17),o 19 (.mv (c (n 0)))]),
 (.block 0 (.loop (q [(.reg [o 20 (b .lss 19 18)]),
 (i 20 .skip (.exit 0)),
 (.block 1 (q [(.reg [o 21 (m 19),o 22 (ia 1 17 19),o 23 (l 22),o 6 (m 21),o 7 (m 23)]),
 (.reg [o 25 (m 5),o 26 (m 6),o 27 (m 4),o 28 (m 7),o 29 (.call 138 [(t 27),(t 28),(c (.fn zE []))]),o 24 (m 29),o 30 (e 24 0),o 31 (e 24 1),o 32 (ia 1 25 26),w (.store 1 (t 32) (t 30))])])),
 (.reg [o 33 (bc .add 19 (n 1)),o 19 (m 33)])])))]),
 (.reg [o 34 (m 5),o 35 (m 4),o 36 (ln 35),o 2 (m 34),o 3 (m 36)]),
 .ret])⟩
def zgd:CFn:=⟨11,[],(q [(.reg [o 3 (m 0),o 4 (ln 3),o 2 (m 4)]),
 (.reg [o 5 (m 0),o 6 (m 2),o 7 (m 2),o 8 (.conv .u64 (t 7)),o 9 (.call 140 [(t 8)]),o 10 (.call 139 [(t 5),(c (n 0)),(t 6),(t 9)])])])⟩
def zh9:CFn:=⟨66,[.tmp 8],(q [(.reg [o 8 (.mv (c .bf))]),
 (.reg [o 11 (l 0),o 12 (ln 11),o 9 (m 12)]),
 (q [(.reg [o 13 (m 9),o 14 (f 0 1),o 15 (l 14),o 16 (b .eql 13 15)]),
 (i 16 (q [(.regd [o 17 (l 2),o 18 (l 0),o 19 (.call 105 [(t 18)]),o 20 (.callv (t 17) [(t 19)]),o 8 (m 20)] [0,0,2,7,15]),
 .ret]) .skip)]),
 .skip,
 (q [(.reg [o 21 (f 0 3),o 22 (l 21),o 23 (.mv (c (n 0)))]),
 (.block 0 (.loop (q [(.reg [o 24 (b .lss 23 22)]),
 (i 24 .skip (.exit 0)),
 (.block 1 (q [(.reg [o 25 (m 23),o 10 (m 25)]),
 (q [(.regd [o 26 (l 4),o 27 (m 10),o 28 (b .shr 26 27),o 29 (bc .and 28 (u 1)),o 30 (bc .eql 29 (u 1)),o 31 (m 30),g 32 31 false (l 5),g 33 31 false (m 9),g 34 31 false (ia 1 32 33),g 35 31 false (l 34),g 36 31 false (l 6),g 37 31 false (m 10),g 38 31 false (ia 1 36 37),g 39 31 false (l 38),g 40 31 false (b .neq 35 39),o 41 (pt 31 40)] [0,0,3,7,15,31,63,63,255,511,63,63,3135,7231,16383,32767]),
 (i 41 (.exit 1) .skip)]),
 (.reg [o 42 (l 0),o 43 (m 10),o 44 (.bslice 1 1 [(n 0)] [(0,(t 43))]),o 45 (.app 1 8 (t 42) (t 44)),w (.store 1 (t 0) (t 45))]),
 (q [(.reg [o 46 (la 3 1),o 47 (la 3 3),o 48 (l 0),o 49 (m 9),o 50 (.call 58 [(t 46),(t 47),(t 48),(t 49)])]),
 (i 50 (q [(.regd [o 51 (l 4),o 52 (m 10),o 53 (.bin .shl (c (u 1)) (t 52)),o 54 (b .or 51 53),w (.store 1 (t 4) (t 54))] [0,0,2,7,15]),
 (q [(.reg [o 55 (l 7),o 56 (.callv (t 55) []),o 57 (.un .not (t 56))]),
 (i 57 (q [(.reg [o 8 (.mv (c .bf))]),
 .ret]) .skip)]),
 (.regd [o 58 (l 4),o 59 (m 10),o 60 (.bin .shl (c (u 1)) (t 59)),o 61 (b .andNot 58 60),w (.store 1 (t 4) (t 61))] [0,0,2,7,15])]) .skip)]),
 (.reg [o 62 (l 0),o 63 (m 9),o 64 (.slice 1 (t 62) none (some (t 63))),w (.store 1 (t 0) (t 64))])])),
 (.reg [o 65 (bc .add 23 (n 1)),o 23 (m 65)])])))]),
 (.reg [o 8 (.mv (c .bt))]),
 .ret])⟩
def zfL:CFn:=⟨8,[.tmp 2],(q [(.reg [o 2 (.mv (c (.nils 1)))]),
 (q [(.reg [o 3 (m 0),o 4 (.eqN false (t 3) (c (.nils 1)))]),
 (i 4 (q [(.reg [o 2 (.mv (c (.nils 1)))]),
 .ret]) .skip)]),
 (.reg [o 5 (.bslice 1 0 [(n 0)] []),o 6 (m 0),o 7 (.app 1 8 (t 5) (t 6)),o 2 (m 7)]),
 .ret])⟩
def zil:CFn:=⟨8,[.tmp 2],(q [(.reg [o 2 (.mv (c (u 0)))]),
 (q [(.reg [o 3 (m 0),o 4 (bc .geq 3 (n 64))]),
 (i 4 (q [(.reg [o 2 (.mv (c (u 18446744073709551615)))]),
 .ret]) .skip)]),
 (.reg [o 5 (m 0),o 6 (.bin .shl (c (u 1)) (t 5)),o 7 (bc .sub 6 (u 1)),o 2 (m 7)]),
 .ret])⟩
def zeL:CFn:=⟨63,[],(q [(.reg [o 6 (.mv (c (n 20)))]),
 (.reg [o 10 (m 6),o 7 (.mv (c (n 0))),o 8 (m 10)]),
 (.block 0 (.loop (q [(q [(.reg [o 11 (m 8),o 12 (m 1),o 13 (b .leq 11 12)]),
 (i 13 .skip (.exit 0))]),
 (.block 1 (q [(.reg [o 14 (m 0),o 15 (m 7),o 16 (m 8),o 17 (m 2),o 18 (.call 145 [(t 14),(t 15),(t 16),(t 17)])]),
 (.reg [o 19 (m 8),o 7 (m 19)]),
 (.reg [o 20 (m 8),o 21 (m 6),o 22 (b .add 20 21),o 8 (m 22)])]))]))),
 (.reg [o 23 (m 0),o 24 (m 7),o 25 (m 1),o 26 (m 2),o 27 (.call 145 [(t 23),(t 24),(t 25),(t 26)])]),
 (.block 2 (.loop (q [(q [(.reg [o 28 (m 6),o 29 (m 1),o 30 (b .lss 28 29)]),
 (i 30 .skip (.exit 2))]),
 (.block 3 (q [(.reg [o 31 (m 6),o 32 (.bin .mul (c (n 2)) (t 31)),o 7 (.mv (c (n 0))),o 8 (m 32)]),
 (.block 4 (.loop (q [(q [(.reg [o 33 (m 8),o 34 (m 1),o 35 (b .leq 33 34)]),
 (i 35 .skip (.exit 4))]),
 (.block 5 (q [(.reg [o 36 (m 0),o 37 (m 7),o 38 (m 7),o 39 (m 6),o 40 (b .add 38 39),o 41 (m 8),o 42 (m 2),o 43 (.call 146 [(t 36),(t 37),(t 40),(t 41),(t 42)])]),
 (.reg [o 44 (m 8),o 7 (m 44)]),
 (.reg [o 45 (m 8),o 46 (m 6),o 47 (.bin .mul (c (n 2)) (t 46)),o 48 (b .add 45 47),o 8 (m 48)])]))]))),
 (q [(.reg [o 49 (m 7),o 50 (m 6),o 51 (b .add 49 50),o 9 (m 51)]),
 (.reg [o 52 (m 9),o 53 (m 1),o 54 (b .lss 52 53)]),
 (i 54 (.reg [o 55 (m 0),o 56 (m 7),o 57 (m 9),o 58 (m 1),o 59 (m 2),o 60 (.call 146 [(t 55),(t 56),(t 57),(t 58),(t 59)])]) .skip)]),
 (.reg [o 61 (m 6),o 62 (bc .mul 61 (n 2)),o 6 (m 62)])]))])))])⟩
def zcN:CFn:=⟨9,[.tmp 4],(q [(.reg [o 4 (.mv (c .bf))]),
 (.reg [o 5 (m 0),o 6 (m 1),o 7 (.call 147 [(t 5),(t 6)]),o 8 (bc .geq 7 (n 0)),o 4 (m 8)]),
 .ret])⟩
def zjv:CFn:=⟨9,[.tmp 3],(q [(.reg [o 3 (.mv (c .bf))]),
 (.reg [o 4 (m 0),o 5 (l 1),o 6 (.call 73 [(t 5)]),o 7 (b .andNot 4 6),o 8 (bc .neq 7 (u 0)),o 3 (m 8)]),
 .ret])⟩
def zcS:CFn:=⟨19,[.tmp 4],(q [(.reg [o 4 (.mv (c (n 0)))]),
 (q [(.reg [o 6 (m 0),o 7 (ln 6),o 8 (.mv (c (n 0)))]),
 (.block 0 (.loop (q [(.reg [o 9 (b .lss 8 7)]),
 (i 9 .skip (.exit 0)),
 (.block 1 (q [(.reg [o 10 (m 8),o 5 (m 10)]),
 (.reg [o 11 (m 1),o 12 (m 0),o 13 (m 5),o 14 (ia 1 12 13),o 15 (l 14),o 16 (.callv (t 11) [(t 15)])]),
 (i 16 (q [(.reg [o 17 (m 5),o 4 (m 17)]),
 .ret]) .skip)])),
 (.reg [o 18 (bc .add 8 (n 1)),o 8 (m 18)])])))]),
 (.reg [o 4 (.mv (c (n (-1))))]),
 .ret])⟩
def zne:CFn:=⟨25,[.tmp 4],(q [(.reg [o 4 (.mv (c (u 0)))]),
 (.reg [o 5 (.mv (c (u 0)))]),
 (q [(.reg [o 8 (m 1),o 9 (ln 8),o 10 (.mv (c (n 0)))]),
 (.block 0 (.loop (q [(.reg [o 11 (b .lss 10 9)]),
 (i 11 .skip (.exit 0)),
 (.block 1 (q [(.reg [o 12 (m 10),o 13 (ia 1 8 10),o 14 (l 13),o 6 (m 12),o 7 (m 14)]),
 (.reg [o 15 (m 5),o 16 (m 0),o 17 (m 7),o 18 (b .shr 16 17),o 19 (bc .and 18 (u 1)),o 20 (m 6),o 21 (b .shl 19 20),o 22 (b .or 15 21),o 5 (m 22)])])),
 (.reg [o 23 (bc .add 10 (n 1)),o 10 (m 23)])])))]),
 (.reg [o 24 (m 5),o 4 (m 24)]),
 .ret])⟩
def zbC:CFn:=⟨8,[.tmp 2],(q [(.reg [o 2 (.mv (c (.nils 1)))]),
 (q [(.reg [o 3 (m 0),o 4 (.eqN false (t 3) (c (.nils 1)))]),
 (i 4 (q [(.reg [o 2 (.mv (c (.nils 1)))]),
 .ret]) .skip)]),
 (.reg [o 5 (.bslice 1 0 [(.nils 1)] []),o 6 (m 0),o 7 (.app 1 24 (t 5) (t 6)),o 2 (m 7)]),
 .ret])⟩
def zbl:CFn:=⟨14,[],(q [(.reg [o 5 (m 0),o 6 (ln 5),o 4 (m 6)]),
 (.reg [o 7 (m 0),o 8 (m 4),o 9 (m 4),o 10 (.conv .u64 (t 9)),o 11 (.call 140 [(t 10)]),o 12 (m 1),o 13 (.call 159 [(t 7),(c (n 0)),(t 8),(t 11),(t 12)])])])⟩
def zjX:CFn:=⟨8,[.tmp 4],(q [(.reg [o 4 (.mv (c (n 0)))]),
 (.reg [o 5 (m 0),o 6 (m 1),o 7 (.call 160 [(t 5),(t 6),(c (.fn za3 []))]),o 4 (m 7)]),
 .ret])⟩
def zbd:CFn:=⟨66,[.tmp 4],(q [(.reg [o 4 (.mv (c (.nils 1)))]),
 (q [(.reg [o 8 (m 0),o 9 (ln 8),o 10 (bc .lss 9 (n 2))]),
 (i 10 (q [(.reg [o 11 (m 0),o 4 (m 11)]),
 .ret]) .skip)]),
 (q [(.reg [o 5 (.mv (c (n 1)))]),
 (.block 0 (.loop (q [(q [(.reg [o 12 (m 5),o 13 (m 0),o 14 (ln 13),o 15 (b .lss 12 14)]),
 (i 15 .skip (.exit 0))]),
 (.block 1 (q [(.regd [o 18 (m 1),o 19 (m 0),o 20 (m 5),o 21 (ia 1 19 20),o 22 (l 21),o 23 (m 0),o 24 (m 5),o 25 (bc .sub 24 (n 1)),o 26 (ia 1 23 25),o 27 (l 26),o 28 (.callv (t 18) [(t 22),(t 27)])] [0,0,0,6,14,0,0,64,224,480,1023]),
 (i 28 (q [(.reg [o 29 (m 0),o 30 (m 5),o 31 (.slice 1 (t 29) (some (t 30)) none),o 6 (m 31)]),
 (q [(.reg [o 7 (.mv (c (n 1)))]),
 (.block 2 (.loop (q [(q [(.reg [o 32 (m 7),o 33 (m 6),o 34 (ln 33),o 35 (b .lss 32 34)]),
 (i 35 .skip (.exit 2))]),
 (.block 3 (q [(.regd [o 38 (m 1),o 39 (m 6),o 40 (m 7),o 41 (ia 1 39 40),o 42 (l 41),o 43 (m 6),o 44 (m 7),o 45 (bc .sub 44 (n 1)),o 46 (ia 1 43 45),o 47 (l 46),o 48 (.callv (t 38) [(t 42),(t 47)]),o 49 (.un .not (t 48))] [0,0,0,6,14,0,0,64,224,480,1023,2047]),
 (i 49 (q [(.reg [o 50 (m 0),o 51 (m 5),o 52 (m 6),o 53 (m 7),o 54 (ia 1 52 53),o 55 (l 54),o 56 (ia 1 50 51),w (.store 1 (t 56) (t 55))]),
 (.reg [o 57 (m 5),o 58 (bc .add 57 (n 1)),o 5 (m 58)])]) .skip)])),
 (.reg [o 36 (m 7),o 37 (bc .add 36 (n 1)),o 7 (m 37)])])))]),
 (.reg [o 59 (m 0),o 60 (m 5),o 61 (.slice 1 (t 59) (some (t 60)) none),w (.clear 1 [(.nils 1)] (t 61))]),
 (.reg [o 62 (m 0),o 63 (m 5),o 64 (.slice 1 (t 62) none (some (t 63))),o 4 (m 64)]),
 .ret]) .skip)])),
 (.reg [o 16 (m 5),o 17 (bc .add 16 (n 1)),o 5 (m 17)])])))]),
 (.reg [o 65 (m 0),o 4 (m 65)]),
 .ret])⟩
def zik:CFn:=⟨9,[.tmp 4],(q [(.reg [o 4 (.mv (c .bf))]),
 (.reg [o 5 (m 0),o 6 (m 1),o 7 (.call 135 [(t 5),(t 6)]),o 8 (bc .eql 7 (n 0)),o 4 (m 8)]),
 .ret])⟩
def zae:CFn:=⟨49,[.tmp 6,.tmp 7],(q [(.reg [o 6 (.mv (c (n 0))),o 7 (.mv (c .bf))]),
 (.reg [o 12 (m 0),o 13 (ln 12),o 8 (m 13)]),
 (.reg [o 14 (m 8),o 9 (.mv (c (n 0))),o 10 (m 14)]),
 (.block 0 (.loop (q [(q [(.reg [o 15 (m 9),o 16 (m 10),o 17 (b .lss 15 16)]),
 (i 17 .skip (.exit 0))]),
 (.block 1 (q [(.reg [o 18 (m 9),o 19 (m 10),o 20 (b .add 18 19),o 21 (.conv .u64 (t 20)),o 22 (bc .shr 21 (u 1)),o 23 (.conv .i64 (t 22)),o 11 (m 23)]),
 (.reg [o 24 (m 2),o 25 (m 0),o 26 (m 11),o 27 (ia 1 25 26),o 28 (l 27),o 29 (m 1),o 30 (.callv (t 24) [(t 28),(t 29)]),o 31 (bc .lss 30 (n 0))]),
 (i 31 (.reg [o 32 (m 11),o 33 (bc .add 32 (n 1)),o 9 (m 33)]) (.reg [o 34 (m 11),o 10 (m 34)]))]))]))),
 (.reg [o 35 (m 9),o 36 (m 9),o 37 (m 8),o 38 (b .lss 36 37),o 39 (m 38),g 40 39 true (m 2),g 41 39 true (m 0),g 42 39 true (m 9),g 43 39 true (ia 1 41 42),g 44 39 true (l 43),g 45 39 true (m 1),g 46 39 true (.callv (t 40) [(t 44),(t 45)]),g 47 39 true (bc .eql 46 (n 0)),o 48 (pf 39 47),o 6 (m 35),o 7 (m 48)]),
 .ret])⟩
def zej:CFn:=⟨134,[],(q [(.reg [o 8 (.mv (c .bt))]),
 (.reg [o 9 (.mv (c .bt))]),
 (.block 0 (.loop (.block 1 (q [(.reg [o 19 (m 2),o 20 (m 1),o 21 (b .sub 19 20),o 10 (m 21)]),
 (q [(.reg [o 22 (m 10),o 23 (bc .leq 22 (n 12))]),
 (i 23 (q [(.reg [o 24 (m 0),o 25 (m 1),o 26 (m 2),o 27 (.call 164 [(t 24),(t 25),(t 26)])]),
 .ret]) .skip)]),
 (q [(.reg [o 28 (m 3),o 29 (bc .eql 28 (n 0))]),
 (i 29 (q [(.reg [o 30 (m 0),o 31 (m 1),o 32 (m 2),o 33 (.call 165 [(t 30),(t 31),(t 32)])]),
 .ret]) .skip)]),
 (q [(.reg [o 34 (m 8),o 35 (.un .not (t 34))]),
 (i 35 (q [(.reg [o 36 (m 0),o 37 (m 1),o 38 (m 2),o 39 (.call 166 [(t 36),(t 37),(t 38)])]),
 (.reg [o 40 (m 3),o 41 (bc .sub 40 (n 1)),o 3 (m 41)])]) .skip)]),
 (.reg [o 43 (m 0),o 44 (m 1),o 45 (m 2),o 46 (.call 167 [(t 43),(t 44),(t 45)]),o 42 (m 46),o 47 (e 42 0),o 48 (e 42 1),o 11 (m 47),o 12 (m 48)]),
 (q [(.reg [o 49 (m 12),o 50 (bc .eql 49 (n 2))]),
 (i 50 (q [(.reg [o 51 (m 0),o 52 (m 1),o 53 (m 2),o 54 (.call 168 [(t 51),(t 52),(t 53)])]),
 (.reg [o 55 (m 2),o 56 (bc .sub 55 (n 1)),o 57 (m 11),o 58 (m 1),o 59 (b .sub 57 58),o 60 (b .sub 56 59),o 11 (m 60)]),
 (.reg [o 12 (.mv (c (n 1)))])]) .skip)]),
 (q [(.reg [o 61 (m 8),o 62 (m 61),g 63 62 true (m 9),o 64 (pf 62 63),o 65 (m 64),g 66 65 true (m 12),g 67 65 true (bc .eql 66 (n 1)),o 68 (pf 65 67)]),
 (i 68 (q [(.reg [o 69 (m 0),o 70 (m 1),o 71 (m 2),o 72 (.call 169 [(t 69),(t 70),(t 71)])]),
 (i 72 .ret .skip)]) .skip)]),
 (q [(.regd [o 73 (m 1),o 74 (bc .gtr 73 (n 0)),o 75 (m 74),g 76 75 true (m 0),g 77 75 true (m 1),g 78 75 true (bc .sub 77 (n 1)),g 79 75 true (ia 1 76 78),g 80 75 true (l 79),g 81 75 true (m 0),g 82 75 true (m 11),g 83 75 true (ia 1 81 82),g 84 75 true (l 83),g 85 75 true (.call 170 [(t 80),(t 84)]),g 86 75 true (.un .not (t 85)),o 87 (pf 75 86)] [0,1,3,7,7,23,63,127,7,7,775,1799,4095,8191,16383]),
 (i 87 (q [(.reg [o 88 (m 0),o 89 (m 1),o 90 (m 2),o 91 (m 11),o 92 (.call 171 [(t 88),(t 89),(t 90),(t 91)]),o 13 (m 92)]),
 (.reg [o 93 (m 13),o 1 (m 93)]),
 (.exit 1)]) .skip)]),
 (.reg [o 95 (m 0),o 96 (m 1),o 97 (m 2),o 98 (m 11),o 99 (.call 172 [(t 95),(t 96),(t 97),(t 98)]),o 94 (m 99),o 100 (e 94 0),o 101 (e 94 1),o 14 (m 100),o 15 (m 101)]),
 (.reg [o 102 (m 15),o 9 (m 102)]),
 (.reg [o 103 (m 14),o 104 (m 1),o 105 (b .sub 103 104),o 106 (m 2),o 107 (m 14),o 108 (b .sub 106 107),o 16 (m 105),o 17 (m 108)]),
 (.reg [o 109 (m 10),o 110 (bc .quo 109 (n 8)),o 18 (m 110)]),
 (.reg [o 111 (m 16),o 112 (m 17),o 113 (b .lss 111 112)]),
 (i 113 (q [(.reg [o 114 (m 16),o 115 (m 18),o 116 (b .geq 114 115),o 8 (m 116)]),
 (.reg [o 117 (m 0),o 118 (m 1),o 119 (m 14),o 120 (m 3),o 121 (.call 139 [(t 117),(t 118),(t 119),(t 120)])]),
 (.reg [o 122 (m 14),o 123 (bc .add 122 (n 1)),o 1 (m 123)])]) (q [(.reg [o 124 (m 17),o 125 (m 18),o 126 (b .geq 124 125),o 8 (m 126)]),
 (.reg [o 127 (m 0),o 128 (m 14),o 129 (bc .add 128 (n 1)),o 130 (m 2),o 131 (m 3),o 132 (.call 139 [(t 127),(t 129),(t 130),(t 131)])]),
 (.reg [o 133 (m 14),o 2 (m 133)])]))]))))])⟩
def zkI:CFn:=⟨8,[.tmp 2],(q [(.reg [o 2 (.mv (c (n 0)))]),
 (.cond (c .bf) (q [(.reg [o 3 (m 0),o 4 (.conv .u32 (t 3)),o 5 (.call 173 [(t 4)]),o 2 (m 5)]),
 .ret]) .skip),
 (.reg [o 6 (m 0),o 7 (.call 92 [(t 6)]),o 2 (m 7)]),
 .ret])⟩
def zdm:CFn:=⟨53,[],(q [(.reg [o 10 (m 1),o 11 (bc .add 10 (n 1)),o 8 (m 11)]),
 (.block 0 (.loop (q [(q [(.reg [o 12 (m 8),o 13 (m 2),o 14 (b .lss 12 13)]),
 (i 14 .skip (.exit 0))]),
 (.block 1 (q [(.reg [o 17 (m 8),o 9 (m 17)]),
 (.block 2 (.loop (q [(q [(.regd [o 18 (m 9),o 19 (m 1),o 20 (b .gtr 18 19),o 21 (m 20),g 22 21 true (m 3),g 23 21 true (m 0),g 24 21 true (m 9),g 25 21 true (ia 1 23 24),g 26 21 true (l 25),g 27 21 true (m 0),g 28 21 true (m 9),g 29 21 true (bc .sub 28 (n 1)),g 30 21 true (ia 1 27 29),g 31 21 true (l 30),g 32 21 true (.callv (t 22) [(t 26),(t 31)]),g 33 21 true (bc .lss 32 (n 0)),o 34 (pf 21 33)] [0,0,3,7,15,15,15,111,239,15,15,1039,3599,7695,16383,32767,65535]),
 (i 34 .skip (.exit 2))]),
 (.block 3 (.regd [o 37 (m 0),o 38 (m 9),o 39 (m 0),o 40 (m 9),o 41 (bc .sub 40 (n 1)),o 42 (m 0),o 43 (m 9),o 44 (bc .sub 43 (n 1)),o 45 (ia 1 42 44),o 46 (l 45),o 47 (m 0),o 48 (m 9),o 49 (ia 1 47 48),o 50 (l 49),o 51 (ia 1 37 38),w (.store 1 (t 51) (t 46)),o 52 (ia 1 39 41),w (.store 1 (t 52) (t 50))] [0,0,0,0,8,0,0,64,224,480,0,0,3072,7168,16355,32739,65535,131071])),
 (.reg [o 35 (m 9),o 36 (bc .sub 35 (n 1)),o 9 (m 36)])])))])),
 (.reg [o 15 (m 8),o 16 (bc .add 15 (n 1)),o 8 (m 16)])])))])⟩
def zdl:CFn:=⟨19,[.tmp 4],(q [(.reg [o 4 (.mv (c (n 0)))]),
 (q [(.reg [o 6 (m 0),o 7 (ln 6),o 8 (.mv (c (n 0)))]),
 (.block 0 (.loop (q [(.reg [o 9 (b .lss 8 7)]),
 (i 9 .skip (.exit 0)),
 (.block 1 (q [(.reg [o 10 (m 8),o 5 (m 10)]),
 (.reg [o 11 (m 1),o 12 (m 0),o 13 (m 5),o 14 (ia 1 12 13),o 15 (l 14),o 16 (.callv (t 11) [(t 15)])]),
 (i 16 (q [(.reg [o 17 (m 5),o 4 (m 17)]),
 .ret]) .skip)])),
 (.reg [o 18 (bc .add 8 (n 1)),o 8 (m 18)])])))]),
 (.reg [o 4 (.mv (c (n (-1))))]),
 .ret])⟩
def zcy:CFn:=⟨148,[],(q [(.reg [o 10 (.mv (c .bt))]),
 (.reg [o 11 (.mv (c .bt))]),
 (.block 0 (.loop (.block 1 (q [(.reg [o 21 (m 2),o 22 (m 1),o 23 (b .sub 21 22),o 12 (m 23)]),
 (q [(.reg [o 24 (m 12),o 25 (bc .leq 24 (n 12))]),
 (i 25 (q [(.reg [o 26 (m 0),o 27 (m 1),o 28 (m 2),o 29 (m 4),o 30 (.call 183 [(t 26),(t 27),(t 28),(t 29)])]),
 .ret]) .skip)]),
 (q [(.reg [o 31 (m 3),o 32 (bc .eql 31 (n 0))]),
 (i 32 (q [(.reg [o 33 (m 0),o 34 (m 1),o 35 (m 2),o 36 (m 4),o 37 (.call 184 [(t 33),(t 34),(t 35),(t 36)])]),
 .ret]) .skip)]),
 (q [(.reg [o 38 (m 10),o 39 (.un .not (t 38))]),
 (i 39 (q [(.reg [o 40 (m 0),o 41 (m 1),o 42 (m 2),o 43 (m 4),o 44 (.call 185 [(t 40),(t 41),(t 42),(t 43)])]),
 (.reg [o 45 (m 3),o 46 (bc .sub 45 (n 1)),o 3 (m 46)])]) .skip)]),
 (.reg [o 48 (m 0),o 49 (m 1),o 50 (m 2),o 51 (m 4),o 52 (.call 186 [(t 48),(t 49),(t 50),(t 51)]),o 47 (m 52),o 53 (e 47 0),o 54 (e 47 1),o 13 (m 53),o 14 (m 54)]),
 (q [(.reg [o 55 (m 14),o 56 (bc .eql 55 (n 2))]),
 (i 56 (q [(.reg [o 57 (m 0),o 58 (m 1),o 59 (m 2),o 60 (m 4),o 61 (.call 187 [(t 57),(t 58),(t 59),(t 60)])]),
 (.reg [o 62 (m 2),o 63 (bc .sub 62 (n 1)),o 64 (m 13),o 65 (m 1),o 66 (b .sub 64 65),o 67 (b .sub 63 66),o 13 (m 67)]),
 (.reg [o 14 (.mv (c (n 1)))])]) .skip)]),
 (q [(.reg [o 68 (m 10),o 69 (m 68),g 70 69 true (m 11),o 71 (pf 69 70),o 72 (m 71),g 73 72 true (m 14),g 74 72 true (bc .eql 73 (n 1)),o 75 (pf 72 74)]),
 (i 75 (q [(.reg [o 76 (m 0),o 77 (m 1),o 78 (m 2),o 79 (m 4),o 80 (.call 188 [(t 76),(t 77),(t 78),(t 79)])]),
 (i 80 .ret .skip)]) .skip)]),
 (q [(.regd [o 81 (m 1),o 82 (bc .gtr 81 (n 0)),o 83 (m 82),g 84 83 true (m 4),g 85 83 true (m 0),g 86 83 true (m 1),g 87 83 true (bc .sub 86 (n 1)),g 88 83 true (ia 1 85 87),g 89 83 true (l 88),g 90 83 true (m 0),g 91 83 true (m 13),g 92 83 true (ia 1 90 91),g 93 83 true (l 92),g 94 83 true (.callv (t 84) [(t 89),(t 93)]),g 95 83 true (bc .lss 94 (n 0)),g 96 83 true (.un .not (t 95)),o 97 (pf 83 96)] [0,1,3,7,7,7,39,119,247,7,7,1543,3591,8191,16383,32767,65535]),
 (i 97 (q [(.reg [o 98 (m 0),o 99 (m 1),o 100 (m 2),o 101 (m 13),o 102 (m 4),o 103 (.call 189 [(t 98),(t 99),(t 100),(t 101),(t 102)]),o 15 (m 103)]),
 (.reg [o 104 (m 15),o 1 (m 104)]),
 (.exit 1)]) .skip)]),
 (.reg [o 106 (m 0),o 107 (m 1),o 108 (m 2),o 109 (m 13),o 110 (m 4),o 111 (.call 190 [(t 106),(t 107),(t 108),(t 109),(t 110)]),o 105 (m 111),o 112 (e 105 0),o 113 (e 105 1),o 16 (m 112),o 17 (m 113)]),
 (.reg [o 114 (m 17),o 11 (m 114)]),
 (.reg [o 115 (m 16),o 116 (m 1),o 117 (b .sub 115 116),o 118 (m 2),o 119 (m 16),o 120 (b .sub 118 119),o 18 (m 117),o 19 (m 120)]),
 (.reg [o 121 (m 12),o 122 (bc .quo 121 (n 8)),o 20 (m 122)]),
 (.reg [o 123 (m 18),o 124 (m 19),o 125 (b .lss 123 124)]),
 (i 125 (q [(.reg [o 126 (m 18),o 127 (m 20),o 128 (b .geq 126 127),o 10 (m 128)]),
 (.reg [o 129 (m 0),o 130 (m 1),o 131 (m 16),o 132 (m 3),o 133 (m 4),o 134 (.call 159 [(t 129),(t 130),(t 131),(t 132),(t 133)])]),
 (.reg [o 135 (m 16),o 136 (bc .add 135 (n 1)),o 1 (m 136)])]) (q [(.reg [o 137 (m 19),o 138 (m 20),o 139 (b .geq 137 138),o 10 (m 139)]),
 (.reg [o 140 (m 0),o 141 (m 16),o 142 (bc .add 141 (n 1)),o 143 (m 2),o 144 (m 3),o 145 (m 4),o 146 (.call 159 [(t 140),(t 142),(t 143),(t 144),(t 145)])]),
 (.reg [o 147 (m 16),o 2 (m 147)])]))]))))])⟩
def zfK:CFn:=⟨36,[.tmp 6],(q [(.reg [o 6 (.mv (c (n 0)))]),
 (q [(.reg [o 9 (m 0),o 10 (ln 9),o 11 (m 1),o 12 (ln 11),o 13 (.mm false (t 10) (t 12)),o 14 (.mv (c (n 0)))]),
 (.block 0 (.loop (q [(.reg [o 15 (b .lss 14 13)]),
 (i 15 .skip (.exit 0)),
 (.block 1 (q [(.reg [o 16 (m 14),o 7 (m 16)]),
 (.regd [o 17 (m 2),o 18 (m 0),o 19 (m 7),o 20 (ia 1 18 19),o 21 (l 20),o 22 (m 1),o 23 (m 7),o 24 (ia 1 22 23),o 25 (l 24),o 26 (.callv (t 17) [(t 21),(t 25)]),o 8 (m 26)] [0,0,0,6,14,0,0,96,224,511,1023]),
 (.reg [o 27 (m 8),o 28 (bc .neq 27 (n 0))]),
 (i 28 (q [(.reg [o 29 (m 8),o 6 (m 29)]),
 .ret]) .skip)])),
 (.reg [o 30 (bc .add 14 (n 1)),o 14 (m 30)])])))]),
 (.reg [o 31 (m 0),o 32 (ln 31),o 33 (m 1),o 34 (ln 33),o 35 (.call 163 [(t 32),(t 34)]),o 6 (m 35)]),
 .ret])⟩
def zij:CFn:=⟨8,[.tmp 4],(q [(.reg [o 4 (.mv (c (n 0)))]),
 (.reg [o 5 (m 0),o 6 (m 1),o 7 (.call 162 [(t 5),(t 6),(c (.fn za2 []))]),o 4 (m 7)]),
 .ret])⟩
def zgc:CFn:=⟨36,[.tmp 6],(q [(.reg [o 6 (.mv (c (n 0)))]),
 (q [(.reg [o 9 (m 0),o 10 (ln 9),o 11 (m 1),o 12 (ln 11),o 13 (.mm false (t 10) (t 12)),o 14 (.mv (c (n 0)))]),
 (.block 0 (.loop (q [(.reg [o 15 (b .lss 14 13)]),
 (i 15 .skip (.exit 0)),
 (.block 1 (q [(.reg [o 16 (m 14),o 7 (m 16)]),
 (.regd [o 17 (m 2),o 18 (m 0),o 19 (m 7),o 20 (ia 1 18 19),o 21 (l 20),o 22 (m 1),o 23 (m 7),o 24 (ia 1 22 23),o 25 (l 24),o 26 (.callv (t 17) [(t 21),(t 25)]),o 8 (m 26)] [0,0,0,6,14,0,0,96,224,511,1023]),
 (.reg [o 27 (m 8),o 28 (bc .neq 27 (n 0))]),
 (i 28 (q [(.reg [o 29 (m 8),o 6 (m 29)]),
 .ret]) .skip)])),
 (.reg [o 30 (bc .add 14 (n 1)),o 14 (m 30)])])))]),
 (.reg [o 31 (m 0),o 32 (ln 31),o 33 (m 1),o 34 (ln 33),o 35 (.call 163 [(t 32),(t 34)]),o 6 (m 35)]),
 .ret])⟩
def zih:CFn:=⟨20,[.tmp 4],(q [(.reg [o 4 (.mv (c (n 0)))]),
 (.reg [o 7 (m 0),o 8 (.call 191 [(t 7)]),o 5 (m 8)]),
 (.reg [o 9 (m 1),o 10 (.call 191 [(t 9)]),o 6 (m 10)]),
 (q [(.reg [o 11 (m 5)]),
 (i 11 (q [(q [(.reg [o 12 (m 6)]),
 (i 12 (q [(.reg [o 4 (.mv (c (n 0)))]),
 .ret]) .skip)]),
 (.reg [o 4 (.mv (c (n (-1))))]),
 .ret]) .skip)]),
 (q [(.reg [o 13 (m 6)]),
 (i 13 (q [(.reg [o 4 (.mv (c (n 1)))]),
 .ret]) .skip)]),
 (q [(.reg [o 14 (m 0),o 15 (m 1),o 16 (b .lss 14 15)]),
 (i 16 (q [(.reg [o 4 (.mv (c (n (-1))))]),
 .ret]) .skip)]),
 (q [(.reg [o 17 (m 0),o 18 (m 1),o 19 (b .gtr 17 18)]),
 (i 19 (q [(.reg [o 4 (.mv (c (n 1)))]),
 .ret]) .skip)]),
 (.reg [o 4 (.mv (c (n 0)))]),
 .ret])⟩
def zdn:CFn:=⟨49,[],(q [(.reg [o 8 (m 1),o 9 (bc .add 8 (n 1)),o 6 (m 9)]),
 (.block 0 (.loop (q [(q [(.reg [o 10 (m 6),o 11 (m 2),o 12 (b .lss 10 11)]),
 (i 12 .skip (.exit 0))]),
 (.block 1 (q [(.reg [o 15 (m 6),o 7 (m 15)]),
 (.block 2 (.loop (q [(q [(.regd [o 16 (m 7),o 17 (m 1),o 18 (b .gtr 16 17),o 19 (m 18),g 20 19 true (m 0),g 21 19 true (m 7),g 22 19 true (ia 1 20 21),g 23 19 true (l 22),g 24 19 true (m 0),g 25 19 true (m 7),g 26 19 true (bc .sub 25 (n 1)),g 27 19 true (ia 1 24 26),g 28 19 true (l 27),g 29 19 true (.call 170 [(t 23),(t 28)]),o 30 (pf 19 29)] [0,0,3,7,15,15,63,127,15,15,527,1807,3855,8191,16383]),
 (i 30 .skip (.exit 2))]),
 (.block 3 (.regd [o 33 (m 0),o 34 (m 7),o 35 (m 0),o 36 (m 7),o 37 (bc .sub 36 (n 1)),o 38 (m 0),o 39 (m 7),o 40 (bc .sub 39 (n 1)),o 41 (ia 1 38 40),o 42 (l 41),o 43 (m 0),o 44 (m 7),o 45 (ia 1 43 44),o 46 (l 45),o 47 (ia 1 33 34),w (.store 1 (t 47) (t 42)),o 48 (ia 1 35 37),w (.store 1 (t 48) (t 46))] [0,0,0,0,8,0,0,64,224,480,0,0,3072,7168,16355,32739,65535,131071])),
 (.reg [o 31 (m 7),o 32 (bc .sub 31 (n 1)),o 7 (m 32)])])))])),
 (.reg [o 13 (m 6),o 14 (bc .add 13 (n 1)),o 6 (m 14)])])))])⟩
def zkF:CFn:=⟨17,[.tmp 4],(q [(.reg [o 4 (.mv (c .bf))]),
 (.reg [o 5 (m 0),o 6 (.call 191 [(t 5)]),o 7 (m 6),g 8 7 true (m 1),g 9 7 true (.call 191 [(t 8)]),g 10 7 true (.un .not (t 9)),o 11 (pf 7 10),o 12 (m 11),g 13 12 false (m 0),g 14 12 false (m 1),g 15 12 false (b .lss 13 14),o 16 (pt 12 15),o 4 (m 16)]),
 .ret])⟩
def zbJ:CFn:=⟨53,[],(q [(.reg [o 10 (m 1),o 11 (bc .add 10 (n 1)),o 8 (m 11)]),
 (.block 0 (.loop (q [(q [(.reg [o 12 (m 8),o 13 (m 2),o 14 (b .lss 12 13)]),
 (i 14 .skip (.exit 0))]),
 (.block 1 (q [(.reg [o 17 (m 8),o 9 (m 17)]),
 (.block 2 (.loop (q [(q [(.regd [o 18 (m 9),o 19 (m 1),o 20 (b .gtr 18 19),o 21 (m 20),g 22 21 true (m 3),g 23 21 true (m 0),g 24 21 true (m 9),g 25 21 true (ia 1 23 24),g 26 21 true (l 25),g 27 21 true (m 0),g 28 21 true (m 9),g 29 21 true (bc .sub 28 (n 1)),g 30 21 true (ia 1 27 29),g 31 21 true (l 30),g 32 21 true (.callv (t 22) [(t 26),(t 31)]),g 33 21 true (bc .lss 32 (n 0)),o 34 (pf 21 33)] [0,0,3,7,15,15,15,111,239,15,15,1039,3599,7695,16383,32767,65535]),
 (i 34 .skip (.exit 2))]),
 (.block 3 (.regd [o 37 (m 0),o 38 (m 9),o 39 (m 0),o 40 (m 9),o 41 (bc .sub 40 (n 1)),o 42 (m 0),o 43 (m 9),o 44 (bc .sub 43 (n 1)),o 45 (ia 1 42 44),o 46 (l 45),o 47 (m 0),o 48 (m 9),o 49 (ia 1 47 48),o 50 (l 49),o 51 (ia 1 37 38),w (.store 1 (t 51) (t 46)),o 52 (ia 1 39 41),w (.store 1 (t 52) (t 50))] [0,0,0,0,8,0,0,64,224,480,0,0,3072,7168,16355,32739,65535,131071])),
 (.reg [o 35 (m 9),o 36 (bc .sub 35 (n 1)),o 9 (m 36)])])))])),
 (.reg [o 15 (m 8),o 16 (bc .add 15 (n 1)),o 8 (m 16)])])))])⟩
def zjV:CFn:=⟨6,[.tmp 2],(q [(.reg [o 2 (.mv (c .bf))]),
 (.reg [o 3 (m 0),o 4 (m 0),o 5 (b .neq 3 4),o 2 (m 5)]),
 .ret])⟩
end Go.Ab
namespace Go.Ab
open Go Go.Proofs
theorem zw:Tryz.prog.follows .mixedOrders=true:=by kernel_rfl
theorem ziP:zj Tryz.prog zeR=some zim:=by kernel_rfl
theorem zfe:zj Tryz.prog zfb=some zjr:=by kernel_rfl
theorem zfT:zj Tryz.prog zcW=some zfJ:=by kernel_rfl
theorem zkc:zj Tryz.prog zfP=some zjW:=by kernel_rfl
theorem zaz:zj Tryz.prog zdP=some zgS:=by kernel_rfl
theorem zhK:zj Tryz.prog zd6=some zhA:=by kernel_rfl
theorem zgi:zj Tryz.prog zdj=some zge:=by kernel_rfl
theorem zmH:zj Tryz.prog zdE=some zmE:=by kernel_rfl
theorem zmG:zj Tryz.prog zdD=some zmD:=by kernel_rfl
theorem zlG:zj Tryz.prog zg0=some zlv:=by kernel_rfl
theorem zib:zj Tryz.prog zee=some zh8:=by kernel_rfl
theorem zjw:zj Tryz.prog zfc=some zjs:=by kernel_rfl
theorem zia:zj Tryz.prog zbx=some zh7:=by kernel_rfl
theorem zjx:zj Tryz.prog zdp=some zju:=by kernel_rfl
theorem zff:zj Tryz.prog zdo=some zjt:=by kernel_rfl
theorem ze4:zj Tryz.prog zL=some zeY:=by kernel_rfl
theorem zk5:zj Tryz.prog zgp=some zkG:=by kernel_rfl
theorem zk6:zj Tryz.prog zgq=some zkH:=by kernel_rfl
theorem zgf:zj Tryz.prog zQ=some zgb:=by kernel_rfl
theorem zg8:zj Tryz.prog zdQ=some zgT:=by kernel_rfl
theorem zfp:zj Tryz.prog z2=some zfh:=by kernel_rfl
theorem zdy:zj Tryz.prog zbi=some zdw:=by kernel_rfl
theorem zfq:zj Tryz.prog zaC=some zfi:=by kernel_rfl
theorem zoL:zj Tryz.prog zjC=some zon:=by kernel_rfl
theorem zla:zj Tryz.prog zgr=some zkL:=by kernel_rfl
theorem zcz:zj Tryz.prog zaN=some zcx:=by kernel_rfl
theorem zk8:zj Tryz.prog zcK=some zkJ:=by kernel_rfl
theorem zk9:zj Tryz.prog zd5=some zkK:=by kernel_rfl
theorem ziL:zj Tryz.prog zeP=some zii:=by kernel_rfl
theorem zke:zj Tryz.prog zdH=some zjY:=by kernel_rfl
theorem zgh:zj Tryz.prog zdi=some zgd:=by kernel_rfl
theorem zby:zj Tryz.prog zaT=some zh9:=by kernel_rfl
theorem zfV:zj Tryz.prog zbp=some zfL:=by kernel_rfl
theorem ziO:zj Tryz.prog zeQ=some zil:=by kernel_rfl
theorem zeT:zj Tryz.prog zch=some zeL:=by kernel_rfl
theorem zcO:zj Tryz.prog zaY=some zcN:=by kernel_rfl
theorem zjy:zj Tryz.prog zb6=some zjv:=by kernel_rfl
theorem zc1:zj Tryz.prog za4=some zcS:=by kernel_rfl
theorem znJ:zj Tryz.prog ziy=some zne:=by kernel_rfl
theorem zbD:zj Tryz.prog zR=some zbC:=by kernel_rfl
theorem zbm:zj Tryz.prog zac=some zbl:=by kernel_rfl
theorem zkd:zj Tryz.prog zE=some zjX:=by kernel_rfl
theorem z1:zj Tryz.prog zt=some zbd:=by kernel_rfl
theorem ziN:zj Tryz.prog zbL=some zik:=by kernel_rfl
theorem zag:zj Tryz.prog zJ=some zae:=by kernel_rfl
theorem zeq:zj Tryz.prog zcd=some zej:=by kernel_rfl
theorem zk7:zj Tryz.prog zcJ=some zkI:=by kernel_rfl
theorem zdr:zj Tryz.prog zbf=some zdm:=by kernel_rfl
theorem zdq:zj Tryz.prog zbe=some zdl:=by kernel_rfl
theorem zcA:zj Tryz.prog zaO=some zcy:=by kernel_rfl
theorem zfU:zj Tryz.prog zcX=some zfK:=by kernel_rfl
theorem ziM:zj Tryz.prog za3=some zij:=by kernel_rfl
theorem zgg:zj Tryz.prog zdh=some zgc:=by kernel_rfl
theorem ziK:zj Tryz.prog za2=some zih:=by kernel_rfl
theorem zds:zj Tryz.prog zao=some zdn:=by kernel_rfl
theorem zk4:zj Tryz.prog zgo=some zkF:=by kernel_rfl
theorem zbP:zj Tryz.prog zar=some zbJ:=by kernel_rfl
theorem zfS:zj Tryz.prog zdG=some zjV:=by kernel_rfl
end Go.Ab
namespace Go.Ab
open Go Go.Proofs
set_option maxRecDepth 10000
set_option maxHeartbeats 4000000
variable {T:Nat→Obj→Prop}
def zgE (n:Int):BitVec 64:=if n ≥ 64 then -1 else (1#64 <<< n.toNat) - 1#64
def bad (n:Int) (s:BitVec 64):Bool:=s &&& ~~~ (zgE n)≠0
def zq9 (worlds agents:Int) (val:List (BitVec 64)):Int :=
 if worlds < 1∨64 < worlds then 2 else if 8 < val.length∨4 < agents then 8 else if val.any (bad worlds) then 3 else 0
structure PM where
 W:Int
 val:List (BitVec 64)
 cell:List (List Int)
 rank:List (List Int)
 deriving DecidableEq
theorem zaV (s:BitVec 64) (n:Nat):(s >>> n)&&&1#64=1#64↔s.getLsbD n=true:=by
 constructor
 ·intro h
  have:=congrArg (fun x=>x.getLsbD 0) h
  simpa using this
 ·intro h
  apply BitVec.eq_of_getLsbD_eq
  intro i hi
  by_cases h0:i=0
  ·subst h0;simpa using h
  ·simp [h0]
theorem zdF (s:BitVec 64) (n:Nat):(s >>> n)&&&1#64=0#64↔s.getLsbD n=false:=by
 constructor
 ·intro h
  have:=congrArg (fun x=>x.getLsbD 0) h
  simpa using this
 ·intro h
  apply BitVec.eq_of_getLsbD_eq
  intro i hi
  by_cases h0:i=0
  ·subst h0;simpa using h
  ·simp [h0]
@[irreducible] def bit (s:BitVec 64) (i:Nat):Bool:=s.getLsbD i
def at0 (l:List Int) (i:Nat):Int:=l.getD i 0
theorem zm8 {l:List Int} {i:Nat} {x:Int} (h:l[i]? = some x):at0 l i=x:=by simp [at0,List.getD,h]
theorem zem {l:List Int} {i:Nat} (h:i < l.length):l[i]? = some (at0 l i):=by simp [at0,List.getD,h]
abbrev zur (cell:List Int):Prop := ∀ w,w < cell.length→0≤at0 cell w∧at0 cell w≤w∧at0 cell (at0 cell w).toNat=at0 cell w
abbrev zt2 (cell rank:List Int):Prop := ∀ w,w < cell.length→0≤at0 rank w∧(at0 rank w=0 ∨ ∃ v,v < cell.length∧at0 cell v=at0 cell w∧at0 rank v=at0 rank w - 1)
end Go.Ab
namespace Go.Ab
open Go Go.Proofs
set_option maxRecDepth 10000
set_option maxHeartbeats 4000000
variable {T:Nat→Obj→Prop}
def zbc (f:Nat→Bool):Nat→BitVec 64
 | 0=>0#64
 | k+1=>if f k then zbc f k|||1#64 <<< k else zbc f k
theorem zlu (k i:Nat):(1#64 <<< k).getLsbD i=(decide (i < 64)&&decide (i=k)):=by
 rw [BitVec.getLsbD_shiftLeft]
 by_cases h:i < 64
 ·by_cases h1:i < k
  ·simp [h,h1];omega
  ·by_cases h2:i=k
   ·subst h2;simp [h]
   ·have:i - k≠0:=by omega
    simp [h,h1,h2,this]
 ·simp [h]
theorem zi4 (f:Nat→Bool) : ∀ (n i:Nat),(zbc f n).getLsbD i=(decide (i < 64)&&decide (i < n)&&f i)
 | 0,i=>by simp [zbc]
 | n+1,i=>by
  have ih:=zi4 f n i
  unfold zbc
  split
  ·rename_i h
   rw [BitVec.getLsbD_or,ih,zlu]
   by_cases h1:i=n
   ·subst h1;simp [h]
   ·by_cases h2:i < n
    ·simp [h1,h2,show i < n+1 by omega]
    ·simp [h1,h2,show ¬ i < n+1 by omega]
  ·rename_i h
   rw [ih]
   by_cases h1:i=n
   ·subst h1;simp [h]
   ·by_cases h2:i < n
    ·simp [h2,show i < n+1 by omega]
    ·simp [h2,show ¬ i < n+1 by omega]
end Go.Ab
namespace Go.Ab
open Go Go.Proofs
set_option maxRecDepth 10000
set_option maxHeartbeats 4000000
variable {T:Nat→Obj→Prop}
def zll (l:List (List Int)) (a:Nat):List Int:=l.getD a []
abbrev zuM (p:PM):Prop := ∀ a,a < p.cell.length→((zll p.cell a).length:Int)=p.W∧((zll p.rank a).length:Int)=p.W
abbrev zrC (p:PM):Prop := ∀ a,a < p.cell.length→zur (zll p.cell a)
abbrev zqo (p:PM):Prop := ∀ a,a < p.cell.length→zt2 (zll p.cell a) (zll p.rank a)
def zqz (p:PM):Int :=
 if zq9 p.W p.cell.length p.val≠0 then zq9 p.W p.cell.length p.val
 else if p.rank.length≠p.cell.length then 3
 else if ¬zuM p then 3
 else if ¬zrC p then 1
 else if ¬zqo p then 9
 else 0
end Go.Ab
namespace Go.Ab
open Go Go.Proofs
set_option maxRecDepth 10000
set_option maxHeartbeats 4000000
variable {T:Nat→Obj→Prop}
structure At (p:PM) (a w:Int):Prop where
 ok:zqz p=0
 a0:0≤a
 a1:a < p.cell.length
 w0:0≤w
 w1:w < p.W
instance (p:PM) (a w:Int):Decidable (At p a w):=decidable_of_iff (zqz p=0∧0≤a∧a < p.cell.length∧0≤w∧w < p.W) ⟨fun ⟨a,b,c,d,e⟩=>⟨a,b,c,d,e⟩,fun ⟨a,b,c,d,e⟩=>⟨a,b,c,d,e⟩⟩
theorem zqY {k:Nat} (h:k < 18446744073709551616):(BitVec.ofInt 64 (k:Int)).toNat=k:=by
 rw [BitVec.toNat_ofInt,Int.emod_eq_of_lt (by omega) (by omega)];rfl
theorem zdS {β:Type} {g:Nat→β} {n k:Nat} (x:β):((List.range n).map g).set k x=(List.range n).map fun u=>if u=k then x else g u:=by
 refine List.ext_getElem (by simp) fun i h1 h2=>?_
 rw [List.getElem_set]
 by_cases e:k=i
 ·subst e;simp
 ·simp [e,Ne.symm e]
theorem zS {β:Type} {g h:Nat→β} {n:Nat} (e : ∀ u,u < n→g u=h u):(List.range n).map g=(List.range n).map h :=
 List.map_congr_left fun u hu=>e u (List.mem_range.1 hu)
theorem zbb {β:Type} (x:β) (n:Nat):List.replicate n x=(List.range n).map fun _=>x:=by
 refine List.ext_getElem (by simp) fun i h1 h2=>by simp
end Go.Ab
namespace Go.Ab
open Go Go.Proofs
set_option maxRecDepth 10000
set_option maxHeartbeats 4000000
variable {T:Nat→Obj→Prop}
structure KM where
 W:Int
 val:List (BitVec 64)
 rel:List (List (BitVec 64))
 deriving DecidableEq
abbrev dKM (m:KM):D := .agg [.int .i64 m.W,dU m.val,dUU m.rel]
abbrev zZ (m:KM):Ob := .box [.d (.int .i64 m.W),.d (dU m.val),.d (dUU m.rel)]
abbrev dKI (x:KM×Int):D := .tup [dKM x.1,.int .i64 x.2]
end Go.Ab
namespace Go.Ab
open Go Go.Proofs
set_option maxRecDepth 10000
set_option maxHeartbeats 4000000
variable {T:Nat→Obj→Prop}
theorem zm4 {n:Int} {i:Nat} (h1:0≤n) (hi:i < 64):(zgE n).getLsbD i=decide ((i:Int) < n):=by
 unfold zgE
 split
 ·rename_i h
  rw [show ((-1:BitVec 64))=BitVec.allOnes 64 from rfl,BitVec.getLsbD_allOnes]
  simp [hi];omega
 ·rename_i h
  obtain ⟨m,rfl⟩:=Int.eq_ofNat_of_zero_le h1
  have hm:m < 64:=by omega
  rw [show (1#64 <<< (m:Int).toNat - 1#64)=BitVec.setWidth 64 (BitVec.allOnes m) from ?_]
  ·rw [BitVec.getLsbD_setWidth,BitVec.getLsbD_allOnes];simp [hi]
  ·apply BitVec.eq_of_toNat_eq
   have h2:2 ^ m < 2 ^ 64:=Nat.pow_lt_pow_right (by omega) hm
   have h3:0 < 2 ^ m:=Nat.two_pow_pos m
   rw [BitVec.toNat_sub,BitVec.toNat_shiftLeft,BitVec.toNat_setWidth,BitVec.toNat_allOnes]
   simp only [Int.toNat_natCast,Nat.shiftLeft_eq]
   rw [show (1#64).toNat=1 from rfl,Nat.one_mul,Nat.mod_eq_of_lt h2,Nat.mod_eq_of_lt (show 2 ^ m - 1 < 2 ^ 64 by omega)]
   omega
end Go.Ab
namespace Go.Ab
open Go Go.Proofs
set_option maxRecDepth 10000
set_option maxHeartbeats 4000000
variable {T:Nat→Obj→Prop}
def zy (s:BitVec 64):List Nat:=(List.range 64).filter fun i=>s.getLsbD i
theorem ziB {p:Nat→Bool} {k:Nat} (hk:p k=true) (hlow : ∀ i,i < k→p i=false) : ∀ n,k < n→(List.range n).filter p=k::(List.range n).filter fun i=>p i&&i != k
 | 0,h=>by omega
 | n+1,h=>by
  rw [List.range_succ,List.filter_append,List.filter_append]
  by_cases e:k=n
  ·subst e
   have h1:(List.range k).filter p=[]:=by
    rw [List.filter_eq_nil_iff];intro i hi;rw [hlow i (List.mem_range.1 hi)];simp
   have h2:((List.range k).filter fun i=>p i&&i != k)=[]:=by
    rw [List.filter_eq_nil_iff];intro i hi;rw [hlow i (List.mem_range.1 hi)];simp
   rw [h1,h2]
   simp [hk]
  ·rw [ziB hk hlow n (by omega)]
   have:(n != k)=true:=by simp;omega
   have:List.filter (fun i=>p i&&i != k) [n]=List.filter p [n]:=by
    simp only [List.filter,this,Bool.and_true]
   rw [this];rfl
theorem ztD (s:BitVec 64) (h:s≠0#64):Lib.ctz 64 s.toNat < 64∧s.getLsbD (Lib.ctz 64 s.toNat)=true∧(∀ i,i < Lib.ctz 64 s.toNat→s.getLsbD i=false) ∧
  ∀ i,(s&&&(s - 1#64)).getLsbD i=(s.getLsbD i&&i != Lib.ctz 64 s.toNat):=by
 have h0:s.toNat≠0:=fun e=>h (BitVec.eq_of_toNat_eq (by simpa using e))
 have hc:Lib.ctz 64 s.toNat=Lib.ctzFrom 64 s.toNat:=by rw [Lib.ctz,if_neg h0]
 rw [hc]
 obtain ⟨m,hm,hlt⟩:=Lib.ctzFrom_spec 64 s.toNat (by omega) s.isLt
 generalize Lib.ctzFrom 64 s.toNat=k at hm hlt
 have hp:0 < 2 ^ k:=Nat.two_pow_pos k
 have hs:s.toNat=2 ^ k * (2 * m+1)+0:=hm
 have hbit : ∀ i,s.getLsbD i=if i < k then false else (2 * m+1).testBit (i - k):=fun i=>by
  rw [BitVec.getLsbD,hs,Nat.testBit_two_pow_mul_add _ hp]
  simp
 have hsub:(s - 1#64).toNat=2 ^ k * (2 * m)+(2 ^ k - 1):=by
  rw [BitVec.toNat_sub]
  have hlt':=s.isLt
  rw [hm] at hlt' ⊢
  rw [show (1#64).toNat=1 from rfl,Nat.mul_add,Nat.mul_one]
  rw [Nat.mul_add,Nat.mul_one] at hlt'
  omega
 have hbit' : ∀ i,(s - 1#64).getLsbD i=if i < k then (2 ^ k - 1).testBit i else (2 * m).testBit (i - k):=fun i=>by
  rw [BitVec.getLsbD,hsub,Nat.testBit_two_pow_mul_add _ (by omega)]
 refine ⟨hlt,?_,fun i hi=>?_,fun i=>?_⟩
 ·rw [hbit,if_neg (by omega),Nat.sub_self,Nat.testBit_zero];simp
 ·rw [hbit,if_pos hi]
 ·rw [BitVec.getLsbD_and,hbit,hbit']
  by_cases h1:i < k
  ·simp [h1]
  ·simp only [h1,if_false]
   by_cases h2:i=k
   ·subst h2;simp [Nat.testBit_zero]
   ·obtain ⟨j,hj⟩ : ∃ j,i - k=j+1:=⟨i - k - 1,by omega⟩
    rw [hj,Nat.testBit_succ,Nat.testBit_succ]
    have e1:(2 * m+1) / 2=m:=by omega
    have e2:2 * m / 2=m:=by omega
    rw [e1,e2]
    simp [h2]
theorem zol (s:BitVec 64) (h:s≠0#64):zy s=Lib.ctz 64 s.toNat::zy (s&&&(s - 1#64)):=by
 obtain ⟨h1,h2,h3,h4⟩:=ztD s h
 rw [zy,ziB h2 h3 64 h1,zy]
 congr 1
 exact List.filter_congr fun i _=>(h4 i).symm
theorem zom:zy 0#64=[]:=by decide
def zeh (T:Nat→Obj→Prop):Prop := ∀ x:BitVec 64,Fn Tryz.prog T zaq [.d (.u64 x)] [] (.d (.int .i64 (Lib.ctz 64 x.toNat))) []
def rb (r:List (BitVec 64)) (w v:Nat):Bool:=(r.getD w 0#64).getLsbD v
theorem zuH {r:List (BitVec 64)} {w:Nat} {s:BitVec 64} (h:r[w]? = some s) (v:Nat):rb r w v=s.getLsbD v:=by simp [rb,List.getD,h]
theorem zug {r:List (BitVec 64)} {w v:Nat} (h:r.length≤w):rb r w v=false:=by simp [rb,List.getD,h]
theorem zd9 {s:BitVec 64} {v:Nat} : v∈zy s↔s.getLsbD v=true:=by
 rw [zy,List.mem_filter,List.mem_range]
 constructor
 ·exact fun h=>h.2
 ·exact fun h=>⟨BitVec.lt_of_getLsbD h,h⟩
theorem ziS (s:BitVec 64):(zy s).Nodup:=List.nodup_range.filter _
def zfl {α:Type} (p:α→Bool) (l:List α):Int:=if l.findIdx p < l.length then (l.findIdx p:Int) else -1
theorem zl6 {α:Type} {p:α→Bool} {l:List α} {k:Nat} {x:α} (h:l[k]? = some x) (hp:p x=true) (hI : ∀ i y,i < k→l[i]? = some y→p y=false):zfl p l=k:=by
 obtain ⟨hk,rfl⟩:=List.getElem?_eq_some_iff.1 h
 have:l.findIdx p=k:=by
  rw [List.findIdx_eq hk]
  exact ⟨hp,fun j hj=>by simpa using hI j l[j] hj (List.getElem?_eq_getElem (by omega))⟩
 rw [zfl,this,if_pos hk]
theorem zkU {α:Type} {p:α→Bool} {l:List α} (hI : ∀ i y,i < l.length→l[i]? = some y→p y=false):zfl p l = -1:=by
 rw [zfl,if_neg]
 intro h
 have h1:=List.findIdx_getElem (p:=p) (xs:=l) (w:=h)
 rw [hI _ _ h (List.getElem?_eq_getElem h)] at h1;cases h1
theorem znv {α:Type} {p:α→Bool} {l:List α} : 0≤zfl p l ↔ ∃ x∈l,p x=true:=by
 rw [zfl,← List.findIdx_lt_length]
 split<;>omega
theorem zqs {n:Int} {s:BitVec 64} (h:0≤n):bad n s=false ↔ ∀ i,s.getLsbD i=true→(i:Int) < n:=by
 rw [bad,decide_eq_false_iff_not,Classical.not_not]
 constructor
 ·intro e i hi
  have hlt:=BitVec.lt_of_getLsbD hi
  have:=congrArg (fun x=>x.getLsbD i) e
  simp only [BitVec.getLsbD_and,BitVec.getLsbD_not,hlt,decide_true,Bool.true_and,hi,zm4 h hlt] at this
  simpa using this
 ·intro hs
  apply BitVec.eq_of_getLsbD_eq
  intro i hi
  rw [BitVec.getLsbD_and,BitVec.getLsbD_not,zm4 h hi]
  cases hb:s.getLsbD i with
  | false=>simp
  | true=>have:=hs i hb;simp [hi,this]
end Go.Ab
namespace Go.Ab
open Go Go.Proofs
set_option maxRecDepth 10000
set_option maxHeartbeats 4000000
variable {T:Nat→Obj→Prop}
theorem zM.objs {P:Program} {M:Nat→Option Ob} {n f:Nat} {vs lvs:List V} {obs:List Ob} {lv:V} {obs':List (Option Ob)} {K:V→Upd→Nat→Prop} (js:List Nat) (hf:Fn P T f lvs obs lv obs') (ha:VPasses M js [] 20 lvs vs)
  (ho:zal M js [] obs js) (hnd:nodup js=true) (hsj:zcH js (zz M vs)=true) (hle:js.length≤obs'.length)
  (hK:K (zgK js n 20 lv) (zeB js [] n obs' false) (obs'.length - js.length)):zM (zcj P T) M n f vs K :=
 ⟨⟨_,_,_,⟨js,[],false,lvs,obs,lv,obs',hf,ha,ho,hnd,by simp [zcE],hsj,by simp [zcH],hle,nofun,rfl,rfl,rfl⟩,hK⟩⟩
section
variable {α:Type} [Inhabited α]
theorem zaU {d:Array α} {i:Nat} (h:i < d.size):d.toList[i]? = some d[i]! := by
 simp [h]
theorem zdv {d:Array α} {i:Nat} {x:α} (h:d.toList[i]? = some x):d[i]! = x∧i < d.size:=by
 obtain ⟨h1,h2⟩:=List.getElem?_eq_some_iff.1 h
 rw [Array.length_toList] at h1
 exact ⟨by simp [h1];simpa using h2,h1⟩
theorem zlR {enc:α→D} {d:Array α} {i j:Nat} {x y:α} (hi:d.toList[i]? = some x) (hj:d.toList[j]? = some y):((d.toList.map enc).set i (enc y)).set j (enc x)=(Sort.swp d i j).toList.map enc:=by
 obtain ⟨e1,_⟩:=zdv hi
 obtain ⟨e2,_⟩:=zdv hj
 simp [Sort.swp,e1,e2,List.map_set]
theorem zkq (d:Array α) (i j:Nat):(Sort.swp d i j).size=d.size:=by simp [Sort.swp]
variable {lt:α→α→Bool}
theorem ze3 {a j:Nat} {d:Array α} (h : ¬(a < j∧lt d[j]! d[j - 1]! = true)):Sort.insInner lt a j d=d:=by
 cases j with
 | zero=>rfl
 | succ j =>
  unfold Sort.insInner
  rw [if_neg]
  simpa using h
theorem ze2 {a j:Nat} {d:Array α} (h1:a < j) (h2:lt d[j]! d[j - 1]! = true):Sort.insInner lt a j d=Sort.insInner lt a (j - 1) (Sort.swp d j (j - 1)):=by
 cases j with
 | zero=>omega
 | succ j =>
  rw [Sort.insInner,if_pos]
  ·simp
  ·simp at h2 ⊢;exact ⟨by omega,h2⟩
end
end Go.Ab
namespace Go.Ab
open Go Go.Proofs
set_option maxRecDepth 10000
set_option maxHeartbeats 4000000
variable {T:Nat→Obj→Prop}
theorem zr4 (n:Int) (h:0≤n):Fn Tryz.prog T zeQ [.d (.int .i64 n)] [] (.d (.u64 (zgE n))) []:=by
 refine zo zw ziO (by show 1≤8;decide) ?_
 (repeat' ((conv=>whnf);first|refine vA ?_|refine vB fun b hb=>?_|refine vC (fun hl=>?_) fun i kv vv hi=>?_|refine vE ?_|refine vG ?_|refine vH ?_|((first|refine vD ?_ ?_|refine vF ?_ ?_|refine vI ?_ ?_)<;>intro hc<;>try simp only [vL] at hc)|refine vJ fun hg=>?_|refine vK fun hg=>?_|refine vT ?_|refine vN ‹_› ?_|(refine vQ ?_ fun x hx=>?_;·first|omega|(simp only [vM] at *;omega))|((first|refine vO ?_ ?_|refine vR ?_ ‹_› ?_|refine vS ?_ fun x hx=>?_|refine vP ?_ ?_);·first|omega|(simp only [vM] at *;omega))|refine vW ⟨by omega,by omega⟩ ?_|(refine vU ?_ ?_;·kernel_rfl)|refine vX ?_|refine vY ?_|refine vZ ?_|refine za.mk _ ‹_› ?_|refine vP (show (_:BitVec 64)≠_ by decide) ?_));all_goals try conv=>whnf
 ·rw [zgE,if_pos (by omega)];rfl
 ·rw [zgE,if_neg (by omega)];rfl
theorem zl9 (l:List (BitVec 64)) (n:Int) (h:0≤n):Fn Tryz.prog T zdQ [.d (dU l),.d (.int .i64 n)] [] (.d (.bool (l.any (bad n)))) []:=by
 refine zo zw zg8 (by show 2≤20;decide) ?_
 (repeat' ((conv=>whnf);first|refine vA ?_|refine vB fun b hb=>?_|refine vC (fun hl=>?_) fun i kv vv hi=>?_|refine vE ?_|refine vG ?_|refine vH ?_|((first|refine vD ?_ ?_|refine vF ?_ ?_|refine vI ?_ ?_)<;>intro hc<;>try simp only [vL] at hc)|refine vJ fun hg=>?_|refine vK fun hg=>?_|refine vT ?_|refine vN ‹_› ?_|(refine vQ ?_ fun x hx=>?_;·first|omega|(simp only [vM] at *;omega))|((first|refine vO ?_ ?_|refine vR ?_ ‹_› ?_|refine vS ?_ fun x hx=>?_|refine vP ?_ ?_);·first|omega|(simp only [vM] at *;omega))|refine vW ⟨by omega,by omega⟩ ?_|(refine vU ?_ ?_;·kernel_rfl)|refine vX ?_|refine vY ?_|refine vZ ?_|refine za.mk _ ‹_› ?_|refine vP (show (_:BitVec 64)≠_ by decide) ?_));all_goals try conv=>whnf
 refine zbR (fun (k:Nat)=>[(0,.d (dU l)),(1,.d (.int .i64 (n))),(5,.d (.int .i64 ((k:Int))))]) (fun (k:Nat)=>k≤l.length∧l.any (bad n)=(l.drop k).any (bad n)) (fun (k:Nat)=>l.length - k) (0) (⟨by simp,rfl⟩) (by (repeat' first|exact trivial|exact rfl|exact ⟨_,rfl⟩|exact .inl rfl|exact .inr (.inl ⟨rfl,rfl⟩)|exact .inr (.inr ⟨rfl,rfl⟩)|refine And.intro ?_ ?_|refine ⟨_,rfl,?_⟩|decide|exact of_decide_eq_true rfl)) ?_
 rintro k ⟨hk,hI⟩
 (repeat' ((conv=>whnf);first|refine vA ?_|refine vB fun b hb=>?_|refine vC (fun hl=>?_) fun i kv vv hi=>?_|refine vE ?_|refine vG ?_|refine vH ?_|((first|refine vD ?_ ?_|refine vF ?_ ?_|refine vI ?_ ?_)<;>intro hc<;>try simp only [vL] at hc)|refine vJ fun hg=>?_|refine vK fun hg=>?_|refine vT ?_|refine vN ‹_› ?_|(refine vQ ?_ fun x hx=>?_;·first|omega|(simp only [vM] at *;omega))|((first|refine vO ?_ ?_|refine vR ?_ ‹_› ?_|refine vS ?_ fun x hx=>?_|refine vP ?_ ?_);·first|omega|(simp only [vM] at *;omega))|refine vW ⟨by omega,by omega⟩ ?_|(refine vU ?_ ?_;·kernel_rfl)|refine vX ?_|refine vY ?_|refine vZ ?_|refine yD (zr4 n h) ⟨⟨rfl,rfl⟩,rfl⟩ rfl ?_|refine za.mk _ ‹_› ?_|refine vP (show (_:BitVec 64)≠_ by decide) ?_));all_goals try conv=>whnf
 ·rw [hI,zaf hx,List.any_cons,show bad n x=true from decide_eq_true ‹_›];rfl
 ·exact ⟨k+1,[],[],⟨by (first|omega|(simp only [vM] at *;omega)),by rw [hI,zaf hx,List.any_cons,show bad n x=false from decide_eq_false (by simpa using ‹x &&& ~~~zgE n=0#64›)];rfl⟩,by (first|omega|(simp only [vM] at *;omega)),by (refine ⟨rfl,rfl,rfl,?_,?_⟩;repeat' first|exact trivial|exact rfl|exact ⟨_,rfl⟩|exact .inl rfl|exact .inr (.inl ⟨rfl,rfl⟩)|exact .inr (.inr ⟨rfl,rfl⟩)|refine And.intro ?_ ?_|refine ⟨_,rfl,?_⟩|decide|exact of_decide_eq_true rfl)⟩
 ·rw [hI,List.drop_eq_nil_of_le (by omega)];rfl
def zk (m:KM):Int :=
 if m.W < 1∨64 < m.W then 2 else if 4 < m.rel.length∨8 < m.val.length then 8 else if m.rel.any (fun r=>decide ((r.length:Int)≠m.W)) then 3 else if m.val.any (bad m.W) then 2 else if m.rel.any (fun r=>r.any (bad m.W)) then 2 else 0
structure zmL (m:KM):Prop where
 w1:1≤m.W
 w2:m.W≤64
 n4:m.rel.length≤4
 v8:m.val.length≤8
 len : ∀ r∈m.rel,(r.length:Int)=m.W
 val : ∀ s∈m.val,bad m.W s=false
 rel : ∀ r∈m.rel,∀ s∈r,bad m.W s=false
theorem zD {m:KM} (h:zk m=0):zmL m:=by
 unfold zk at h
 split at h
 ·cases h
 ·split at h
  ·cases h
  ·split at h
   ·cases h
   ·split at h
    ·cases h
    ·split at h
     ·cases h
     ·rename_i h1 h2 h3 h4 h5
      refine ⟨by omega,by omega,by omega,by omega,fun r hr=>?_,fun s hs=>?_,fun r hr s hs=>?_⟩
      ·simp only [List.any_eq_true,not_exists,not_and] at h3;simpa using h3 r hr
      ·simp only [List.any_eq_true,not_exists,not_and] at h4;simpa using h4 s hs
      ·simp only [List.any_eq_true,not_exists,not_and] at h5;simpa using h5 r hr s hs
theorem zuL (m:KM):Fn Tryz.prog T zd6 [.d (dKM m)] [] (.d (.int .i64 (zk m))) []:=by
 refine zo zw zhK (by show 1≤59;decide) ?_
 (repeat' ((conv=>whnf);first|refine vA ?_|refine vB fun b hb=>?_|refine vC (fun hl=>?_) fun i kv vv hi=>?_|refine vE ?_|refine vG ?_|refine vH ?_|((first|refine vD ?_ ?_|refine vF ?_ ?_|refine vI ?_ ?_)<;>intro hc<;>try simp only [vL] at hc)|refine vJ fun hg=>?_|refine vK fun hg=>?_|refine vT ?_|refine vN ‹_› ?_|(refine vQ ?_ fun x hx=>?_;·first|omega|(simp only [vM] at *;omega))|((first|refine vO ?_ ?_|refine vR ?_ ‹_› ?_|refine vS ?_ fun x hx=>?_|refine vP ?_ ?_);·first|omega|(simp only [vM] at *;omega))|refine vW ⟨by omega,by omega⟩ ?_|(refine vU ?_ ?_;·kernel_rfl)|refine vX ?_|refine vY ?_|refine vZ ?_|refine za.mk _ ‹_› ?_|refine vP (show (_:BitVec 64)≠_ by decide) ?_));all_goals try conv=>whnf
 ·rw [zk,if_pos (by omega)]
 ·rw [zk,if_pos (by omega)]
 ·rw [zk,if_neg (by omega),if_pos (by omega)]
 ·rw [zk,if_neg (by omega),if_pos (by omega)]
 ·have e0:zk m=if m.rel.any (fun r=>decide ((r.length:Int)≠m.W)) then 3 else if m.val.any (bad m.W) then 2 else if m.rel.any (fun r=>r.any (bad m.W)) then 2 else 0:=by rw [zk,if_neg (by omega),if_neg (by omega)]
  refine zq (fun (k:Nat)=>[(1,.ptr 0 0),(3,.d (.int .i64 ((k:Int))))]) (fun (k:Nat)=>[(0,some (zZ m))]) 1 (fun (k:Nat)=>k≤m.rel.length∧m.rel.any (fun r=>decide ((r.length:Int)≠m.W))=(m.rel.drop k).any (fun r=>decide ((r.length:Int)≠m.W))) (fun (k:Nat)=>m.rel.length - k) (0) [(0,0)] [] (⟨by simp,rfl⟩) (by (refine ⟨rfl,rfl,rfl,?_,?_⟩;repeat' first|exact trivial|exact rfl|exact ⟨_,rfl⟩|exact .inl rfl|exact .inr (.inl ⟨rfl,rfl⟩)|exact .inr (.inr ⟨rfl,rfl⟩)|refine And.intro ?_ ?_|refine ⟨_,rfl,?_⟩|decide|exact of_decide_eq_true rfl)) ?_
  rintro k ⟨hk,hI⟩
  (repeat' ((conv=>whnf);first|refine vA ?_|refine vB fun b hb=>?_|refine vC (fun hl=>?_) fun i kv vv hi=>?_|refine vE ?_|refine vG ?_|refine vH ?_|((first|refine vD ?_ ?_|refine vF ?_ ?_|refine vI ?_ ?_)<;>intro hc<;>try simp only [vL] at hc)|refine vJ fun hg=>?_|refine vK fun hg=>?_|refine vT ?_|refine vN ‹_› ?_|(refine vQ ?_ fun x hx=>?_;·first|omega|(simp only [vM] at *;omega))|((first|refine vO ?_ ?_|refine vR ?_ ‹_› ?_|refine vS ?_ fun x hx=>?_|refine vP ?_ ?_);·first|omega|(simp only [vM] at *;omega))|refine vW ⟨by omega,by omega⟩ ?_|(refine vU ?_ ?_;·kernel_rfl)|refine vX ?_|refine vY ?_|refine vZ ?_|refine za.mk _ ‹_› ?_|refine vP (show (_:BitVec 64)≠_ by decide) ?_));all_goals try conv=>whnf
  ·rw [e0,if_pos (by rw [hI,zaf hx,List.any_cons,decide_eq_true (by simpa using ‹_›)];rfl)]
  ·exact ⟨k+1,[(0,0)],[],⟨by (first|omega|(simp only [vM] at *;omega)),by rw [hI,zaf hx,List.any_cons,decide_eq_false (by simpa using ‹_›)];rfl⟩,by (first|omega|(simp only [vM] at *;omega)),by (refine ⟨rfl,rfl,rfl,?_,?_⟩;repeat' first|exact trivial|exact rfl|exact ⟨_,rfl⟩|exact .inl rfl|exact .inr (.inl ⟨rfl,rfl⟩)|exact .inr (.inr ⟨rfl,rfl⟩)|refine And.intro ?_ ?_|refine ⟨_,rfl,?_⟩|decide|exact of_decide_eq_true rfl)⟩
  ·have h1:m.rel.any (fun r=>decide ((r.length:Int)≠m.W))=false:=by rw [hI,List.drop_eq_nil_of_le (by omega)];rfl
   rw [h1,if_neg (by decide)] at e0
   (repeat' ((conv=>whnf);first|refine vA ?_|refine vB fun b hb=>?_|refine vC (fun hl=>?_) fun i kv vv hi=>?_|refine vE ?_|refine vG ?_|refine vH ?_|((first|refine vD ?_ ?_|refine vF ?_ ?_|refine vI ?_ ?_)<;>intro hc<;>try simp only [vL] at hc)|refine vJ fun hg=>?_|refine vK fun hg=>?_|refine vT ?_|refine vN ‹_› ?_|(refine vQ ?_ fun x hx=>?_;·first|omega|(simp only [vM] at *;omega))|((first|refine vO ?_ ?_|refine vR ?_ ‹_› ?_|refine vS ?_ fun x hx=>?_|refine vP ?_ ?_);·first|omega|(simp only [vM] at *;omega))|refine vW ⟨by omega,by omega⟩ ?_|(refine vU ?_ ?_;·kernel_rfl)|refine vX ?_|refine vY ?_|refine vZ ?_|refine yD (zl9 _ m.W (by omega)) ⟨⟨rfl,rfl⟩,⟨rfl,rfl⟩,rfl⟩ rfl ?_|refine za.mk _ ‹_› ?_|refine vP (show (_:BitVec 64)≠_ by decide) ?_));all_goals try conv=>whnf
   ·rw [e0,if_pos ‹_›]
   ·rw [show m.val.any (bad m.W)=false from ‹_›,if_neg (by decide)] at e0
    refine zq (fun (k:Nat)=>[(1,.ptr 0 0),(4,.d (.int .i64 ((k:Int))))]) (fun (k:Nat)=>[(0,some (zZ m))]) 1 (fun (k:Nat)=>k≤m.rel.length∧m.rel.any (fun r=>r.any (bad m.W))=(m.rel.drop k).any (fun r=>r.any (bad m.W))) (fun (k:Nat)=>m.rel.length - k) (0) [(0,0)] [] (⟨by simp,rfl⟩) (by (refine ⟨rfl,rfl,rfl,?_,?_⟩;repeat' first|exact trivial|exact rfl|exact ⟨_,rfl⟩|exact .inl rfl|exact .inr (.inl ⟨rfl,rfl⟩)|exact .inr (.inr ⟨rfl,rfl⟩)|refine And.intro ?_ ?_|refine ⟨_,rfl,?_⟩|decide|exact of_decide_eq_true rfl)) ?_
    clear hI hk
    rintro k ⟨hk,hI⟩
    (repeat' ((conv=>whnf);first|refine vA ?_|refine vB fun b hb=>?_|refine vC (fun hl=>?_) fun i kv vv hi=>?_|refine vE ?_|refine vG ?_|refine vH ?_|((first|refine vD ?_ ?_|refine vF ?_ ?_|refine vI ?_ ?_)<;>intro hc<;>try simp only [vL] at hc)|refine vJ fun hg=>?_|refine vK fun hg=>?_|refine vT ?_|refine vN ‹_› ?_|(refine vQ ?_ fun x hx=>?_;·first|omega|(simp only [vM] at *;omega))|((first|refine vO ?_ ?_|refine vR ?_ ‹_› ?_|refine vS ?_ fun x hx=>?_|refine vP ?_ ?_);·first|omega|(simp only [vM] at *;omega))|refine vW ⟨by omega,by omega⟩ ?_|(refine vU ?_ ?_;·kernel_rfl)|refine vX ?_|refine vY ?_|refine vZ ?_|refine yD (zl9 _ m.W (by omega)) ⟨⟨rfl,rfl⟩,⟨rfl,rfl⟩,rfl⟩ rfl ?_|refine za.mk _ ‹_› ?_|refine vP (show (_:BitVec 64)≠_ by decide) ?_));all_goals try conv=>whnf
    ·rw [e0,if_pos (by rw [hI,zaf hx,List.any_cons,show x.any (bad m.W)=true from ‹_›];rfl)]
    ·exact ⟨k+1,[(0,0)],[],⟨by (first|omega|(simp only [vM] at *;omega)),by rw [hI,zaf hx,List.any_cons,show x.any (bad m.W)=false from ‹_›];rfl⟩,by (first|omega|(simp only [vM] at *;omega)),by (refine ⟨rfl,rfl,rfl,?_,?_⟩;repeat' first|exact trivial|exact rfl|exact ⟨_,rfl⟩|exact .inl rfl|exact .inr (.inl ⟨rfl,rfl⟩)|exact .inr (.inr ⟨rfl,rfl⟩)|refine And.intro ?_ ?_|refine ⟨_,rfl,?_⟩|decide|exact of_decide_eq_true rfl)⟩
    ·rw [e0,if_neg]
     rw [hI,List.drop_eq_nil_of_le (by omega)];simp
theorem zqX {k:IntKind} {a:Nat} (h:a < 2 ^ k.bits):(BitVec.ofInt k.bits (a:Int)).toNat=a:=by
 rw [BitVec.toNat_ofInt,Int.emod_eq_of_lt (Int.natCast_nonneg a) (show (a:Int) < ((2 ^ k.bits:Nat):Int) from Int.ofNat_lt.2 h)]
 rfl
theorem zsV {a:Nat} (h:a < 2 ^ 63):IntKind.wrap .i64 (a:Int)=a:=zok ⟨by omega,by omega⟩
theorem zo2 {a b:Nat} (ha:a < 2 ^ 63) (hb:b < 2 ^ 63):zcm .i64 (fun p q=>p|||q) (a:Int) (b:Int)=((a|||b:Nat):Int):=by
 unfold zcm
 rw [BitVec.toNat_or,zqX (k := .i64) (by simp [IntKind.bits];omega),zqX (k := .i64) (by simp [IntKind.bits];omega)]
 exact zsV (Nat.or_lt_two_pow ha hb)
theorem zhN {x:BitVec 64} {k i:Nat} (hk:k < 64):(x|||1#64 <<< k).getLsbD i=true↔x.getLsbD i=true∨i=k:=by
 rw [BitVec.getLsbD_or,Bool.or_eq_true,zlu]
 constructor
 ·rintro (h|h)
  ·exact .inl h
  ·simp at h;exact .inr h.2
 ·rintro (h|rfl)
  ·exact .inl h
  ·exact .inr (by simp [hk])
def zcp (l:List (BitVec 64)) (w:Nat):Nat→Nat
 | 0=>0
 | k+1=>zcp l w k+if (l.getD k 0#64).getLsbD w=true then 2 ^ k else 0
theorem zns (l:List (BitVec 64)) (w:Nat) : ∀ k,zcp l w k < 2 ^ k
 | 0=>by simp [zcp]
 | k+1=>by
  have:=zns l w k
  have h2:=Nat.two_pow_pos k
  rw [zcp,Nat.pow_succ]
  split<;>omega
theorem ztI {x k:Nat} (h:x < 2 ^ k):x|||2 ^ k=x+2 ^ k:=by
 have:=Nat.two_pow_add_eq_or_of_lt (i:=k) h 1
 rw [Nat.or_comm,show 2 ^ k=2 ^ k * 1 by omega,← this];omega
theorem zr3 {l:List (BitVec 64)} {w k:Nat} {s:BitVec 64} (hs:l[k]? = some s) (hk:k < 8) :
  zcm .i64 (fun p q=>p|||q) (zcp l w k:Int) ((((s >>> w&&&1#64).toNat:Int)) * 2 ^ (min k IntKind.i64.bits))=(zcp l w (k+1):Int):=by
 have h1:=zns l w k
 have hp:2 ^ k≤2 ^ 7:=Nat.pow_le_pow_right (by decide) (by omega)
 have hb:min k IntKind.i64.bits=k:=by show min k 64=k;omega
 rw [hb,zcp,show l.getD k 0#64=s by rw [List.getD,hs];rfl]
 by_cases h:s.getLsbD w=true
 ·have e:s >>> w&&&1#64=1#64:=(zaV s w).2 h
  rw [e,if_pos h]
  have:=zo2 (a:=zcp l w k) (b:=2 ^ k) (by omega) (by omega)
  rw [show ((1#64).toNat:Int) * 2 ^ k=((2 ^ k:Nat):Int) by simp,this,ztI h1]
 ·have e:s >>> w&&&1#64=0#64:=(zdF s w).2 (by simpa using h)
  rw [e,if_neg h]
  have:=zo2 (a:=zcp l w k) (b:=0) (by omega) (by omega)
  rw [show ((0#64).toNat:Int) * 2 ^ k=((0:Nat):Int) by simp,this];simp
theorem zqw (s:BitVec 64) (w:Nat):(s >>> w&&&1#64).toNat≤1:=by
 cases h:s.getLsbD w with
 | true=>rw [(zaV s w).2 h];decide
 | false=>rw [(zdF s w).2 h];decide
theorem zrb {x k:Nat} (hx:x≤1) (hk:k < 8):0≤(x:Int) * 2 ^ (min (k:Int).toNat IntKind.i64.bits)∧(x:Int) * 2 ^ (min (k:Int).toNat IntKind.i64.bits)≤9223372036854775807:=by
 have hp:2 ^ k≤2 ^ 7:=Nat.pow_le_pow_right (by decide) (by omega)
 have hb:min (k:Int).toNat IntKind.i64.bits=k:=by show min k 64=k;omega
 rw [hb]
 match x,hx with
 | 0,_=>simp
 | 1,_ =>
  rw [show ((1:Nat):Int) * 2 ^ k=((2 ^ k:Nat):Int) by simp]
  have h7:(2:Nat) ^ 7=128:=rfl
  exact ⟨Int.natCast_nonneg _,Int.ofNat_le.2 (show 2 ^ k≤9223372036854775807 by omega)⟩
def ptL (n:Nat) (q:Nat→Nat):List Int:=(List.range n).map fun w=>((q w:Nat):Int)
theorem zf1 {n:Nat} {q:Nat→Nat} {w:Nat} (hw:w < n):(ptL n q)[w]? = some ((q w:Nat):Int):=by simp [ptL,hw]
theorem zlM {n:Nat} {q:Nat→Nat} : (ptL n q).length=n:=by simp [ptL]
end Go.Ab
namespace Go.Ab
def zX {α:Type} (c:α→α→Int):List α→List α→Int
 | [],[]=>0
 | [],_::_ => -1
 | _::_,[]=>1
 | x::r,y::s=>if c x y=0 then zX c r s else c x y
structure zjb {α:Type} (c:α→α→Int):Prop where
 zero : ∀ {x y},c x y=0↔x=y
 anti : ∀ x y,c y x = - c x y
 tr : ∀ {x y z},c x y < 0→c y z < 0→c x z < 0
theorem zjb.refl {α:Type} {c:α→α→Int} (h:zjb c) (x:α):c x x=0:=h.zero.2 rfl
theorem zo5 {α:Type} {c:α→α→Int} (h:zjb c):zjb (zX c) where
 zero:=by
  intro x
  induction x with
  | nil=>intro y;cases y<;>simp [zX]
  | cons a r ih =>
   intro y
   cases y with
   | nil=>simp [zX]
   | cons b s =>
    unfold zX
    by_cases e:c a b=0
    ·rw [if_pos e,ih,h.zero.1 e];simp
    ·rw [if_neg e]
     constructor
     ·intro h';exact absurd h' e
     ·intro h';cases h';exact absurd (h.refl _) e
 anti:=by
  intro x
  induction x with
  | nil=>intro y;cases y<;>simp [zX]
  | cons a r ih =>
   intro y
   cases y with
   | nil=>simp [zX]
   | cons b s =>
    unfold zX
    have:=h.anti a b
    by_cases e:c a b=0
    ·rw [if_pos e,if_pos (by omega),ih]
    ·rw [if_neg e,if_neg (by omega),this]
 tr:=by
  intro x
  induction x with
  | nil =>
   intro y z h1 h2
   cases y with
   | nil=>simp [zX] at h1
   | cons b s=>cases z with
    | nil=>simp [zX] at h2
    | cons d t=>simp [zX]
  | cons a r ih =>
   intro y z h1 h2
   cases y with
   | nil=>simp [zX] at h1
   | cons b s=>cases z with
    | nil=>simp [zX] at h2
    | cons d t =>
     unfold zX at h1 h2 ⊢
     by_cases e1:c a b=0
     ·obtain rfl:=h.zero.1 e1
      rw [if_pos e1] at h1
      by_cases e2:c a d=0
      ·rw [if_pos e2] at h2 ⊢;exact ih h1 h2
      ·rw [if_neg e2] at h2 ⊢;exact h2
     ·rw [if_neg e1] at h1
      by_cases e2:c b d=0
      ·obtain rfl:=h.zero.1 e2
       rw [if_neg e1];exact h1
      ·rw [if_neg e2] at h2
       have h3:=h.tr h1 h2
       rw [if_neg (by omega)];exact h3
def za1 (x y:Int):Int:=if x < y then -1 else if y < x then 1 else 0
theorem ztj:zjb za1 where
 zero:=by
  intro x y;unfold za1
  by_cases h1:x < y
  ·rw [if_pos h1];omega
  ·rw [if_neg h1]
   by_cases h2:y < x
   ·rw [if_pos h2];omega
   ·rw [if_neg h2];omega
 anti:=by
  intro x y;unfold za1
  by_cases h1:x < y
  ·rw [if_pos h1,if_neg (by omega),if_pos h1];rfl
  ·rw [if_neg h1]
   by_cases h2:y < x
   ·rw [if_pos h2,if_neg h1,if_pos h2]
   ·rw [if_neg h2,if_neg h1,if_neg h2];rfl
 tr:=by
  intro x y z;unfold za1
  by_cases h1:x < y
  ·rw [if_pos h1]
   by_cases h2:y < z
   ·rw [if_pos h2,if_pos (by omega)];simp
   ·rw [if_neg h2]
    by_cases h3:z < y
    ·rw [if_pos h3];intro _ h;omega
    ·rw [if_neg h3];intro _ h;omega
  ·rw [if_neg h1]
   by_cases h2:y < x
   ·rw [if_pos h2];intro h;omega
   ·rw [if_neg h2];intro h;omega
abbrev Tup:=List (List Int)
def zaF:Tup→Tup→Int:=zX (zX za1)
theorem zah:zjb zaF:=zo5 (zo5 ztj)
def ddT {α:Type} [DecidableEq α]:List α→List α
 | []=>[]
 | x::r=>if x∈r then ddT r else x::ddT r
theorem zbn {α:Type} [DecidableEq α] {x:α} : ∀ {l:List α},x∈ddT l↔x∈l
 | []=>Iff.rfl
 | y::r=>by
  unfold ddT
  have ih:=zbn (x:=x) (l:=r)
  by_cases h:y∈r
  ·rw [if_pos h,ih,List.mem_cons]
   exact ⟨.inr,fun h'=>h'.elim (fun e=>e▸h) id⟩
  ·rw [if_neg h,List.mem_cons,List.mem_cons,ih]
theorem zdz {α:Type} [DecidableEq α] : ∀ l:List α,(ddT l).Nodup
 | []=>List.nodup_nil
 | y::r=>by
  unfold ddT
  by_cases h:y∈r
  ·rw [if_pos h];exact zdz r
  ·rw [if_neg h];exact List.nodup_cons.2 ⟨fun h'=>h (zbn.1 h'),zdz r⟩
def rkN (ts:List Tup) (t:Tup):Nat:=((ddT ts).filter fun s=>decide (zaF s t < 0)).length
def cnN (ts:List Tup):Nat:=(ddT ts).length
theorem zfr {α:Type} [DecidableEq α] {l l':List α} (h:l.Nodup) (h':l'.Nodup) (hm : ∀ x,x∈l↔x∈l'):l.Perm l':=by
 rw [List.perm_iff_count]
 intro a
 have c : ∀ l:List α,l.Nodup→l.count a=if a∈l then 1 else 0:=fun l hl=>by
  by_cases ha:a∈l
  ·rw [if_pos ha]
   have h1:=List.nodup_iff_count.1 hl a
   have h2:=List.count_pos_iff.2 ha
   omega
  ·rw [if_neg ha];exact List.count_eq_zero.2 ha
 rw [c l h,c l' h']
 by_cases ha:a∈l
 ·rw [if_pos ha,if_pos ((hm a).1 ha)]
 ·rw [if_neg ha,if_neg (fun h=>ha ((hm a).2 h))]
theorem zs9 {ts S:List Tup} (hn:S.Nodup) (hm : ∀ x,x∈S↔x∈ts) (t:Tup):(S.filter fun s=>decide (zaF s t < 0)).length=rkN ts t :=
 ((zfr hn (zdz _) fun x=>by rw [hm,zbn]).filter _).length_eq
theorem zs1 {ts S:List Tup} (hn:S.Nodup) (hm : ∀ x,x∈S↔x∈ts):S.length=cnN ts :=
 (zfr hn (zdz _) fun x=>by rw [hm,zbn]).length_eq
theorem zsC {ts ts':List Tup} (hm : ∀ x,x∈ts↔x∈ts') (t:Tup):rkN ts t=rkN ts' t :=
 zs9 (zdz _) (fun x=>by rw [zbn];exact hm x) t
theorem zrV {ts ts':List Tup} (hm : ∀ x,x∈ts↔x∈ts'):cnN ts=cnN ts' :=
 zs1 (zdz _) (fun x=>by rw [zbn];exact hm x)
theorem zmr {ts:List Tup} {s t:Tup} (hs:s∈ts) (ht:t∈ts):rkN ts s < rkN ts t↔zaF s t < 0:=by
 have key : ∀ {s t:Tup},s∈ts→zaF s t < 0→rkN ts s < rkN ts t:=by
  intro s t hs h
  unfold rkN
  have h1 : ∀ x,decide (zaF x s < 0)=true→decide (zaF x t < 0)=true:=fun x hx=>decide_eq_true (zah.tr (of_decide_eq_true hx) h)
  have h2:s∈(ddT ts):=zbn.2 hs
  generalize (ddT ts)=l at h2
  induction l with
  | nil=>cases h2
  | cons a r ih =>
   have hle:(r.filter fun x=>decide (zaF x s < 0)).length≤(r.filter fun x=>decide (zaF x t < 0)).length:=by
    clear ih h2
    induction r with
    | nil=>simp
    | cons b r ih =>
     simp only [List.filter_cons]
     by_cases hb:decide (zaF b s < 0)=true
     ·rw [if_pos hb,if_pos (h1 b hb)];simpa using ih
     ·rw [if_neg hb]
      split
      ·rw [List.length_cons];omega
      ·exact ih
   simp only [List.filter_cons]
   by_cases hb:decide (zaF a s < 0)=true
   ·rw [if_pos hb,if_pos (h1 a hb)]
    rcases List.mem_cons.1 h2 with rfl|h2
    ·have:=zah.refl s;have:=of_decide_eq_true hb;omega
    ·simpa using ih h2
   ·rw [if_neg hb]
    rcases List.mem_cons.1 h2 with rfl|h2
    ·rw [if_pos (decide_eq_true h)];simp;omega
    ·have:=ih h2
     split
     ·rw [List.length_cons];omega
     ·exact this
 refine ⟨fun h=>?_,key hs⟩
 have ha:=zah.anti s t
 rcases Int.lt_trichotomy (zaF s t) 0 with h'|h'|h'
 ·exact h'
 ·rw [zah.zero.1 h'] at h;omega
 ·have:=key (s:=t) (t:=s) ht (by omega);omega
theorem zuj {ts:List Tup} {s t:Tup} (hs:s∈ts) (ht:t∈ts) (h:rkN ts s=rkN ts t):s=t:=by
 have h1:=zmr hs ht
 have h2:=zmr ht hs
 have h3:=zah.anti s t
 exact zah.zero.1 (by omega)
end Go.Ab
namespace Go.Ab
theorem zea {α:Type} [DecidableEq α] : ∀ {l l':List α},l.Nodup→(∀ x∈l,x∈l')→l.length≤l'.length
 | [],_,_,_=>Nat.zero_le _
 | x::t,l',h,hs=>by
  obtain ⟨h1,h2⟩:=List.nodup_cons.1 h
  have:=zea (l:=t) (l':=l'.erase x) h2 fun y hy=>by
   have hne:y≠x:=fun e=>h1 (e▸hy)
   exact (List.mem_erase_of_ne hne).2 (hs y (List.mem_cons_of_mem _ hy))
  have hx:=hs x (by simp)
  rw [List.length_erase_of_mem hx] at this
  have:=List.length_pos_of_mem hx
  rw [List.length_cons];omega
def dcN (n:Nat) (q:Nat→Nat):Nat:=(ddT ((List.range n).map q)).length
theorem zni (n:Nat) (q:Nat→Nat):dcN n q≤n:=by
 have:=zea (zdz ((List.range n).map q)) (l':=(List.range n).map q) fun x hx=>zbn.1 hx
 rwa [List.length_map,List.length_range] at this
theorem zpL {α β:Type} [DecidableEq α] [DecidableEq β] {n:Nat} {f:Nat→α} {g:Nat→β} (h : ∀ v w,v < n→w < n→f v=f w→g v=g w):(ddT ((List.range n).map g)).length≤(ddT ((List.range n).map f)).length:=by
 classical
 by_cases h0:n=0
 ·subst h0;exact Nat.le_refl _
 let pick:α→β:=fun a=>g (((List.range n).find? fun w=>decide (f w=a)).getD 0)
 have:=zea (zdz ((List.range n).map g)) (l':=(ddT ((List.range n).map f)).map pick) fun x hx=>by
  obtain ⟨w,hw,rfl⟩:=List.mem_map.1 (zbn.1 hx)
  have hw':=List.mem_range.1 hw
  refine List.mem_map.2 ⟨f w,zbn.2 (List.mem_map.2 ⟨w,hw,rfl⟩),?_⟩
  show g (((List.range n).find? fun u=>decide (f u=f w)).getD 0)=g w
  cases hf:(List.range n).find? fun u=>decide (f u=f w) with
  | none =>
   have:=List.find?_eq_none.1 hf w hw
   simp at this
  | some u =>
   have h1:=List.find?_some hf
   have h2:=List.mem_range.1 (List.mem_of_find?_eq_some hf)
   exact h u w h2 hw' (of_decide_eq_true h1)
 rwa [List.length_map] at this
section
variable (n:Nat) (next:(Nat→Nat)→Nat→Tup)
def rfT (q:Nat→Nat):List Tup:=(List.range n).map (next q)
def zdA (q:Nat→Nat):Nat→Nat:=fun w=>rkN (rfT n next q) (next q w)
def zb7 (q:Nat→Nat):Nat:=cnN (rfT n next q)
def zc4:Nat→(Nat→Nat)→Nat→(Nat→Nat)×Nat
 | 0,q,k=>(q,k)
 | f+1,q,k=>if zb7 n next q=k then (q,k) else zc4 f (zdA n next q) (zb7 n next q)
end
section
variable {n:Nat} {next:(Nat→Nat)→Nat→Tup} (hF : ∀ q v w,v < n→w < n→next q v=next q w→q v=q w)
theorem zpl {q:Nat→Nat} {w:Nat} (hw:w < n):next q w∈rfT n next q:=List.mem_map.2 ⟨w,List.mem_range.2 hw,rfl⟩
theorem zog {q:Nat→Nat} {v w:Nat} (hv:v < n) (hw:w < n):zdA n next q v=zdA n next q w↔next q v=next q w :=
 ⟨fun h=>zuj (zpl hv) (zpl hw) h,fun h=>by unfold zdA;rw [h]⟩
theorem zev (q:Nat→Nat):dcN n (zdA n next q)=zb7 n next q:=by
 have h1:=zpL (n:=n) (f:=next q) (g:=zdA n next q) fun v w hv hw h=>(zog hv hw).2 h
 have h2:=zpL (n:=n) (f:=zdA n next q) (g:=next q) fun v w hv hw h=>(zog hv hw).1 h
 exact Nat.le_antisymm h1 h2
theorem zt8 (q:Nat→Nat):zb7 n next q≤n:=by rw [← zev];exact zni _ _
include hF
theorem zqB (q:Nat→Nat):dcN n q≤zb7 n next q:=zpL fun v w hv hw h=>hF q v w hv hw h
theorem zpm : ∀ (f g:Nat) (q:Nat→Nat),n < f+dcN n q→n < g+dcN n q→zc4 n next f q (dcN n q)=zc4 n next g q (dcN n q)
 | 0,g,q,h,_=>by have:=zni n q;omega
 | f+1,0,q,_,h=>by have:=zni n q;omega
 | f+1,g+1,q,h1,h2=>by
  unfold zc4
  by_cases h:zb7 n next q=dcN n q
  ·rw [if_pos h,if_pos h]
  ·rw [if_neg h,if_neg h]
   have h3:=zqB hF q
   have h4:=zpm f g (zdA n next q) (by rw [zev];omega) (by rw [zev];omega)
   rwa [zev] at h4
end
end Go.Ab
namespace Go.Ab
structure Ren (n:Nat) (f:Nat→Nat):Prop where
 lt : ∀ w,w < n→f w < n
 inj : ∀ v w,v < n→w < n→f v=f w→v=w
theorem Ren.surj {n:Nat} {f:Nat→Nat} (h:Ren n f) {x:Nat} (hx:x < n) : ∃ w,w < n∧f w=x:=by
 refine Classical.byContradiction fun hn=>?_
 have:=zea (l:=x::(List.range n).map f) (l':=List.range n) (List.nodup_cons.2 ⟨fun hm=>?_,?_⟩) fun y hy=>?_
 ·simp at this
  omega
 ·obtain ⟨w,hw,e⟩:=List.mem_map.1 hm
  exact hn ⟨w,List.mem_range.1 hw,e⟩
 ·rw [List.Nodup,List.pairwise_map]
  exact List.Pairwise.imp_of_mem (fun {a b} ha hb hab e=>hab (h.inj a b (List.mem_range.1 ha) (List.mem_range.1 hb) e)) List.nodup_range
 ·rcases List.mem_cons.1 hy with rfl|hy
  ·exact List.mem_range.2 hx
  ·obtain ⟨w,hw,rfl⟩:=List.mem_map.1 hy
   exact List.mem_range.2 (h.lt w (List.mem_range.1 hw))
section
variable {n:Nat} {f:Nat→Nat} (hf:Ren n f) {t t':Nat→Tup} (ht : ∀ w,w < n→t' (f w)=t w)
include hf ht
theorem zpi (x:Tup):x∈(List.range n).map t'↔x∈(List.range n).map t:=by
 constructor
 ·intro h
  obtain ⟨y,hy,rfl⟩:=List.mem_map.1 h
  obtain ⟨w,hw,rfl⟩:=hf.surj (List.mem_range.1 hy)
  exact List.mem_map.2 ⟨w,List.mem_range.2 hw,(ht w hw).symm⟩
 ·intro h
  obtain ⟨w,hw,rfl⟩:=List.mem_map.1 h
  exact List.mem_map.2 ⟨f w,List.mem_range.2 (hf.lt w (List.mem_range.1 hw)),ht w (List.mem_range.1 hw)⟩
theorem zq4 {w:Nat} (hw:w < n):rkN ((List.range n).map t') (t' (f w))=rkN ((List.range n).map t) (t w):=by
 rw [ht w hw];exact zsC (zpi hf ht) _
theorem zq3:cnN ((List.range n).map t')=cnN ((List.range n).map t):=zrV (zpi hf ht)
end
theorem zn2 {n:Nat} {f:Nat→Nat} (hf:Ren n f) {next next':(Nat→Nat)→Nat→Tup} (hn : ∀ q q',(∀ w,w < n→q' (f w)=q w) → ∀ w,w < n→next' q' (f w)=next q w) :
  ∀ (k:Nat) (q q':Nat→Nat) (c:Nat),(∀ w,w < n→q' (f w)=q w)→(∀ w,w < n→(zc4 n next' k q' c).1 (f w)=(zc4 n next k q c).1 w)∧(zc4 n next' k q' c).2=(zc4 n next k q c).2
 | 0,q,q',c,h=>⟨h,rfl⟩
 | k+1,q,q',c,h=>by
  have ht:=hn q q' h
  have hc:zb7 n next' q'=zb7 n next q:=zq3 hf ht
  unfold zc4
  rw [hc]
  by_cases he:zb7 n next q=c
  ·rw [if_pos he,if_pos he];exact ⟨h,rfl⟩
  ·rw [if_neg he,if_neg he]
   exact zn2 hf hn k _ _ _ fun w hw=>zq4 hf ht hw
def leI (x y:Int):Bool:=decide (x≤y)
theorem zue (a b c:Int) (h1:leI a b=true) (h2:leI b c=true):leI a c=true:=by simp [leI] at *;omega
theorem ztB (a b:Int):(leI a b||leI b a)=true:=by simp [leI];omega
def zc8 (l:List Int):List Int:=l.mergeSort leI
theorem zf5 (l:List Int):(zc8 l).Perm l:=List.mergeSort_perm l leI
theorem zhV (l:List Int):(zc8 l).Pairwise (· ≤ ·):=(List.pairwise_mergeSort zue ztB l).imp fun h=>by simpa [leI] using h
theorem ze9 : ∀ {l l':List Int},l.Pairwise (· ≤ ·)→l'.Pairwise (· ≤ ·)→l.Perm l'→l=l'
 | [],l',_,_,h=>(List.nil_perm.1 h).symm
 | a::r,[],_,_,h=>by cases List.perm_nil.1 h
 | a::r,b::s,h1,h2,h=>by
  obtain ⟨h3,h4⟩:=List.pairwise_cons.1 h1
  obtain ⟨h5,h6⟩:=List.pairwise_cons.1 h2
  have e:a=b:=by
   have hb:b∈a::r:=h.mem_iff.2 (by simp)
   have ha:a∈b::s:=h.mem_iff.1 (by simp)
   rcases List.mem_cons.1 hb with e|hb
   ·exact e.symm
   ·rcases List.mem_cons.1 ha with e|ha
    ·exact e
    ·have:=h3 b hb;have:=h5 a ha;omega
  subst e
  rw [ze9 h4 h6 ((List.perm_cons a).1 h)]
theorem zmy {l l':List Int} (h:l.Perm l'):zc8 l=zc8 l':=ze9 (zhV l) (zhV l') (((zf5 l).trans h).trans (zf5 l').symm)
theorem zun {l s:List Int} (hs:s.Pairwise (· ≤ ·)) (hp:s.Perm l):s=zc8 l:=ze9 hs (zhV l) (hp.trans (zf5 l).symm)
def zof (l:List Int):List Int:=zc8 (ddT l)
theorem zrZ {α:Type} [DecidableEq α] {l l':List α} (h : ∀ x,x∈l↔x∈l'):(ddT l).Perm (ddT l'):=by
 rw [List.perm_iff_count]
 intro a
 have c : ∀ l:List α,(ddT l).count a=if a∈l then 1 else 0:=fun l=>by
  by_cases ha:a∈l
  ·rw [if_pos ha]
   have h1:=List.nodup_iff_count.1 (zdz l) a
   have h2:=List.count_pos_iff.2 (zbn.2 ha)
   omega
  ·rw [if_neg ha];exact List.count_eq_zero.2 (fun h=>ha (zbn.1 h))
 rw [c,c]
 by_cases ha:a∈l
 ·rw [if_pos ha,if_pos ((h a).1 ha)]
 ·rw [if_neg ha,if_neg (fun h'=>ha ((h a).2 h'))]
theorem zql {l l':List Int} (h : ∀ x,x∈l↔x∈l'):zof l=zof l':=zmy (zrZ h)
abbrev zam:=List (Nat→Nat→Bool)
def zc6 (n:Nat) (r:Nat→Nat→Bool) (q:Nat→Nat) (w:Nat):List Int:=((List.range n).filter fun v=>r w v).map fun v=>(q v:Int)
def zcr (n:Nat) (R:zam) (q:Nat→Nat) (w:Nat):Tup:=[(q w:Int)]::R.map fun r=>zc8 (zc6 n r q w)
def zgA (n:Nat) (R:zam) (q:Nat→Nat) (w:Nat):Tup:=[(q w:Int)]::R.map fun r=>zof (zc6 n r q w)
theorem zp3 {n:Nat} {R:zam} (q:Nat→Nat) (v w:Nat) (_:v < n) (_:w < n) (h:zcr n R q v=zcr n R q w):q v=q w:=by
 unfold zcr at h
 have:=(List.cons.inj h).1
 simp at this;omega
structure zeg (n:Nat) (f:Nat→Nat) (R R':zam):Prop where
 len:R'.length=R.length
 rel : ∀ (i:Nat) (r r':Nat→Nat→Bool),R[i]? = some r→R'[i]? = some r' → ∀ v w,v < n→w < n→r' (f v) (f w)=r v w
theorem zsH {n:Nat} {f:Nat→Nat} (hf:Ren n f) {r r':Nat→Nat→Bool} (h : ∀ v w,v < n→w < n→r' (f v) (f w)=r v w) {q q':Nat→Nat} (hq : ∀ w,w < n→q' (f w)=q w) {w:Nat} (hw:w < n):(zc6 n r' q' (f w)).Perm (zc6 n r q w):=by
 have h1:((List.range n).filter fun v=>r' (f w) v).Perm (((List.range n).filter fun v=>r w v).map f):=by
  refine zfr (List.Nodup.sublist List.filter_sublist List.nodup_range) ?_ fun x=>?_
  ·rw [List.Nodup,List.pairwise_map]
   refine List.Pairwise.imp_of_mem (fun {a b} ha hb hab e=>hab (hf.inj a b ?_ ?_ e)) (List.Nodup.sublist List.filter_sublist List.nodup_range)
   ·exact List.mem_range.1 (List.mem_filter.1 ha).1
   ·exact List.mem_range.1 (List.mem_filter.1 hb).1
  ·constructor
   ·intro hx
    obtain ⟨h1,h2⟩:=List.mem_filter.1 hx
    obtain ⟨v,hv,rfl⟩:=hf.surj (List.mem_range.1 h1)
    exact List.mem_map.2 ⟨v,List.mem_filter.2 ⟨List.mem_range.2 hv,by rw [← h w v hw hv];exact h2⟩,rfl⟩
   ·intro hx
    obtain ⟨v,hv,rfl⟩:=List.mem_map.1 hx
    obtain ⟨h1,h2⟩:=List.mem_filter.1 hv
    have h1:=List.mem_range.1 h1
    exact List.mem_filter.2 ⟨List.mem_range.2 (hf.lt v h1),by rw [h w v hw h1];exact h2⟩
 unfold zc6
 refine (h1.map _).trans ?_
 rw [List.map_map]
 refine List.Perm.of_eq (List.map_congr_left fun v hv=>?_)
 have:=List.mem_range.1 (List.mem_filter.1 hv).1
 show ((q' (f v):Nat):Int)=_
 rw [hq v this]
theorem znS {n:Nat} {f:Nat→Nat} (hf:Ren n f) {R R':zam} (hR:zeg n f R R') {q q':Nat→Nat} (hq : ∀ w,w < n→q' (f w)=q w) {w:Nat} (hw:w < n):zcr n R' q' (f w)=zcr n R q w∧zgA n R' q' (f w)=zgA n R q w:=by
 have key : ∀ (g:List Int→List Int),(∀ l l':List Int,l.Perm l'→g l=g l')→(R'.map fun r=>g (zc6 n r q' (f w)))=R.map fun r=>g (zc6 n r q w):=by
  intro g hg
  refine List.ext_getElem? fun i=>?_
  rw [List.getElem?_map,List.getElem?_map]
  by_cases hi:i < R.length
  ·obtain ⟨r,hr⟩ : ∃ r,R[i]? = some r:=⟨_,List.getElem?_eq_getElem hi⟩
   obtain ⟨r',hr'⟩ : ∃ r',R'[i]? = some r':=⟨_,List.getElem?_eq_getElem (by rw [hR.len];exact hi)⟩
   rw [hr,hr']
   exact congrArg some (hg _ _ (zsH hf (hR.rel i r r' hr hr') hq hw))
  ·rw [List.getElem?_eq_none (by rw [hR.len];omega),List.getElem?_eq_none (by omega)];rfl
 exact ⟨by unfold zcr;rw [hq w hw,key zc8 fun l l' h=>zmy h],by unfold zgA;rw [hq w hw,key zof fun l l' h=>zql fun x=>h.mem_iff]⟩
def zlN (n:Nat) (R:zam) (first:Nat→Tup):(Nat→Nat)×Nat:=zc4 n (zcr n R) (n+1) (fun w=>rkN ((List.range n).map first) (first w)) (cnN ((List.range n).map first))
def zn0 (n:Nat) (R:zam) (first:Nat→Tup):(Nat→Nat)×Nat:=zc4 n (zgA n R) (n+1) (fun w=>rkN ((List.range n).map first) (first w)) (cnN ((List.range n).map first))
theorem ztJ {n:Nat} {f:Nat→Nat} (hf:Ren n f) {R R':zam} (hR:zeg n f R R') {first first':Nat→Tup} (h1 : ∀ w,w < n→first' (f w)=first w) :
  (∀ w,w < n→(zlN n R' first').1 (f w)=(zlN n R first).1 w)∧(zlN n R' first').2=(zlN n R first).2∧(∀ w,w < n→(zn0 n R' first').1 (f w)=(zn0 n R first).1 w)∧(zn0 n R' first').2=(zn0 n R first).2:=by
 have hc:=zq3 hf h1
 have hr : ∀ w,w < n→(fun w=>rkN ((List.range n).map first') (first' w)) (f w)=(fun w=>rkN ((List.range n).map first) (first w)) w:=fun w hw=>zq4 hf h1 hw
 have ha:=zn2 hf (next:=zcr n R) (next':=zcr n R') (fun q q' hq w hw=>(znS hf hR hq hw).1) (n+1) (fun w=>rkN ((List.range n).map first) (first w)) (fun w=>rkN ((List.range n).map first') (first' w)) (cnN ((List.range n).map first)) hr
 have ho:=zn2 hf (next:=zgA n R) (next':=zgA n R') (fun q q' hq w hw=>(znS hf hR hq hw).2) (n+1) (fun w=>rkN ((List.range n).map first) (first w)) (fun w=>rkN ((List.range n).map first') (first' w)) (cnN ((List.range n).map first)) hr
 unfold zlN zn0
 rw [hc]
 exact ⟨ha.1,ha.2,ho.1,ho.2⟩
end Go.Ab
namespace Go.Ab
structure zck (n:Nat) (fa fb:Nat→Int) (R R':zam) (f:Nat→Nat):Prop where
 ren:Ren n f
 fac : ∀ w,w < n→fb (f w)=fa w
 rel:zeg n f R R'
def zd0 (R:zam):zam:=R.map fun r=>fun v w=>r w v
theorem zeg.back {n:Nat} {f:Nat→Nat} {R R':zam} (h:zeg n f R R'):zeg n f (R++zd0 R) (R'++zd0 R'):=by
 refine ⟨by simp [zd0,h.len],fun i r r' h1 h2 v w hv hw=>?_⟩
 by_cases hi:i < R.length
 ·rw [List.getElem?_append_left hi] at h1
  rw [List.getElem?_append_left (by rw [h.len];exact hi)] at h2
  exact h.rel i r r' h1 h2 v w hv hw
 ·rw [List.getElem?_append_right (by omega),zd0,List.getElem?_map,Option.map_eq_some_iff] at h1
  rw [List.getElem?_append_right (by rw [h.len];omega),zd0,List.getElem?_map,Option.map_eq_some_iff] at h2
  obtain ⟨s,hs,rfl⟩:=h1
  obtain ⟨s',hs',rfl⟩:=h2
  exact h.rel _ s s' hs (by rw [← h.len];exact hs') w v hw hv
def zeZ (n:Nat) (fa:Nat→Int) (R:zam):(Nat→Nat)×Nat:=zlN n (R++zd0 R) fun w=>[[fa w]]
theorem ztl {n:Nat} {fa fb:Nat→Int} {R R':zam} {f:Nat→Nat} (h:zck n fa fb R R' f) : ∀ w,w < n→(zeZ n fb R').1 (f w)=(zeZ n fa R).1 w :=
 (ztJ h.ren h.rel.back (first:=fun w=>[[fa w]]) (first':=fun w=>[[fb w]]) fun w hw=>by rw [h.fac w hw]).1
def dfs (ok:List Nat→Nat→Bool) (n:Nat):Nat→List Nat→List (List Nat)
 | 0,to=>[to]
 | k+1,to=>(List.range n).flatMap fun w=>if ok to w=true then dfs ok n k (to++[w]) else []
theorem zdN {ok:List Nat→Nat→Bool} {n:Nat} : ∀ {k:Nat} {to x:List Nat},x∈dfs ok n k to↔x.length=to.length+k∧to <+: x ∧ ∀ v,to.length≤v→v < x.length→x.getD v 0 < n∧ok (x.take v) (x.getD v 0)=true
 | 0,to,x=>by
  unfold dfs
  rw [List.mem_singleton]
  constructor
  ·rintro rfl;exact ⟨rfl,List.prefix_rfl,fun v h1 h2=>by omega⟩
  ·rintro ⟨h1,h2,-⟩;exact (h2.eq_of_length (by omega)).symm
 | k+1,to,x=>by
  unfold dfs
  rw [List.mem_flatMap]
  constructor
  ·rintro ⟨w,hw,hx⟩
   by_cases hok:ok to w=true
   ·rw [if_pos hok] at hx
    obtain ⟨h1,h2,h3⟩:=zdN.1 hx
    rw [List.length_append,List.length_singleton] at h1 h3
    have hp:to <+: x:=(List.prefix_append to [w]).trans h2
    refine ⟨by omega,hp,fun v h4 h5=>?_⟩
    by_cases e:v=to.length
    ·subst e
     obtain ⟨s,rfl⟩:=h2
     have e1:(to++[w]++s).getD to.length 0=w:=by simp [List.getD]
     have e2:(to++[w]++s).take to.length=to:=by simp
     rw [e1,e2]
     exact ⟨List.mem_range.1 hw,hok⟩
    ·exact h3 v (by omega) h5
   ·rw [if_neg hok] at hx;cases hx
  ·rintro ⟨h1,h2,h3⟩
   obtain ⟨s,rfl⟩:=h2
   match s,h1 with
   | [],h1=>simp at h1
   | w::s,h1 =>
    have e1:(to++w::s).getD to.length 0=w:=by simp [List.getD]
    have e2:(to++w::s).take to.length=to:=by simp
    obtain ⟨h4,h5⟩:=h3 to.length (Nat.le_refl _) (by simp)
    rw [e1] at h4 h5
    rw [e2] at h5
    refine ⟨w,List.mem_range.2 h4,?_⟩
    rw [if_pos h5]
    exact zdN.2 ⟨by simp at *;omega,⟨s,by simp⟩,fun v h6 h7=>h3 v (by simp at h6;omega) h7⟩
theorem zgm {ok:List Nat→Nat→Bool} {n:Nat} : ∀ (k:Nat) (to:List Nat),(dfs ok n k to).Nodup
 | 0,to=>by unfold dfs;simp
 | k+1,to=>by
  unfold dfs
  rw [List.Nodup,List.pairwise_flatMap]
  constructor
  ·intro w _
   by_cases h:ok to w=true
   ·rw [if_pos h];exact zgm k _
   ·rw [if_neg h];exact List.Pairwise.nil
  ·refine List.nodup_range.imp fun {v w} hne x hx y hy e=>?_
   subst e
   by_cases h:ok to v=true
   ·rw [if_pos h] at hx
    by_cases h':ok to w=true
    ·rw [if_pos h'] at hy
     obtain ⟨s,h1⟩:=(zdN.1 hx).2.1
     obtain ⟨t,h2⟩:=(zdN.1 hy).2.1
     rw [← h2] at h1
     have:=congrArg (fun l=>l.getD to.length 0) h1
     simp [List.getD] at this
     exact hne this
    ·rw [if_neg h'] at hy;cases hy
   ·rw [if_neg h] at hx;cases hx
abbrev fnL (x:List Nat):Nat→Nat:=fun v=>x.getD v 0
section
variable (n:Nat) (fa fb:Nat→Int) (R R':zam)
def zfZ (x:Nat→Nat) (v u:Nat):Bool:=(R.zip R').all fun r=>r.1 v u==r.2 (x v) (x u)&&r.1 u v==r.2 (x u) (x v)
def okS (to:List Nat) (w:Nat):Bool := !to.contains w&&(fa to.length==fb w&&(List.range (to.length+1)).all fun u=>zfZ R R' (fnL (to++[w])) to.length u)
end
theorem zdV {R R':zam} (hl:R'.length=R.length) {p:(Nat→Nat→Bool)×(Nat→Nat→Bool)→Bool} : (R.zip R').all p=true ↔ ∀ (i:Nat) r r',R[i]? = some r→R'[i]? = some r'→p (r,r')=true:=by
 rw [List.all_eq_true]
 constructor
 ·intro h i r r' h1 h2
  refine h (r,r') (List.mem_of_getElem? (i:=i) ?_)
  rw [List.getElem?_zip_eq_some]
  exact ⟨h1,h2⟩
 ·intro h x hx
  obtain ⟨i,hi⟩:=List.mem_iff_getElem?.1 hx
  obtain ⟨h1,h2⟩:=List.getElem?_zip_eq_some.1 hi
  exact h i x.1 x.2 h1 h2
theorem zhW {x:List Nat} {v u:Nat} (hv:v < x.length) (hu:u≤v):fnL (x.take v++[x.getD v 0]) u=fnL x u:=by
 have:x.take v++[x.getD v 0]=x.take (v+1):=by
  rw [List.take_add_one,List.getElem?_eq_getElem hv]
  simp [List.getD,hv]
 show (x.take v++[x.getD v 0]).getD u 0=x.getD u 0
 rw [this,List.getD,List.getD,List.getElem?_take_of_lt (by omega)]
theorem zlK {n:Nat} {fa fb:Nat→Int} {R R':zam} (hl:R'.length=R.length) {x:List Nat} (hx:x.length=n) :
  (∀ v,v < n→x.getD v 0 < n∧okS fa fb R R' (x.take v) (x.getD v 0)=true)↔zck n fa fb R R' (fnL x):=by
 constructor
 ·intro h
  have h1 : ∀ v,v < n → ∀ u,u < v→fnL x u≠fnL x v:=fun v hv u hu e=>by
   have:=(h v hv).2
   unfold okS at this
   simp only [Bool.and_eq_true,Bool.not_eq_true',List.contains_iff_mem] at this
   have h2 : ¬(x.take v).contains (x.getD v 0)=true:=by rw [this.1];decide
   refine h2 (List.contains_iff_mem.2 ?_)
   rw [← (show fnL x u=x.getD v 0 from e)]
   exact List.mem_of_getElem? (i:=u) (by rw [List.getElem?_take_of_lt hu,List.getElem?_eq_getElem (by omega)];simp [fnL,List.getD,show u < x.length by omega])
  have h2 : ∀ v,v < n→fa v=fb (fnL x v) ∧ ∀ u,u≤v→zfZ R R' (fnL x) v u=true:=fun v hv=>by
   have:=(h v hv).2
   unfold okS at this
   simp only [Bool.and_eq_true,List.length_take,beq_iff_eq,List.all_eq_true,List.mem_range] at this
   rw [show min v x.length=v by omega] at this
   refine ⟨this.2.1,fun u hu=>?_⟩
   have h3:=this.2.2 u (by omega)
   unfold zfZ at h3 ⊢
   rw [zhW (by omega) (Nat.le_refl _),zhW (by omega) hu] at h3
   exact h3
  refine ⟨⟨fun w hw=>(h w hw).1,fun v w hv hw e=>?_⟩,fun w hw=>(h2 w hw).1.symm,hl,fun i r r' hr hr' v w hv hw=>?_⟩
  ·rcases Nat.lt_trichotomy v w with hlt|e'|hlt
   ·exact absurd e (h1 w hw v hlt)
   ·exact e'
   ·exact absurd e.symm (h1 v hv w hlt)
  ·rcases Nat.le_total w v with hle|hle
   ·have:=(zdV hl).1 ((h2 v hv).2 w hle) i r r' hr hr'
    simp only [Bool.and_eq_true,beq_iff_eq] at this
    exact this.1.symm
   ·have:=(zdV hl).1 ((h2 w hw).2 v hle) i r r' hr hr'
    simp only [Bool.and_eq_true,beq_iff_eq] at this
    exact this.2.symm
 ·intro h v hv
  refine ⟨h.ren.lt v hv,?_⟩
  unfold okS
  simp only [Bool.and_eq_true,List.length_take,beq_iff_eq,List.all_eq_true,List.mem_range]
  rw [show min v x.length=v by omega]
  refine ⟨?_,(h.fac v hv).symm,fun u hu=>?_⟩
  ·rw [Bool.not_eq_true',← Bool.not_eq_true,List.contains_iff_mem]
   intro hm
   obtain ⟨u,hu⟩:=List.mem_iff_getElem?.1 hm
   have hlt:u < v:=by have:=(List.getElem?_eq_some_iff.1 hu).1;simp at this;omega
   rw [List.getElem?_take_of_lt hlt] at hu
   have:fnL x u=fnL x v:=by show x.getD u 0=_;rw [List.getD,hu];rfl
   have:=h.ren.inj u v (by omega) hv this
   omega
  ·unfold zfZ
   rw [zhW (by omega) (Nat.le_refl _),zhW (by omega) (by omega)]
   refine (zdV hl).2 fun i r r' hr hr'=>?_
   simp only [Bool.and_eq_true,beq_iff_eq]
   exact ⟨(h.rel.rel i r r' hr hr' v u hv (by omega)).symm,(h.rel.rel i r r' hr hr' u v (by omega) hv).symm⟩
def okC (n:Nat) (fa fb:Nat→Int) (R R':zam) (to:List Nat) (w:Nat):Bool:=decide ((zeZ n fa R).1 to.length=(zeZ n fb R').1 w)&&okS fa fb R R' to w
theorem zeo {n:Nat} {fa fb:Nat→Int} {R R':zam} (hl:R'.length=R.length) {x:List Nat} : x∈dfs (okS fa fb R R') n n []↔x.length=n∧zck n fa fb R R' (fnL x):=by
 rw [zdN]
 constructor
 ·rintro ⟨h1,-,h3⟩
  have h1:x.length=n:=by simpa using h1
  exact ⟨h1,(zlK hl h1).1 fun v hv=>h3 v (Nat.zero_le _) (by omega)⟩
 ·rintro ⟨h1,h2⟩
  exact ⟨by simpa using h1,List.nil_prefix,fun v _ hv=>(zlK hl h1).2 h2 v (by omega)⟩
theorem zqN {n:Nat} {fa fb:Nat→Int} {R R':zam} (hl:R'.length=R.length) {x:List Nat} : x∈dfs (okC n fa fb R R') n n []↔x.length=n∧zck n fa fb R R' (fnL x):=by
 rw [← zeo hl,zdN,zdN]
 constructor
 ·rintro ⟨h1,h2,h3⟩
  exact ⟨h1,h2,fun v hv hv'=>⟨(h3 v hv hv').1,by have:=(h3 v hv hv').2;unfold okC at this;exact (Bool.and_eq_true _ _▸this).2⟩⟩
 ·rintro ⟨h1,h2,h3⟩
  have hn:x.length=n:=by simpa using h1
  have hiso:=(zlK hl hn).1 fun v hv=>h3 v (Nat.zero_le _) (by omega)
  refine ⟨h1,h2,fun v hv hv'=>⟨(h3 v hv hv').1,?_⟩⟩
  unfold okC
  rw [(h3 v hv hv').2,Bool.and_true,List.length_take,show min v x.length=v by omega]
  exact decide_eq_true (ztl hiso v (by omega)).symm
theorem zqM {n:Nat} {fa fb:Nat→Int} {R R':zam} (hl:R'.length=R.length):(dfs (okC n fa fb R R') n n []).length=(dfs (okS fa fb R R') n n []).length :=
 (zfr (zgm _ _) (zgm _ _) fun x=>by rw [zqN hl,zeo hl]).length_eq
end Go.Ab
namespace Go.Ab
def zen (n:Nat) (f:Nat→Nat) (x:Nat):Nat:=((List.range n).find? fun w=>decide (f w=x)).getD 0
theorem zpZ {n:Nat} {f:Nat→Nat} (hf:Ren n f) {w:Nat} (hw:w < n):zen n f (f w)=w:=by
 unfold zen
 cases h:(List.range n).find? fun u=>decide (f u=f w) with
 | none=>have:=List.find?_eq_none.1 h w (List.mem_range.2 hw);simp at this
 | some u =>
  have h1:=List.find?_some h
  exact hf.inj u w (List.mem_range.1 (List.mem_of_find?_eq_some h)) hw (of_decide_eq_true h1)
theorem zeG {n:Nat} {f:Nat→Nat} (hf:Ren n f) {x:Nat} (hx:x < n):zen n f x < n∧f (zen n f x)=x:=by
 obtain ⟨w,hw,rfl⟩:=hf.surj hx
 rw [zpZ hf hw];exact ⟨hw,rfl⟩
theorem Ren.inv {n:Nat} {f:Nat→Nat} (hf:Ren n f):Ren n (zen n f) :=
 ⟨fun x hx=>(zeG hf hx).1,fun x y hx hy e=>by rw [← (zeG hf hx).2,← (zeG hf hy).2,e]⟩
theorem Ren.comp {n:Nat} {f g:Nat→Nat} (hf:Ren n f) (hg:Ren n g):Ren n fun w=>g (f w) :=
 ⟨fun w hw=>hg.lt _ (hf.lt w hw),fun v w hv hw e=>hf.inj v w hv hw (hg.inj _ _ (hf.lt v hv) (hf.lt w hw) e)⟩
theorem zeg.inv {n:Nat} {f:Nat→Nat} {R R':zam} (hf:Ren n f) (h:zeg n f R R'):zeg n (zen n f) R' R :=
 ⟨h.len.symm,fun i r r' h1 h2 v w hv hw=>by
  have e:=h.rel i r' r h2 h1 (zen n f v) (zen n f w) (zeG hf hv).1 (zeG hf hw).1
  rw [(zeG hf hv).2,(zeG hf hw).2] at e
  exact e.symm⟩
theorem zeg.comp {n:Nat} {f g:Nat→Nat} {R R' R2:zam} (hf:Ren n f) (h:zeg n f R R') (h':zeg n g R' R2):zeg n (fun w=>g (f w)) R R2 :=
 ⟨h'.len.trans h.len,fun i r r2 h1 h2 v w hv hw=>by
  obtain ⟨r',hr'⟩ : ∃ r',R'[i]? = some r':=⟨_,List.getElem?_eq_getElem (by have:=(List.getElem?_eq_some_iff.1 h1).1;rw [h.len];exact this)⟩
  rw [h'.rel i r' r2 hr' h2 _ _ (hf.lt v hv) (hf.lt w hw),h.rel i r r' h1 hr' v w hv hw]⟩
theorem zck.inv {n:Nat} {fa fb:Nat→Int} {R R':zam} {f:Nat→Nat} (h:zck n fa fb R R' f):zck n fb fa R' R (zen n f) :=
 ⟨h.ren.inv,fun x hx=>by rw [← h.fac _ (zeG h.ren hx).1,(zeG h.ren hx).2],h.rel.inv h.ren⟩
theorem zck.comp {n:Nat} {fa fb fc:Nat→Int} {R R' R2:zam} {f g:Nat→Nat} (h:zck n fa fb R R' f) (h':zck n fb fc R' R2 g):zck n fa fc R R2 fun w=>g (f w) :=
 ⟨h.ren.comp h'.ren,fun w hw=>by rw [h'.fac _ (h.ren.lt w hw),h.fac w hw],h.rel.comp h.ren h'.rel⟩
theorem zck.congr {n:Nat} {fa fb:Nat→Int} {R R':zam} {f g:Nat→Nat} (h:zck n fa fb R R' f) (e : ∀ w,w < n→g w=f w):zck n fa fb R R' g :=
 ⟨⟨fun w hw=>by rw [e w hw];exact h.ren.lt w hw,fun v w hv hw h'=>h.ren.inj v w hv hw (by rw [← e v hv,← e w hw,h'])⟩,fun w hw=>by rw [e w hw];exact h.fac w hw,
  ⟨h.rel.len,fun i r r' h1 h2 v w hv hw=>by rw [e v hv,e w hw];exact h.rel.rel i r r' h1 h2 v w hv hw⟩⟩
theorem zo0 {n:Nat} {fa fb:Nat→Int} {R R':zam} {f:Nat→Nat} (h:zck n fa fb R R' f):(dfs (okS fa fa R R) n n []).length≤(dfs (okS fb fb R' R') n n []).length:=by
 let move:List Nat→List Nat:=fun x=>(List.range n).map fun v=>f (fnL x (zen n f v))
 have:=zea (l:=(dfs (okS fa fa R R) n n []).map move) (l':=dfs (okS fb fb R' R') n n []) ?_ ?_
 ·rwa [List.length_map] at this
 ·rw [List.Nodup,List.pairwise_map]
  refine List.Pairwise.imp_of_mem (fun {x y} hx hy hne e=>hne ?_) (zgm (ok:=okS fa fa R R) (n:=n) n [])
  obtain ⟨h1,h2⟩:=(zeo rfl).1 hx
  obtain ⟨h3,h4⟩:=(zeo rfl).1 hy
  refine List.ext_getElem? fun i=>?_
  by_cases hi:i < n
  ·have:=congrArg (fun l=>l[f i]?) e
   simp only [move,List.getElem?_map,List.getElem?_range (h.ren.lt i hi),Option.map_some,Option.some.injEq] at this
   rw [zpZ h.ren hi] at this
   have:=h.ren.inj _ _ (h2.ren.lt i hi) (h4.ren.lt i hi) this
   rw [List.getElem?_eq_getElem (by omega),List.getElem?_eq_getElem (by omega)]
   simpa [fnL,List.getD,show i < x.length by omega,show i < y.length by omega] using this
  ·rw [List.getElem?_eq_none (by omega),List.getElem?_eq_none (by omega)]
 ·intro y hy
  obtain ⟨x,hx,rfl⟩:=List.mem_map.1 hy
  obtain ⟨h1,h2⟩:=(zeo rfl).1 hx
  refine (zeo rfl).2 ⟨by simp [move],((h.inv.comp h2).comp h).congr fun w hw=>?_⟩
  show (move x).getD w 0=_
  simp [move,List.getD,hw]
theorem zuU {n:Nat} {fa fb:Nat→Int} {R R':zam} {f:Nat→Nat} (h:zck n fa fb R R' f):(dfs (okS fa fa R R) n n []).length=(dfs (okS fb fb R' R') n n []).length :=
 Nat.le_antisymm (zo0 h) (zo0 h.inv)
end Go.Ab
namespace Go.Ab
def zmV (l:List Nat) (R:zam):zam:=R.map fun r=>fun i j=>r (l.getD i 0) (l.getD j 0)
def zp8 (l:List Nat) (fa:Nat→Int):Nat→Int:=fun i=>fa (l.getD i 0)
theorem zj8 {l:List Nat} {i:Nat} (h:i < l.length):l.getD i 0∈l:=by
 rw [List.getD,List.getElem?_eq_getElem h];exact List.getElem_mem h
theorem zsh {l:List Nat} {x:Nat} (h:x∈l) : ∃ i,i < l.length∧l.getD i 0=x:=by
 obtain ⟨i,hi,rfl⟩:=List.mem_iff_getElem.1 h
 exact ⟨i,hi,by simp [List.getD,hi]⟩
end Go.Ab
namespace Go.Ab
theorem zgC {n:Nat} (hn:n≤64) {f:Nat→Bool} {w:Nat} : (zbc f n).getLsbD w=true↔w < n∧f w=true:=by
 rw [zi4];simp only [Bool.and_eq_true,decide_eq_true_eq]
 exact ⟨fun h=>⟨h.1.2,h.2⟩,fun h=>⟨⟨by omega,h.1⟩,h.2⟩⟩
def zV (m:KM):zam:=m.rel.map fun r=>fun v w=>rb r v w
def zai (m:KM) (w:Nat):Int:=(zcp m.val w m.val.length:Int)
def zba (s:BitVec 64) (l:List Nat):BitVec 64:=zbc (fun i=>s.getLsbD (l.getD i 0)) l.length
def zcD (m:KM) (l:List Nat):KM:=⟨l.length,m.val.map fun s=>zba s l,m.rel.map fun r=>l.map fun w=>zba (r.getD w 0#64) l⟩
theorem zhP {s:BitVec 64} {l:List Nat} (hl:l.length≤64) {i:Nat} : (zba s l).getLsbD i=true↔i < l.length∧s.getLsbD (l.getD i 0)=true:=zgC hl
theorem zls {n:Int} {s:BitVec 64} (h:0≤n):bad n s=false ↔ ∀ i,s.getLsbD i=true→i < n.toNat:=by
 rw [zqs h]
 exact ⟨fun k i hi=>by have:=k i hi;omega,fun k i hi=>by have:=k i hi;omega⟩
theorem zpX {m:KM} (h:zmL m):zk m=0:=by
 obtain ⟨h1,h2,h3,h4,h5,h6,h7⟩:=h
 unfold zk
 rw [if_neg (by omega),if_neg (by omega),if_neg,if_neg,if_neg]
 ·simp only [List.any_eq_true,not_exists,not_and]
  intro r hr s hs e
  rw [h7 r hr s hs] at e;cases e
 ·simp only [List.any_eq_true,not_exists,not_and]
  intro s hs e
  rw [h6 s hs] at e;cases e
 ·simp only [List.any_eq_true,not_exists,not_and,decide_eq_true_eq]
  intro r hr e
  exact e (h5 r hr)
theorem zrO {m:KM} (hm:zmL m) {l:List Nat} (h1:1≤l.length) (h2:l.length≤64):zmL (zcD m l) where
 w1:=by show (1:Int)≤(l.length:Int);omega
 w2:=by show (l.length:Int)≤64;omega
 n4:=by have:=hm.n4;simpa [zcD] using this
 v8:=by have:=hm.v8;simpa [zcD] using this
 len:=fun r hr=>by
  obtain ⟨r',-,rfl⟩:=List.mem_map.1 hr
  simp [zcD]
 val:=fun s hs=>by
  obtain ⟨s',-,rfl⟩:=List.mem_map.1 hs
  rw [zls (by show (0:Int)≤(l.length:Int);omega)]
  intro i hi
  exact ((zhP h2).1 hi).1
 rel:=fun r hr s hs=>by
  obtain ⟨r',-,rfl⟩:=List.mem_map.1 hr
  obtain ⟨w,-,rfl⟩:=List.mem_map.1 hs
  rw [zls (by show (0:Int)≤(l.length:Int);omega)]
  intro i hi
  exact ((zhP h2).1 hi).1
theorem zuY {m:KM} (hc:zk m=0) {l:List Nat} (h1:1≤l.length) (h2:l.length≤64):zk (zcD m l)=0:=zpX (zrO (zD hc) h1 h2)
theorem zhQ (m:KM):(zV m).length=m.rel.length:=by simp [zV]
theorem zte {m:KM} {l:List Nat} (h2:l.length≤64) {i:Nat} {r r':Nat→Nat→Bool} (h:(zV (zcD m l))[i]? = some r) (h':(zmV l (zV m))[i]? = some r') {v w:Nat} (hv:v < l.length) (hw:w < l.length):r v w=r' v w:=by
 unfold zV zcD at h
 unfold zmV zV at h'
 rw [List.map_map,List.getElem?_map,Option.map_eq_some_iff] at h
 rw [List.map_map,List.getElem?_map,Option.map_eq_some_iff] at h'
 obtain ⟨a,ha,rfl⟩:=h
 obtain ⟨b,hb,rfl⟩:=h'
 rw [ha] at hb;cases hb
 show rb (l.map fun w=>zba (a.getD w 0#64) l) v w=rb a (l.getD v 0) (l.getD w 0)
 unfold rb
 rw [show (l.map fun w=>zba (a.getD w 0#64) l).getD v 0#64=zba (a.getD (l.getD v 0) 0#64) l by
  simp [List.getD,List.getElem?_map,List.getElem?_eq_getElem hv]]
 rw [Bool.eq_iff_iff,zhP h2]
 exact ⟨fun h=>h.2,fun h=>⟨hw,h⟩⟩
theorem zkT (vl:List (BitVec 64)) {l:List Nat} (h2:l.length≤64) {i:Nat} (hi:i < l.length) : ∀ k,zcp (vl.map fun s=>zba s l) i k=zcp vl (l.getD i 0) k
 | 0=>rfl
 | k+1=>by
  rw [zcp,zcp,zkT vl h2 hi k]
  have e:((vl.map fun s=>zba s l).getD k 0#64).getLsbD i=(vl.getD k 0#64).getLsbD (l.getD i 0):=by
   simp only [List.getD,List.getElem?_map]
   cases hk:vl[k]? with
   | none=>simp
   | some s =>
    show (zba s l).getLsbD i=s.getLsbD (l.getD i 0)
    rw [Bool.eq_iff_iff,zhP h2]
    exact ⟨fun h=>h.2,fun h=>⟨hi,h⟩⟩
  rw [e]
theorem ztd {m:KM} {l:List Nat} (h2:l.length≤64) {i:Nat} (hi:i < l.length):zai (zcD m l) i=zp8 l (zai m) i:=by
 unfold zai zp8 zcD
 rw [List.length_map,zkT _ h2 hi]
theorem zsa {l:List (BitVec 64)} {W:Int} (hW:0≤W) (h : ∀ s∈l,bad W s=false) (i w:Nat) (hw:(l.getD i 0#64).getLsbD w=true):w < W.toNat:=by
 cases hi:l[i]? with
 | none=>rw [List.getD,hi] at hw;simp at hw
 | some s =>
  rw [List.getD,hi] at hw
  exact (zls hW).1 (h s (List.mem_of_getElem? hi)) w hw
theorem zaL {α:Type} {l:List α} {i:Nat} {d:α} (h:i < l.length):l[i]? = some (l.getD i d):=by simp [List.getD,h]
theorem zmI {α:Type} {a b:List α} {d:α} (hl:a.length=b.length) (h : ∀ i,i < a.length→a.getD i d=b.getD i d):a=b:=by
 refine List.ext_getElem hl fun i h1 h2=>?_
 have:=h i h1
 rw [List.getD,List.getD,List.getElem?_eq_getElem h1,List.getElem?_eq_getElem h2] at this
 exact this
def zay (to:List Int) (n:Nat):Bool:=decide (to.length=n∧(∀ x∈to,0≤x∧x < n)∧to.Nodup)
def zcq (to:List Int) (n:Nat):List Nat:=(List.range n).map fun (i:Nat)=>to.idxOf (i:Int)
def zrA:KM:=⟨0,[],[]⟩
def zsA (m:KM) (to:List Int):KM×Int:=if zk m≠0 then (zrA,zk m) else if zay to m.W.toNat=true then (zcD m (zcq to m.W.toNat),0) else (zrA,1)
theorem zbs {to:List Int} {n:Nat} : zay to n=true↔to.length=n∧(∀ x∈to,0≤x∧x < n)∧to.Nodup:=by simp only [zay,decide_eq_true_eq]
theorem zsx {to:List Int} {n:Nat} (h:zay to n=true) {i:Nat} (hi:i < n):(i:Int)∈to:=by
 obtain ⟨h1,h2,h3⟩:=zbs.1 h
 have key : ∀ x∈to,x∈(List.range n).map fun (i:Nat)=>(i:Int):=fun x hx=>List.mem_map.2 ⟨x.toNat,List.mem_range.2 (by have:=h2 x hx;omega),by have:=h2 x hx;omega⟩
 apply Classical.byContradiction
 intro hn
 have:=zea (l:=(i:Int)::to) (l':=(List.range n).map fun (i:Nat)=>(i:Int)) (List.nodup_cons.2 ⟨hn,h3⟩) fun x hx=>by
  rcases List.mem_cons.1 hx with rfl|hx
  ·exact List.mem_map.2 ⟨i,List.mem_range.2 hi,rfl⟩
  ·exact key x hx
 simp at this;omega
abbrev toF (to:List Int) (w:Nat):Nat:=(at0 to w).toNat
theorem zf0 {to:List Int} {n:Nat} (h:zay to n=true):Ren n (toF to):=by
 obtain ⟨h1,h2,h3⟩:=zbs.1 h
 refine ⟨fun w hw=>?_,fun v w hv hw e=>?_⟩
 ·have:=h2 (at0 to w) (List.mem_of_getElem? (zem (by omega)))
  unfold toF;omega
 ·have a1:=h2 (at0 to v) (List.mem_of_getElem? (zem (by omega)))
  have a2:=h2 (at0 to w) (List.mem_of_getElem? (zem (by omega)))
  have e':at0 to v=at0 to w:=by unfold toF at e;omega
  have g1:=zem (l:=to) (i:=v) (by omega)
  have g2:=zem (l:=to) (i:=w) (by omega)
  rw [e'] at g1
  obtain ⟨p1,q1⟩:=List.getElem?_eq_some_iff.1 g1
  obtain ⟨p2,q2⟩:=List.getElem?_eq_some_iff.1 g2
  exact (List.getElem_inj h3).1 (q1.trans q2.symm)
theorem zub {to:List Int} {n:Nat} (h:zay to n=true) {w:Nat} (hw:w < n):to.idxOf ((toF to w:Nat):Int)=w:=by
 obtain ⟨h1,h2,h3⟩:=zbs.1 h
 have g:=zem (l:=to) (i:=w) (by omega)
 have a:=h2 (at0 to w) (List.mem_of_getElem? g)
 rw [show ((toF to w:Nat):Int)=at0 to w by unfold toF;omega]
 obtain ⟨p,q⟩:=List.getElem?_eq_some_iff.1 g
 rw [← q]
 exact h3.idxOf_getElem w p
theorem zjl (to:List Int) (n:Nat):(zcq to n).length=n:=by simp [zcq]
theorem zsd {to:List Int} {n i:Nat} (hi:i < n):(zcq to n).getD i 0=to.idxOf (i:Int):=by simp [zcq,List.getD,hi]
theorem zk1 {to:List Int} {n:Nat} (h:zay to n=true) {w:Nat} (hw:w < n):(zcq to n).getD (toF to w) 0=w:=by
 rw [zsd ((zf0 h).lt w hw),zub h hw]
theorem zuc {to:List Int} {n:Nat} (h:zay to n=true) {i:Nat} (hi:i < n):(zcq to n).getD i 0 < n:=by
 obtain ⟨w,hw,rfl⟩:=(zf0 h).surj hi
 rw [zk1 h hw];exact hw
theorem zuX {m:KM} (hc:zk m=0) {to:List Int} (h:zay to m.W.toNat=true):zck m.W.toNat (zai m) (zai (zcD m (zcq to m.W.toNat))) (zV m) (zV (zcD m (zcq to m.W.toNat))) (toF to):=by
 have hg:=zD hc
 have w1:=hg.w1
 have w2:=hg.w2
 have hl:(zcq to m.W.toNat).length=m.W.toNat:=zjl _ _
 have hr:=zf0 h
 refine ⟨hr,fun w hw=>?_,⟨by simp [zV,zcD],fun i r r' h1 h2 v w hv hw=>?_⟩⟩
 ·rw [ztd (by omega) (by rw [hl];exact hr.lt w hw)]
  unfold zp8;rw [zk1 h hw]
 ·have h3:(zmV (zcq to m.W.toNat) (zV m))[i]? = some fun a b=>r ((zcq to m.W.toNat).getD a 0) ((zcq to m.W.toNat).getD b 0):=by
   unfold zmV;rw [List.getElem?_map,h1];rfl
  rw [zte (by omega) h2 h3 (by rw [hl];exact hr.lt v hv) (by rw [hl];exact hr.lt w hw),zk1 h hv,zk1 h hw]
end Go.Ab
namespace Go.Ab
theorem zs7 {m:KM} (hc:zk m=0) {r:List (BitVec 64)} (hr:r∈m.rel) {v u:Nat} (h:rb r v u=true):v < m.W.toNat∧u < m.W.toNat:=by
 have hg:=zD hc
 have w1:=hg.w1
 refine ⟨?_,zsa (by omega) (hg.rel r hr) v u h⟩
 apply Classical.byContradiction
 intro hn
 have:=hg.len r hr
 rw [zug (by omega)] at h;cases h
structure zrE (m:KM) (out todo:BitVec 64) (w k:Nat) (o t:BitVec 64):Prop where
 o : ∀ v,o.getLsbD v=true↔out.getLsbD v=true ∨ ∃ r∈m.rel.take k,rb r w v=true
 t : ∀ v,t.getLsbD v=true↔(todo.getLsbD v=true∧v≠w)∨(out.getLsbD v=false ∧ ∃ r∈m.rel.take k,rb r w v=true)
theorem zh4 {α:Type} {l:List α} {k:Nat} {x:α} (h:l[k]? = some x) (p:α→Prop):(∃ r∈l.take (k+1),p r)↔(∃ r∈l.take k,p r)∨p x:=by
 rw [List.take_add_one,h]
 simp only [Option.toList_some,List.mem_append,List.mem_singleton]
 constructor
 ·rintro ⟨r,h1|rfl,h2⟩
  ·exact .inl ⟨r,h1,h2⟩
  ·exact .inr h2
 ·rintro (⟨r,h1,h2⟩|h2)
  ·exact ⟨r,.inl h1,h2⟩
  ·exact ⟨x,.inr rfl,h2⟩
theorem zrE.next {m:KM} {out todo:BitVec 64} {w k:Nat} {o t:BitVec 64} (h:zrE m out todo w k o t) {r:List (BitVec 64)} {x:BitVec 64} (hr:m.rel[k]? = some r) (hx:r[w]? = some x):zrE m out todo w (k+1) (o|||x) (t|||(x &&& ~~~o)):=by
 have e : ∀ v,rb r w v=x.getLsbD v:=fun v=>zuH hx v
 refine ⟨fun v=>?_,fun v=>?_⟩
 ·rw [zh4 hr,BitVec.getLsbD_or,Bool.or_eq_true,h.o v,e]
  simp only [or_assoc]
 ·rw [zh4 hr,BitVec.getLsbD_or,Bool.or_eq_true,h.t v,BitVec.getLsbD_and,Bool.and_eq_true,BitVec.getLsbD_not,e]
  have ho:=h.o v
  by_cases hv:v < 64
  ·simp only [hv,decide_true,Bool.true_and,Bool.not_eq_true']
   by_cases h1:out.getLsbD v=true
   ·have:o.getLsbD v=true:=ho.2 (.inl h1)
    simp [h1,this]
   ·simp only [Bool.not_eq_true] at h1
    by_cases h2 : ∃ r∈m.rel.take k,rb r w v=true
    ·have:o.getLsbD v=true:=ho.2 (.inr h2)
     simp [h1,h2,this]
    ·have:o.getLsbD v=false:=by rw [← Bool.not_eq_true];intro h3;rcases ho.1 h3 with h3|h3; (rw [h1] at h3;cases h3);exact h2 h3
     simp [h1,h2,this]
  ·have:x.getLsbD v=false:=BitVec.getLsbD_of_ge _ _ (by omega)
   simp [hv,this]
def zt7 (s:BitVec 64):Nat:=(zy s).length
theorem ztk {n:Nat} {s:BitVec 64} (h : ∀ v,s.getLsbD v=true→v < n):zt7 s≤n:=by
 have:=zea (ziS s) (l':=List.range n) fun v hv=>List.mem_range.2 (h v (zd9.1 hv))
 simpa [zt7] using this
theorem zgs {p:Nat→Bool} {n:Nat} (h : ∀ v,p v=true→v < n) : ∀ k,n≤k→(List.range k).filter p=(List.range n).filter p
 | 0,hk=>by rw [show n=0 by omega]
 | k+1,hk=>by
  by_cases e:n=k+1
  ·rw [e]
  ·rw [List.range_succ,List.filter_append,zgs h k (by omega)]
   have:p k=false:=by rw [← Bool.not_eq_true];intro hp;have:=h k hp;omega
   simp [this]
end Go.Ab
namespace Go.Ab
open Go Go.Proofs
set_option maxRecDepth 10000
set_option maxHeartbeats 4000000
variable {T:Nat→Obj→Prop}
theorem zty (n:Int) (h:0≤n):Fn Tryz.prog T zjC [.d (.int .i64 n)] [] (.d (.u64 (zgE n))) []:=by
 refine zo zw zoL (by show 1≤8;decide) ?_
 (repeat' ((conv=>whnf);first|refine vA ?_|refine vB fun b hb=>?_|refine vC (fun hl=>?_) fun i kv vv hi=>?_|refine vE ?_|refine vG ?_|refine vH ?_|((first|refine vD ?_ ?_|refine vF ?_ ?_|refine vI ?_ ?_)<;>intro hc<;>try simp only [vL] at hc)|refine vJ fun hg=>?_|refine vK fun hg=>?_|refine vT ?_|refine vN ‹_› ?_|(refine vQ ?_ fun x hx=>?_;·first|omega|(simp only [vM] at *;omega))|((first|refine vO ?_ ?_|refine vR ?_ ‹_› ?_|refine vS ?_ fun x hx=>?_|refine vP ?_ ?_);·first|omega|(simp only [vM] at *;omega))|refine vW ⟨by omega,by omega⟩ ?_|(refine vU ?_ ?_;·kernel_rfl)|refine vX ?_|refine vY ?_|refine vZ ?_|refine za.mk _ ‹_› ?_|refine vP (show (_:BitVec 64)≠_ by decide) ?_));all_goals try conv=>whnf
 ·simp [zgE, *]
 ·rw [zgE,if_neg (by omega)];rfl
theorem ztr (l:List (BitVec 64)) (g:Nat) (y:D) (p:BitVec 64→Bool) (hF : ∀ x,Fn Tryz.prog T g [.d (.u64 x),.d y] [] (.d (.bool (p x))) []):Fn Tryz.prog T zbe [.d (dU l),.d (.fn g [y])] [] (.d (.int .i64 (zfl p l))) []:=by
 refine zo zw zdq (by show 2≤19;decide) ?_
 (repeat' ((conv=>whnf);first|refine vA ?_|refine vB fun b hb=>?_|refine vC (fun hl=>?_) fun i kv vv hi=>?_|refine vE ?_|refine vG ?_|refine vH ?_|((first|refine vD ?_ ?_|refine vF ?_ ?_|refine vI ?_ ?_)<;>intro hc<;>try simp only [vL] at hc)|refine vJ fun hg=>?_|refine vK fun hg=>?_|refine vT ?_|refine vN ‹_› ?_|(refine vQ ?_ fun x hx=>?_;·first|omega|(simp only [vM] at *;omega))|((first|refine vO ?_ ?_|refine vR ?_ ‹_› ?_|refine vS ?_ fun x hx=>?_|refine vP ?_ ?_);·first|omega|(simp only [vM] at *;omega))|refine vW ⟨by omega,by omega⟩ ?_|(refine vU ?_ ?_;·kernel_rfl)|refine vX ?_|refine vY ?_|refine vZ ?_|refine za.mk _ ‹_› ?_|refine vP (show (_:BitVec 64)≠_ by decide) ?_));all_goals try conv=>whnf
 refine zbR (fun (k:Nat)=>[(0,.d (dU l)),(1,.d (.fn g [y])),(7,.d (.int .i64 ((l.map D.u64).length:Int))),(8,.d (.int .i64 ((k:Int))))]) (fun (k:Nat)=>k≤l.length ∧ ∀ (i:Nat) x,i < k→l[i]? = some x→p x=false) (fun (k:Nat)=>l.length - k) (0) (⟨by simp,fun i x h=>by omega⟩) (by (repeat' first|exact trivial|exact rfl|exact ⟨_,rfl⟩|exact .inl rfl|exact .inr (.inl ⟨rfl,rfl⟩)|exact .inr (.inr ⟨rfl,rfl⟩)|refine And.intro ?_ ?_|refine ⟨_,rfl,?_⟩|decide|exact of_decide_eq_true rfl)) ?_
 rintro k ⟨hk,hI⟩
 (repeat' ((conv=>whnf);first|refine vA ?_|refine vB fun b hb=>?_|refine vC (fun hl=>?_) fun i kv vv hi=>?_|refine vE ?_|refine vG ?_|refine vH ?_|((first|refine vD ?_ ?_|refine vF ?_ ?_|refine vI ?_ ?_)<;>intro hc<;>try simp only [vL] at hc)|refine vJ fun hg=>?_|refine vK fun hg=>?_|refine vT ?_|refine vN ‹_› ?_|(refine vQ ?_ fun x hx=>?_;·first|omega|(simp only [vM] at *;omega))|((first|refine vO ?_ ?_|refine vR ?_ ‹_› ?_|refine vS ?_ fun x hx=>?_|refine vP ?_ ?_);·first|omega|(simp only [vM] at *;omega))|refine vW ⟨by omega,by omega⟩ ?_|(refine vU ?_ ?_;·kernel_rfl)|refine vX ?_|refine vY ?_|refine vZ ?_|refine yD (hF _) (by (repeat refine ⟨⟨rfl,rfl⟩,?_⟩);rfl) rfl ?_|refine yN (hF _) (by (repeat refine ⟨⟨rfl,rfl⟩,?_⟩);rfl) ?_|refine za.mk _ ‹_› ?_|refine vP (show (_:BitVec 64)≠_ by decide) ?_));all_goals try conv=>whnf
 ·rw [zl6 hx ‹_› hI]
 ·exact ⟨k+1,[],[],⟨by (first|omega|(simp only [vM] at *;omega)),fun i z hi hz=>by
   by_cases e:i=k
   ·subst e;rw [hx] at hz;cases hz;assumption
   ·exact hI i z (by omega) hz⟩,by (first|omega|(simp only [vM] at *;omega)),by (refine ⟨rfl,rfl,rfl,?_,?_⟩;repeat' first|exact trivial|exact rfl|exact ⟨_,rfl⟩|exact .inl rfl|exact .inr (.inl ⟨rfl,rfl⟩)|exact .inr (.inr ⟨rfl,rfl⟩)|refine And.intro ?_ ?_|refine ⟨_,rfl,?_⟩|decide|exact of_decide_eq_true rfl)⟩
 ·rw [zkU fun i x hi hx=>hI i x (by omega) hx]
theorem zr7 (l:List (List (BitVec 64))) (g:Nat) (y:D) (p:List (BitVec 64)→Bool) (hF : ∀ x,Fn Tryz.prog T g [.d (dU x),.d y] [] (.d (.bool (p x))) []):Fn Tryz.prog T za4 [.d (dUU l),.d (.fn g [y])] [] (.d (.int .i64 (zfl p l))) []:=by
 refine zo zw zc1 (by show 2≤19;decide) ?_
 (repeat' ((conv=>whnf);first|refine vA ?_|refine vB fun b hb=>?_|refine vC (fun hl=>?_) fun i kv vv hi=>?_|refine vE ?_|refine vG ?_|refine vH ?_|((first|refine vD ?_ ?_|refine vF ?_ ?_|refine vI ?_ ?_)<;>intro hc<;>try simp only [vL] at hc)|refine vJ fun hg=>?_|refine vK fun hg=>?_|refine vT ?_|refine vN ‹_› ?_|(refine vQ ?_ fun x hx=>?_;·first|omega|(simp only [vM] at *;omega))|((first|refine vO ?_ ?_|refine vR ?_ ‹_› ?_|refine vS ?_ fun x hx=>?_|refine vP ?_ ?_);·first|omega|(simp only [vM] at *;omega))|refine vW ⟨by omega,by omega⟩ ?_|(refine vU ?_ ?_;·kernel_rfl)|refine vX ?_|refine vY ?_|refine vZ ?_|refine za.mk _ ‹_› ?_|refine vP (show (_:BitVec 64)≠_ by decide) ?_));all_goals try conv=>whnf
 refine zbR (fun (k:Nat)=>[(0,.d (dUU l)),(1,.d (.fn g [y])),(7,.d (.int .i64 ((l.map dU).length:Int))),(8,.d (.int .i64 ((k:Int))))]) (fun (k:Nat)=>k≤l.length ∧ ∀ (i:Nat) x,i < k→l[i]? = some x→p x=false) (fun (k:Nat)=>l.length - k) (0) (⟨by simp,fun i x h=>by omega⟩) (by (repeat' first|exact trivial|exact rfl|exact ⟨_,rfl⟩|exact .inl rfl|exact .inr (.inl ⟨rfl,rfl⟩)|exact .inr (.inr ⟨rfl,rfl⟩)|refine And.intro ?_ ?_|refine ⟨_,rfl,?_⟩|decide|exact of_decide_eq_true rfl)) ?_
 rintro k ⟨hk,hI⟩
 (repeat' ((conv=>whnf);first|refine vA ?_|refine vB fun b hb=>?_|refine vC (fun hl=>?_) fun i kv vv hi=>?_|refine vE ?_|refine vG ?_|refine vH ?_|((first|refine vD ?_ ?_|refine vF ?_ ?_|refine vI ?_ ?_)<;>intro hc<;>try simp only [vL] at hc)|refine vJ fun hg=>?_|refine vK fun hg=>?_|refine vT ?_|refine vN ‹_› ?_|(refine vQ ?_ fun x hx=>?_;·first|omega|(simp only [vM] at *;omega))|((first|refine vO ?_ ?_|refine vR ?_ ‹_› ?_|refine vS ?_ fun x hx=>?_|refine vP ?_ ?_);·first|omega|(simp only [vM] at *;omega))|refine vW ⟨by omega,by omega⟩ ?_|(refine vU ?_ ?_;·kernel_rfl)|refine vX ?_|refine vY ?_|refine vZ ?_|refine yD (hF _) (by (repeat refine ⟨⟨rfl,rfl⟩,?_⟩);rfl) rfl ?_|refine yN (hF _) (by (repeat refine ⟨⟨rfl,rfl⟩,?_⟩);rfl) ?_|refine za.mk _ ‹_› ?_|refine vP (show (_:BitVec 64)≠_ by decide) ?_));all_goals try conv=>whnf
 ·rw [zl6 hx ‹_› hI]
 ·exact ⟨k+1,[],[],⟨by (first|omega|(simp only [vM] at *;omega)),fun i z hi hz=>by
   by_cases e:i=k
   ·subst e;rw [hx] at hz;cases hz;assumption
   ·exact hI i z (by omega) hz⟩,by (first|omega|(simp only [vM] at *;omega)),by (refine ⟨rfl,rfl,rfl,?_,?_⟩;repeat' first|exact trivial|exact rfl|exact ⟨_,rfl⟩|exact .inl rfl|exact .inr (.inl ⟨rfl,rfl⟩)|exact .inr (.inr ⟨rfl,rfl⟩)|refine And.intro ?_ ?_|refine ⟨_,rfl,?_⟩|decide|exact of_decide_eq_true rfl)⟩
 ·rw [zkU fun i x hi hx=>hI i x (by omega) hx]
theorem zl5 {α:Type} {p:α→Bool} {l:List α} : decide (0≤zfl p l)=l.any p:=by
 rw [Bool.eq_iff_iff,decide_eq_true_eq,znv,List.any_eq_true]
theorem zoI (n:Int) (h:0≤n) (s:BitVec 64):Fn Tryz.prog T zb6 [.d (.u64 s),.d (.box [.int .i64 n])] [] (.d (.bool (bad n s))) []:=by
 refine zo zw zjy (by show 2≤9;decide) ?_
 (repeat' ((conv=>whnf);first|refine vA ?_|refine vB fun b hb=>?_|refine vC (fun hl=>?_) fun i kv vv hi=>?_|refine vE ?_|refine vG ?_|refine vH ?_|((first|refine vD ?_ ?_|refine vF ?_ ?_|refine vI ?_ ?_)<;>intro hc<;>try simp only [vL] at hc)|refine vJ fun hg=>?_|refine vK fun hg=>?_|refine vT ?_|refine vN ‹_› ?_|(refine vQ ?_ fun x hx=>?_;·first|omega|(simp only [vM] at *;omega))|((first|refine vO ?_ ?_|refine vR ?_ ‹_› ?_|refine vS ?_ fun x hx=>?_|refine vP ?_ ?_);·first|omega|(simp only [vM] at *;omega))|refine vW ⟨by omega,by omega⟩ ?_|(refine vU ?_ ?_;·kernel_rfl)|refine vX ?_|refine vY ?_|refine vZ ?_|refine yD (zty n h) ⟨⟨rfl,rfl⟩,rfl⟩ rfl ?_|refine za.mk _ ‹_› ?_|refine vP (show (_:BitVec 64)≠_ by decide) ?_));all_goals try conv=>whnf
 rfl
theorem zjH (l:List (BitVec 64)) (n:Int) (h:0≤n):Fn Tryz.prog T zgr [.d (dU l),.d (.int .i64 n)] [] (.d (.bool (l.any (bad n)))) []:=by
 have c1:Fn Tryz.prog T zaY [.d (dU l),.d (.fn zb6 [.box [.int .i64 n]])] [] (.d (.bool (l.any (bad n)))) []:=by
  refine zo zw zcO (by show 2≤9;decide) ?_
  (repeat' ((conv=>whnf);first|refine vA ?_|refine vB fun b hb=>?_|refine vC (fun hl=>?_) fun i kv vv hi=>?_|refine vE ?_|refine vG ?_|refine vH ?_|((first|refine vD ?_ ?_|refine vF ?_ ?_|refine vI ?_ ?_)<;>intro hc<;>try simp only [vL] at hc)|refine vJ fun hg=>?_|refine vK fun hg=>?_|refine vT ?_|refine vN ‹_› ?_|(refine vQ ?_ fun x hx=>?_;·first|omega|(simp only [vM] at *;omega))|((first|refine vO ?_ ?_|refine vR ?_ ‹_› ?_|refine vS ?_ fun x hx=>?_|refine vP ?_ ?_);·first|omega|(simp only [vM] at *;omega))|refine vW ⟨by omega,by omega⟩ ?_|(refine vU ?_ ?_;·kernel_rfl)|refine vX ?_|refine vY ?_|refine vZ ?_|refine yD (ztr l _ _ (bad n) (zoI n h)) ⟨⟨rfl,rfl⟩,⟨rfl,rfl⟩,rfl⟩ rfl ?_|refine za.mk _ ‹_› ?_|refine vP (show (_:BitVec 64)≠_ by decide) ?_));all_goals try conv=>whnf
  exact zl5
 refine zo zw zla (by show 2≤8;decide) ?_
 (repeat' ((conv=>whnf);first|refine vA ?_|refine vB fun b hb=>?_|refine vC (fun hl=>?_) fun i kv vv hi=>?_|refine vE ?_|refine vG ?_|refine vH ?_|((first|refine vD ?_ ?_|refine vF ?_ ?_|refine vI ?_ ?_)<;>intro hc<;>try simp only [vL] at hc)|refine vJ fun hg=>?_|refine vK fun hg=>?_|refine vT ?_|refine vN ‹_› ?_|(refine vQ ?_ fun x hx=>?_;·first|omega|(simp only [vM] at *;omega))|((first|refine vO ?_ ?_|refine vR ?_ ‹_› ?_|refine vS ?_ fun x hx=>?_|refine vP ?_ ?_);·first|omega|(simp only [vM] at *;omega))|refine vW ⟨by omega,by omega⟩ ?_|(refine vU ?_ ?_;·kernel_rfl)|refine vX ?_|refine vY ?_|refine vZ ?_|refine yD c1 (by (repeat refine ⟨⟨rfl,rfl⟩,?_⟩);rfl) rfl ?_|refine yN c1 (by (repeat refine ⟨⟨rfl,rfl⟩,?_⟩);rfl) ?_|refine za.mk _ ‹_› ?_|refine vP (show (_:BitVec 64)≠_ by decide) ?_));all_goals try conv=>whnf
abbrev bKM (m:KM):D := .box [.int .i64 m.W,dU m.val,dUU m.rel]
theorem zcY (m:KM):Fn Tryz.prog T zdD [.d (dKM m)] [] (.d (.int .i64 (zk m))) []:=by
 have c1:0≤m.W → ∀ x:List (BitVec 64),Fn Tryz.prog T zcK [.d (dU x),.d (bKM m)] [] (.d (.bool (x.any (bad m.W)))) []:=fun h x=>by
  refine zo zw zk8 (by show 2≤8;decide) ?_
  (repeat' ((conv=>whnf);first|refine vA ?_|refine vB fun b hb=>?_|refine vC (fun hl=>?_) fun i kv vv hi=>?_|refine vE ?_|refine vG ?_|refine vH ?_|((first|refine vD ?_ ?_|refine vF ?_ ?_|refine vI ?_ ?_)<;>intro hc<;>try simp only [vL] at hc)|refine vJ fun hg=>?_|refine vK fun hg=>?_|refine vT ?_|refine vN ‹_› ?_|(refine vQ ?_ fun x hx=>?_;·first|omega|(simp only [vM] at *;omega))|((first|refine vO ?_ ?_|refine vR ?_ ‹_› ?_|refine vS ?_ fun x hx=>?_|refine vP ?_ ?_);·first|omega|(simp only [vM] at *;omega))|refine vW ⟨by omega,by omega⟩ ?_|(refine vU ?_ ?_;·kernel_rfl)|refine vX ?_|refine vY ?_|refine vZ ?_|refine yD (zjH x m.W h) ⟨⟨rfl,rfl⟩,⟨rfl,rfl⟩,rfl⟩ rfl ?_|refine za.mk _ ‹_› ?_|refine vP (show (_:BitVec 64)≠_ by decide) ?_));all_goals try conv=>whnf
 have c2:0≤m.W→Fn Tryz.prog T zaN [.d (dUU m.rel),.d (.fn zcK [bKM m])] [] (.d (.bool (m.rel.any fun x=>x.any (bad m.W)))) []:=fun h=>by
  refine zo zw zcz (by show 2≤9;decide) ?_
  (repeat' ((conv=>whnf);first|refine vA ?_|refine vB fun b hb=>?_|refine vC (fun hl=>?_) fun i kv vv hi=>?_|refine vE ?_|refine vG ?_|refine vH ?_|((first|refine vD ?_ ?_|refine vF ?_ ?_|refine vI ?_ ?_)<;>intro hc<;>try simp only [vL] at hc)|refine vJ fun hg=>?_|refine vK fun hg=>?_|refine vT ?_|refine vN ‹_› ?_|(refine vQ ?_ fun x hx=>?_;·first|omega|(simp only [vM] at *;omega))|((first|refine vO ?_ ?_|refine vR ?_ ‹_› ?_|refine vS ?_ fun x hx=>?_|refine vP ?_ ?_);·first|omega|(simp only [vM] at *;omega))|refine vW ⟨by omega,by omega⟩ ?_|(refine vU ?_ ?_;·kernel_rfl)|refine vX ?_|refine vY ?_|refine vZ ?_|refine yD (zr7 m.rel _ _ (fun x=>x.any (bad m.W)) (c1 h)) ⟨⟨rfl,rfl⟩,⟨rfl,rfl⟩,rfl⟩ rfl ?_|refine za.mk _ ‹_› ?_|refine vP (show (_:BitVec 64)≠_ by decide) ?_));all_goals try conv=>whnf
  exact zl5
 refine zo zw zmG (by show 1≤47;decide) ?_
 (repeat' ((conv=>whnf);first|refine vA ?_|refine vB fun b hb=>?_|refine vC (fun hl=>?_) fun i kv vv hi=>?_|refine vE ?_|refine vG ?_|refine vH ?_|((first|refine vD ?_ ?_|refine vF ?_ ?_|refine vI ?_ ?_)<;>intro hc<;>try simp only [vL] at hc)|refine vJ fun hg=>?_|refine vK fun hg=>?_|refine vT ?_|refine vN ‹_› ?_|(refine vQ ?_ fun x hx=>?_;·first|omega|(simp only [vM] at *;omega))|((first|refine vO ?_ ?_|refine vR ?_ ‹_› ?_|refine vS ?_ fun x hx=>?_|refine vP ?_ ?_);·first|omega|(simp only [vM] at *;omega))|refine vW ⟨by omega,by omega⟩ ?_|(refine vU ?_ ?_;·kernel_rfl)|refine vX ?_|refine vY ?_|refine vZ ?_|refine za.mk _ ‹_› ?_|refine vP (show (_:BitVec 64)≠_ by decide) ?_));all_goals try conv=>whnf
 ·rw [zk,if_pos (by omega)]
 ·rw [zk,if_pos (by omega)]
 ·rw [zk,if_neg (by omega),if_pos (by omega)]
 ·rw [zk,if_neg (by omega),if_pos (by omega)]
 ·have e0:zk m=if m.rel.any (fun r=>decide ((r.length:Int)≠m.W)) then 3 else if m.val.any (bad m.W) then 2 else if m.rel.any (fun r=>r.any (bad m.W)) then 2 else 0:=by rw [zk,if_neg (by omega),if_neg (by omega)]
  refine zq (fun (k:Nat)=>[(1,.ptr 0 0),(24,.d (dUU m.rel)),(25,.d (.int .i64 ((m.rel.map dU).length:Int))),(26,.d (.int .i64 ((k:Int))))]) (fun (k:Nat)=>[(0,some (zZ m))]) 1 (fun (k:Nat)=>k≤m.rel.length∧m.rel.any (fun r=>decide ((r.length:Int)≠m.W))=(m.rel.drop k).any (fun r=>decide ((r.length:Int)≠m.W))) (fun (k:Nat)=>m.rel.length - k) (0) [(0,0)] [] (⟨by simp,rfl⟩) (by (refine ⟨rfl,rfl,rfl,?_,?_⟩;repeat' first|exact trivial|exact rfl|exact ⟨_,rfl⟩|exact .inl rfl|exact .inr (.inl ⟨rfl,rfl⟩)|exact .inr (.inr ⟨rfl,rfl⟩)|refine And.intro ?_ ?_|refine ⟨_,rfl,?_⟩|decide|exact of_decide_eq_true rfl)) ?_
  rintro k ⟨hk,hI⟩
  (repeat' ((conv=>whnf);first|refine vA ?_|refine vB fun b hb=>?_|refine vC (fun hl=>?_) fun i kv vv hi=>?_|refine vE ?_|refine vG ?_|refine vH ?_|((first|refine vD ?_ ?_|refine vF ?_ ?_|refine vI ?_ ?_)<;>intro hc<;>try simp only [vL] at hc)|refine vJ fun hg=>?_|refine vK fun hg=>?_|refine vT ?_|refine vN ‹_› ?_|(refine vQ ?_ fun x hx=>?_;·first|omega|(simp only [vM] at *;omega))|((first|refine vO ?_ ?_|refine vR ?_ ‹_› ?_|refine vS ?_ fun x hx=>?_|refine vP ?_ ?_);·first|omega|(simp only [vM] at *;omega))|refine vW ⟨by omega,by omega⟩ ?_|(refine vU ?_ ?_;·kernel_rfl)|refine vX ?_|refine vY ?_|refine vZ ?_|refine za.mk _ ‹_› ?_|refine vP (show (_:BitVec 64)≠_ by decide) ?_));all_goals try conv=>whnf
  ·rw [e0,if_pos (by rw [hI,zaf hx,List.any_cons,decide_eq_true (by simpa using ‹_›)];rfl)]
  ·exact ⟨k+1,[(0,0)],[],⟨by (first|omega|(simp only [vM] at *;omega)),by rw [hI,zaf hx,List.any_cons,decide_eq_false (by simpa using ‹_›)];rfl⟩,by (first|omega|(simp only [vM] at *;omega)),by (refine ⟨rfl,rfl,rfl,?_,?_⟩;repeat' first|exact trivial|exact rfl|exact ⟨_,rfl⟩|exact .inl rfl|exact .inr (.inl ⟨rfl,rfl⟩)|exact .inr (.inr ⟨rfl,rfl⟩)|refine And.intro ?_ ?_|refine ⟨_,rfl,?_⟩|decide|exact of_decide_eq_true rfl)⟩
  ·have h1:m.rel.any (fun r=>decide ((r.length:Int)≠m.W))=false:=by rw [hI,List.drop_eq_nil_of_le (by omega)];rfl
   rw [h1,if_neg (by decide)] at e0
   have co:=zjH (T:=T) m.val m.W (by omega)
   have c2:=c2 (by omega)
   (repeat' ((conv=>whnf);first|refine vA ?_|refine vB fun b hb=>?_|refine vC (fun hl=>?_) fun i kv vv hi=>?_|refine vE ?_|refine vG ?_|refine vH ?_|((first|refine vD ?_ ?_|refine vF ?_ ?_|refine vI ?_ ?_)<;>intro hc<;>try simp only [vL] at hc)|refine vJ fun hg=>?_|refine vK fun hg=>?_|refine vT ?_|refine vN ‹_› ?_|(refine vQ ?_ fun x hx=>?_;·first|omega|(simp only [vM] at *;omega))|((first|refine vO ?_ ?_|refine vR ?_ ‹_› ?_|refine vS ?_ fun x hx=>?_|refine vP ?_ ?_);·first|omega|(simp only [vM] at *;omega))|refine vW ⟨by omega,by omega⟩ ?_|(refine vU ?_ ?_;·kernel_rfl)|refine vX ?_|refine vY ?_|refine vZ ?_|refine yD co ⟨⟨rfl,rfl⟩,⟨rfl,rfl⟩,rfl⟩ rfl ?_|refine yD c2 (by (repeat refine ⟨⟨rfl,rfl⟩,?_⟩);rfl) rfl ?_|refine yN c2 (by (repeat refine ⟨⟨rfl,rfl⟩,?_⟩);rfl) ?_|refine za.mk _ ‹_› ?_|refine vP (show (_:BitVec 64)≠_ by decide) ?_));all_goals try conv=>whnf
   ·rw [e0,if_pos ‹_›]
   ·rw [e0,if_neg (by simp [‹m.val.any (bad m.W)=false›]),if_pos ‹_›]
   ·rw [e0,if_neg (by simp [‹m.val.any (bad m.W)=false›]),if_neg (by simp [‹(m.rel.any fun x=>x.any (bad m.W))=false›])]
def ziz (m:KM) (w:Int):Int:=if zk m≠0∨w < 0∨m.W≤w then -1 else zai m w.toNat
theorem zlB {m:KM} (hc:zk m=0) {w:Nat} (hw:w < m.W.toNat):ziz m (w:Int)=zai m w:=by
 unfold ziz;rw [if_neg (by omega)];rfl
theorem zgv (m:KM) (w:Int):Fn Tryz.prog T zdE [.d (dKM m),.d (.int .i64 w)] [] (.d (.int .i64 (ziz m w))) []:=by
 refine zo zw zmH (by show 2≤40;decide) ?_
 (repeat' ((conv=>whnf);first|refine vA ?_|refine vB fun b hb=>?_|refine vC (fun hl=>?_) fun i kv vv hi=>?_|refine vE ?_|refine vG ?_|refine vH ?_|((first|refine vD ?_ ?_|refine vF ?_ ?_|refine vI ?_ ?_)<;>intro hc<;>try simp only [vL] at hc)|refine vJ fun hg=>?_|refine vK fun hg=>?_|refine vT ?_|refine vN ‹_› ?_|(refine vQ ?_ fun x hx=>?_;·first|omega|(simp only [vM] at *;omega))|((first|refine vO ?_ ?_|refine vR ?_ ‹_› ?_|refine vS ?_ fun x hx=>?_|refine vP ?_ ?_);·first|omega|(simp only [vM] at *;omega))|refine vW ⟨by omega,by omega⟩ ?_|(refine vU ?_ ?_;·kernel_rfl)|refine vX ?_|refine vY ?_|refine vZ ?_|refine yD (zcY m) ⟨⟨rfl,rfl⟩,rfl⟩ rfl ?_|refine za.mk _ ‹_› ?_|refine vP (show (_:BitVec 64)≠_ by decide) ?_));all_goals try conv=>whnf
 ·rw [ziz,if_pos (by omega)]
 ·rw [ziz,if_pos (by omega)]
 ·rw [ziz,if_pos (by omega)]
 ·have hc0:zk m=0:=by omega
  have hg0:=zD hc0
  have w2:=hg0.w2
  have v8:=hg0.v8
  refine zq (fun ((k,f):Nat×Int)=>[(1,.d (.int .i64 (w))),(5,.d (.int .i64 (f))),(22,.d (dU m.val)),(23,.d (.int .i64 ((m.val.map D.u64).length:Int))),(24,.d (.int .i64 ((k:Int))))]) (fun ((k,f):Nat×Int)=>[(0,some (zZ m))]) 1 (fun ((k,f):Nat×Int)=>k≤m.val.length∧f=(zcp m.val w.toNat k:Int)) (fun ((k,f):Nat×Int)=>m.val.length - k) ((0,0)) [(0,0)] [] (⟨by simp,rfl⟩) (by (refine ⟨rfl,rfl,rfl,?_,?_⟩;repeat' first|exact trivial|exact rfl|exact ⟨_,rfl⟩|exact .inl rfl|exact .inr (.inl ⟨rfl,rfl⟩)|exact .inr (.inr ⟨rfl,rfl⟩)|refine And.intro ?_ ?_|refine ⟨_,rfl,?_⟩|decide|exact of_decide_eq_true rfl)) ?_
  rintro ⟨k,f⟩ ⟨hk,hI⟩
  subst hI
  by_cases hkl:k < m.val.length
  ·obtain ⟨s,hs⟩ : ∃ s,m.val[k]? = some s:=⟨_,List.getElem?_eq_getElem hkl⟩
   have hw:w=((w.toNat:Nat):Int):=by omega
   have bs:(s >>> w.toNat&&&(1:BitVec 64)).toNat≤1:=zqw s _
   have hor:=zr3 (w:=w.toNat) hs (by omega)
   have hsh:0≤(((s >>> w.toNat&&&(1:BitVec 64)).toNat:Int)) * 2 ^ (min (k:Int).toNat IntKind.i64.bits)∧(((s >>> w.toNat&&&(1:BitVec 64)).toNat:Int)) * 2 ^ (min (k:Int).toNat IntKind.i64.bits)≤9223372036854775807:=zrb bs (by omega)
   (repeat' ((conv=>whnf);first|refine vA ?_|refine vB fun b hb=>?_|refine vC (fun hl=>?_) fun i kv vv hi=>?_|refine vE ?_|refine vG ?_|refine vH ?_|((first|refine vD ?_ ?_|refine vF ?_ ?_|refine vI ?_ ?_)<;>intro hc<;>try simp only [vL] at hc)|refine vJ fun hg=>?_|refine vK fun hg=>?_|refine vT ?_|refine vN ‹_› ?_|(refine vQ ?_ fun x hx=>?_;·first|omega|(simp only [vM] at *;omega))|((first|refine vO ?_ ?_|refine vR ?_ ‹_› ?_|refine vS ?_ fun x hx=>?_|refine vP ?_ ?_);·first|omega|(simp only [vM] at *;omega))|refine vW ⟨by omega,by omega⟩ ?_|(refine vU ?_ ?_;·kernel_rfl)|refine vX ?_|refine vY ?_|refine vZ ?_|refine za.mk _ ‹_› ?_|refine vP (show (_:BitVec 64)≠_ by decide) ?_));all_goals try conv=>whnf
   ·refine ⟨(k+1,_),[(0,0)],[],?_,?_,by (refine ⟨rfl,rfl,rfl,?_,?_⟩;repeat' first|exact trivial|exact rfl|exact ⟨_,rfl⟩|exact .inl rfl|exact .inr (.inl ⟨rfl,rfl⟩)|exact .inr (.inr ⟨rfl,rfl⟩)|refine And.intro ?_ ?_|refine ⟨_,rfl,?_⟩|decide|exact of_decide_eq_true rfl)⟩
    ·exact ⟨by (first|omega|(simp only [vM] at *;omega)),hor⟩
    ·(first|omega|(simp only [vM] at *;omega))
   all_goals omega
  ·(repeat' ((conv=>whnf);first|refine vA ?_|refine vB fun b hb=>?_|refine vC (fun hl=>?_) fun i kv vv hi=>?_|refine vE ?_|refine vG ?_|refine vH ?_|((first|refine vD ?_ ?_|refine vF ?_ ?_|refine vI ?_ ?_)<;>intro hc<;>try simp only [vL] at hc)|refine vJ fun hg=>?_|refine vK fun hg=>?_|refine vT ?_|refine vN ‹_› ?_|(refine vQ ?_ fun x hx=>?_;·first|omega|(simp only [vM] at *;omega))|((first|refine vO ?_ ?_|refine vR ?_ ‹_› ?_|refine vS ?_ fun x hx=>?_|refine vP ?_ ?_);·first|omega|(simp only [vM] at *;omega))|refine vW ⟨by omega,by omega⟩ ?_|(refine vU ?_ ?_;·kernel_rfl)|refine vX ?_|refine vY ?_|refine vZ ?_|refine za.mk _ ‹_› ?_|refine vP (show (_:BitVec 64)≠_ by decide) ?_));all_goals try conv=>whnf
   ·omega
   ·unfold ziz
    rw [if_neg (by omega),show k=m.val.length by omega];rfl
abbrev dN (l:List Nat):D:=dI (l.map fun (x:Nat)=>(x:Int))
theorem znE (s:BitVec 64) (l:List Nat) (hl:l.length≤64):Fn Tryz.prog T ziy [.d (.u64 s),.d (dN l)] [] (.d (.u64 (zba s l))) []:=by
 refine zo zw znJ (by show 2≤25;decide) ?_
 (repeat' ((conv=>whnf);first|refine vA ?_|refine vB fun b hb=>?_|refine vC (fun hl=>?_) fun i kv vv hi=>?_|refine vE ?_|refine vG ?_|refine vH ?_|((first|refine vD ?_ ?_|refine vF ?_ ?_|refine vI ?_ ?_)<;>intro hc<;>try simp only [vL] at hc)|refine vJ fun hg=>?_|refine vK fun hg=>?_|refine vT ?_|refine vN ‹_› ?_|(refine vQ ?_ fun x hx=>?_;·first|omega|(simp only [vM] at *;omega))|((first|refine vO ?_ ?_|refine vR ?_ ‹_› ?_|refine vS ?_ fun x hx=>?_|refine vP ?_ ?_);·first|omega|(simp only [vM] at *;omega))|refine vW ⟨by omega,by omega⟩ ?_|(refine vU ?_ ?_;·kernel_rfl)|refine vX ?_|refine vY ?_|refine vZ ?_|refine za.mk _ ‹_› ?_|refine vP (show (_:BitVec 64)≠_ by decide) ?_));all_goals try conv=>whnf
 refine zbR (fun ((k,o):Nat×BitVec 64)=>[(0,.d (.u64 (s))),(5,.d (.u64 (o))),(8,.d (dN l)),(9,.d (.int .i64 (((l.map fun (x:Nat)=>(x:Int)).map (D.int .i64)).length:Int))),(10,.d (.int .i64 ((k:Int))))]) (fun ((k,o):Nat×BitVec 64)=>k≤l.length∧o=zbc (fun i=>s.getLsbD (l.getD i 0)) k) (fun ((k,o):Nat×BitVec 64)=>l.length - k) ((0,0#64)) (⟨by simp,rfl⟩) (by (repeat' first|exact trivial|exact rfl|exact ⟨_,rfl⟩|exact .inl rfl|exact .inr (.inl ⟨rfl,rfl⟩)|exact .inr (.inr ⟨rfl,rfl⟩)|refine And.intro ?_ ?_|refine ⟨_,rfl,?_⟩|decide|exact of_decide_eq_true rfl)) ?_
 rintro ⟨k,o⟩ ⟨hk,hI⟩
 by_cases hkl:k < l.length
 ·have e1:(l.map fun (x:Nat)=>(x:Int))[k]? = some ((l.getD k 0:Nat):Int):=by simp [hkl]
  (repeat' ((conv=>whnf);first|refine vA ?_|refine vB fun b hb=>?_|refine vC (fun hl=>?_) fun i kv vv hi=>?_|refine vE ?_|refine vG ?_|refine vH ?_|((first|refine vD ?_ ?_|refine vF ?_ ?_|refine vI ?_ ?_)<;>intro hc<;>try simp only [vL] at hc)|refine vJ fun hg=>?_|refine vK fun hg=>?_|refine vT ?_|refine vN ‹_› ?_|(refine vQ ?_ fun x hx=>?_;·first|omega|(simp only [vM] at *;omega))|((first|refine vO ?_ ?_|refine vR ?_ ‹_› ?_|refine vS ?_ fun x hx=>?_|refine vP ?_ ?_);·first|omega|(simp only [vM] at *;omega))|refine vW ⟨by omega,by omega⟩ ?_|(refine vU ?_ ?_;·kernel_rfl)|refine vX ?_|refine vY ?_|refine vZ ?_|refine za.mk _ ‹_› ?_|refine vP (show (_:BitVec 64)≠_ by decide) ?_));all_goals try conv=>whnf
  ·refine ⟨(k+1,_),[],[],?_,?_,by (refine ⟨rfl,rfl,rfl,?_,?_⟩;repeat' first|exact trivial|exact rfl|exact ⟨_,rfl⟩|exact .inl rfl|exact .inr (.inl ⟨rfl,rfl⟩)|exact .inr (.inr ⟨rfl,rfl⟩)|refine And.intro ?_ ?_|refine ⟨_,rfl,?_⟩|decide|exact of_decide_eq_true rfl)⟩
   ·refine ⟨by omega,?_⟩
    rw [zbc,hI]
    show _|||(s >>> (l.getD k 0)&&&1#64) <<< k=_
    by_cases hb:s.getLsbD (l.getD k 0)=true
    ·rw [(zaV _ _).2 hb,if_pos hb]
    ·rw [(zdF _ _).2 (by simpa using hb),if_neg hb,BitVec.zero_shiftLeft,BitVec.or_zero]
   ·(first|omega|(simp only [vM] at *;omega))
  ·omega
 ·(repeat' ((conv=>whnf);first|refine vA ?_|refine vB fun b hb=>?_|refine vC (fun hl=>?_) fun i kv vv hi=>?_|refine vE ?_|refine vG ?_|refine vH ?_|((first|refine vD ?_ ?_|refine vF ?_ ?_|refine vI ?_ ?_)<;>intro hc<;>try simp only [vL] at hc)|refine vJ fun hg=>?_|refine vK fun hg=>?_|refine vT ?_|refine vN ‹_› ?_|(refine vQ ?_ fun x hx=>?_;·first|omega|(simp only [vM] at *;omega))|((first|refine vO ?_ ?_|refine vR ?_ ‹_› ?_|refine vS ?_ fun x hx=>?_|refine vP ?_ ?_);·first|omega|(simp only [vM] at *;omega))|refine vW ⟨by omega,by omega⟩ ?_|(refine vU ?_ ?_;·kernel_rfl)|refine vX ?_|refine vY ?_|refine vZ ?_|refine za.mk _ ‹_› ?_|refine vP (show (_:BitVec 64)≠_ by decide) ?_));all_goals try conv=>whnf
  ·omega
  ·rw [hI,show k=l.length by omega];rfl
theorem zhm {l:List Nat} {k:Nat} (h:k < l.length):(l.map fun (x:Nat)=>(x:Int))[k]? = some ((l.getD k 0:Nat):Int):=by simp [h]
abbrev zdJ (l:List Nat):Nat:=((l.map fun (x:Nat)=>(x:Int)).map (D.int .i64)).length
theorem zfy (l:List Nat):zdJ l=l.length:=by simp [zdJ]
theorem zpS (m:KM) (l:List Nat) (hl:l.length≤64) (hr : ∀ r∈m.rel,∀ w∈l,w < r.length) (hv:m.val.length≤8) (hrl:m.rel.length≤4):Fn Tryz.prog T zd5 [.d (dKM m),.d (dN l)] [] (.d (dKM (zcD m l))) []:=by
 refine zo zw zk9 (by show 2≤63;decide) ?_
 (repeat' ((conv=>whnf);first|refine vA ?_|refine vB fun b hb=>?_|refine vC (fun hl=>?_) fun i kv vv hi=>?_|refine vE ?_|refine vG ?_|refine vH ?_|((first|refine vD ?_ ?_|refine vF ?_ ?_|refine vI ?_ ?_)<;>intro hc<;>try simp only [vL] at hc)|refine vJ fun hg=>?_|refine vK fun hg=>?_|refine vT ?_|refine vN ‹_› ?_|(refine vQ ?_ fun x hx=>?_;·first|omega|(simp only [vM] at *;omega))|((first|refine vO ?_ ?_|refine vR ?_ ‹_› ?_|refine vS ?_ fun x hx=>?_|refine vP ?_ ?_);·first|omega|(simp only [vM] at *;omega))|refine vW ⟨by omega,by omega⟩ ?_|(refine vU ?_ ?_;·kernel_rfl)|refine vX ?_|refine vY ?_|refine vZ ?_|refine za.mk _ ‹_› ?_|refine vP (show (_:BitVec 64)≠_ by decide) ?_));all_goals try conv=>whnf
 refine zq (fun ((k,zs):Nat×List D)=>[(1,.d (dN l)),(2,.ptr 0 0),(4,.ptr 1 0),(5,.ptr 2 0),(17,.d (dU m.val)),(18,.d (.int .i64 ((m.val.map D.u64).length:Int))),(19,.d (.int .i64 ((k:Int))))]) (fun ((k,zs):Nat×List D)=>[(0,some (zZ m)),(1,some (.box [.d (.int .i64 0),.nils 1,.nils 1])),(2,some (.box [.d (.int .i64 (zdJ l:Int)),.own 3,.nils 1])),(3,some (.row 1 zs))]) 4 (fun ((k,zs):Nat×List D)=>k≤m.val.length∧zs=(m.val.take k).map fun s=>D.u64 (zba s l)) (fun ((k,zs):Nat×List D)=>m.val.length - k) ((0,[])) [(0,0),(1,1),(2,2)]   [3] (⟨by simp,by simp⟩) (by (refine ⟨rfl,rfl,rfl,?_,?_⟩;repeat' first|exact trivial|exact rfl|exact ⟨_,rfl⟩|exact .inl rfl|exact .inr (.inl ⟨rfl,rfl⟩)|exact .inr (.inr ⟨rfl,rfl⟩)|refine And.intro ?_ ?_|refine ⟨_,rfl,?_⟩|decide|exact of_decide_eq_true rfl)) ?_
 rintro ⟨k,zs⟩ ⟨hk,hz⟩
 have hzl:zs.length≤8:=by rw [hz];simp;omega
 by_cases hkl:k < m.val.length
 ·obtain ⟨s,hs⟩ : ∃ s,m.val[k]? = some s:=⟨_,List.getElem?_eq_getElem hkl⟩
  (repeat' ((conv=>whnf);first|refine vA ?_|refine vB fun b hb=>?_|refine vC (fun hl=>?_) fun i kv vv hi=>?_|refine vE ?_|refine vG ?_|refine vH ?_|((first|refine vD ?_ ?_|refine vF ?_ ?_|refine vI ?_ ?_)<;>intro hc<;>try simp only [vL] at hc)|refine vJ fun hg=>?_|refine vK fun hg=>?_|refine vT ?_|refine vN ‹_› ?_|(refine vQ ?_ fun x hx=>?_;·first|omega|(simp only [vM] at *;omega))|((first|refine vO ?_ ?_|refine vR ?_ ‹_› ?_|refine vS ?_ fun x hx=>?_|refine vP ?_ ?_);·first|omega|(simp only [vM] at *;omega))|refine vW ⟨by omega,by omega⟩ ?_|(refine vU ?_ ?_;·kernel_rfl)|refine vX ?_|refine vY ?_|refine vZ ?_|refine yD (znE s l hl) ⟨⟨rfl,rfl⟩,⟨rfl,rfl⟩,rfl⟩ rfl ?_|refine za.mk _ ‹_› ?_|refine vP (show (_:BitVec 64)≠_ by decide) ?_));all_goals try conv=>whnf
  ·refine ⟨(k+1,_),[(0,0),(1,1),(2,2),(3,5)],[],?_,?_,by (refine ⟨rfl,rfl,rfl,?_,?_⟩;repeat' first|exact trivial|exact rfl|exact ⟨_,rfl⟩|exact .inl rfl|exact .inr (.inl ⟨rfl,rfl⟩)|exact .inr (.inr ⟨rfl,rfl⟩)|refine And.intro ?_ ?_|refine ⟨_,rfl,?_⟩|decide|exact of_decide_eq_true rfl)⟩
   ·exact ⟨by omega,by rw [List.take_add_one,hs,hz];simp⟩
   ·(first|omega|(simp only [vM] at *;omega))
  all_goals omega
 ·have hzz:zs=m.val.map fun s=>D.u64 (zba s l):=by rw [hz,List.take_of_length_le (by omega)]
  clear hz
  subst hzz
  (repeat' ((conv=>whnf);first|refine vA ?_|refine vB fun b hb=>?_|refine vC (fun hl=>?_) fun i kv vv hi=>?_|refine vE ?_|refine vG ?_|refine vH ?_|((first|refine vD ?_ ?_|refine vF ?_ ?_|refine vI ?_ ?_)<;>intro hc<;>try simp only [vL] at hc)|refine vJ fun hg=>?_|refine vK fun hg=>?_|refine vT ?_|refine vN ‹_› ?_|(refine vQ ?_ fun x hx=>?_;·first|omega|(simp only [vM] at *;omega))|((first|refine vO ?_ ?_|refine vR ?_ ‹_› ?_|refine vS ?_ fun x hx=>?_|refine vP ?_ ?_);·first|omega|(simp only [vM] at *;omega))|refine vW ⟨by omega,by omega⟩ ?_|(refine vU ?_ ?_;·kernel_rfl)|refine vX ?_|refine vY ?_|refine vZ ?_|refine za.mk _ ‹_› ?_|refine vP (show (_:BitVec 64)≠_ by decide) ?_));all_goals try conv=>whnf
  ·omega
  refine zq (fun ((k,zs):Nat×List D)=>[(1,.d (dN l)),(4,.ptr 1 0),(5,.ptr 2 0),(33,.d (dUU m.rel)),(34,.d (.int .i64 ((m.rel.map dU).length:Int))),(35,.d (.int .i64 ((k:Int))))]) (fun ((k,zs):Nat×List D)=>[(1,some (.box [.d (.int .i64 0),.nils 1,.nils 1])),(2,some (.box [.d (.int .i64 (zdJ l:Int)),.own 3,.own 4])),(3,some (.row 1 (m.val.map fun s=>D.u64 (zba s l)))),(4,some (.row 1 zs))]) 5 (fun ((k,zs):Nat×List D)=>k≤m.rel.length∧zs=(m.rel.take k).map fun r=>dU (l.map fun w=>zba (r.getD w 0#64) l)) (fun ((k,zs):Nat×List D)=>m.rel.length - k) ((0,[])) [(1,1),(2,2),(3,3)]   [4] (⟨by simp,by simp⟩) (by (refine ⟨rfl,rfl,rfl,?_,?_⟩;repeat' first|exact trivial|exact rfl|exact ⟨_,rfl⟩|exact .inl rfl|exact .inr (.inl ⟨rfl,rfl⟩)|exact .inr (.inr ⟨rfl,rfl⟩)|refine And.intro ?_ ?_|refine ⟨_,rfl,?_⟩|decide|exact of_decide_eq_true rfl)) ?_
  rintro ⟨k,zs⟩ ⟨hk,hz⟩
  have hzl:zs.length≤4:=by rw [hz];simp;omega
  by_cases hkl:k < m.rel.length
  ·obtain ⟨r,hrr⟩ : ∃ r,m.rel[k]? = some r:=⟨_,List.getElem?_eq_getElem hkl⟩
   have hrw:=hr r (List.mem_of_getElem? hrr)
   (repeat' ((conv=>whnf);first|refine vA ?_|refine vB fun b hb=>?_|refine vC (fun hl=>?_) fun i kv vv hi=>?_|refine vE ?_|refine vG ?_|refine vH ?_|((first|refine vD ?_ ?_|refine vF ?_ ?_|refine vI ?_ ?_)<;>intro hc<;>try simp only [vL] at hc)|refine vJ fun hg=>?_|refine vK fun hg=>?_|refine vT ?_|refine vN ‹_› ?_|(refine vQ ?_ fun x hx=>?_;·first|omega|(simp only [vM] at *;omega))|((first|refine vO ?_ ?_|refine vR ?_ ‹_› ?_|refine vS ?_ fun x hx=>?_|refine vP ?_ ?_);·first|omega|(simp only [vM] at *;omega))|refine vW ⟨by omega,by omega⟩ ?_|(refine vU ?_ ?_;·kernel_rfl)|refine vX ?_|refine vY ?_|refine vZ ?_|refine za.mk _ ‹_› ?_|refine vP (show (_:BitVec 64)≠_ by decide) ?_));all_goals try conv=>whnf
   ·refine zq (fun ((j,ys):Nat×List D)=>[(1,.d (dN l)),(4,.ptr 1 0),(5,.ptr 2 0),(9,.d (dU r)),(10,.own 5),(33,.d (dUU m.rel)),(34,.d (.int .i64 ((m.rel.map dU).length:Int))),(35,.d (.int .i64 ((k:Int)))),(39,.d (dN l)),(40,.d (.int .i64 (((l.map fun (x:Nat)=>(x:Int)).map (D.int .i64)).length:Int))),(41,.d (.int .i64 ((j:Int))))]) (fun ((j,ys):Nat×List D)=>[(1,some (.box [.d (.int .i64 0),.nils 1,.nils 1])),(2,some (.box [.d (.int .i64 (zdJ l:Int)),.own 3,.own 4])),(3,some (.row 1 (m.val.map fun s=>D.u64 (zba s l)))),(4,some (.row 1 zs)),(5,some (.row 1 ys))]) 6 (fun ((j,ys):Nat×List D)=>j≤l.length∧ys=(l.take j).map fun w=>D.u64 (zba (r.getD w 0#64) l)) (fun ((j,ys):Nat×List D)=>l.length - j) ((0,[])) [(1,1),(2,2),(3,3),(4,4)]   [5] (⟨by simp,by simp⟩) (by (refine ⟨rfl,rfl,rfl,?_,?_⟩;repeat' first|exact trivial|exact rfl|exact ⟨_,rfl⟩|exact .inl rfl|exact .inr (.inl ⟨rfl,rfl⟩)|exact .inr (.inr ⟨rfl,rfl⟩)|refine And.intro ?_ ?_|refine ⟨_,rfl,?_⟩|decide|exact of_decide_eq_true rfl)) ?_
    rintro ⟨j,ys⟩ ⟨hj,hy⟩
    have hyl:ys.length≤64:=by rw [hy];simp;omega
    by_cases hjl:j < l.length
    ·have e1:=zhm hjl
     have e2:=hrw _ (zj8 hjl)
     have e3:r[l.getD j 0]? = some (r.getD (l.getD j 0) 0#64):=zaL e2
     (repeat' ((conv=>whnf);first|refine vA ?_|refine vB fun b hb=>?_|refine vC (fun hl=>?_) fun i kv vv hi=>?_|refine vE ?_|refine vG ?_|refine vH ?_|((first|refine vD ?_ ?_|refine vF ?_ ?_|refine vI ?_ ?_)<;>intro hc<;>try simp only [vL] at hc)|refine vJ fun hg=>?_|refine vK fun hg=>?_|refine vT ?_|refine vN ‹_› ?_|(refine vQ ?_ fun x hx=>?_;·first|omega|(simp only [vM] at *;omega))|((first|refine vO ?_ ?_|refine vR ?_ ‹_› ?_|refine vS ?_ fun x hx=>?_|refine vP ?_ ?_);·first|omega|(simp only [vM] at *;omega))|refine vW ⟨by omega,by omega⟩ ?_|(refine vU ?_ ?_;·kernel_rfl)|refine vX ?_|refine vY ?_|refine vZ ?_|refine yD (znE (r.getD (l.getD j 0) 0#64) l hl) ⟨⟨rfl,rfl⟩,⟨rfl,rfl⟩,rfl⟩ rfl ?_|refine za.mk _ ‹_› ?_|refine vP (show (_:BitVec 64)≠_ by decide) ?_));all_goals try conv=>whnf
     ·refine ⟨(j+1,_),[(1,1),(2,2),(3,3),(4,4),(5,7)],[],?_,?_,by (refine ⟨rfl,rfl,rfl,?_,?_⟩;repeat' first|exact trivial|exact rfl|exact ⟨_,rfl⟩|exact .inl rfl|exact .inr (.inl ⟨rfl,rfl⟩)|exact .inr (.inr ⟨rfl,rfl⟩)|refine And.intro ?_ ?_|refine ⟨_,rfl,?_⟩|decide|exact of_decide_eq_true rfl)⟩
      ·exact ⟨by omega,by rw [List.take_add_one,hy,zaL (d:=0) hjl];simp⟩
      ·(first|omega|(simp only [vM] at *;omega))
     ·omega
    ·(repeat' ((conv=>whnf);first|refine vA ?_|refine vB fun b hb=>?_|refine vC (fun hl=>?_) fun i kv vv hi=>?_|refine vE ?_|refine vG ?_|refine vH ?_|((first|refine vD ?_ ?_|refine vF ?_ ?_|refine vI ?_ ?_)<;>intro hc<;>try simp only [vL] at hc)|refine vJ fun hg=>?_|refine vK fun hg=>?_|refine vT ?_|refine vN ‹_› ?_|(refine vQ ?_ fun x hx=>?_;·first|omega|(simp only [vM] at *;omega))|((first|refine vO ?_ ?_|refine vR ?_ ‹_› ?_|refine vS ?_ fun x hx=>?_|refine vP ?_ ?_);·first|omega|(simp only [vM] at *;omega))|refine vW ⟨by omega,by omega⟩ ?_|(refine vU ?_ ?_;·kernel_rfl)|refine vX ?_|refine vY ?_|refine vZ ?_|refine za.mk _ ‹_› ?_|refine vP (show (_:BitVec 64)≠_ by decide) ?_));all_goals try conv=>whnf
     ·omega
     ·have hyy:ys=l.map fun w=>D.u64 (zba (r.getD w 0#64) l):=by rw [hy,List.take_of_length_le (by omega)]
      refine ⟨(k+1,_),[(1,1),(2,2),(3,3),(4,7)],[],?_,?_,by (refine ⟨rfl,rfl,rfl,?_,?_⟩;repeat' first|exact trivial|exact rfl|exact ⟨_,rfl⟩|exact .inl rfl|exact .inr (.inl ⟨rfl,rfl⟩)|exact .inr (.inr ⟨rfl,rfl⟩)|refine And.intro ?_ ?_|refine ⟨_,rfl,?_⟩|decide|exact of_decide_eq_true rfl)⟩
      ·refine ⟨by omega,?_⟩
       rw [List.take_add_one,hrr,hz,hyy];simp
      ·(first|omega|(simp only [vM] at *;omega))
   all_goals omega
  ·(repeat' ((conv=>whnf);first|refine vA ?_|refine vB fun b hb=>?_|refine vC (fun hl=>?_) fun i kv vv hi=>?_|refine vE ?_|refine vG ?_|refine vH ?_|((first|refine vD ?_ ?_|refine vF ?_ ?_|refine vI ?_ ?_)<;>intro hc<;>try simp only [vL] at hc)|refine vJ fun hg=>?_|refine vK fun hg=>?_|refine vT ?_|refine vN ‹_› ?_|(refine vQ ?_ fun x hx=>?_;·first|omega|(simp only [vM] at *;omega))|((first|refine vO ?_ ?_|refine vR ?_ ‹_› ?_|refine vS ?_ fun x hx=>?_|refine vP ?_ ?_);·first|omega|(simp only [vM] at *;omega))|refine vW ⟨by omega,by omega⟩ ?_|(refine vU ?_ ?_;·kernel_rfl)|refine vX ?_|refine vY ?_|refine vZ ?_|refine za.mk _ ‹_› ?_|refine vP (show (_:BitVec 64)≠_ by decide) ?_));all_goals try conv=>whnf
   ·omega
   ·have hzz:zs=m.rel.map fun r=>dU (l.map fun w=>zba (r.getD w 0#64) l):=by rw [hz,List.take_of_length_le (by omega)]
    subst hzz
    refine congrArg some (show D.agg [.int .i64 (zdJ l:Int),.arr 1 (m.val.map fun s=>D.u64 (zba s l)),.arr 1 (m.rel.map fun r=>dU (l.map fun w=>zba (r.getD w 0#64) l))]=dKM (zcD m l) from ?_)
    rw [zfy]
    simp [zcD,Function.comp_def]
theorem zsc {m:KM} (hc:zk m=0) {l:List Nat} (h : ∀ w∈l,w < m.W.toNat) : ∀ r∈m.rel,∀ w∈l,w < r.length:=fun r hr w hw=>by
 have hg:=zD hc
 have:=hg.len r hr
 have:=h w hw
 have:=hg.w1
 omega
theorem zoB {m:KM} (hc:zk m=0) {l:List Nat} (hl:l.length≤64) (h : ∀ w∈l,w < m.W.toNat):Fn Tryz.prog T zd5 [.d (dKM m),.d (dN l)] [] (.d (dKM (zcD m l))) [] :=
 zpS m l hl (zsc hc h) (zD hc).v8 (zD hc).n4
theorem zpD (s:BitVec 64):(zy s).length≤64:=by
 unfold zy;have:=List.length_filter_le (fun i=>s.getLsbD i) (List.range 64);simpa using this
theorem zpY {to:List Int} {k:Nat} (hk:k < to.length) (hn:at0 to k ∉ to.take k):to.idxOf (at0 to k)=k:=by
 have e:to=to.take k++at0 to k::to.drop (k+1):=by
  rw [← zaf (zem hk),List.take_append_drop]
 have hl:(to.take k).length=k:=by simp;omega
 generalize at0 to k=x at e hn
 generalize to.take k=a at e hn hl
 rw [e,List.idxOf_append,if_neg hn,List.idxOf_cons_self,hl];simp
structure zie (to:List Int) (k:Nat) (s:BitVec 64) (zs:List D):Prop where
 le:k≤to.length
 rng : ∀ x∈to.take k,0≤x∧x < to.length
 nd:(to.take k).Nodup
 bit : ∀ x:Nat,x < 64→(s.getLsbD x=true↔(x:Int)∈to.take k)
 row:zs=(List.range to.length).map fun (x:Nat)=>D.int .i64 (if (x:Int)∈to.take k then (to.idxOf (x:Int):Int) else 0)
theorem zie.next {to:List Int} (h64:to.length≤64) {k:Nat} {s:BitVec 64} {zs:List D} (h:zie to k s zs) (hk:k < to.length) {x:Nat} (hx:to[k]? = some (x:Int)) (hx1:x < to.length) (hx2:s.getLsbD x=false) :
  zie to (k+1) (s|||1#64 <<< x) (zs.set x (.int .i64 (k:Int))):=by
 have e0:at0 to k=(x:Int):=zm8 hx
 have hn:(x:Int) ∉ to.take k:=fun hm=>by rw [(h.bit x (by omega)).2 hm] at hx2;cases hx2
 have hi:to.idxOf (x:Int)=k:=by rw [← e0];exact zpY hk (by rw [e0];exact hn)
 have ht:to.take (k+1)=to.take k++[(x:Int)]:=by rw [List.take_add_one,hx];rfl
 refine ⟨by omega,fun y hy=>?_,?_,fun y hy=>?_,?_⟩
 ·rw [ht] at hy
  rcases List.mem_append.1 hy with hy|hy
  ·exact h.rng y hy
  ·simp only [List.mem_singleton] at hy;omega
 ·rw [ht]
  refine List.nodup_append.2 ⟨h.nd,by simp,fun a ha b hb e=>?_⟩
  simp only [List.mem_singleton] at hb
  subst hb;subst e;exact hn ha
 ·rw [ht,zhN (by omega),h.bit y hy,List.mem_append,List.mem_singleton]
  exact ⟨fun h=>h.elim .inl fun e => .inr (by omega),fun h=>h.elim .inl fun e => .inr (by omega)⟩
 ·rw [h.row]
  refine (zdS _).trans (zS fun u hu=>?_)
  rw [ht]
  by_cases e:u=x
  ·subst e;rw [if_pos rfl,if_pos (by simp),hi]
  ·rw [if_neg e]
   have:((u:Int)∈to.take k++[(x:Int)])↔(u:Int)∈to.take k:=by
    rw [List.mem_append,List.mem_singleton]
    exact ⟨fun h=>h.elim id fun e'=>absurd (by omega) e,.inl⟩
   by_cases h2:(u:Int)∈to.take k
   ·rw [if_pos h2,if_pos (this.2 h2)]
   ·rw [if_neg h2,if_neg (fun h=>h2 (this.1 h))]
theorem zie.done {to:List Int} {s:BitVec 64} {zs:List D} (h:zie to to.length s zs):zay to to.length=true∧zs=(zcq to to.length).map fun (x:Nat)=>D.int .i64 (x:Int):=by
 have h1:=h.rng;have h2:=h.nd;have h3:=h.row
 rw [List.take_length] at h1 h2 h3
 have hp:zay to to.length=true:=zbs.2 ⟨rfl,h1,h2⟩
 refine ⟨hp,?_⟩
 rw [h3]
 unfold zcq
 rw [List.map_map]
 exact zS fun u hu=>by rw [if_pos (zsx hp hu)];rfl
theorem zie.bad {to:List Int} {k:Nat} {s:BitVec 64} {zs:List D} (h:zie to k s zs) (h64:to.length≤64) {x:Int} (hx:to[k]? = some x) (hb:x < 0∨(to.length:Int)≤x∨s.getLsbD x.toNat=true):zay to to.length=false:=by
 rw [← Bool.not_eq_true]
 intro hp
 obtain ⟨h1,h2,h3⟩:=zbs.1 hp
 have hr:=h2 x (List.mem_of_getElem? hx)
 rcases hb with hb|hb|hb
 ·omega
 ·omega
 ·have hm:=(h.bit x.toNat (by omega)).1 hb
  rw [show ((x.toNat:Nat):Int)=x by omega] at hm
  obtain ⟨j,hj⟩:=List.getElem?_of_mem hm
  rw [List.getElem?_take] at hj
  split at hj
  ·rename_i hlt
   obtain ⟨a,a'⟩:=List.getElem?_eq_some_iff.1 hj
   obtain ⟨c,c'⟩:=List.getElem?_eq_some_iff.1 hx
   have:=(List.getElem_inj h3).1 (a'.trans c'.symm)
   omega
  ·cases hj
end Go.Ab
namespace Go.Ab
open Go Go.Proofs
set_option maxRecDepth 10000
set_option maxHeartbeats 4000000
variable {T:Nat→Obj→Prop}
def znt (m:KM) (n:Int):Bool:=decide (¬(n < m.W∧m.W≤64)∧m.val.length≤20∧m.rel.length≤10 ∧ ∀ r∈m.rel,r.length≤70)
theorem zuV (m:KM) (n:Int):Fn Tryz.prog T zeR [.d (dKM m),.d (.int .i64 n)] [] (.d (.bool (znt m n))) []:=by
 have no:(n < m.W∧m.W≤64∨20 < m.val.length∨10 < m.rel.length)→false=znt m n:=fun h=>by
  rw [znt,decide_eq_false];rintro ⟨a,b,c,-⟩;omega
 refine zo zw ziP (by show 2≤41;decide) ?_
 (repeat' ((conv=>whnf);first|refine vA ?_|refine vB fun b hb=>?_|refine vC (fun hl=>?_) fun i kv vv hi=>?_|refine vE ?_|refine vG ?_|refine vH ?_|((first|refine vD ?_ ?_|refine vF ?_ ?_|refine vI ?_ ?_)<;>intro hc<;>try simp only [vL] at hc)|refine vJ fun hg=>?_|refine vK fun hg=>?_|refine vT ?_|refine vN ‹_› ?_|(refine vQ ?_ fun x hx=>?_;·first|omega|(simp only [vM] at *;omega))|((first|refine vO ?_ ?_|refine vR ?_ ‹_› ?_|refine vS ?_ fun x hx=>?_|refine vP ?_ ?_);·first|omega|(simp only [vM] at *;omega))|refine vW ⟨by omega,by omega⟩ ?_|(refine vU ?_ ?_;·kernel_rfl)|refine vX ?_|refine vY ?_|refine vZ ?_|refine za.mk _ ‹_› ?_|refine vP (show (_:BitVec 64)≠_ by decide) ?_));all_goals try conv=>whnf
 iterate 3 exact no (by omega)
 rotate_left
 iterate 2 exact no (by omega)
 all_goals
  have h1 : ¬(n < m.W∧m.W≤64):=by omega
  refine zq (fun (k:Nat)=>[(2,.ptr 0 0),(5,.d (.int .i64 ((k:Int))))]) (fun (k:Nat)=>[(0,some (zZ m))]) 1 (fun (k:Nat)=>k≤m.rel.length ∧ ∀ (i:Nat) r,i < k→m.rel[i]? = some r→r.length≤70) (fun (k:Nat)=>m.rel.length - k) (0) [(0,0)] [] (⟨by simp,fun i r hi=>by omega⟩) (by (refine ⟨rfl,rfl,rfl,?_,?_⟩;repeat' first|exact trivial|exact rfl|exact ⟨_,rfl⟩|exact .inl rfl|exact .inr (.inl ⟨rfl,rfl⟩)|exact .inr (.inr ⟨rfl,rfl⟩)|refine And.intro ?_ ?_|refine ⟨_,rfl,?_⟩|decide|exact of_decide_eq_true rfl)) ?_
  rintro k ⟨hk,hI⟩
  (repeat' ((conv=>whnf);first|refine vA ?_|refine vB fun b hb=>?_|refine vC (fun hl=>?_) fun i kv vv hi=>?_|refine vE ?_|refine vG ?_|refine vH ?_|((first|refine vD ?_ ?_|refine vF ?_ ?_|refine vI ?_ ?_)<;>intro hc<;>try simp only [vL] at hc)|refine vJ fun hg=>?_|refine vK fun hg=>?_|refine vT ?_|refine vN ‹_› ?_|(refine vQ ?_ fun x hx=>?_;·first|omega|(simp only [vM] at *;omega))|((first|refine vO ?_ ?_|refine vR ?_ ‹_› ?_|refine vS ?_ fun x hx=>?_|refine vP ?_ ?_);·first|omega|(simp only [vM] at *;omega))|refine vW ⟨by omega,by omega⟩ ?_|(refine vU ?_ ?_;·kernel_rfl)|refine vX ?_|refine vY ?_|refine vZ ?_|refine za.mk _ ‹_› ?_|refine vP (show (_:BitVec 64)≠_ by decide) ?_));all_goals try conv=>whnf
  ·rw [znt,decide_eq_false]
   rintro ⟨-,-,-,h⟩
   have:=h _ (List.mem_of_getElem? hx);omega
  ·exact ⟨k+1,[(0,0)],[],⟨by (first|omega|(simp only [vM] at *;omega)),fun i r hi hr=>by
    by_cases e:i=k
    ·subst e;rw [hx] at hr;cases hr;omega
    ·exact hI i r (by omega) hr⟩,by (first|omega|(simp only [vM] at *;omega)),by (refine ⟨rfl,rfl,rfl,?_,?_⟩;repeat' first|exact trivial|exact rfl|exact ⟨_,rfl⟩|exact .inl rfl|exact .inr (.inl ⟨rfl,rfl⟩)|exact .inr (.inr ⟨rfl,rfl⟩)|refine And.intro ?_ ?_|refine ⟨_,rfl,?_⟩|decide|exact of_decide_eq_true rfl)⟩
  ·rw [znt,decide_eq_true]
   refine ⟨h1,by omega,by omega,fun r hr=>?_⟩
   obtain ⟨i,hi⟩:=List.getElem?_of_mem hr
   have:=(List.getElem?_eq_some_iff.1 hi).1
   exact hI i r (by omega) hi
end Go.Ab
namespace Go.Ab
theorem ztq {n:Nat} {fa fb:Nat→Int} {R R':zam} (hl:R'.length=R.length) {f:Nat→Nat} (hf:Ren n f) :
  (∀ v,v < n→fa v=fb (f v) ∧ ∀ u,u≤v→zfZ R R' f v u=true)↔zck n fa fb R R' f:=by
 constructor
 ·intro h
  refine ⟨hf,fun w hw=>(h w hw).1.symm,⟨hl,fun i r r' h1 h2 v w hv hw=>?_⟩⟩
  by_cases e:w≤v
  ·have:=(zdV hl).1 ((h v hv).2 w e) i r r' h1 h2
   simp only [Bool.and_eq_true,beq_iff_eq] at this
   exact this.1.symm
  ·have:=(zdV hl).1 ((h w hw).2 v (by omega)) i r r' h1 h2
   simp only [Bool.and_eq_true,beq_iff_eq] at this
   exact this.2.symm
 ·intro h v hv
  refine ⟨(h.fac v hv).symm,fun u hu=>(zdV hl).2 fun i r r' h1 h2=>?_⟩
  simp only [Bool.and_eq_true,beq_iff_eq]
  exact ⟨(h.rel.rel i r r' h1 h2 v u hv (by omega)).symm,(h.rel.rel i r r' h1 h2 u v (by omega) hv).symm⟩
def za5 (a b:KM):Int:=if zk a≠0 then zk a else if zk b≠0 then zk b else if a.rel.length≠b.rel.length∨a.val.length≠b.val.length then 1 else 0
theorem zmg {a b:KM} (h:za5 a b=0):zk a=0∧zk b=0∧a.rel.length=b.rel.length∧a.val.length=b.val.length:=by
 unfold za5 at h
 split at h
 ·contradiction
 ·split at h
  ·contradiction
  ·split at h
   ·cases h
   ·rename_i h1 h2 h3;exact ⟨by omega,by omega,by omega,by omega⟩
def zlF (a b:KM) (to:List Int):Bool:=(List.range a.W.toNat).all fun v=>zai a v==zai b (toF to v)&&(List.range (v+1)).all fun u=>zfZ (zV a) (zV b) (toF to) v u
def zc0 (a b:KM) (to:List Int):Int:=if za5 a b≠0 then za5 a b else if a.W≠b.W then 1 else if zay to a.W.toNat=false then 3 else if zlF a b to=true then 0 else 13
theorem zuQ {a b:KM} (hl:b.rel.length=a.rel.length) {to:List Int} (h:zay to a.W.toNat=true):zlF a b to=true↔zck a.W.toNat (zai a) (zai b) (zV a) (zV b) (toF to):=by
 rw [← ztq (by rw [zhQ,zhQ];exact hl) (zf0 h)]
 unfold zlF
 simp only [List.all_eq_true,List.mem_range,Bool.and_eq_true,beq_iff_eq]
 exact ⟨fun k v hv=>⟨(k v hv).1,fun u hu=>(k v hv).2 u (by omega)⟩,fun k v hv=>⟨(k v hv).1,fun u hu=>(k v hv).2 u (by omega)⟩⟩
theorem zph {n:Nat} {q:Nat→Nat} (h:Ren n q):zay (ptL n q) n=true:=by
 rw [zbs]
 refine ⟨zlM,fun x hx=>?_,?_⟩
 ·obtain ⟨w,hw,rfl⟩:=List.mem_map.1 hx
  have:=h.lt w (List.mem_range.1 hw);omega
 ·unfold ptL
  rw [List.Nodup,List.pairwise_map]
  exact List.Pairwise.imp_of_mem (fun {a b} ha hb hab e=>hab (h.inj a b (List.mem_range.1 ha) (List.mem_range.1 hb) (by omega))) List.nodup_range
theorem zu1 {n:Nat} {q:Nat→Nat} {w:Nat} (hw:w < n):toF (ptL n q) w=q w:=by
 have:at0 (ptL n q) w=((q w:Nat):Int):=zm8 (zf1 hw)
 unfold toF;omega
end Go.Ab
namespace Go.Proofs
def Tryz.lays129_ren:Go.Shelf.Ren:=⟨fun|129=>92|n=>n,fun|53=>45|3=>3|4=>4|46=>56|5=>5|9=>9|n=>n,fun|n=>n⟩
theorem Tryz.lays129:Go.Proofs.Lays.n129 Tryz.prog Tryz.lays129_ren := {
 mixed:=by kernel_rfl
 f129:=Tryz.func92.trans (congrArg some (by kernel_rfl))
 t3:=Tryz.underlying3
 a3:=Tryz.isAgg3
 z3:=Tryz.sizeOf3
 v3:=Tryz.zeroValue3
 t4:=Tryz.underlying4
 a4:=Tryz.isAgg4
 z4:=Tryz.sizeOf4
 v4:=Tryz.zeroValue4
 t5:=Tryz.underlying5
 a5:=Tryz.isAgg5
 z5:=Tryz.sizeOf5
 v5:=Tryz.zeroValue5
 t9:=Tryz.underlying9
 a9:=Tryz.isAgg9
 z9:=Tryz.sizeOf9
 v9:=Tryz.zeroValue9
 t46:=Tryz.underlying56
 a46:=Tryz.isAgg56
 z46:=Tryz.sizeOf56
 v46:=Tryz.zeroValue56
 t53:=Tryz.underlying45
 a53:=Tryz.isAgg45
 z53:=Tryz.sizeOf45
 v53:=Tryz.zeroValue45 }
end Go.Proofs
namespace Go.Ab
open Go Go.Proofs
set_option maxRecDepth 10000
set_option maxHeartbeats 4000000
variable {T:Nat→Obj→Prop}
theorem zpF:zbY Tryz.prog zfd:=⟨_,Tryz.func92,by kernel_rfl,by kernel_rfl⟩
theorem zr8 (x:BitVec 64):Fn Tryz.prog T zfd [.d (.u64 x)] [] (.d (.int .i64 (Sort.bitsLen x.toNat:Int))) []:=by
 refine zo8 (ds:=[.u64 x]) zpF fun w args hw hsz hargs=>?_
 obtain ⟨X,hX⟩:=hargs 0 (by simp)
 have ha:args = #[.int .u64 (x.toNat:Int)]:=by
  have h0:args.getD 0 undef = .int .u64 (x.toNat:Int):=by
   generalize args.getD 0 undef=y at hX
   cases hX;rfl
  obtain ⟨l⟩:=args
  match l,hsz with
  | [y],_=>rw [← h0];rfl
 rw [ha]
 have:=Any.bits_Len64 Tryz.lays129 (x.toNat:Int) w (by omega) (by have:=x.isLt;omega)
 refine this.mono fun e w' he=>⟨_,he.1,he.2,fun X=>?_⟩
 rw [Int.toNat_natCast,Go.Proofs.bitLen_eq _ x.isLt]
 exact .int _ _ (by decide)
theorem znA (x:BitVec 64):Fn Tryz.prog T zcJ [.d (.u64 x)] [] (.d (.int .i64 (Sort.bitsLen x.toNat:Int))) []:=by
 refine zo zw zk7 (by show 1≤8;decide) ?_
 (repeat' ((conv=>whnf);first|refine vT ?_|refine vX ?_|refine yD (zr8 _) ⟨⟨rfl,rfl⟩,rfl⟩ rfl ?_));all_goals try conv=>whnf
end Go.Ab
namespace Go.Ab
open Go Go.Proofs
set_option maxRecDepth 10000
set_option maxHeartbeats 4000000
section
variable {α:Type} [Inhabited α] [DecidableEq α]
def ddA (d:Array α):Nat→List α
 | 0=>[]
 | n+1=>if 0 < n∧d[n]! = d[n - 1]! then ddA d n else ddA d n++[d[n]!]
def Steps (d:Array α):Prop := ∀ j,0 < j→j < d.size→d[j]! ≠ d[j - 1]!
theorem zrv {d:Array α} {n:Nat} (h:n < d.size):d.toList.take (n+1)=d.toList.take n++[d[n]!]:=by
 rw [List.take_add_one,zaU h];rfl
theorem zlx {d:Array α} : ∀ {n:Nat},n≤d.size→(∀ j,0 < j→j < n→d[j]! ≠ d[j - 1]!)→ddA d n=d.toList.take n
 | 0,_,_=>rfl
 | n+1,h,hs=>by
  rw [ddA,if_neg (fun hh=>hs n hh.1 (by omega) hh.2),zlx (by omega) (fun j h0 h1=>hs j h0 (by omega)),zrv (by omega)]
theorem zr0 {d:Array α} {k:Nat} (h0:0 < k) (h1:k < d.size) (hk : ∀ j,0 < j→j < k→d[j]! ≠ d[j - 1]!) (he:d[k]! = d[k - 1]!):d.toList.take k=ddA d (k+1):=by
 rw [ddA,if_pos ⟨h0,he⟩,zlx (by omega) hk]
theorem zsI {e:Array α} {a:Nat} {x:α} (h:a < e.size):(e.setIfInBounds a x).toList.take (a+1)=e.toList.take a++[x]:=by
 have hl:a < e.toList.length:=by simpa using h
 rw [Array.toList_setIfInBounds,List.take_add_one,List.getElem?_set_self hl,List.take_set_of_le (Nat.le_refl a)];rfl
theorem ztM {e:Array α} {a j:Nat} {x:α} (h:a≠j):(e.setIfInBounds a x)[j]! = e[j]! := by
 simp [getElem!_def,Array.getElem?_setIfInBounds_ne h]
theorem ztn {d:Array α} {n:Nat} (h:0 < n) (he:d[n]! = d[n - 1]!):ddA d (n+1)=ddA d n:=by rw [ddA,if_pos ⟨h,he⟩]
theorem zt9 {d:Array α} {n:Nat} (he:d[n]! ≠ d[n - 1]!):ddA d (n+1)=ddA d n++[d[n]!]:=by rw [ddA,if_neg (fun h=>he h.2)]
theorem ztm {enc:α→D} {e:Array α} {z:D} {a n:Nat} (h:a≤e.size):((List.take a (e.toList.map enc))++(List.replicate n z++List.drop (a+n) (e.toList.map enc))).take a=(e.toList.take a).map enc:=by
 rw [List.take_append_of_le_length (by simp;omega),List.take_take,Nat.min_self,List.map_take]
end
end Go.Ab
namespace Go.Ab
section
variable {α:Type} [Inhabited α] [DecidableEq α]
theorem zek {d:Array α} {x:α} : ∀ {n:Nat},x∈ddA d n ↔ ∃ i,i < n∧d[i]! = x
 | 0=>by simp [ddA]
 | n+1=>by
  rw [ddA]
  constructor
  ·intro h
   split at h
   ·obtain ⟨i,h1,h2⟩:=zek.1 h
    exact ⟨i,by omega,h2⟩
   ·rcases List.mem_append.1 h with h|h
    ·obtain ⟨i,h1,h2⟩:=zek.1 h
     exact ⟨i,by omega,h2⟩
    ·exact ⟨n,by omega,by simp at h;exact h.symm⟩
  ·rintro ⟨i,h1,h2⟩
   split
   ·rename_i hc
    by_cases e:i=n
    ·subst e
     exact zek.2 ⟨i - 1,by omega,by rw [← hc.2];exact h2⟩
    ·exact zek.2 ⟨i,by omega,h2⟩
   ·by_cases e:i=n
    ·subst e;exact List.mem_append.2 (.inr (by simp [h2]))
    ·exact List.mem_append.2 (.inl (zek.2 ⟨i,by omega,h2⟩))
theorem zj0 {lt:α→α→Bool} {d:Array α} (hs : ∀ i j,i < j→j < d.size→lt d[j]! d[i]! = false) (tri : ∀ x y,lt x y=false→lt y x=false→x=y) : ∀ {n:Nat},n≤d.size→(ddA d n).Pairwise fun x y=>lt x y=true
 | 0,_=>List.Pairwise.nil
 | n+1,h=>by
  rw [ddA]
  split
  ·exact zj0 hs tri (by omega)
  ·rename_i hc
   refine List.pairwise_append.2 ⟨zj0 hs tri (by omega),List.pairwise_singleton _ _,fun x hx y hy=>?_⟩
   obtain ⟨i,hi,rfl⟩:=zek.1 hx
   have hy:y=d[n]! := by simpa using hy
   subst hy
   cases hb:lt d[i]! d[n]! with
   | true=>rfl
   | false =>
    have e1:=tri _ _ hb (hs i n hi (by omega))
    refine absurd ⟨by omega,?_⟩ hc
    by_cases e:i=n - 1
    ·rw [← e];exact e1.symm
    ·refine (tri _ _ ?_ ?_)
     ·exact hs (n - 1) n (by omega) (by omega)
     ·rw [← e1];exact hs i (n - 1) (by omega) (by omega)
end
def ltT (x y:Tup):Bool:=decide (zaF x y < 0)
theorem zfz {x y:Tup} : ltT x y=true↔zaF x y < 0:=by simp [ltT]
theorem znM {x y:Tup} : ltT x y=false↔0≤zaF x y:=by simp [ltT]
theorem zuo:Sort.SWO ltT:=by
 refine ⟨fun x=>znM.2 (by rw [zah.refl];omega),fun x y z h1 h2=>zfz.2 (zah.tr (zfz.1 h1) (zfz.1 h2)),fun x y z h1 h2=>?_⟩
 rw [znM] at *
 have a1:=zah.anti x y
 have a2:=zah.anti y z
 have a3:=zah.anti x z
 by_cases e1:zaF x y=0
 ·rw [zah.zero.1 e1];exact h2
 ·by_cases e2:zaF y z=0
  ·rw [← zah.zero.1 e2];exact h1
  ·have:=zah.tr (x:=z) (y:=y) (z:=x) (by omega) (by omega)
   omega
theorem ziC {α:Type} {p:α→Bool} : ∀ {S:List α} {i:Nat},i≤S.length→(∀ (k:Nat) x,k < i→S[k]? = some x→p x=true)→(∀ (k:Nat) x,i≤k→S[k]? = some x→p x=false)→(S.filter p).length=i
 | [],i,hi,_,_=>by simp at hi;simp [hi]
 | a::S,0,hi,h1,h2=>by
  have:(a::S).filter p=[]:=by
   rw [List.filter_eq_nil_iff]
   intro x hx
   obtain ⟨k,hk⟩:=List.getElem?_of_mem hx
   rw [h2 k x (by omega) hk];simp
  rw [this];rfl
 | a::S,i+1,hi,h1,h2=>by
  rw [List.filter_cons_of_pos (h1 0 a (by omega) rfl),List.length_cons,ziC (i:=i) (by simpa using hi) (fun k x hk hx=>h1 (k+1) x (by omega) (by simpa using hx)) fun k x hk hx=>h2 (k+1) x (by omega) (by simpa using hx)]
structure zbF (ts S:List Tup):Prop where
 pw:S.Pairwise fun x y=>zaF x y < 0
 mem : ∀ x,x∈S↔x∈ts
theorem zbF.nodup {ts S:List Tup} (h:zbF ts S):S.Nodup:=h.pw.imp fun {a b} h e=>by subst e;rw [zah.refl] at h;omega
theorem zbF.cnt {ts S:List Tup} (h:zbF ts S):S.length=cnN ts:=zs1 h.nodup h.mem
theorem zbF.le {ts S:List Tup} (h:zbF ts S):S.length≤ts.length:=zea h.nodup fun x hx=>(h.mem x).1 hx
theorem zbF.rk {ts S:List Tup} (h:zbF ts S) {t:Tup} {i:Nat} (hi:i≤S.length) (h1 : ∀ (k:Nat) x,k < i→S[k]? = some x→zaF x t < 0) (h2 : ∀ (k:Nat) x,i≤k→S[k]? = some x → ¬zaF x t < 0):i=rkN ts t:=by
 rw [← zs9 h.nodup h.mem]
 exact (ziC hi (fun k x hk hx=>decide_eq_true (h1 k x hk hx)) fun k x hk hx=>decide_eq_false (h2 k x hk hx)).symm
theorem zbF.lt_of {ts S:List Tup} (h:zbF ts S) {t:Tup} {i k:Nat} {x y:Tup} (hx:S[i]? = some x) (hy:S[k]? = some y) (hik:k≤i) (hl:zaF x t < 0):zaF y t < 0:=by
 by_cases e:k=i
 ·subst e;rw [hx] at hy;cases hy;exact hl
 ·obtain ⟨a,b⟩:=List.getElem?_eq_some_iff.1 hx
  obtain ⟨c,d⟩:=List.getElem?_eq_some_iff.1 hy
  have:=List.pairwise_iff_getElem.1 h.pw k i c a (by omega)
  rw [b,d] at this
  exact zah.tr this hl
theorem zmx (d:Array Tup):(Sort.sort ltT d).toList.Perm d.toList:=by
 obtain ⟨⟨h1,-,h2⟩,-⟩:=Sort.sort_sorts ltT zuo d
 have e1:(Sort.sort ltT d).extract 0 d.size=Sort.sort ltT d:=by rw [← h1];simp
 have e2:d.extract 0 d.size=d:=by simp
 rwa [e1,e2] at h2
theorem zqj {ts:List Tup} {S:Array Tup} (hS:S=Sort.sort ltT ts.toArray):zbF ts (ddA S S.size):=by
 subst hS
 obtain ⟨⟨h1,-,-⟩,h3⟩:=Sort.sort_sorts _ zuo ts.toArray
 have hp:=zmx ts.toArray
 generalize Sort.sort ltT ts.toArray=S at h1 h3 hp
 refine ⟨?_,fun x=>?_⟩
 ·refine (zj0 (fun i j hij hj=>h3 i j (Nat.zero_le _) hij (by rw [← h1];exact hj)) (fun x y h1 h2=>zah.zero.1 (by rw [znM] at h1 h2;have:=zah.anti x y;omega)) (Nat.le_refl _)).imp fun h=>zfz.1 h
 ·rw [zek]
  have:=hp.mem_iff (a:=x)
  rw [show ts.toArray.toList=ts from rfl] at this
  rw [← this]
  constructor
  ·rintro ⟨i,hi,rfl⟩;exact List.mem_of_getElem? (zaU hi)
  ·intro hx
   obtain ⟨i,hi⟩:=List.getElem?_of_mem hx
   exact ⟨i,(zdv hi).2,(zdv hi).1⟩
end Go.Ab
namespace Go.Ab
open Go Go.Proofs
set_option maxRecDepth 10000
set_option maxHeartbeats 4000000
variable {T:Nat→Obj→Prop}
theorem zdb (a b:Int):Fn Tryz.prog T za2 [.d (.int .i64 a),.d (.int .i64 b)] [] (.d (.int .i64 (za1 a b))) []:=by
 have hn : ∀ z:Int,Fn Tryz.prog T zdG [.d (.int .i64 z)] [] (.d (.bool false)) []:=fun z=>by
  refine zo zw zfS (by show 1≤6;decide) ?_
  (repeat' ((conv=>whnf);first|refine vA ?_|refine vB fun b hb=>?_|refine vC (fun hl=>?_) fun i kv vv hi=>?_|refine vE ?_|refine vG ?_|refine vH ?_|((first|refine vD ?_ ?_|refine vF ?_ ?_|refine vI ?_ ?_)<;>intro hc<;>try simp only [vL] at hc)|refine vJ fun hg=>?_|refine vK fun hg=>?_|refine vT ?_|refine vN ‹_› ?_|(refine vQ ?_ fun x hx=>?_;·first|omega|(simp only [vM] at *;omega))|((first|refine vO ?_ ?_|refine vR ?_ ‹_› ?_|refine vS ?_ fun x hx=>?_|refine vP ?_ ?_);·first|omega|(simp only [vM] at *;omega))|refine vW ⟨by omega,by omega⟩ ?_|(refine vU ?_ ?_;·kernel_rfl)|refine vX ?_|refine vY ?_|refine vZ ?_|refine za.mk _ ‹_› ?_|refine vP (show (_:BitVec 64)≠_ by decide) ?_));all_goals try conv=>whnf
  simp
 refine zo zw ziK (by show 2≤20;decide) ?_
 (repeat' ((conv=>whnf);first|refine vA ?_|refine vB fun b hb=>?_|refine vC (fun hl=>?_) fun i kv vv hi=>?_|refine vE ?_|refine vG ?_|refine vH ?_|((first|refine vD ?_ ?_|refine vF ?_ ?_|refine vI ?_ ?_)<;>intro hc<;>try simp only [vL] at hc)|refine vJ fun hg=>?_|refine vK fun hg=>?_|refine vT ?_|refine vN ‹_› ?_|(refine vQ ?_ fun x hx=>?_;·first|omega|(simp only [vM] at *;omega))|((first|refine vO ?_ ?_|refine vR ?_ ‹_› ?_|refine vS ?_ fun x hx=>?_|refine vP ?_ ?_);·first|omega|(simp only [vM] at *;omega))|refine vW ⟨by omega,by omega⟩ ?_|(refine vU ?_ ?_;·kernel_rfl)|refine vX ?_|refine vY ?_|refine vZ ?_|refine yD (hn _) (by (repeat refine ⟨⟨rfl,rfl⟩,?_⟩);rfl) rfl ?_|refine yN (hn _) (by (repeat refine ⟨⟨rfl,rfl⟩,?_⟩);rfl) ?_|refine za.mk _ ‹_› ?_|refine vP (show (_:BitVec 64)≠_ by decide) ?_));all_goals try conv=>whnf
 all_goals (unfold za1;first|rw [if_pos ‹_›]|(rw [if_neg (by omega)];first|rw [if_pos ‹_›]|rw [if_neg (by omega)])|skip)
theorem znf {α:Type} {c:α→α→Int} {a b:List α} {k:Nat} (h:k=min a.length b.length):zX c (a.drop k) (b.drop k)=za1 (a.length:Int) (b.length:Int):=by
 rcases Nat.lt_trichotomy a.length b.length with h1|h1|h1
 ·rw [List.drop_eq_nil_of_le (show a.length≤k by omega)]
  obtain ⟨x,hx⟩ : ∃ x,b[k]? = some x:=⟨_,List.getElem?_eq_getElem (by omega)⟩
  rw [zaf hx,zX,za1,if_pos (by omega)]
 ·rw [List.drop_eq_nil_of_le (show a.length≤k by omega),List.drop_eq_nil_of_le (show b.length≤k by omega),zX,za1,if_neg (by omega),if_neg (by omega)]
 ·rw [List.drop_eq_nil_of_le (show b.length≤k by omega)]
  obtain ⟨x,hx⟩ : ∃ x,a[k]? = some x:=⟨_,List.getElem?_eq_getElem (by omega)⟩
  rw [zaf hx,zX,za1,if_neg (by omega),if_pos (by omega)]
theorem zlE (a b:List Int) (ha:a.length≤1000000):Fn Tryz.prog T zdh [.d (dI a),.d (dI b),.d (.fn za2 [])] [] (.d (.int .i64 (zX za1 a b))) []:=by
 refine zo zw zgg (by show 3≤36;decide) ?_
 (repeat' ((conv=>whnf);first|refine vA ?_|refine vB fun b hb=>?_|refine vC (fun hl=>?_) fun i kv vv hi=>?_|refine vE ?_|refine vG ?_|refine vH ?_|((first|refine vD ?_ ?_|refine vF ?_ ?_|refine vI ?_ ?_)<;>intro hc<;>try simp only [vL] at hc)|refine vJ fun hg=>?_|refine vK fun hg=>?_|refine vT ?_|refine vN ‹_› ?_|(refine vQ ?_ fun x hx=>?_;·first|omega|(simp only [vM] at *;omega))|((first|refine vO ?_ ?_|refine vR ?_ ‹_› ?_|refine vS ?_ fun x hx=>?_|refine vP ?_ ?_);·first|omega|(simp only [vM] at *;omega))|refine vW ⟨by omega,by omega⟩ ?_|(refine vU ?_ ?_;·kernel_rfl)|refine vX ?_|refine vY ?_|refine vZ ?_|refine za.mk _ ‹_› ?_|refine vP (show (_:BitVec 64)≠_ by decide) ?_));all_goals try conv=>whnf
 refine zbR (fun (k:Nat)=>[(0,.d (dI a)),(1,.d (dI b)),(2,.d (.fn za2 [])),(13,.d (.int .i64 ((min ((a.map (D.int .i64)).length:Int) ((b.map (D.int .i64)).length:Int))))),(14,.d (.int .i64 ((k:Int))))]) (fun (k:Nat)=>k≤a.length∧k≤b.length∧zX za1 a b=zX za1 (a.drop k) (b.drop k)) (fun (k:Nat)=>a.length - k) (0) (⟨by simp,by simp,rfl⟩) (by (repeat' first|exact trivial|exact rfl|exact ⟨_,rfl⟩|exact .inl rfl|exact .inr (.inl ⟨rfl,rfl⟩)|exact .inr (.inr ⟨rfl,rfl⟩)|refine And.intro ?_ ?_|refine ⟨_,rfl,?_⟩|decide|exact of_decide_eq_true rfl)) ?_
 rintro k ⟨hk,hk2,hI⟩
 by_cases hkl:k < a.length∧k < b.length
 ·obtain ⟨x,hx⟩ : ∃ x,a[k]? = some x:=⟨_,List.getElem?_eq_getElem hkl.1⟩
  obtain ⟨y,hy⟩ : ∃ y,b[k]? = some y:=⟨_,List.getElem?_eq_getElem hkl.2⟩
  have hs:zX za1 a b=if za1 x y=0 then zX za1 (a.drop (k+1)) (b.drop (k+1)) else za1 x y:=by rw [hI,zaf hx,zaf hy,zX]
  (repeat' ((conv=>whnf);first|refine vA ?_|refine vB fun b hb=>?_|refine vC (fun hl=>?_) fun i kv vv hi=>?_|refine vE ?_|refine vG ?_|refine vH ?_|((first|refine vD ?_ ?_|refine vF ?_ ?_|refine vI ?_ ?_)<;>intro hc<;>try simp only [vL] at hc)|refine vJ fun hg=>?_|refine vK fun hg=>?_|refine vT ?_|refine vN ‹_› ?_|(refine vQ ?_ fun x hx=>?_;·first|omega|(simp only [vM] at *;omega))|((first|refine vO ?_ ?_|refine vR ?_ ‹_› ?_|refine vS ?_ fun x hx=>?_|refine vP ?_ ?_);·first|omega|(simp only [vM] at *;omega))|refine vW ⟨by omega,by omega⟩ ?_|(refine vU ?_ ?_;·kernel_rfl)|refine vX ?_|refine vY ?_|refine vZ ?_|refine yD (zdb _ _) ⟨⟨rfl,rfl⟩,⟨rfl,rfl⟩,rfl⟩ rfl ?_|refine za.mk _ ‹_› ?_|refine vP (show (_:BitVec 64)≠_ by decide) ?_));all_goals try conv=>whnf
  ·rw [hs,if_neg hc]
  ·exact ⟨k+1,[],[],⟨by omega,by omega,by rw [hs,if_pos hc]⟩,by (first|omega|(simp only [vM] at *;omega)),by (refine ⟨rfl,rfl,rfl,?_,?_⟩;repeat' first|exact trivial|exact rfl|exact ⟨_,rfl⟩|exact .inl rfl|exact .inr (.inl ⟨rfl,rfl⟩)|exact .inr (.inr ⟨rfl,rfl⟩)|refine And.intro ?_ ?_|refine ⟨_,rfl,?_⟩|decide|exact of_decide_eq_true rfl)⟩
  ·omega
 ·(repeat' ((conv=>whnf);first|refine vA ?_|refine vB fun b hb=>?_|refine vC (fun hl=>?_) fun i kv vv hi=>?_|refine vE ?_|refine vG ?_|refine vH ?_|((first|refine vD ?_ ?_|refine vF ?_ ?_|refine vI ?_ ?_)<;>intro hc<;>try simp only [vL] at hc)|refine vJ fun hg=>?_|refine vK fun hg=>?_|refine vT ?_|refine vN ‹_› ?_|(refine vQ ?_ fun x hx=>?_;·first|omega|(simp only [vM] at *;omega))|((first|refine vO ?_ ?_|refine vR ?_ ‹_› ?_|refine vS ?_ fun x hx=>?_|refine vP ?_ ?_);·first|omega|(simp only [vM] at *;omega))|refine vW ⟨by omega,by omega⟩ ?_|(refine vU ?_ ?_;·kernel_rfl)|refine vX ?_|refine vY ?_|refine vZ ?_|refine yD (zdb _ _) ⟨⟨rfl,rfl⟩,⟨rfl,rfl⟩,rfl⟩ rfl ?_|refine za.mk _ ‹_› ?_|refine vP (show (_:BitVec 64)≠_ by decide) ?_));all_goals try conv=>whnf
  iterate 2 (exfalso;omega)
  ·rw [hI,znf (by omega),List.length_map,List.length_map]
def Sml (t:Tup):Prop:=t.length≤1000 ∧ ∀ r∈t,r.length≤1000
theorem zqG (x y:List Int) (h:x.length≤1000000):Fn Tryz.prog T za3 [.d (dI x),.d (dI y)] [] (.d (.int .i64 (zX za1 x y))) []:=by
 refine zo zw ziM (by show 2≤8;decide) ?_
 (repeat' ((conv=>whnf);first|refine vA ?_|refine vB fun b hb=>?_|refine vC (fun hl=>?_) fun i kv vv hi=>?_|refine vE ?_|refine vG ?_|refine vH ?_|((first|refine vD ?_ ?_|refine vF ?_ ?_|refine vI ?_ ?_)<;>intro hc<;>try simp only [vL] at hc)|refine vJ fun hg=>?_|refine vK fun hg=>?_|refine vT ?_|refine vN ‹_› ?_|(refine vQ ?_ fun x hx=>?_;·first|omega|(simp only [vM] at *;omega))|((first|refine vO ?_ ?_|refine vR ?_ ‹_› ?_|refine vS ?_ fun x hx=>?_|refine vP ?_ ?_);·first|omega|(simp only [vM] at *;omega))|refine vW ⟨by omega,by omega⟩ ?_|(refine vU ?_ ?_;·kernel_rfl)|refine vX ?_|refine vY ?_|refine vZ ?_|refine yD (zlE x y h) ⟨⟨rfl,rfl⟩,⟨rfl,rfl⟩,⟨rfl,rfl⟩,rfl⟩ rfl ?_|refine za.mk _ ‹_› ?_|refine vP (show (_:BitVec 64)≠_ by decide) ?_));all_goals try conv=>whnf
theorem znC (a b:Tup) (ha:a.length≤1000000) (hb : ∀ r∈a,r.length≤1000000):Fn Tryz.prog T zcX [.d (dII a),.d (dII b),.d (.fn za3 [])] [] (.d (.int .i64 (zX (zX za1) a b))) []:=by
 refine zo zw zfU (by show 3≤36;decide) ?_
 (repeat' ((conv=>whnf);first|refine vA ?_|refine vB fun b hb=>?_|refine vC (fun hl=>?_) fun i kv vv hi=>?_|refine vE ?_|refine vG ?_|refine vH ?_|((first|refine vD ?_ ?_|refine vF ?_ ?_|refine vI ?_ ?_)<;>intro hc<;>try simp only [vL] at hc)|refine vJ fun hg=>?_|refine vK fun hg=>?_|refine vT ?_|refine vN ‹_› ?_|(refine vQ ?_ fun x hx=>?_;·first|omega|(simp only [vM] at *;omega))|((first|refine vO ?_ ?_|refine vR ?_ ‹_› ?_|refine vS ?_ fun x hx=>?_|refine vP ?_ ?_);·first|omega|(simp only [vM] at *;omega))|refine vW ⟨by omega,by omega⟩ ?_|(refine vU ?_ ?_;·kernel_rfl)|refine vX ?_|refine vY ?_|refine vZ ?_|refine za.mk _ ‹_› ?_|refine vP (show (_:BitVec 64)≠_ by decide) ?_));all_goals try conv=>whnf
 refine zbR (fun (k:Nat)=>[(0,.d (dII a)),(1,.d (dII b)),(2,.d (.fn za3 [])),(13,.d (.int .i64 ((min ((a.map dI).length:Int) ((b.map dI).length:Int))))),(14,.d (.int .i64 ((k:Int))))]) (fun (k:Nat)=>k≤a.length∧k≤b.length∧zX (zX za1) a b=zX (zX za1) (a.drop k) (b.drop k)) (fun (k:Nat)=>a.length - k) (0) (⟨by simp,by simp,rfl⟩) (by (repeat' first|exact trivial|exact rfl|exact ⟨_,rfl⟩|exact .inl rfl|exact .inr (.inl ⟨rfl,rfl⟩)|exact .inr (.inr ⟨rfl,rfl⟩)|refine And.intro ?_ ?_|refine ⟨_,rfl,?_⟩|decide|exact of_decide_eq_true rfl)) ?_
 rintro k ⟨hk,hk2,hI⟩
 by_cases hkl:k < a.length∧k < b.length
 ·obtain ⟨x,hx⟩ : ∃ x,a[k]? = some x:=⟨_,List.getElem?_eq_getElem hkl.1⟩
  obtain ⟨y,hy⟩ : ∃ y,b[k]? = some y:=⟨_,List.getElem?_eq_getElem hkl.2⟩
  have hs:zX (zX za1) a b=if (zX za1) x y=0 then zX (zX za1) (a.drop (k+1)) (b.drop (k+1)) else (zX za1) x y:=by rw [hI,zaf hx,zaf hy,zX]
  have cA:=zqG (T:=T) x y (hb x (List.mem_of_getElem? hx))
  (repeat' ((conv=>whnf);first|refine vA ?_|refine vB fun b hb=>?_|refine vC (fun hl=>?_) fun i kv vv hi=>?_|refine vE ?_|refine vG ?_|refine vH ?_|((first|refine vD ?_ ?_|refine vF ?_ ?_|refine vI ?_ ?_)<;>intro hc<;>try simp only [vL] at hc)|refine vJ fun hg=>?_|refine vK fun hg=>?_|refine vT ?_|refine vN ‹_› ?_|(refine vQ ?_ fun x hx=>?_;·first|omega|(simp only [vM] at *;omega))|((first|refine vO ?_ ?_|refine vR ?_ ‹_› ?_|refine vS ?_ fun x hx=>?_|refine vP ?_ ?_);·first|omega|(simp only [vM] at *;omega))|refine vW ⟨by omega,by omega⟩ ?_|(refine vU ?_ ?_;·kernel_rfl)|refine vX ?_|refine vY ?_|refine vZ ?_|refine yD cA ⟨⟨rfl,rfl⟩,⟨rfl,rfl⟩,rfl⟩ rfl ?_|refine yD (zdb _ _) ⟨⟨rfl,rfl⟩,⟨rfl,rfl⟩,rfl⟩ rfl ?_|refine za.mk _ ‹_› ?_|refine vP (show (_:BitVec 64)≠_ by decide) ?_));all_goals try conv=>whnf
  ·rw [hs,if_neg hc]
  ·exact ⟨k+1,[],[],⟨by omega,by omega,by rw [hs,if_pos hc]⟩,by (first|omega|(simp only [vM] at *;omega)),by (refine ⟨rfl,rfl,rfl,?_,?_⟩;repeat' first|exact trivial|exact rfl|exact ⟨_,rfl⟩|exact .inl rfl|exact .inr (.inl ⟨rfl,rfl⟩)|exact .inr (.inr ⟨rfl,rfl⟩)|refine And.intro ?_ ?_|refine ⟨_,rfl,?_⟩|decide|exact of_decide_eq_true rfl)⟩
  ·omega
 ·(repeat' ((conv=>whnf);first|refine vA ?_|refine vB fun b hb=>?_|refine vC (fun hl=>?_) fun i kv vv hi=>?_|refine vE ?_|refine vG ?_|refine vH ?_|((first|refine vD ?_ ?_|refine vF ?_ ?_|refine vI ?_ ?_)<;>intro hc<;>try simp only [vL] at hc)|refine vJ fun hg=>?_|refine vK fun hg=>?_|refine vT ?_|refine vN ‹_› ?_|(refine vQ ?_ fun x hx=>?_;·first|omega|(simp only [vM] at *;omega))|((first|refine vO ?_ ?_|refine vR ?_ ‹_› ?_|refine vS ?_ fun x hx=>?_|refine vP ?_ ?_);·first|omega|(simp only [vM] at *;omega))|refine vW ⟨by omega,by omega⟩ ?_|(refine vU ?_ ?_;·kernel_rfl)|refine vX ?_|refine vY ?_|refine vZ ?_|refine yD (zdb _ _) ⟨⟨rfl,rfl⟩,⟨rfl,rfl⟩,rfl⟩ rfl ?_|refine za.mk _ ‹_› ?_|refine vP (show (_:BitVec 64)≠_ by decide) ?_));all_goals try conv=>whnf
  ·exfalso;omega
  ·rw [hI,znf (by omega),List.length_map,List.length_map]
theorem zfQ (x y:Tup) (h:Sml x):Fn Tryz.prog T zE [.d (dII x),.d (dII y)] [] (.d (.int .i64 (zaF x y))) []:=by
 have cB:=znC (T:=T) x y (by have:=h.1;omega) (fun r hr=>by have:=h.2 r hr;omega)
 refine zo zw zkd (by show 2≤8;decide) ?_
 (repeat' ((conv=>whnf);first|refine vA ?_|refine vB fun b hb=>?_|refine vC (fun hl=>?_) fun i kv vv hi=>?_|refine vE ?_|refine vG ?_|refine vH ?_|((first|refine vD ?_ ?_|refine vF ?_ ?_|refine vI ?_ ?_)<;>intro hc<;>try simp only [vL] at hc)|refine vJ fun hg=>?_|refine vK fun hg=>?_|refine vT ?_|refine vN ‹_› ?_|(refine vQ ?_ fun x hx=>?_;·first|omega|(simp only [vM] at *;omega))|((first|refine vO ?_ ?_|refine vR ?_ ‹_› ?_|refine vS ?_ fun x hx=>?_|refine vP ?_ ?_);·first|omega|(simp only [vM] at *;omega))|refine vW ⟨by omega,by omega⟩ ?_|(refine vU ?_ ?_;·kernel_rfl)|refine vX ?_|refine vY ?_|refine vZ ?_|refine yD cB ⟨⟨rfl,rfl⟩,⟨rfl,rfl⟩,⟨rfl,rfl⟩,rfl⟩ rfl ?_|refine za.mk _ ‹_› ?_|refine vP (show (_:BitVec 64)≠_ by decide) ?_));all_goals try conv=>whnf
 rfl
theorem zps {α:Type} [Inhabited α] {d:Array α} {i j:Nat} (hi:i < d.size) (hj:j < d.size) {x:α} (h:x∈(Sort.swp d i j).toList):x∈d.toList:=by
 have a1:=List.mem_of_getElem? (zaU hi)
 have a2:=List.mem_of_getElem? (zaU hj)
 unfold Sort.swp at h
 simp only [Array.set!_eq_setIfInBounds,Array.toList_setIfInBounds] at h
 rcases List.mem_or_eq_of_mem_set h with h|rfl
 ·rcases List.mem_or_eq_of_mem_set h with h|rfl
  ·exact h
  ·exact a2
 ·exact a1
abbrev zet (d:Array Tup):Ob := .row 1 (d.toList.map dII)
theorem ztw (d:Array Tup) (b:Nat) (hd : ∀ x∈d.toList,Sml x) (hb:b≤d.size) (hs:d.size≤1000) :
  Fn Tryz.prog T zar [.own 0,.d (.int .i64 0),.d (.int .i64 (b:Int)),.d (.fn zE [])] [zet d] (.tup []) [some (zet (Sort.insertionSort ltT d 0 b))]:=by
 refine zK zw zbP (by show 4≤53;decide) _ (fun e env mem n h=>h) ?_
 (repeat' ((conv=>whnf);first|refine vA ?_|refine vB fun b hb=>?_|refine vC (fun hl=>?_) fun i kv vv hi=>?_|refine vE ?_|refine vG ?_|refine vH ?_|((first|refine vD ?_ ?_|refine vF ?_ ?_|refine vI ?_ ?_)<;>intro hc<;>try simp only [vL] at hc)|refine vJ fun hg=>?_|refine vK fun hg=>?_|refine vT ?_|refine vN ‹_› ?_|(refine vQ ?_ fun x hx=>?_;·first|omega|(simp only [vM] at *;omega))|((first|refine vO ?_ ?_|refine vR ?_ ‹_› ?_|refine vS ?_ fun x hx=>?_|refine vP ?_ ?_);·first|omega|(simp only [vM] at *;omega))|refine vW ⟨by omega,by omega⟩ ?_|(refine vU ?_ ?_;·kernel_rfl)|refine vX ?_|refine vY ?_|refine vZ ?_|refine za.mk _ ‹_› ?_|refine vP (show (_:BitVec 64)≠_ by decide) ?_));all_goals try conv=>whnf
 refine zq (fun ((ii,xs):Int×List D)=>[(0,.own 0),(1,.d (.int .i64 (0))),(2,.d (.int .i64 ((b:Int)))),(3,.d (.fn zE [])),(8,.d (.int .i64 (ii))),(zb,.own 0)]) (fun ((ii,xs):Int×List D)=>[(0,some (.row 1 xs))]) 1 (fun ((ii,xs):Int×List D) => ∃ (i:Nat) (e:Array Tup),ii=i∧xs=e.toList.map dII∧0 < i∧i≤b+1∧e.size=d.size∧(∀ x∈e.toList,Sml x)∧Sort.insOuter ltT 0 b i e=Sort.insertionSort ltT d 0 b) (fun ((ii,xs):Int×List D)=>(b - ii).toNat) (((0:Int)+1,d.toList.map dII)) [(0,0)] [] (⟨1,d,by omega,rfl,by omega,by omega,rfl,hd,rfl⟩) (by (refine ⟨rfl,rfl,rfl,?_,?_⟩;repeat' first|exact trivial|exact rfl|exact ⟨_,rfl⟩|exact .inl rfl|exact .inr (.inl ⟨rfl,rfl⟩)|exact .inr (.inr ⟨rfl,rfl⟩)|refine And.intro ?_ ?_|refine ⟨_,rfl,?_⟩|decide|exact of_decide_eq_true rfl)) ?_
 rintro ⟨_,_⟩ ⟨i,e,rfl,rfl,hi,hi2,he,hsm,hI⟩
 (repeat' ((conv=>whnf);first|refine vA ?_|refine vB fun b hb=>?_|refine vC (fun hl=>?_) fun i kv vv hi=>?_|refine vE ?_|refine vG ?_|refine vH ?_|((first|refine vD ?_ ?_|refine vF ?_ ?_|refine vI ?_ ?_)<;>intro hc<;>try simp only [vL] at hc)|refine vJ fun hg=>?_|refine vK fun hg=>?_|refine vT ?_|refine vN ‹_› ?_|(refine vQ ?_ fun x hx=>?_;·first|omega|(simp only [vM] at *;omega))|((first|refine vO ?_ ?_|refine vR ?_ ‹_› ?_|refine vS ?_ fun x hx=>?_|refine vP ?_ ?_);·first|omega|(simp only [vM] at *;omega))|refine vW ⟨by omega,by omega⟩ ?_|(refine vU ?_ ?_;·kernel_rfl)|refine vX ?_|refine vY ?_|refine vZ ?_|refine za.mk _ ‹_› ?_|refine vP (show (_:BitVec 64)≠_ by decide) ?_));all_goals try conv=>whnf
 ·refine zq (fun ((jj,xs):Int×List D)=>[(0,.own 0),(1,.d (.int .i64 (0))),(2,.d (.int .i64 ((b:Int)))),(3,.d (.fn zE [])),(8,.d (.int .i64 ((i:Int)))),(9,.d (.int .i64 (jj))),(zb,.own 0)]) (fun ((jj,xs):Int×List D)=>[(0,some (.row 1 xs))]) 1 (fun ((jj,xs):Int×List D) => ∃ (j:Nat) (g:Array Tup),jj=j∧xs=g.toList.map dII∧j≤i∧g.size=d.size∧(∀ x∈g.toList,Sml x)∧Sort.insInner ltT 0 j g=Sort.insInner ltT 0 i e) (fun ((jj,xs):Int×List D)=>jj.toNat) (((i:Int),e.toList.map dII)) [(0,0)] [] (⟨i,e,rfl,rfl,by omega,he,hsm,rfl⟩) (by (refine ⟨rfl,rfl,rfl,?_,?_⟩;repeat' first|exact trivial|exact rfl|exact ⟨_,rfl⟩|exact .inl rfl|exact .inr (.inl ⟨rfl,rfl⟩)|exact .inr (.inr ⟨rfl,rfl⟩)|refine And.intro ?_ ?_|refine ⟨_,rfl,?_⟩|decide|exact of_decide_eq_true rfl)) ?_
  rintro ⟨_,_⟩ ⟨j,g,rfl,rfl,hj,hg,hgm,hJ⟩
  have hgl:g.toList.length=d.size:=by rw [Array.length_toList];exact hg
  have stop : ¬(0 < j∧ltT g[j]! g[j - 1]! = true)→Sort.insOuter ltT 0 b (i+1) g=Sort.insertionSort ltT d 0 b:=fun h=>by
   rw [← hI,Sort.insOuter.eq_def ltT 0 b i,if_pos (by omega),← hJ,ze3 h]
  by_cases hj0:0 < j
  ·have hx1:g.toList[j]? = some g[j]! := zaU (by omega)
   have hx2:g.toList[((j:Int) - 1).toNat]? = some g[j - 1]! := by rw [show ((j:Int) - 1).toNat=j - 1 by omega];exact zaU (by omega)
   have co:=zfQ (T:=T) g[j]! g[j - 1]! (hgm _ (List.mem_of_getElem? hx1))
   (repeat' ((conv=>whnf);first|refine vA ?_|refine vB fun b hb=>?_|refine vC (fun hl=>?_) fun i kv vv hi=>?_|refine vE ?_|refine vG ?_|refine vH ?_|((first|refine vD ?_ ?_|refine vF ?_ ?_|refine vI ?_ ?_)<;>intro hc<;>try simp only [vL] at hc)|refine vJ fun hg=>?_|refine vK fun hg=>?_|refine vT ?_|refine vN ‹_› ?_|(refine vQ ?_ fun x hx=>?_;·first|omega|(simp only [vM] at *;omega))|((first|refine vO ?_ ?_|refine vR ?_ ‹_› ?_|refine vS ?_ fun x hx=>?_|refine vP ?_ ?_);·first|omega|(simp only [vM] at *;omega))|refine vW ⟨by omega,by omega⟩ ?_|(refine vU ?_ ?_;·kernel_rfl)|refine vX ?_|refine vY ?_|refine vZ ?_|refine yD co ⟨⟨rfl,rfl⟩,⟨rfl,rfl⟩,rfl⟩ rfl ?_|refine za.mk _ ‹_› ?_|refine vP (show (_:BitVec 64)≠_ by decide) ?_));all_goals try conv=>whnf
   ·refine ⟨(_,_),[(0,0)],[],?_,?_,by (refine ⟨rfl,rfl,rfl,?_,?_⟩;repeat' first|exact trivial|exact rfl|exact ⟨_,rfl⟩|exact .inl rfl|exact .inr (.inl ⟨rfl,rfl⟩)|exact .inr (.inr ⟨rfl,rfl⟩)|refine And.intro ?_ ?_|refine ⟨_,rfl,?_⟩|decide|exact of_decide_eq_true rfl)⟩
    ·refine ⟨j - 1,Sort.swp g j (j - 1),by omega,?_,by omega,by rw [zkq,hg],fun x hx=>hgm x (zps (by omega) (by omega) hx),?_⟩
     ·rw [show ((j:Int) - 1).toNat=j - 1 by omega] at hx2 ⊢
      exact zlR hx1 hx2
     ·exact (ze2 (d:=g) (j:=j) (by omega) (zfz.2 ‹_›)).symm.trans hJ
    ·(first|omega|(simp only [vM] at *;omega))
   ·refine ⟨(_,_),[(0,0)],[],?_,?_,by (refine ⟨rfl,rfl,rfl,?_,?_⟩;repeat' first|exact trivial|exact rfl|exact ⟨_,rfl⟩|exact .inl rfl|exact .inr (.inl ⟨rfl,rfl⟩)|exact .inr (.inr ⟨rfl,rfl⟩)|refine And.intro ?_ ?_|refine ⟨_,rfl,?_⟩|decide|exact of_decide_eq_true rfl)⟩
    ·exact ⟨i+1,g,by omega,rfl,by omega,by omega,hg,hgm,stop fun h=>by
      have:=zfz.1 h.2;omega⟩
    ·(first|omega|(simp only [vM] at *;omega))
   ·exfalso;omega
  ·(repeat' ((conv=>whnf);first|refine vA ?_|refine vB fun b hb=>?_|refine vC (fun hl=>?_) fun i kv vv hi=>?_|refine vE ?_|refine vG ?_|refine vH ?_|((first|refine vD ?_ ?_|refine vF ?_ ?_|refine vI ?_ ?_)<;>intro hc<;>try simp only [vL] at hc)|refine vJ fun hg=>?_|refine vK fun hg=>?_|refine vT ?_|refine vN ‹_› ?_|(refine vQ ?_ fun x hx=>?_;·first|omega|(simp only [vM] at *;omega))|((first|refine vO ?_ ?_|refine vR ?_ ‹_› ?_|refine vS ?_ fun x hx=>?_|refine vP ?_ ?_);·first|omega|(simp only [vM] at *;omega))|refine vW ⟨by omega,by omega⟩ ?_|(refine vU ?_ ?_;·kernel_rfl)|refine vX ?_|refine vY ?_|refine vZ ?_|refine za.mk _ ‹_› ?_|refine vP (show (_:BitVec 64)≠_ by decide) ?_));all_goals try conv=>whnf
   ·exfalso;omega
   ·refine ⟨(_,_),[(0,0)],[],?_,?_,by (refine ⟨rfl,rfl,rfl,?_,?_⟩;repeat' first|exact trivial|exact rfl|exact ⟨_,rfl⟩|exact .inl rfl|exact .inr (.inl ⟨rfl,rfl⟩)|exact .inr (.inr ⟨rfl,rfl⟩)|refine And.intro ?_ ?_|refine ⟨_,rfl,?_⟩|decide|exact of_decide_eq_true rfl)⟩
    ·exact ⟨i+1,g,by omega,rfl,by omega,by omega,hg,hgm,stop fun h=>by omega⟩
    ·(first|omega|(simp only [vM] at *;omega))
 ·have e0:Sort.insertionSort ltT d 0 b=e:=by
   rw [← hI,Sort.insOuter,if_neg (by omega)]
  rw [e0]
  refine ⟨trivial,_,[(0,0)],[],rfl,.inl (by (repeat' first|exact trivial|exact rfl|exact ⟨_,rfl⟩|exact .inl rfl|exact .inr (.inl ⟨rfl,rfl⟩)|exact .inr (.inr ⟨rfl,rfl⟩)|refine And.intro ?_ ?_|refine ⟨_,rfl,?_⟩|decide|exact of_decide_eq_true rfl)),⟨by rfl,by rfl,by rfl,trivial,by (repeat' first|exact trivial|exact rfl|exact ⟨_,rfl⟩|exact .inl rfl|exact .inr (.inl ⟨rfl,rfl⟩)|exact .inr (.inr ⟨rfl,rfl⟩)|refine And.intro ?_ ?_|refine ⟨_,rfl,?_⟩|decide|exact of_decide_eq_true rfl)⟩,by (repeat' first|exact trivial|exact rfl|exact ⟨_,rfl⟩|exact .inl rfl|exact .inr (.inl ⟨rfl,rfl⟩)|exact .inr (.inr ⟨rfl,rfl⟩)|refine And.intro ?_ ?_|refine ⟨_,rfl,?_⟩|decide|exact of_decide_eq_true rfl)⟩
theorem ztz (d:Array Tup) (hd : ∀ x∈d.toList,Sml x) (h12:d.size≤12) (l:Nat) :
  Fn Tryz.prog T zaO [.own 0,.d (.int .i64 0),.d (.int .i64 (d.size:Int)),.d (.int .i64 (l:Int)),.d (.fn zE [])] [zet d] (.tup []) [some (zet (Sort.pdq ltT d 0 d.size l true true))]:=by
 have hR:Sort.pdq ltT d 0 d.size l true true=Sort.insertionSort ltT d 0 d.size:=by rw [Sort.pdq,if_pos (by omega)]
 rw [hR]
 refine zK zw zcA (by show 5≤148;decide) _ (fun e env mem n h=>h) ?_
 (repeat' ((conv=>whnf);first|refine vA ?_|refine vB fun b hb=>?_|refine vC (fun hl=>?_) fun i kv vv hi=>?_|refine vE ?_|refine vG ?_|refine vH ?_|((first|refine vD ?_ ?_|refine vF ?_ ?_|refine vI ?_ ?_)<;>intro hc<;>try simp only [vL] at hc)|refine vJ fun hg=>?_|refine vK fun hg=>?_|refine vT ?_|refine vN ‹_› ?_|(refine vQ ?_ fun x hx=>?_;·first|omega|(simp only [vM] at *;omega))|((first|refine vO ?_ ?_|refine vR ?_ ‹_› ?_|refine vS ?_ fun x hx=>?_|refine vP ?_ ?_);·first|omega|(simp only [vM] at *;omega))|refine vW ⟨by omega,by omega⟩ ?_|(refine vU ?_ ?_;·kernel_rfl)|refine vX ?_|refine vY ?_|refine vZ ?_|refine za.mk _ ‹_› ?_|refine vP (show (_:BitVec 64)≠_ by decide) ?_));all_goals try conv=>whnf
 refine zq (fun (u:Unit)=>[(0,.own 0),(1,.d (.int .i64 (0))),(2,.d (.int .i64 ((d.size:Int)))),(3,.d (.int .i64 ((l:Int)))),(4,.d (.fn zE [])),(10,.d (.bool (true))),(11,.d (.bool (true))),(zb,.own 0)]) (fun (u:Unit)=>[(0,some (zet d))]) 1 (fun (u:Unit)=>True) (fun (u:Unit)=>0) (()) [(0,0)] [] (trivial) (by (refine ⟨rfl,rfl,rfl,?_,?_⟩;repeat' first|exact trivial|exact rfl|exact ⟨_,rfl⟩|exact .inl rfl|exact .inr (.inl ⟨rfl,rfl⟩)|exact .inr (.inr ⟨rfl,rfl⟩)|refine And.intro ?_ ?_|refine ⟨_,rfl,?_⟩|decide|exact of_decide_eq_true rfl)) ?_
 rintro u -
 (repeat' ((conv=>whnf);first|refine zfG.but 39 rfl ?_|refine vB fun b hb=>?_|refine vC (fun hl=>?_) fun i kv vv hi=>?_|refine vE ?_|refine vG ?_|refine vH ?_|((first|refine vD ?_ ?_|refine vF ?_ ?_|refine vI ?_ ?_)<;>intro hc<;>try simp only [vL] at hc)|refine vJ fun hg=>?_|refine vK fun hg=>?_|refine vT ?_|refine vN ‹_› ?_|(refine vQ ?_ fun x hx=>?_;·first|omega|(simp only [vM] at *;omega))|((first|refine vO ?_ ?_|refine vR ?_ ‹_› ?_|refine vS ?_ fun x hx=>?_|refine vP ?_ ?_);·first|omega|(simp only [vM] at *;omega))|refine vW ⟨by omega,by omega⟩ ?_|(refine vU ?_ ?_;·kernel_rfl)|refine vX ?_|refine vY ?_|refine vZ ?_|refine za.mk _ ‹_› ?_|refine vP (show (_:BitVec 64)≠_ by decide) ?_));all_goals try conv=>whnf
 ·refine zM.objs [0] (ztw d d.size hd (Nat.le_refl _) (by omega)) (by (repeat' first|exact trivial|exact rfl|exact ⟨_,rfl⟩|exact .inl rfl|exact .inr (.inl ⟨rfl,rfl⟩)|exact .inr (.inr ⟨rfl,rfl⟩)|refine And.intro ?_ ?_|refine ⟨_,rfl,?_⟩|decide|exact of_decide_eq_true rfl)) (by (repeat' first|exact trivial|exact rfl|exact ⟨_,rfl⟩|exact .inl rfl|exact .inr (.inl ⟨rfl,rfl⟩)|exact .inr (.inr ⟨rfl,rfl⟩)|refine And.intro ?_ ?_|refine ⟨_,rfl,?_⟩|decide|exact of_decide_eq_true rfl)) (by rfl) (by rfl) (by simp) ?_
  (repeat' ((conv=>whnf);first|refine vA ?_|refine vB fun b hb=>?_|refine vC (fun hl=>?_) fun i kv vv hi=>?_|refine vE ?_|refine vG ?_|refine vH ?_|((first|refine vD ?_ ?_|refine vF ?_ ?_|refine vI ?_ ?_)<;>intro hc<;>try simp only [vL] at hc)|refine vJ fun hg=>?_|refine vK fun hg=>?_|refine vT ?_|refine vN ‹_› ?_|(refine vQ ?_ fun x hx=>?_;·first|omega|(simp only [vM] at *;omega))|((first|refine vO ?_ ?_|refine vR ?_ ‹_› ?_|refine vS ?_ fun x hx=>?_|refine vP ?_ ?_);·first|omega|(simp only [vM] at *;omega))|refine vW ⟨by omega,by omega⟩ ?_|(refine vU ?_ ?_;·kernel_rfl)|refine vX ?_|refine vY ?_|refine vZ ?_|refine za.mk _ ‹_› ?_|refine vP (show (_:BitVec 64)≠_ by decide) ?_));all_goals try conv=>whnf
  refine ⟨trivial,_,[(0,0)],[],rfl,.inl (by (repeat' first|exact trivial|exact rfl|exact ⟨_,rfl⟩|exact .inl rfl|exact .inr (.inl ⟨rfl,rfl⟩)|exact .inr (.inr ⟨rfl,rfl⟩)|refine And.intro ?_ ?_|refine ⟨_,rfl,?_⟩|decide|exact of_decide_eq_true rfl)),⟨by rfl,by rfl,by rfl,trivial,by (repeat' first|exact trivial|exact rfl|exact ⟨_,rfl⟩|exact .inl rfl|exact .inr (.inl ⟨rfl,rfl⟩)|exact .inr (.inr ⟨rfl,rfl⟩)|refine And.intro ?_ ?_|refine ⟨_,rfl,?_⟩|decide|exact of_decide_eq_true rfl)⟩,by (repeat' first|exact trivial|exact rfl|exact ⟨_,rfl⟩|exact .inl rfl|exact .inr (.inl ⟨rfl,rfl⟩)|exact .inr (.inr ⟨rfl,rfl⟩)|refine And.intro ?_ ?_|refine ⟨_,rfl,?_⟩|decide|exact of_decide_eq_true rfl)⟩
 all_goals (exfalso;omega)
theorem znB (d:Array Tup) (hd : ∀ x∈d.toList,Sml x) (h12:d.size≤12):Fn Tryz.prog T zac [.own 0,.d (.fn zE [])] [zet d] (.tup []) [some (zet (Sort.sort ltT d))]:=by
 have hn:((BitVec.ofInt 64 (d.size:Int)).toNat)=d.size:=by simp;omega
 have hl:(d.toList.map dII).length=d.size:=by simp
 have hp:=ztz (T:=T) d hd h12 (Sort.bitsLen d.size)
 refine zK zw zbm (by show 2≤14;decide) _ (fun e env mem n h=>h) ?_
 (repeat' ((conv=>whnf);first|refine vA ?_|refine vB fun b hb=>?_|refine vC (fun hl=>?_) fun i kv vv hi=>?_|refine vE ?_|refine vG ?_|refine vH ?_|((first|refine vD ?_ ?_|refine vF ?_ ?_|refine vI ?_ ?_)<;>intro hc<;>try simp only [vL] at hc)|refine vJ fun hg=>?_|refine vK fun hg=>?_|refine vT ?_|refine vN ‹_› ?_|(refine vQ ?_ fun x hx=>?_;·first|omega|(simp only [vM] at *;omega))|((first|refine vO ?_ ?_|refine vR ?_ ‹_› ?_|refine vS ?_ fun x hx=>?_|refine vP ?_ ?_);·first|omega|(simp only [vM] at *;omega))|refine vW ⟨by omega,by omega⟩ ?_|(refine vU ?_ ?_;·kernel_rfl)|refine vX ?_|refine vY ?_|refine vZ ?_|refine yD (znA _) ⟨⟨rfl,rfl⟩,rfl⟩ rfl ?_|refine za.mk _ ‹_› ?_|refine vP (show (_:BitVec 64)≠_ by decide) ?_));all_goals try conv=>whnf
 have e1:((d.toList.map dII).length:Int)=(d.size:Int):=by rw [hl]
 have e2:(Sort.bitsLen (BitVec.ofInt 64 ((d.toList.map dII).length:Int)).toNat:Int)=(Sort.bitsLen d.size:Int):=by rw [hl,hn]
 rw [← e1,← e2] at hp
 refine zM.objs [0] (hp) (by (repeat' first|exact trivial|exact rfl|exact ⟨_,rfl⟩|exact .inl rfl|exact .inr (.inl ⟨rfl,rfl⟩)|exact .inr (.inr ⟨rfl,rfl⟩)|refine And.intro ?_ ?_|refine ⟨_,rfl,?_⟩|decide|exact of_decide_eq_true rfl)) (by (repeat' first|exact trivial|exact rfl|exact ⟨_,rfl⟩|exact .inl rfl|exact .inr (.inl ⟨rfl,rfl⟩)|exact .inr (.inr ⟨rfl,rfl⟩)|refine And.intro ?_ ?_|refine ⟨_,rfl,?_⟩|decide|exact of_decide_eq_true rfl)) (by rfl) (by rfl) (by simp) ?_
 (repeat' ((conv=>whnf);first|refine vA ?_|refine vB fun b hb=>?_|refine vC (fun hl=>?_) fun i kv vv hi=>?_|refine vE ?_|refine vG ?_|refine vH ?_|((first|refine vD ?_ ?_|refine vF ?_ ?_|refine vI ?_ ?_)<;>intro hc<;>try simp only [vL] at hc)|refine vJ fun hg=>?_|refine vK fun hg=>?_|refine vT ?_|refine vN ‹_› ?_|(refine vQ ?_ fun x hx=>?_;·first|omega|(simp only [vM] at *;omega))|((first|refine vO ?_ ?_|refine vR ?_ ‹_› ?_|refine vS ?_ fun x hx=>?_|refine vP ?_ ?_);·first|omega|(simp only [vM] at *;omega))|refine vW ⟨by omega,by omega⟩ ?_|(refine vU ?_ ?_;·kernel_rfl)|refine vX ?_|refine vY ?_|refine vZ ?_|refine za.mk _ ‹_› ?_|refine vP (show (_:BitVec 64)≠_ by decide) ?_));all_goals try conv=>whnf
 refine ⟨trivial,_,[(0,0)],[],rfl,.inl (by (repeat' first|exact trivial|exact rfl|exact ⟨_,rfl⟩|exact .inl rfl|exact .inr (.inl ⟨rfl,rfl⟩)|exact .inr (.inr ⟨rfl,rfl⟩)|refine And.intro ?_ ?_|refine ⟨_,rfl,?_⟩|decide|exact of_decide_eq_true rfl)),⟨by rfl,by rfl,by rfl,trivial,by (repeat' first|exact trivial|exact rfl|exact ⟨_,rfl⟩|exact .inl rfl|exact .inr (.inl ⟨rfl,rfl⟩)|exact .inr (.inr ⟨rfl,rfl⟩)|refine And.intro ?_ ?_|refine ⟨_,rfl,?_⟩|decide|exact of_decide_eq_true rfl)⟩,by (repeat' first|exact trivial|exact rfl|exact ⟨_,rfl⟩|exact .inl rfl|exact .inr (.inl ⟨rfl,rfl⟩)|exact .inr (.inr ⟨rfl,rfl⟩)|refine And.intro ?_ ?_|refine ⟨_,rfl,?_⟩|decide|exact of_decide_eq_true rfl)⟩
end Go.Ab
namespace Go.Ab
open Go Go.Proofs
set_option maxRecDepth 10000
set_option maxHeartbeats 4000000
variable {T:Nat→Obj→Prop}
theorem znD (x y:Tup) (h:Sml x):Fn Tryz.prog T zbL [.d (dII x),.d (dII y)] [] (.d (.bool (decide (x=y)))) []:=by
 have cA:=zfQ (T:=T) x y h
 refine zo zw ziN (by show 2≤9;decide) ?_
 (repeat' ((conv=>whnf);first|refine vA ?_|refine vB fun b hb=>?_|refine vC (fun hl=>?_) fun i kv vv hi=>?_|refine vE ?_|refine vG ?_|refine vH ?_|((first|refine vD ?_ ?_|refine vF ?_ ?_|refine vI ?_ ?_)<;>intro hc<;>try simp only [vL] at hc)|refine vJ fun hg=>?_|refine vK fun hg=>?_|refine vT ?_|refine vN ‹_› ?_|(refine vQ ?_ fun x hx=>?_;·first|omega|(simp only [vM] at *;omega))|((first|refine vO ?_ ?_|refine vR ?_ ‹_› ?_|refine vS ?_ fun x hx=>?_|refine vP ?_ ?_);·first|omega|(simp only [vM] at *;omega))|refine vW ⟨by omega,by omega⟩ ?_|(refine vU ?_ ?_;·kernel_rfl)|refine vX ?_|refine vY ?_|refine vZ ?_|refine yD cA ⟨⟨rfl,rfl⟩,⟨rfl,rfl⟩,rfl⟩ rfl ?_|refine za.mk _ ‹_› ?_|refine vP (show (_:BitVec 64)≠_ by decide) ?_));all_goals try conv=>whnf
 rw [Bool.eq_iff_iff,decide_eq_true_eq,decide_eq_true_eq];exact zah.zero
abbrev fEq:D := .fn zbL []
theorem zoy (d:Array Tup) (hm : ∀ x∈d.toList,Sml x) (hs:d.size≤1000) (hd:Steps d):Fn Tryz.prog T zt [.own 0,.d fEq] [zet d] (.own 1) [none,some (zet d)]:=by
 have hln:d.toList.length=d.size:=Array.length_toList
 refine zK zw z1 (by show 2≤66;decide) _ (fun e env mem n h=>h) ?_
 (repeat' ((conv=>whnf);first|refine vA ?_|refine vB fun b hb=>?_|refine vC (fun hl=>?_) fun i kv vv hi=>?_|refine vE ?_|refine vG ?_|refine vH ?_|((first|refine vD ?_ ?_|refine vF ?_ ?_|refine vI ?_ ?_)<;>intro hc<;>try simp only [vL] at hc)|refine vJ fun hg=>?_|refine vK fun hg=>?_|refine vT ?_|refine vN ‹_› ?_|(refine vQ ?_ fun x hx=>?_;·first|omega|(simp only [vM] at *;omega))|((first|refine vO ?_ ?_|refine vR ?_ ‹_› ?_|refine vS ?_ fun x hx=>?_|refine vP ?_ ?_);·first|omega|(simp only [vM] at *;omega))|refine vW ⟨by omega,by omega⟩ ?_|(refine vU ?_ ?_;·kernel_rfl)|refine vX ?_|refine vY ?_|refine vZ ?_|refine za.mk _ ‹_› ?_|refine vP (show (_:BitVec 64)≠_ by decide) ?_));all_goals try conv=>whnf
 ·refine ⟨trivial,_,[(1,0)],[],rfl,.inl (by (repeat' first|exact trivial|exact rfl|exact ⟨_,rfl⟩|exact .inl rfl|exact .inr (.inl ⟨rfl,rfl⟩)|exact .inr (.inr ⟨rfl,rfl⟩)|refine And.intro ?_ ?_|refine ⟨_,rfl,?_⟩|decide|exact of_decide_eq_true rfl)),⟨by rfl,by rfl,by rfl,trivial,by (repeat' first|exact trivial|exact rfl|exact ⟨_,rfl⟩|exact .inl rfl|exact .inr (.inl ⟨rfl,rfl⟩)|exact .inr (.inr ⟨rfl,rfl⟩)|refine And.intro ?_ ?_|refine ⟨_,rfl,?_⟩|decide|exact of_decide_eq_true rfl)⟩,by (repeat' first|exact trivial|exact rfl|exact ⟨_,rfl⟩|exact .inl rfl|exact .inr (.inl ⟨rfl,rfl⟩)|exact .inr (.inr ⟨rfl,rfl⟩)|refine And.intro ?_ ?_|refine ⟨_,rfl,?_⟩|decide|exact of_decide_eq_true rfl)⟩
 refine zq (fun (i:Int)=>[(0,.own 0),(1,.d fEq),(5,.d (.int .i64 (i))),(zb,.own 0)]) (fun (i:Int)=>[(0,some (zet d))]) 1 (fun (i:Int) => ∃ k:Nat,i=k∧0 < k∧k≤d.size) (fun (i:Int)=>(d.size - i).toNat) (1) [(0,0)] [] (⟨1,rfl,by omega,by omega⟩) (by (refine ⟨rfl,rfl,rfl,?_,?_⟩;repeat' first|exact trivial|exact rfl|exact ⟨_,rfl⟩|exact .inl rfl|exact .inr (.inl ⟨rfl,rfl⟩)|exact .inr (.inr ⟨rfl,rfl⟩)|refine And.intro ?_ ?_|refine ⟨_,rfl,?_⟩|decide|exact of_decide_eq_true rfl)) ?_
 rintro _ ⟨k,rfl,hk0,hk1⟩
 by_cases hkl:k < d.size
 ·have hx1:d.toList[k]? = some d[k]! := zaU hkl
  have hx2:d.toList[((k:Int) - 1).toNat]? = some d[k - 1]! := by rw [show ((k:Int) - 1).toNat=k - 1 by omega];exact zaU (by omega)
  have cA:=znD (T:=T) d[k]! d[k - 1]! (hm _ (List.mem_of_getElem? hx1))
  (repeat' ((conv=>whnf);first|refine vA ?_|refine vB fun b hb=>?_|refine vC (fun hl=>?_) fun i kv vv hi=>?_|refine vE ?_|refine vG ?_|refine vH ?_|((first|refine vD ?_ ?_|refine vF ?_ ?_|refine vI ?_ ?_)<;>intro hc<;>try simp only [vL] at hc)|refine vJ fun hg=>?_|refine vK fun hg=>?_|refine vT ?_|refine vN ‹_› ?_|(refine vQ ?_ fun x hx=>?_;·first|omega|(simp only [vM] at *;omega))|((first|refine vO ?_ ?_|refine vR ?_ ‹_› ?_|refine vS ?_ fun x hx=>?_|refine vP ?_ ?_);·first|omega|(simp only [vM] at *;omega))|refine vW ⟨by omega,by omega⟩ ?_|(refine vU ?_ ?_;·kernel_rfl)|refine vX ?_|refine vY ?_|refine vZ ?_|refine yD cA ⟨⟨rfl,rfl⟩,⟨rfl,rfl⟩,rfl⟩ rfl ?_|refine za.mk _ ‹_› ?_|refine vP (show (_:BitVec 64)≠_ by decide) ?_));all_goals try conv=>whnf
  ·exact absurd ‹d[k]! = d[k - 1]!› (hd k hk0 hkl)
  ·refine ⟨_,[(0,0)],[],?_,?_,by (refine ⟨rfl,rfl,rfl,?_,?_⟩;repeat' first|exact trivial|exact rfl|exact ⟨_,rfl⟩|exact .inl rfl|exact .inr (.inl ⟨rfl,rfl⟩)|exact .inr (.inr ⟨rfl,rfl⟩)|refine And.intro ?_ ?_|refine ⟨_,rfl,?_⟩|decide|exact of_decide_eq_true rfl)⟩
   ·exact ⟨k+1,by omega,by omega,by omega⟩
   ·(first|omega|(simp only [vM] at *;omega))
  ·exfalso;omega
 ·(repeat' ((conv=>whnf);first|refine vA ?_|refine vB fun b hb=>?_|refine vC (fun hl=>?_) fun i kv vv hi=>?_|refine vE ?_|refine vG ?_|refine vH ?_|((first|refine vD ?_ ?_|refine vF ?_ ?_|refine vI ?_ ?_)<;>intro hc<;>try simp only [vL] at hc)|refine vJ fun hg=>?_|refine vK fun hg=>?_|refine vT ?_|refine vN ‹_› ?_|(refine vQ ?_ fun x hx=>?_;·first|omega|(simp only [vM] at *;omega))|((first|refine vO ?_ ?_|refine vR ?_ ‹_› ?_|refine vS ?_ fun x hx=>?_|refine vP ?_ ?_);·first|omega|(simp only [vM] at *;omega))|refine vW ⟨by omega,by omega⟩ ?_|(refine vU ?_ ?_;·kernel_rfl)|refine vX ?_|refine vY ?_|refine vZ ?_|refine za.mk _ ‹_› ?_|refine vP (show (_:BitVec 64)≠_ by decide) ?_));all_goals try conv=>whnf
  ·exfalso;omega
  ·refine ⟨trivial,_,[(1,0)],[],rfl,.inl (by (repeat' first|exact trivial|exact rfl|exact ⟨_,rfl⟩|exact .inl rfl|exact .inr (.inl ⟨rfl,rfl⟩)|exact .inr (.inr ⟨rfl,rfl⟩)|refine And.intro ?_ ?_|refine ⟨_,rfl,?_⟩|decide|exact of_decide_eq_true rfl)),⟨by rfl,by rfl,by rfl,trivial,by (repeat' first|exact trivial|exact rfl|exact ⟨_,rfl⟩|exact .inl rfl|exact .inr (.inl ⟨rfl,rfl⟩)|exact .inr (.inr ⟨rfl,rfl⟩)|refine And.intro ?_ ?_|refine ⟨_,rfl,?_⟩|decide|exact of_decide_eq_true rfl)⟩,by (repeat' first|exact trivial|exact rfl|exact ⟨_,rfl⟩|exact .inl rfl|exact .inr (.inl ⟨rfl,rfl⟩)|exact .inr (.inr ⟨rfl,rfl⟩)|refine And.intro ?_ ?_|refine ⟨_,rfl,?_⟩|decide|exact of_decide_eq_true rfl)⟩
theorem znz (d:Array Tup) (hm : ∀ x∈d.toList,Sml x) (hs:d.size≤1000) (hd : ¬Steps d):Fn Tryz.prog T zt [.own 0,.d fEq] [zet d] (.own 1) [none,some (.row 1 ((ddA d d.size).map dII))]:=by
 generalize hR:(ddA d d.size).map dII=R
 have hln:d.toList.length=d.size:=Array.length_toList
 refine zK zw z1 (by show 2≤66;decide) _ (fun e env mem n h=>h) ?_
 (repeat' ((conv=>whnf);first|refine vA ?_|refine vB fun b hb=>?_|refine vC (fun hl=>?_) fun i kv vv hi=>?_|refine vE ?_|refine vG ?_|refine vH ?_|((first|refine vD ?_ ?_|refine vF ?_ ?_|refine vI ?_ ?_)<;>intro hc<;>try simp only [vL] at hc)|refine vJ fun hg=>?_|refine vK fun hg=>?_|refine vT ?_|refine vN ‹_› ?_|(refine vQ ?_ fun x hx=>?_;·first|omega|(simp only [vM] at *;omega))|((first|refine vO ?_ ?_|refine vR ?_ ‹_› ?_|refine vS ?_ fun x hx=>?_|refine vP ?_ ?_);·first|omega|(simp only [vM] at *;omega))|refine vW ⟨by omega,by omega⟩ ?_|(refine vU ?_ ?_;·kernel_rfl)|refine vX ?_|refine vY ?_|refine vZ ?_|refine za.mk _ ‹_› ?_|refine vP (show (_:BitVec 64)≠_ by decide) ?_));all_goals try conv=>whnf
 ·exact absurd (fun j hj0 hj1=>by omega) hd
 refine zq (fun (i:Int)=>[(0,.own 0),(1,.d fEq),(5,.d (.int .i64 (i))),(zb,.own 0)]) (fun (i:Int)=>[(0,some (zet d))]) 1 (fun (i:Int) => ∃ k:Nat,i=k∧0 < k∧k≤d.size ∧ ∀ j,0 < j→j < k→d[j]! ≠ d[j - 1]!) (fun (i:Int)=>(d.size - i).toNat) (1) [(0,0)] [] (⟨1,rfl,by omega,by omega,fun j _ _=>by omega⟩) (by (refine ⟨rfl,rfl,rfl,?_,?_⟩;repeat' first|exact trivial|exact rfl|exact ⟨_,rfl⟩|exact .inl rfl|exact .inr (.inl ⟨rfl,rfl⟩)|exact .inr (.inr ⟨rfl,rfl⟩)|refine And.intro ?_ ?_|refine ⟨_,rfl,?_⟩|decide|exact of_decide_eq_true rfl)) ?_
 rintro _ ⟨k,rfl,hk0,hk1,hk⟩
 by_cases hkl:k < d.size
 ·have hx1:d.toList[k]? = some d[k]! := zaU hkl
  have hx2:d.toList[((k:Int) - 1).toNat]? = some d[k - 1]! := by rw [show ((k:Int) - 1).toNat=k - 1 by omega];exact zaU (by omega)
  have cA:=znD (T:=T) d[k]! d[k - 1]! (hm _ (List.mem_of_getElem? hx1))
  (repeat' ((conv=>whnf);first|refine vA ?_|refine vB fun b hb=>?_|refine vC (fun hl=>?_) fun i kv vv hi=>?_|refine vE ?_|refine vG ?_|refine vH ?_|((first|refine vD ?_ ?_|refine vF ?_ ?_|refine vI ?_ ?_)<;>intro hc<;>try simp only [vL] at hc)|refine vJ fun hg=>?_|refine vK fun hg=>?_|refine vT ?_|refine vN ‹_› ?_|(refine vQ ?_ fun x hx=>?_;·first|omega|(simp only [vM] at *;omega))|((first|refine vO ?_ ?_|refine vR ?_ ‹_› ?_|refine vS ?_ fun x hx=>?_|refine vP ?_ ?_);·first|omega|(simp only [vM] at *;omega))|refine vW ⟨by omega,by omega⟩ ?_|(refine vU ?_ ?_;·kernel_rfl)|refine vX ?_|refine vY ?_|refine vZ ?_|refine yD cA ⟨⟨rfl,rfl⟩,⟨rfl,rfl⟩,rfl⟩ rfl ?_|refine za.mk _ ‹_› ?_|refine vP (show (_:BitVec 64)≠_ by decide) ?_));all_goals try conv=>whnf
  ·have hkk:d[k]! = d[k - 1]! := ‹_›
   refine zq (fun ((w,q,xs):Int×Int×List D)=>[(0,.own 0),(1,.d fEq),(5,.d (.int .i64 (w))),(6,.view 0 k ((d.toList.map dII).length - k)),(7,.d (.int .i64 (q))),(zb,.own 0)]) (fun ((w,q,xs):Int×Int×List D)=>[(0,some (.row 1 xs))]) 1 (fun ((w,q,xs):Int×Int×List D) => ∃ (a b:Nat) (e:Array Tup),w=a∧q=b∧xs=e.toList.map dII∧0 < b∧k+b≤d.size∧a < k+b∧e.size=d.size∧e.toList.take a=ddA d (k+b) ∧ ∀ j,k+b - 1≤j→j < d.size→e[j]! = d[j]!) (fun ((w,q,xs):Int×Int×List D)=>(d.size - k - q).toNat) (((k:Int),(1:Int),d.toList.map dII)) [(0,0)] [] (⟨k,1,d,rfl,rfl,rfl,by omega,by omega,by omega,rfl,zr0 hk0 hkl hk hkk,fun _ _ _=>rfl⟩) (by (refine ⟨rfl,rfl,rfl,?_,?_⟩;repeat' first|exact trivial|exact rfl|exact ⟨_,rfl⟩|exact .inl rfl|exact .inr (.inl ⟨rfl,rfl⟩)|exact .inr (.inr ⟨rfl,rfl⟩)|refine And.intro ?_ ?_|refine ⟨_,rfl,?_⟩|decide|exact of_decide_eq_true rfl)) ?_
   rintro ⟨_,_,_⟩ ⟨a,b,e,rfl,rfl,rfl,hb0,hb1,hab,he,ha,hj⟩
   have hle:e.toList.length=e.size:=Array.length_toList
   by_cases hbl:k+b < d.size
   ·have hy1:e.toList[k+((b:Nat):Int).toNat]? = some e[k+b]! := by rw [Int.toNat_natCast];exact zaU (by omega)
    have hy2:e.toList[k+(((b:Nat):Int) - 1).toNat]? = some e[k+b - 1]! := by rw [show k+(((b:Nat):Int) - 1).toNat=k+b - 1 by omega];exact zaU (by omega)
    have e1:=hj (k+b) (by omega) (by omega)
    have e2:=hj (k+b - 1) (by omega) (by omega)
    have cC:=znD (T:=T) e[k+b]! e[k+b - 1]! (by rw [e1];exact hm _ (List.mem_of_getElem? (zaU hbl)))
    (repeat' ((conv=>whnf);first|refine vA ?_|refine vB fun b hb=>?_|refine vC (fun hl=>?_) fun i kv vv hi=>?_|refine vE ?_|refine vG ?_|refine vH ?_|((first|refine vD ?_ ?_|refine vF ?_ ?_|refine vI ?_ ?_)<;>intro hc<;>try simp only [vL] at hc)|refine vJ fun hg=>?_|refine vK fun hg=>?_|refine vT ?_|refine vN ‹_› ?_|(refine vQ ?_ fun x hx=>?_;·first|omega|(simp only [vM] at *;omega))|((first|refine vO ?_ ?_|refine vR ?_ ‹_› ?_|refine vS ?_ fun x hx=>?_|refine vP ?_ ?_);·first|omega|(simp only [vM] at *;omega))|refine vW ⟨by omega,by omega⟩ ?_|(refine vU ?_ ?_;·kernel_rfl)|refine vX ?_|refine vY ?_|refine vZ ?_|refine yD cC ⟨⟨rfl,rfl⟩,⟨rfl,rfl⟩,rfl⟩ rfl ?_|refine za.mk _ ‹_› ?_|refine vP (show (_:BitVec 64)≠_ by decide) ?_));all_goals try conv=>whnf
    ·refine ⟨(_,_,_),[(0,0)],[],?_,?_,by (refine ⟨rfl,rfl,rfl,?_,?_⟩;repeat' first|exact trivial|exact rfl|exact ⟨_,rfl⟩|exact .inl rfl|exact .inr (.inl ⟨rfl,rfl⟩)|exact .inr (.inr ⟨rfl,rfl⟩)|refine And.intro ?_ ?_|refine ⟨_,rfl,?_⟩|decide|exact of_decide_eq_true rfl)⟩
     ·exact ⟨a,b+1,e,rfl,by omega,rfl,by omega,by omega,by omega,he,
       by rw [ha,← Nat.add_assoc,ztn (by omega) (by rw [← e1,← e2];assumption)],
       fun j h0 h1=>hj j (by omega) h1⟩
     ·(first|omega|(simp only [vM] at *;omega))
    ·refine ⟨(_,_,_),[(0,0)],[],?_,?_,by (refine ⟨rfl,rfl,rfl,?_,?_⟩;repeat' first|exact trivial|exact rfl|exact ⟨_,rfl⟩|exact .inl rfl|exact .inr (.inl ⟨rfl,rfl⟩)|exact .inr (.inr ⟨rfl,rfl⟩)|refine And.intro ?_ ?_|refine ⟨_,rfl,?_⟩|decide|exact of_decide_eq_true rfl)⟩
     ·exact ⟨a+1,b+1,e.setIfInBounds a e[k+b]!,by omega,by omega,by simp [List.map_set],by omega,by omega,by omega,by simp [he],
       by rw [zsI (by omega),ha,← Nat.add_assoc,zt9 (by rw [← e1,← e2];assumption),e1],
       fun j h0 h1=>by rw [ztM (by omega)];exact hj j (by omega) h1⟩
     ·(first|omega|(simp only [vM] at *;omega))
    ·exfalso;omega
   ·(repeat' ((conv=>whnf);first|refine vA ?_|refine vB fun b hb=>?_|refine vC (fun hl=>?_) fun i kv vv hi=>?_|refine vE ?_|refine vG ?_|refine vH ?_|((first|refine vD ?_ ?_|refine vF ?_ ?_|refine vI ?_ ?_)<;>intro hc<;>try simp only [vL] at hc)|refine vJ fun hg=>?_|refine vK fun hg=>?_|refine vT ?_|refine vN ‹_› ?_|(refine vQ ?_ fun x hx=>?_;·first|omega|(simp only [vM] at *;omega))|((first|refine vO ?_ ?_|refine vR ?_ ‹_› ?_|refine vS ?_ fun x hx=>?_|refine vP ?_ ?_);·first|omega|(simp only [vM] at *;omega))|refine vW ⟨by omega,by omega⟩ ?_|(refine vU ?_ ?_;·kernel_rfl)|refine vX ?_|refine vY ?_|refine vZ ?_|refine za.mk _ ‹_› ?_|refine vP (show (_:BitVec 64)≠_ by decide) ?_));all_goals try conv=>whnf
    ·exfalso;omega
    ·have hE:=ztm (enc:=dII) (e:=e) (z:=D.arr 1 []) (a:=a) (n:=(e.toList.map dII).length - a) (by omega)
     rw [ha,show k+b=d.size by omega,hR] at hE
     subst hE
     refine zmN.mk (by simp only [List.length_append,List.length_take,List.length_replicate,List.length_drop,List.length_map,hle];omega) ?_
     (repeat' ((conv=>whnf);first|refine vA ?_|refine vB fun b hb=>?_|refine vC (fun hl=>?_) fun i kv vv hi=>?_|refine vE ?_|refine vG ?_|refine vH ?_|((first|refine vD ?_ ?_|refine vF ?_ ?_|refine vI ?_ ?_)<;>intro hc<;>try simp only [vL] at hc)|refine vJ fun hg=>?_|refine vK fun hg=>?_|refine vT ?_|refine vN ‹_› ?_|(refine vQ ?_ fun x hx=>?_;·first|omega|(simp only [vM] at *;omega))|((first|refine vO ?_ ?_|refine vR ?_ ‹_› ?_|refine vS ?_ fun x hx=>?_|refine vP ?_ ?_);·first|omega|(simp only [vM] at *;omega))|refine vW ⟨by omega,by omega⟩ ?_|(refine vU ?_ ?_;·kernel_rfl)|refine vX ?_|refine vY ?_|refine vZ ?_|refine za.mk _ ‹_› ?_|refine vP (show (_:BitVec 64)≠_ by decide) ?_));all_goals try conv=>whnf
     refine ⟨trivial,_,[(1,1)],[],rfl,.inl (by (repeat' first|exact trivial|exact rfl|exact ⟨_,rfl⟩|exact .inl rfl|exact .inr (.inl ⟨rfl,rfl⟩)|exact .inr (.inr ⟨rfl,rfl⟩)|refine And.intro ?_ ?_|refine ⟨_,rfl,?_⟩|decide|exact of_decide_eq_true rfl)),⟨by rfl,by rfl,by rfl,trivial,by (repeat' first|exact trivial|exact rfl|exact ⟨_,rfl⟩|exact .inl rfl|exact .inr (.inl ⟨rfl,rfl⟩)|exact .inr (.inr ⟨rfl,rfl⟩)|refine And.intro ?_ ?_|refine ⟨_,rfl,?_⟩|decide|exact of_decide_eq_true rfl)⟩,by (repeat' first|exact trivial|exact rfl|exact ⟨_,rfl⟩|exact .inl rfl|exact .inr (.inl ⟨rfl,rfl⟩)|exact .inr (.inr ⟨rfl,rfl⟩)|refine And.intro ?_ ?_|refine ⟨_,rfl,?_⟩|decide|exact of_decide_eq_true rfl)⟩
  ·refine ⟨_,[(0,0)],[],?_,?_,by (refine ⟨rfl,rfl,rfl,?_,?_⟩;repeat' first|exact trivial|exact rfl|exact ⟨_,rfl⟩|exact .inl rfl|exact .inr (.inl ⟨rfl,rfl⟩)|exact .inr (.inr ⟨rfl,rfl⟩)|refine And.intro ?_ ?_|refine ⟨_,rfl,?_⟩|decide|exact of_decide_eq_true rfl)⟩
   ·exact ⟨k+1,by omega,by omega,by omega,fun j h0 h1=>by
     by_cases hjk:j=k
     ·subst hjk;assumption
     ·exact hk j h0 (by omega)⟩
   ·(first|omega|(simp only [vM] at *;omega))
  ·exfalso;omega
 ·(repeat' ((conv=>whnf);first|refine vA ?_|refine vB fun b hb=>?_|refine vC (fun hl=>?_) fun i kv vv hi=>?_|refine vE ?_|refine vG ?_|refine vH ?_|((first|refine vD ?_ ?_|refine vF ?_ ?_|refine vI ?_ ?_)<;>intro hc<;>try simp only [vL] at hc)|refine vJ fun hg=>?_|refine vK fun hg=>?_|refine vT ?_|refine vN ‹_› ?_|(refine vQ ?_ fun x hx=>?_;·first|omega|(simp only [vM] at *;omega))|((first|refine vO ?_ ?_|refine vR ?_ ‹_› ?_|refine vS ?_ fun x hx=>?_|refine vP ?_ ?_);·first|omega|(simp only [vM] at *;omega))|refine vW ⟨by omega,by omega⟩ ?_|(refine vU ?_ ?_;·kernel_rfl)|refine vX ?_|refine vY ?_|refine vZ ?_|refine za.mk _ ‹_› ?_|refine vP (show (_:BitVec 64)≠_ by decide) ?_));all_goals try conv=>whnf
  ·exfalso;omega
  ·exact absurd (fun j h0 h1=>hk j h0 (by omega)) hd
theorem zr6 (d:Array Tup) (hm : ∀ x∈d.toList,Sml x) (hs:d.size≤1000):Fn Tryz.prog T zt [.own 0,.d fEq] [zet d] (.own 1) [none,some (.row 1 ((ddA d d.size).map dII))]:=by
 by_cases hd:Steps d
 ·have:=zoy (T:=T) d hm hs hd
  rw [zlx (Nat.le_refl _) hd,List.take_of_length_le (by rw [Array.length_toList];exact Nat.le_refl _)]
  exact this
 ·exact znz d hm hs hd
theorem zqF (ts:List Tup) (h:ts≠[]) (hl:ts.length≤1000):Fn Tryz.prog T zR [.d (.arr 1 (ts.map dII))] [] (.own 0) [some (.row 1 (ts.map dII))]:=by
 refine zK zw zbD (by show 1≤8;decide) _ (fun e env mem n h=>h) ?_
 (repeat' ((conv=>whnf);first|refine vA ?_|refine vB fun b hb=>?_|refine vC (fun hl=>?_) fun i kv vv hi=>?_|refine vE ?_|refine vG ?_|refine vH ?_|((first|refine vD ?_ ?_|refine vF ?_ ?_|refine vI ?_ ?_)<;>intro hc<;>try simp only [vL] at hc)|refine vJ fun hg=>?_|refine vK fun hg=>?_|refine vT ?_|refine vN ‹_› ?_|(refine vQ ?_ fun x hx=>?_;·first|omega|(simp only [vM] at *;omega))|((first|refine vO ?_ ?_|refine vR ?_ ‹_› ?_|refine vS ?_ fun x hx=>?_|refine vP ?_ ?_);·first|omega|(simp only [vM] at *;omega))|refine vW ⟨by omega,by omega⟩ ?_|(refine vU ?_ ?_;·kernel_rfl)|refine vX ?_|refine vY ?_|refine vZ ?_|refine za.mk _ ‹_› ?_|refine vP (show (_:BitVec 64)≠_ by decide) ?_));all_goals try conv=>whnf
 ·refine ⟨trivial,_,[(0,1)],[],rfl,.inl (by (repeat' first|exact trivial|exact rfl|exact ⟨_,rfl⟩|exact .inl rfl|exact .inr (.inl ⟨rfl,rfl⟩)|exact .inr (.inr ⟨rfl,rfl⟩)|refine And.intro ?_ ?_|refine ⟨_,rfl,?_⟩|decide|exact of_decide_eq_true rfl)),⟨by rfl,by rfl,by rfl,trivial,by (repeat' first|exact trivial|exact rfl|exact ⟨_,rfl⟩|exact .inl rfl|exact .inr (.inl ⟨rfl,rfl⟩)|exact .inr (.inr ⟨rfl,rfl⟩)|refine And.intro ?_ ?_|refine ⟨_,rfl,?_⟩|decide|exact of_decide_eq_true rfl)⟩,by (repeat' first|exact trivial|exact rfl|exact ⟨_,rfl⟩|exact .inl rfl|exact .inr (.inl ⟨rfl,rfl⟩)|exact .inr (.inr ⟨rfl,rfl⟩)|refine And.intro ?_ ?_|refine ⟨_,rfl,?_⟩|decide|exact of_decide_eq_true rfl)⟩
 ·exact absurd (List.map_eq_nil_iff.1 (hb (by simpa using hc))) h
theorem zua (S:List Tup) (ts:List Tup) (hS:zbF ts S) (hl:S.length≤1000) (hm : ∀ x∈S,Sml x) (t:Tup) :
  ∃ b:Bool,Fn Tryz.prog T zJ [.d (.arr 1 (S.map dII)),.d (dII t),.d (.fn zE [])] [] (.d (.tup [.int .i64 (rkN ts t:Int),.bool b])) []:=by
 have key : ∀ i:Nat,i≤S.length→(∀ (k:Nat) x,k < i→S[k]? = some x→zaF x t < 0)→(∀ (k:Nat) x,i≤k→S[k]? = some x → ¬zaF x t < 0)→i=rkN ts t:=fun i h1 h2 h3=>hS.rk h1 h2 h3
 refine ⟨decide (rkN ts t < S.length∧zaF (S.getD (rkN ts t) []) t=0),?_⟩
 refine zo zw zag (by show 3≤49;decide) ?_
 (repeat' ((conv=>whnf);first|refine vA ?_|refine vB fun b hb=>?_|refine vC (fun hl=>?_) fun i kv vv hi=>?_|refine vE ?_|refine vG ?_|refine vH ?_|((first|refine vD ?_ ?_|refine vF ?_ ?_|refine vI ?_ ?_)<;>intro hc<;>try simp only [vL] at hc)|refine vJ fun hg=>?_|refine vK fun hg=>?_|refine vT ?_|refine vN ‹_› ?_|(refine vQ ?_ fun x hx=>?_;·first|omega|(simp only [vM] at *;omega))|((first|refine vO ?_ ?_|refine vR ?_ ‹_› ?_|refine vS ?_ fun x hx=>?_|refine vP ?_ ?_);·first|omega|(simp only [vM] at *;omega))|refine vW ⟨by omega,by omega⟩ ?_|(refine vU ?_ ?_;·kernel_rfl)|refine vX ?_|refine vY ?_|refine vZ ?_|refine za.mk _ ‹_› ?_|refine vP (show (_:BitVec 64)≠_ by decide) ?_));all_goals try conv=>whnf
 refine zbR (fun ((i,j):Nat×Nat)=>[(0,.d (.arr 1 (S.map dII))),(1,.d (dII t)),(2,.d (.fn zE [])),(8,.d (.int .i64 ((S.map dII).length:Int))),(9,.d (.int .i64 ((i:Int)))),(10,.d (.int .i64 ((j:Int))))]) (fun ((i,j):Nat×Nat)=>i≤j∧j≤S.length∧(∀ (k:Nat) x,k < i→S[k]? = some x→zaF x t < 0)∧(∀ (k:Nat) x,j≤k→S[k]? = some x → ¬zaF x t < 0)) (fun ((i,j):Nat×Nat)=>j - i) ((0,(S.map dII).length)) (⟨by omega,by simp,fun k x hk=>by omega,fun k x hk hx=>by have:=(List.getElem?_eq_some_iff.1 hx).1;simp at hk;omega⟩) (by (repeat' first|exact trivial|exact rfl|exact ⟨_,rfl⟩|exact .inl rfl|exact .inr (.inl ⟨rfl,rfl⟩)|exact .inr (.inr ⟨rfl,rfl⟩)|refine And.intro ?_ ?_|refine ⟨_,rfl,?_⟩|decide|exact of_decide_eq_true rfl)) ?_
 rintro ⟨i,j⟩ ⟨hij,hj,h1,h2⟩
 by_cases hlt:i < j
 ·have hh:(i+j) / 2 < S.length:=by omega
  have e2:(BitVec.ofInt 64 ((i:Int)+(j:Int)) >>> BitVec.toNat (1:BitVec 64)).toNat=(i+j) / 2:=by
   rw [BitVec.toNat_ushiftRight,show BitVec.toNat (1:BitVec 64)=1 from rfl,show ((i:Int)+(j:Int))=((i+j:Nat):Int) by omega,zqY (by omega),Nat.shiftRight_eq_div_pow,Nat.pow_one]
  have hx:S[(BitVec.ofInt 64 ((i:Int)+(j:Int)) >>> BitVec.toNat (1:BitVec 64)).toNat]? = some (S.getD ((i+j) / 2) []):=by rw [e2];exact zaL hh
  have hx':=zaL (d:=[]) hh
  have cA:=zfQ (T:=T) (S.getD ((i+j) / 2) []) t (hm _ (List.mem_of_getElem? hx))
  (repeat' ((conv=>whnf);first|refine vA ?_|refine vB fun b hb=>?_|refine vC (fun hl=>?_) fun i kv vv hi=>?_|refine vE ?_|refine vG ?_|refine vH ?_|((first|refine vD ?_ ?_|refine vF ?_ ?_|refine vI ?_ ?_)<;>intro hc<;>try simp only [vL] at hc)|refine vJ fun hg=>?_|refine vK fun hg=>?_|refine vT ?_|refine vN ‹_› ?_|(refine vQ ?_ fun x hx=>?_;·first|omega|(simp only [vM] at *;omega))|((first|refine vO ?_ ?_|refine vR ?_ ‹_› ?_|refine vS ?_ fun x hx=>?_|refine vP ?_ ?_);·first|omega|(simp only [vM] at *;omega))|refine vW ⟨by omega,by omega⟩ ?_|(refine vU ?_ ?_;·kernel_rfl)|refine vX ?_|refine vY ?_|refine vZ ?_|refine yD cA ⟨⟨rfl,rfl⟩,⟨rfl,rfl⟩,rfl⟩ rfl ?_|refine za.mk _ ‹_› ?_|refine vP (show (_:BitVec 64)≠_ by decide) ?_));all_goals try conv=>whnf
  ·refine ⟨((BitVec.ofInt 64 ((i:Int)+(j:Int)) >>> BitVec.toNat (1:BitVec 64)).toNat+1,j),[],[],?_,?_,by (refine ⟨rfl,rfl,rfl,?_,?_⟩;repeat' first|exact trivial|exact rfl|exact ⟨_,rfl⟩|exact .inl rfl|exact .inr (.inl ⟨rfl,rfl⟩)|exact .inr (.inr ⟨rfl,rfl⟩)|refine And.intro ?_ ?_|refine ⟨_,rfl,?_⟩|decide|exact of_decide_eq_true rfl)⟩
   ·rw [e2]
    refine ⟨by omega,hj,fun k x hk hxk=>?_,h2⟩
    by_cases e:k=(i+j) / 2
    ·subst e;rw [hx'] at hxk;cases hxk;assumption
    ·by_cases e':k < (i+j) / 2
     ·exact hS.lt_of hx' hxk (by omega) ‹_›
     ·exfalso;omega
   ·(first|omega|(simp only [vM] at *;omega))
  ·refine ⟨(i,(BitVec.ofInt 64 ((i:Int)+(j:Int)) >>> BitVec.toNat (1:BitVec 64)).toNat),[],[],?_,?_,by (refine ⟨rfl,rfl,rfl,?_,?_⟩;repeat' first|exact trivial|exact rfl|exact ⟨_,rfl⟩|exact .inl rfl|exact .inr (.inl ⟨rfl,rfl⟩)|exact .inr (.inr ⟨rfl,rfl⟩)|refine And.intro ?_ ?_|refine ⟨_,rfl,?_⟩|decide|exact of_decide_eq_true rfl)⟩
   ·rw [e2]
    refine ⟨by omega,by omega,h1,fun k x hk hxk hlk=>?_⟩
    have:=hS.lt_of hxk hx' hk hlk
    omega
   ·(first|omega|(simp only [vM] at *;omega))
  iterate 2 (exfalso;omega)
 ·have e0:j=i:=by omega
  subst e0
  have ek:=key j hj h1 h2
  by_cases hjl:j < S.length
  ·have hx:=zaL (d:=[]) hjl
   have cA:=zfQ (T:=T) (S.getD j []) t (hm _ (List.mem_of_getElem? hx))
   (repeat' ((conv=>whnf);first|refine vA ?_|refine vB fun b hb=>?_|refine vC (fun hl=>?_) fun i kv vv hi=>?_|refine vE ?_|refine vG ?_|refine vH ?_|((first|refine vD ?_ ?_|refine vF ?_ ?_|refine vI ?_ ?_)<;>intro hc<;>try simp only [vL] at hc)|refine vJ fun hg=>?_|refine vK fun hg=>?_|refine vT ?_|refine vN ‹_› ?_|(refine vQ ?_ fun x hx=>?_;·first|omega|(simp only [vM] at *;omega))|((first|refine vO ?_ ?_|refine vR ?_ ‹_› ?_|refine vS ?_ fun x hx=>?_|refine vP ?_ ?_);·first|omega|(simp only [vM] at *;omega))|refine vW ⟨by omega,by omega⟩ ?_|(refine vU ?_ ?_;·kernel_rfl)|refine vX ?_|refine vY ?_|refine vZ ?_|refine yD cA ⟨⟨rfl,rfl⟩,⟨rfl,rfl⟩,rfl⟩ rfl ?_|refine za.mk _ ‹_› ?_|refine vP (show (_:BitVec 64)≠_ by decide) ?_));all_goals try conv=>whnf
   ·exfalso;omega
   ·show some (D.tup [.int .i64 (j:Int),.bool (decide (zaF (S.getD j []) t=0))])=_
    rw [← ek];simp [hjl]
   ·exfalso;omega
  ·(repeat' ((conv=>whnf);first|refine vA ?_|refine vB fun b hb=>?_|refine vC (fun hl=>?_) fun i kv vv hi=>?_|refine vE ?_|refine vG ?_|refine vH ?_|((first|refine vD ?_ ?_|refine vF ?_ ?_|refine vI ?_ ?_)<;>intro hc<;>try simp only [vL] at hc)|refine vJ fun hg=>?_|refine vK fun hg=>?_|refine vT ?_|refine vN ‹_› ?_|(refine vQ ?_ fun x hx=>?_;·first|omega|(simp only [vM] at *;omega))|((first|refine vO ?_ ?_|refine vR ?_ ‹_› ?_|refine vS ?_ fun x hx=>?_|refine vP ?_ ?_);·first|omega|(simp only [vM] at *;omega))|refine vW ⟨by omega,by omega⟩ ?_|(refine vU ?_ ?_;·kernel_rfl)|refine vX ?_|refine vY ?_|refine vZ ?_|refine za.mk _ ‹_› ?_|refine vP (show (_:BitVec 64)≠_ by decide) ?_));all_goals try conv=>whnf
   iterate 2 (exfalso;omega)
   show some (D.tup [.int .i64 (j:Int),.bool false])=_
   rw [← ek];simp [hjl]
theorem zqH (ts:List Tup) (h0:ts≠[]) (h12:ts.length≤12) (hm : ∀ x∈ts,Sml x):Fn Tryz.prog T zdH [.d (.arr 1 (ts.map dII))] [] (.d (.tup [dN (ts.map (rkN ts)),.int .i64 (cnN ts:Int)])) []:=by
 have c1:=zqF (T:=T) ts h0 (by omega)
 have c2:=znB (T:=T) ts.toArray hm (by simpa using h12)
 have hS:=zqj (ts:=ts) rfl
 have hp:=zmx ts.toArray
 have hms : ∀ x∈(Sort.sort ltT ts.toArray).toList,Sml x:=fun x hx=>hm x (hp.mem_iff.1 hx)
 have hsz:(Sort.sort ltT ts.toArray).size=ts.length:=by have:=hp.length_eq;simpa using this
 generalize Sort.sort ltT ts.toArray=A at c2 hS hp hms hsz
 have hmd : ∀ x∈ddA A A.size,Sml x:=fun x hx=>hm x ((hS.mem x).1 hx)
 have hcn:=hS.cnt
 have hle:=hS.le
 have cb:=fun t=>zua (T:=T) (ddA A A.size) ts hS (by omega) hmd t
 have c3:=zr6 (T:=T) A hms (by omega)
 generalize ddA A A.size=S at hS hmd hcn hle cb c3
 refine zo zw zke (by show 1≤37;decide) ?_
 (repeat' ((conv=>whnf);first|refine vA ?_|refine vB fun b hb=>?_|refine vC (fun hl=>?_) fun i kv vv hi=>?_|refine vE ?_|refine vG ?_|refine vH ?_|((first|refine vD ?_ ?_|refine vF ?_ ?_|refine vI ?_ ?_)<;>intro hc<;>try simp only [vL] at hc)|refine vJ fun hg=>?_|refine vK fun hg=>?_|refine vT ?_|refine vN ‹_› ?_|(refine vQ ?_ fun x hx=>?_;·first|omega|(simp only [vM] at *;omega))|((first|refine vO ?_ ?_|refine vR ?_ ‹_› ?_|refine vS ?_ fun x hx=>?_|refine vP ?_ ?_);·first|omega|(simp only [vM] at *;omega))|refine vW ⟨by omega,by omega⟩ ?_|(refine vU ?_ ?_;·kernel_rfl)|refine vX ?_|refine vY ?_|refine vZ ?_|refine za.mk _ ‹_› ?_|refine vP (show (_:BitVec 64)≠_ by decide) ?_));all_goals try conv=>whnf
 refine zM.res (c1) (by (repeat refine ⟨⟨rfl,rfl⟩,?_⟩);rfl) ?_
 (repeat' ((conv=>whnf);first|refine vA ?_|refine vB fun b hb=>?_|refine vC (fun hl=>?_) fun i kv vv hi=>?_|refine vE ?_|refine vG ?_|refine vH ?_|((first|refine vD ?_ ?_|refine vF ?_ ?_|refine vI ?_ ?_)<;>intro hc<;>try simp only [vL] at hc)|refine vJ fun hg=>?_|refine vK fun hg=>?_|refine vT ?_|refine vN ‹_› ?_|(refine vQ ?_ fun x hx=>?_;·first|omega|(simp only [vM] at *;omega))|((first|refine vO ?_ ?_|refine vR ?_ ‹_› ?_|refine vS ?_ fun x hx=>?_|refine vP ?_ ?_);·first|omega|(simp only [vM] at *;omega))|refine vW ⟨by omega,by omega⟩ ?_|(refine vU ?_ ?_;·kernel_rfl)|refine vX ?_|refine vY ?_|refine vZ ?_|refine za.mk _ ‹_› ?_|refine vP (show (_:BitVec 64)≠_ by decide) ?_));all_goals try conv=>whnf
 refine zM.objs [0] (c2) (by (repeat' first|exact trivial|exact rfl|exact ⟨_,rfl⟩|exact .inl rfl|exact .inr (.inl ⟨rfl,rfl⟩)|exact .inr (.inr ⟨rfl,rfl⟩)|refine And.intro ?_ ?_|refine ⟨_,rfl,?_⟩|decide|exact of_decide_eq_true rfl)) (by (repeat' first|exact trivial|exact rfl|exact ⟨_,rfl⟩|exact .inl rfl|exact .inr (.inl ⟨rfl,rfl⟩)|exact .inr (.inr ⟨rfl,rfl⟩)|refine And.intro ?_ ?_|refine ⟨_,rfl,?_⟩|decide|exact of_decide_eq_true rfl)) (by rfl) (by rfl) (by simp) ?_
 (repeat' ((conv=>whnf);first|refine vA ?_|refine vB fun b hb=>?_|refine vC (fun hl=>?_) fun i kv vv hi=>?_|refine vE ?_|refine vG ?_|refine vH ?_|((first|refine vD ?_ ?_|refine vF ?_ ?_|refine vI ?_ ?_)<;>intro hc<;>try simp only [vL] at hc)|refine vJ fun hg=>?_|refine vK fun hg=>?_|refine vT ?_|refine vN ‹_› ?_|(refine vQ ?_ fun x hx=>?_;·first|omega|(simp only [vM] at *;omega))|((first|refine vO ?_ ?_|refine vR ?_ ‹_› ?_|refine vS ?_ fun x hx=>?_|refine vP ?_ ?_);·first|omega|(simp only [vM] at *;omega))|refine vW ⟨by omega,by omega⟩ ?_|(refine vU ?_ ?_;·kernel_rfl)|refine vX ?_|refine vY ?_|refine vZ ?_|refine za.mk _ ‹_› ?_|refine vP (show (_:BitVec 64)≠_ by decide) ?_));all_goals try conv=>whnf
 refine zM.objs [0] (c3) (by (repeat' first|exact trivial|exact rfl|exact ⟨_,rfl⟩|exact .inl rfl|exact .inr (.inl ⟨rfl,rfl⟩)|exact .inr (.inr ⟨rfl,rfl⟩)|refine And.intro ?_ ?_|refine ⟨_,rfl,?_⟩|decide|exact of_decide_eq_true rfl)) (by (repeat' first|exact trivial|exact rfl|exact ⟨_,rfl⟩|exact .inl rfl|exact .inr (.inl ⟨rfl,rfl⟩)|exact .inr (.inr ⟨rfl,rfl⟩)|refine And.intro ?_ ?_|refine ⟨_,rfl,?_⟩|decide|exact of_decide_eq_true rfl)) (by rfl) (by rfl) (by simp) ?_
 (repeat' ((conv=>whnf);first|refine vA ?_|refine vB fun b hb=>?_|refine vC (fun hl=>?_) fun i kv vv hi=>?_|refine vE ?_|refine vG ?_|refine vH ?_|((first|refine vD ?_ ?_|refine vF ?_ ?_|refine vI ?_ ?_)<;>intro hc<;>try simp only [vL] at hc)|refine vJ fun hg=>?_|refine vK fun hg=>?_|refine vT ?_|refine vN ‹_› ?_|(refine vQ ?_ fun x hx=>?_;·first|omega|(simp only [vM] at *;omega))|((first|refine vO ?_ ?_|refine vR ?_ ‹_› ?_|refine vS ?_ fun x hx=>?_|refine vP ?_ ?_);·first|omega|(simp only [vM] at *;omega))|refine vW ⟨by omega,by omega⟩ ?_|(refine vU ?_ ?_;·kernel_rfl)|refine vX ?_|refine vY ?_|refine vZ ?_|refine za.mk _ ‹_› ?_|refine vP (show (_:BitVec 64)≠_ by decide) ?_));all_goals try conv=>whnf
 refine zq (fun ((k,zs):Nat×List D)=>[(4,.own 0),(5,.own 1),(17,.d (.arr 1 (ts.map dII))),(18,.d (.int .i64 ((ts.map dII).length:Int))),(19,.d (.int .i64 ((k:Int))))]) (fun ((k,zs):Nat×List D)=>[(0,some (.row 1 (S.map dII))),(1,some (.row 1 zs))]) 2 (fun ((k,zs):Nat×List D)=>k≤ts.length∧zs=(List.range ts.length).map fun i=>D.int .i64 (if i < k then (rkN ts (ts.getD i []):Int) else 0)) (fun ((k,zs):Nat×List D)=>ts.length - k) ((0,List.replicate (((ts.map dII).length:Int)).toNat (D.int .i64 0))) [(0,1),(1,2)] [] (⟨by omega,by simp only [Nat.not_lt_zero,if_false];rw [List.length_map,Int.toNat_natCast];exact zbb _ _⟩) (by (refine ⟨rfl,rfl,rfl,?_,?_⟩;repeat' first|exact trivial|exact rfl|exact ⟨_,rfl⟩|exact .inl rfl|exact .inr (.inl ⟨rfl,rfl⟩)|exact .inr (.inr ⟨rfl,rfl⟩)|refine And.intro ?_ ?_|refine ⟨_,rfl,?_⟩|decide|exact of_decide_eq_true rfl)) ?_
 rintro ⟨k,zs⟩ ⟨hk,hz⟩
 have hzl:zs.length=ts.length:=by rw [hz];simp
 by_cases hkl:k < ts.length
 ·have hx:=zaL (d:=[]) hkl
  obtain ⟨b,cbk⟩:=cb (ts.getD k [])
  (repeat' ((conv=>whnf);first|refine vA ?_|refine vB fun b hb=>?_|refine vC (fun hl=>?_) fun i kv vv hi=>?_|refine vE ?_|refine vG ?_|refine vH ?_|((first|refine vD ?_ ?_|refine vF ?_ ?_|refine vI ?_ ?_)<;>intro hc<;>try simp only [vL] at hc)|refine vJ fun hg=>?_|refine vK fun hg=>?_|refine vT ?_|refine vN ‹_› ?_|(refine vQ ?_ fun x hx=>?_;·first|omega|(simp only [vM] at *;omega))|((first|refine vO ?_ ?_|refine vR ?_ ‹_› ?_|refine vS ?_ fun x hx=>?_|refine vP ?_ ?_);·first|omega|(simp only [vM] at *;omega))|refine vW ⟨by omega,by omega⟩ ?_|(refine vU ?_ ?_;·kernel_rfl)|refine vX ?_|refine vY ?_|refine vZ ?_|refine yD cbk (by (repeat refine ⟨⟨rfl,rfl⟩,?_⟩);rfl) rfl ?_|refine yN cbk (by (repeat refine ⟨⟨rfl,rfl⟩,?_⟩);rfl) ?_|refine za.mk _ ‹_› ?_|refine vP (show (_:BitVec 64)≠_ by decide) ?_));all_goals try conv=>whnf
  ·refine ⟨(k+1,_),[(0,0),(1,1)],[],?_,?_,by (refine ⟨rfl,rfl,rfl,?_,?_⟩;repeat' first|exact trivial|exact rfl|exact ⟨_,rfl⟩|exact .inl rfl|exact .inr (.inl ⟨rfl,rfl⟩)|exact .inr (.inr ⟨rfl,rfl⟩)|refine And.intro ?_ ?_|refine ⟨_,rfl,?_⟩|decide|exact of_decide_eq_true rfl)⟩
   ·refine ⟨by omega,?_⟩
    rw [hz]
    refine (zdS _).trans (zS fun u hu=>?_)
    show (if u=k then _ else _)=_
    by_cases e:u=k
    ·subst e;rw [if_pos rfl,if_pos (by omega)]
    ·rw [if_neg e]
     by_cases e2:u < k
     ·rw [if_pos e2,if_pos (by omega)]
     ·rw [if_neg e2,if_neg (by omega)]
   ·(first|omega|(simp only [vM] at *;omega))
  ·exfalso;omega
 ·(repeat' ((conv=>whnf);first|refine vA ?_|refine vB fun b hb=>?_|refine vC (fun hl=>?_) fun i kv vv hi=>?_|refine vE ?_|refine vG ?_|refine vH ?_|((first|refine vD ?_ ?_|refine vF ?_ ?_|refine vI ?_ ?_)<;>intro hc<;>try simp only [vL] at hc)|refine vJ fun hg=>?_|refine vK fun hg=>?_|refine vT ?_|refine vN ‹_› ?_|(refine vQ ?_ fun x hx=>?_;·first|omega|(simp only [vM] at *;omega))|((first|refine vO ?_ ?_|refine vR ?_ ‹_› ?_|refine vS ?_ fun x hx=>?_|refine vP ?_ ?_);·first|omega|(simp only [vM] at *;omega))|refine vW ⟨by omega,by omega⟩ ?_|(refine vU ?_ ?_;·kernel_rfl)|refine vX ?_|refine vY ?_|refine vZ ?_|refine za.mk _ ‹_› ?_|refine vP (show (_:BitVec 64)≠_ by decide) ?_));all_goals try conv=>whnf
  ·exfalso;omega
  ·have e0:k=ts.length:=by omega
   subst e0
   have hzz:zs=(ts.map (rkN ts)).map fun (x:Nat)=>D.int .i64 (x:Int):=by
    rw [hz]
    refine zmI (d := .nil) (by simp) fun i hi=>?_
    rw [List.length_map,List.length_range] at hi
    simp [List.getD,hi]
   refine congrArg some (show D.tup [.arr 1 zs,.int .i64 ((S.map dII).length:Int)]=_ from ?_)
   rw [hzz,List.length_map,hcn]
   simp [Function.comp_def]
end Go.Ab
namespace Go.Ab
open Go Go.Proofs
set_option maxRecDepth 10000
set_option maxHeartbeats 4000000
variable {T:Nat→Obj→Prop}
def ltI (x y:Int):Bool:=decide (x < y)
abbrev zc5 (d:Array (Int)):Ob := .row 1 (d.toList.map (D.int .i64))
theorem zoz (x y:Int):Fn Tryz.prog T zgo [.d (.int .i64 x),.d (.int .i64 y)] [] (.d (.bool (ltI x y))) []:=by
 have hn : ∀ z:Int,Fn Tryz.prog T zdG [.d (.int .i64 z)] [] (.d (.bool false)) []:=fun z=>by
  refine zo zw zfS (by show 1≤6;decide) ?_
  (repeat' ((conv=>whnf);first|refine vA ?_|refine vB fun b hb=>?_|refine vC (fun hl=>?_) fun i kv vv hi=>?_|refine vE ?_|refine vG ?_|refine vH ?_|((first|refine vD ?_ ?_|refine vF ?_ ?_|refine vI ?_ ?_)<;>intro hc<;>try simp only [vL] at hc)|refine vJ fun hg=>?_|refine vK fun hg=>?_|refine vT ?_|refine vN ‹_› ?_|(refine vQ ?_ fun x hx=>?_;·first|omega|(simp only [vM] at *;omega))|((first|refine vO ?_ ?_|refine vR ?_ ‹_› ?_|refine vS ?_ fun x hx=>?_|refine vP ?_ ?_);·first|omega|(simp only [vM] at *;omega))|refine vW ⟨by omega,by omega⟩ ?_|(refine vU ?_ ?_;·kernel_rfl)|refine vX ?_|refine vY ?_|refine vZ ?_|refine za.mk _ ‹_› ?_|refine vP (show (_:BitVec 64)≠_ by decide) ?_));all_goals try conv=>whnf
  simp
 refine zo zw zk4 (by show 2≤17;decide) ?_
 (repeat' ((conv=>whnf);first|refine vA ?_|refine vB fun b hb=>?_|refine vC (fun hl=>?_) fun i kv vv hi=>?_|refine vE ?_|refine vG ?_|refine vH ?_|((first|refine vD ?_ ?_|refine vF ?_ ?_|refine vI ?_ ?_)<;>intro hc<;>try simp only [vL] at hc)|refine vJ fun hg=>?_|refine vK fun hg=>?_|refine vT ?_|refine vN ‹_› ?_|(refine vQ ?_ fun x hx=>?_;·first|omega|(simp only [vM] at *;omega))|((first|refine vO ?_ ?_|refine vR ?_ ‹_› ?_|refine vS ?_ fun x hx=>?_|refine vP ?_ ?_);·first|omega|(simp only [vM] at *;omega))|refine vW ⟨by omega,by omega⟩ ?_|(refine vU ?_ ?_;·kernel_rfl)|refine vX ?_|refine vY ?_|refine vZ ?_|refine yD (hn _) (by (repeat refine ⟨⟨rfl,rfl⟩,?_⟩);rfl) rfl ?_|refine yN (hn _) (by (repeat refine ⟨⟨rfl,rfl⟩,?_⟩);rfl) ?_|refine za.mk _ ‹_› ?_|refine vP (show (_:BitVec 64)≠_ by decide) ?_));all_goals try conv=>whnf
 rfl
theorem zpT (d:Array (Int)) (a b:Nat) (hb:b≤d.size) (hs:d.size≤1073741824) (ha:a≤b) :
  Fn Tryz.prog T zao [.own 0,.d (.int .i64 (a:Int)),.d (.int .i64 (b:Int))] [zc5 d] (.tup []) [some (zc5 (Sort.insertionSort ltI d a b))]:=by
 refine zK zw zds (by show 3≤49;decide) _ (fun e env mem n h=>h) ?_
 (repeat' ((conv=>whnf);first|refine vA ?_|refine vB fun b hb=>?_|refine vC (fun hl=>?_) fun i kv vv hi=>?_|refine vE ?_|refine vG ?_|refine vH ?_|((first|refine vD ?_ ?_|refine vF ?_ ?_|refine vI ?_ ?_)<;>intro hc<;>try simp only [vL] at hc)|refine vJ fun hg=>?_|refine vK fun hg=>?_|refine vT ?_|refine vN ‹_› ?_|(refine vQ ?_ fun x hx=>?_;·first|omega|(simp only [vM] at *;omega))|((first|refine vO ?_ ?_|refine vR ?_ ‹_› ?_|refine vS ?_ fun x hx=>?_|refine vP ?_ ?_);·first|omega|(simp only [vM] at *;omega))|refine vW ⟨by omega,by omega⟩ ?_|(refine vU ?_ ?_;·kernel_rfl)|refine vX ?_|refine vY ?_|refine vZ ?_|refine za.mk _ ‹_› ?_|refine vP (show (_:BitVec 64)≠_ by decide) ?_));all_goals try conv=>whnf
 refine zq (fun ((ii,xs):Int×List D)=>[(0,.own 0),(1,.d (.int .i64 ((a:Int)))),(2,.d (.int .i64 ((b:Int)))),(6,.d (.int .i64 (ii))),(zb,.own 0)]) (fun ((ii,xs):Int×List D)=>[(0,some (.row 1 xs))]) 1 (fun ((ii,xs):Int×List D) => ∃ (i:Nat) (e:Array (Int)),ii=i∧xs=e.toList.map (D.int .i64)∧a < i∧i≤b+1∧e.size=d.size∧Sort.insOuter ltI a b i e=Sort.insertionSort ltI d a b) (fun ((ii,xs):Int×List D)=>(b - ii).toNat) (((a:Int)+1,d.toList.map (D.int .i64))) [(0,0)] [] (⟨a+1,d,by omega,rfl,by omega,by omega,rfl,rfl⟩) (by (refine ⟨rfl,rfl,rfl,?_,?_⟩;repeat' first|exact trivial|exact rfl|exact ⟨_,rfl⟩|exact .inl rfl|exact .inr (.inl ⟨rfl,rfl⟩)|exact .inr (.inr ⟨rfl,rfl⟩)|refine And.intro ?_ ?_|refine ⟨_,rfl,?_⟩|decide|exact of_decide_eq_true rfl)) ?_
 rintro ⟨_,_⟩ ⟨i,e,rfl,rfl,hi,hi2,he,hI⟩
 (repeat' ((conv=>whnf);first|refine vA ?_|refine vB fun b hb=>?_|refine vC (fun hl=>?_) fun i kv vv hi=>?_|refine vE ?_|refine vG ?_|refine vH ?_|((first|refine vD ?_ ?_|refine vF ?_ ?_|refine vI ?_ ?_)<;>intro hc<;>try simp only [vL] at hc)|refine vJ fun hg=>?_|refine vK fun hg=>?_|refine vT ?_|refine vN ‹_› ?_|(refine vQ ?_ fun x hx=>?_;·first|omega|(simp only [vM] at *;omega))|((first|refine vO ?_ ?_|refine vR ?_ ‹_› ?_|refine vS ?_ fun x hx=>?_|refine vP ?_ ?_);·first|omega|(simp only [vM] at *;omega))|refine vW ⟨by omega,by omega⟩ ?_|(refine vU ?_ ?_;·kernel_rfl)|refine vX ?_|refine vY ?_|refine vZ ?_|refine za.mk _ ‹_› ?_|refine vP (show (_:BitVec 64)≠_ by decide) ?_));all_goals try conv=>whnf
 ·refine zq (fun ((jj,xs):Int×List D)=>[(0,.own 0),(1,.d (.int .i64 ((a:Int)))),(2,.d (.int .i64 ((b:Int)))),(6,.d (.int .i64 ((i:Int)))),(7,.d (.int .i64 (jj))),(zb,.own 0)]) (fun ((jj,xs):Int×List D)=>[(0,some (.row 1 xs))]) 1 (fun ((jj,xs):Int×List D) => ∃ (j:Nat) (g:Array (Int)),jj=j∧xs=g.toList.map (D.int .i64)∧j≤i∧g.size=d.size∧Sort.insInner ltI a j g=Sort.insInner ltI a i e) (fun ((jj,xs):Int×List D)=>jj.toNat) (((i:Int),e.toList.map (D.int .i64))) [(0,0)] [] (⟨i,e,rfl,rfl,by omega,he,rfl⟩) (by (refine ⟨rfl,rfl,rfl,?_,?_⟩;repeat' first|exact trivial|exact rfl|exact ⟨_,rfl⟩|exact .inl rfl|exact .inr (.inl ⟨rfl,rfl⟩)|exact .inr (.inr ⟨rfl,rfl⟩)|refine And.intro ?_ ?_|refine ⟨_,rfl,?_⟩|decide|exact of_decide_eq_true rfl)) ?_
  rintro ⟨_,_⟩ ⟨j,g,rfl,rfl,hj,hg,hJ⟩
  have hgl:g.toList.length=d.size:=by rw [Array.length_toList];exact hg
  have stop : ¬(a < j∧ltI g[j]! g[j - 1]! = true)→Sort.insOuter ltI a b (i+1) g=Sort.insertionSort ltI d a b:=fun h=>by
   rw [← hI,Sort.insOuter.eq_def ltI a b i,if_pos (by omega),← hJ,ze3 h]
  (repeat' ((conv=>whnf);first|refine vA ?_|refine vB fun b hb=>?_|refine vC (fun hl=>?_) fun i kv vv hi=>?_|refine vE ?_|refine vG ?_|refine vH ?_|((first|refine vD ?_ ?_|refine vF ?_ ?_|refine vI ?_ ?_)<;>intro hc<;>try simp only [vL] at hc)|refine vJ fun hg=>?_|refine vK fun hg=>?_|refine vT ?_|refine vN ‹_› ?_|(refine vQ ?_ fun x hx=>?_;·first|omega|(simp only [vM] at *;omega))|((first|refine vO ?_ ?_|refine vR ?_ ‹_› ?_|refine vS ?_ fun x hx=>?_|refine vP ?_ ?_);·first|omega|(simp only [vM] at *;omega))|refine vW ⟨by omega,by omega⟩ ?_|(refine vU ?_ ?_;·kernel_rfl)|refine vX ?_|refine vY ?_|refine vZ ?_|refine yD (zoz _ _) ⟨⟨rfl,rfl⟩,⟨rfl,rfl⟩,rfl⟩ rfl ?_|refine za.mk _ ‹_› ?_|refine vP (show (_:BitVec 64)≠_ by decide) ?_));all_goals try conv=>whnf
  ·have e1:((j:Int) - 1).toNat=j - 1:=by omega
   have hx1:g.toList[j]? = some _:=‹g.toList[(j:Int).toNat]? = some _›
   have hx2:g.toList[j - 1]? = some x:=by rw [← e1];exact hx
   refine ⟨(_,_),[(0,0)],[],?_,?_,by (refine ⟨rfl,rfl,rfl,?_,?_⟩;repeat' first|exact trivial|exact rfl|exact ⟨_,rfl⟩|exact .inl rfl|exact .inr (.inl ⟨rfl,rfl⟩)|exact .inr (.inr ⟨rfl,rfl⟩)|refine And.intro ?_ ?_|refine ⟨_,rfl,?_⟩|decide|exact of_decide_eq_true rfl)⟩
   ·refine ⟨j - 1,Sort.swp g j (j - 1),by omega,?_,by omega,by rw [zkq,hg],?_⟩
    ·rw [e1];exact zlR hx1 hx2
    ·exact (ze2 (d:=g) (j:=j) (by omega) (by rw [(zdv hx1).1,(zdv hx2).1];exact decide_eq_true hc)).symm.trans hJ
   ·(first|omega|(simp only [vM] at *;omega))
  ·have e1:((j:Int) - 1).toNat=j - 1:=by omega
   have hx1:g.toList[j]? = some _:=‹g.toList[(j:Int).toNat]? = some _›
   have hx2:g.toList[j - 1]? = some x:=by rw [← e1];exact hx
   refine ⟨(_,_),[(0,0)],[],?_,?_,by (refine ⟨rfl,rfl,rfl,?_,?_⟩;repeat' first|exact trivial|exact rfl|exact ⟨_,rfl⟩|exact .inl rfl|exact .inr (.inl ⟨rfl,rfl⟩)|exact .inr (.inr ⟨rfl,rfl⟩)|refine And.intro ?_ ?_|refine ⟨_,rfl,?_⟩|decide|exact of_decide_eq_true rfl)⟩
   ·exact ⟨i+1,g,by omega,rfl,by omega,by omega,hg,stop fun h=>by
     rw [(zdv hx1).1,(zdv hx2).1] at h
     have:=of_decide_eq_true h.2;omega⟩
   ·(first|omega|(simp only [vM] at *;omega))
  ·refine ⟨(_,_),[(0,0)],[],?_,?_,by (refine ⟨rfl,rfl,rfl,?_,?_⟩;repeat' first|exact trivial|exact rfl|exact ⟨_,rfl⟩|exact .inl rfl|exact .inr (.inl ⟨rfl,rfl⟩)|exact .inr (.inr ⟨rfl,rfl⟩)|refine And.intro ?_ ?_|refine ⟨_,rfl,?_⟩|decide|exact of_decide_eq_true rfl)⟩
   ·exact ⟨i+1,g,by omega,rfl,by omega,by omega,hg,stop fun h=>by omega⟩
   ·(first|omega|(simp only [vM] at *;omega))
 ·have e0:Sort.insertionSort ltI d a b=e:=by
   rw [← hI,Sort.insOuter,if_neg (by omega)]
  rw [e0]
  refine ⟨trivial,_,[(0,0)],[],rfl,.inl (by (repeat' first|exact trivial|exact rfl|exact ⟨_,rfl⟩|exact .inl rfl|exact .inr (.inl ⟨rfl,rfl⟩)|exact .inr (.inr ⟨rfl,rfl⟩)|refine And.intro ?_ ?_|refine ⟨_,rfl,?_⟩|decide|exact of_decide_eq_true rfl)),⟨by rfl,by rfl,by rfl,trivial,by (repeat' first|exact trivial|exact rfl|exact ⟨_,rfl⟩|exact .inl rfl|exact .inr (.inl ⟨rfl,rfl⟩)|exact .inr (.inr ⟨rfl,rfl⟩)|refine And.intro ?_ ?_|refine ⟨_,rfl,?_⟩|decide|exact of_decide_eq_true rfl)⟩,by (repeat' first|exact trivial|exact rfl|exact ⟨_,rfl⟩|exact .inl rfl|exact .inr (.inl ⟨rfl,rfl⟩)|exact .inr (.inr ⟨rfl,rfl⟩)|refine And.intro ?_ ?_|refine ⟨_,rfl,?_⟩|decide|exact of_decide_eq_true rfl)⟩
theorem zoF (d:Array Int) {a b:Nat} {ai bi:Int} (ea:ai=a) (eb:bi=b) (hb:b≤d.size) (hs:d.size≤1073741824) (ha:a≤b) :
  Fn Tryz.prog T zao [.own 0,.d (.int .i64 ai),.d (.int .i64 bi)] [zc5 d] (.tup []) [some (zc5 (Sort.insertionSort ltI d a b))]:=by
 subst ea;subst eb;exact zpT d a b hb hs ha
theorem zpU (d:Array Int) {b l:Nat} {bi li:Int} (eb:bi=b) (el:li=l) (h12:b≤12) (hb:b≤d.size) (hs:d.size≤536870912) :
  Fn Tryz.prog T zcd [.own 0,.d (.int .i64 0),.d (.int .i64 bi),.d (.int .i64 li)] [zc5 d] (.tup []) [some (zc5 (Sort.pdq ltI d 0 b l true true))]:=by
 subst eb;subst el
 have hR:Sort.pdq ltI d 0 b l true true=Sort.insertionSort ltI d 0 b:=by rw [Sort.pdq,if_pos (by omega)]
 rw [hR]
 refine zK zw zeq (by show 4≤134;decide) _ (fun e env mem n h=>h) ?_
 (repeat' ((conv=>whnf);first|refine vA ?_|refine vB fun b hb=>?_|refine vC (fun hl=>?_) fun i kv vv hi=>?_|refine vE ?_|refine vG ?_|refine vH ?_|((first|refine vD ?_ ?_|refine vF ?_ ?_|refine vI ?_ ?_)<;>intro hc<;>try simp only [vL] at hc)|refine vJ fun hg=>?_|refine vK fun hg=>?_|refine vT ?_|refine vN ‹_› ?_|(refine vQ ?_ fun x hx=>?_;·first|omega|(simp only [vM] at *;omega))|((first|refine vO ?_ ?_|refine vR ?_ ‹_› ?_|refine vS ?_ fun x hx=>?_|refine vP ?_ ?_);·first|omega|(simp only [vM] at *;omega))|refine vW ⟨by omega,by omega⟩ ?_|(refine vU ?_ ?_;·kernel_rfl)|refine vX ?_|refine vY ?_|refine vZ ?_|refine za.mk _ ‹_› ?_|refine vP (show (_:BitVec 64)≠_ by decide) ?_));all_goals try conv=>whnf
 refine zq (fun (u:Unit)=>[(0,.own 0),(1,.d (.int .i64 (0))),(2,.d (.int .i64 ((b:Int)))),(3,.d (.int .i64 ((l:Int)))),(8,.d (.bool (true))),(9,.d (.bool (true))),(zb,.own 0)]) (fun (u:Unit)=>[(0,some (zc5 d))]) 1 (fun (u:Unit)=>True) (fun (u:Unit)=>0) (()) [(0,0)] [] (trivial) (by (refine ⟨rfl,rfl,rfl,?_,?_⟩;repeat' first|exact trivial|exact rfl|exact ⟨_,rfl⟩|exact .inl rfl|exact .inr (.inl ⟨rfl,rfl⟩)|exact .inr (.inr ⟨rfl,rfl⟩)|refine And.intro ?_ ?_|refine ⟨_,rfl,?_⟩|decide|exact of_decide_eq_true rfl)) ?_
 rintro u -
 (repeat' ((conv=>whnf);first|refine zfG.but 35 rfl ?_|refine vB fun b hb=>?_|refine vC (fun hl=>?_) fun i kv vv hi=>?_|refine vE ?_|refine vG ?_|refine vH ?_|((first|refine vD ?_ ?_|refine vF ?_ ?_|refine vI ?_ ?_)<;>intro hc<;>try simp only [vL] at hc)|refine vJ fun hg=>?_|refine vK fun hg=>?_|refine vT ?_|refine vN ‹_› ?_|(refine vQ ?_ fun x hx=>?_;·first|omega|(simp only [vM] at *;omega))|((first|refine vO ?_ ?_|refine vR ?_ ‹_› ?_|refine vS ?_ fun x hx=>?_|refine vP ?_ ?_);·first|omega|(simp only [vM] at *;omega))|refine vW ⟨by omega,by omega⟩ ?_|(refine vU ?_ ?_;·kernel_rfl)|refine vX ?_|refine vY ?_|refine vZ ?_|refine za.mk _ ‹_› ?_|refine vP (show (_:BitVec 64)≠_ by decide) ?_));all_goals try conv=>whnf
 ·refine zM.objs [0] (zoF d (a:=0) (b:=b) rfl rfl (by omega) (by omega) (by omega)) (by (repeat' first|exact trivial|exact rfl|exact ⟨_,rfl⟩|exact .inl rfl|exact .inr (.inl ⟨rfl,rfl⟩)|exact .inr (.inr ⟨rfl,rfl⟩)|refine And.intro ?_ ?_|refine ⟨_,rfl,?_⟩|decide|exact of_decide_eq_true rfl)) (by (repeat' first|exact trivial|exact rfl|exact ⟨_,rfl⟩|exact .inl rfl|exact .inr (.inl ⟨rfl,rfl⟩)|exact .inr (.inr ⟨rfl,rfl⟩)|refine And.intro ?_ ?_|refine ⟨_,rfl,?_⟩|decide|exact of_decide_eq_true rfl)) (by rfl) (by rfl) (by simp) ?_
  (repeat' ((conv=>whnf);first|refine vA ?_|refine vB fun b hb=>?_|refine vC (fun hl=>?_) fun i kv vv hi=>?_|refine vE ?_|refine vG ?_|refine vH ?_|((first|refine vD ?_ ?_|refine vF ?_ ?_|refine vI ?_ ?_)<;>intro hc<;>try simp only [vL] at hc)|refine vJ fun hg=>?_|refine vK fun hg=>?_|refine vT ?_|refine vN ‹_› ?_|(refine vQ ?_ fun x hx=>?_;·first|omega|(simp only [vM] at *;omega))|((first|refine vO ?_ ?_|refine vR ?_ ‹_› ?_|refine vS ?_ fun x hx=>?_|refine vP ?_ ?_);·first|omega|(simp only [vM] at *;omega))|refine vW ⟨by omega,by omega⟩ ?_|(refine vU ?_ ?_;·kernel_rfl)|refine vX ?_|refine vY ?_|refine vZ ?_|refine za.mk _ ‹_› ?_|refine vP (show (_:BitVec 64)≠_ by decide) ?_));all_goals try conv=>whnf
  refine ⟨trivial,_,[(0,0)],[],rfl,.inl (by (repeat' first|exact trivial|exact rfl|exact ⟨_,rfl⟩|exact .inl rfl|exact .inr (.inl ⟨rfl,rfl⟩)|exact .inr (.inr ⟨rfl,rfl⟩)|refine And.intro ?_ ?_|refine ⟨_,rfl,?_⟩|decide|exact of_decide_eq_true rfl)),⟨by rfl,by rfl,by rfl,trivial,by (repeat' first|exact trivial|exact rfl|exact ⟨_,rfl⟩|exact .inl rfl|exact .inr (.inl ⟨rfl,rfl⟩)|exact .inr (.inr ⟨rfl,rfl⟩)|refine And.intro ?_ ?_|refine ⟨_,rfl,?_⟩|decide|exact of_decide_eq_true rfl)⟩,by (repeat' first|exact trivial|exact rfl|exact ⟨_,rfl⟩|exact .inl rfl|exact .inr (.inl ⟨rfl,rfl⟩)|exact .inr (.inr ⟨rfl,rfl⟩)|refine And.intro ?_ ?_|refine ⟨_,rfl,?_⟩|decide|exact of_decide_eq_true rfl)⟩
 all_goals (exfalso;omega)
set_option maxHeartbeats 1000000 in
theorem zoA (d:Array Int) (hs:d.size≤12):Fn Tryz.prog T zdi [.own 0] [zc5 d] (.tup []) [some (zc5 (Sort.sort ltI d))]:=by
 have hn:((BitVec.ofInt 64 (d.size:Int)).toNat)=d.size:=by simp;omega
 refine zK zw zgh (by show 1≤11;decide) _ (fun e env mem n h=>h) ?_
 (repeat' ((conv=>whnf);first|refine vA ?_|refine vB fun b hb=>?_|refine vC (fun hl=>?_) fun i kv vv hi=>?_|refine vE ?_|refine vG ?_|refine vH ?_|((first|refine vD ?_ ?_|refine vF ?_ ?_|refine vI ?_ ?_)<;>intro hc<;>try simp only [vL] at hc)|refine vJ fun hg=>?_|refine vK fun hg=>?_|refine vT ?_|refine vN ‹_› ?_|(refine vQ ?_ fun x hx=>?_;·first|omega|(simp only [vM] at *;omega))|((first|refine vO ?_ ?_|refine vR ?_ ‹_› ?_|refine vS ?_ fun x hx=>?_|refine vP ?_ ?_);·first|omega|(simp only [vM] at *;omega))|refine vW ⟨by omega,by omega⟩ ?_|(refine vU ?_ ?_;·kernel_rfl)|refine vX ?_|refine vY ?_|refine vZ ?_|refine yD (znA _) ⟨⟨rfl,rfl⟩,rfl⟩ rfl ?_|refine za.mk _ ‹_› ?_|refine vP (show (_:BitVec 64)≠_ by decide) ?_));all_goals try conv=>whnf
 refine zM.objs [0] (zpU d (b:=d.size) (l:=Sort.bitsLen d.size) (bi:=((d.toList.map (D.int .i64)).length:Int)) (li:=((Sort.bitsLen (BitVec.ofInt 64 ((d.toList.map (D.int .i64)).length:Int)).toNat:Nat):Int)) (by simp) (by rw [List.length_map,Array.length_toList,hn]) hs (Nat.le_refl _) (by omega)) (by (repeat' first|exact trivial|exact rfl|exact ⟨_,rfl⟩|exact .inl rfl|exact .inr (.inl ⟨rfl,rfl⟩)|exact .inr (.inr ⟨rfl,rfl⟩)|refine And.intro ?_ ?_|refine ⟨_,rfl,?_⟩|decide|exact of_decide_eq_true rfl)) (by (repeat' first|exact trivial|exact rfl|exact ⟨_,rfl⟩|exact .inl rfl|exact .inr (.inl ⟨rfl,rfl⟩)|exact .inr (.inr ⟨rfl,rfl⟩)|refine And.intro ?_ ?_|refine ⟨_,rfl,?_⟩|decide|exact of_decide_eq_true rfl)) (by rfl) (by rfl) (by simp) ?_
 (repeat' ((conv=>whnf);first|refine vA ?_|refine vB fun b hb=>?_|refine vC (fun hl=>?_) fun i kv vv hi=>?_|refine vE ?_|refine vG ?_|refine vH ?_|((first|refine vD ?_ ?_|refine vF ?_ ?_|refine vI ?_ ?_)<;>intro hc<;>try simp only [vL] at hc)|refine vJ fun hg=>?_|refine vK fun hg=>?_|refine vT ?_|refine vN ‹_› ?_|(refine vQ ?_ fun x hx=>?_;·first|omega|(simp only [vM] at *;omega))|((first|refine vO ?_ ?_|refine vR ?_ ‹_› ?_|refine vS ?_ fun x hx=>?_|refine vP ?_ ?_);·first|omega|(simp only [vM] at *;omega))|refine vW ⟨by omega,by omega⟩ ?_|(refine vU ?_ ?_;·kernel_rfl)|refine vX ?_|refine vY ?_|refine vZ ?_|refine za.mk _ ‹_› ?_|refine vP (show (_:BitVec 64)≠_ by decide) ?_));all_goals try conv=>whnf
 refine ⟨trivial,_,[(0,0)],[],rfl,.inl (by (repeat' first|exact trivial|exact rfl|exact ⟨_,rfl⟩|exact .inl rfl|exact .inr (.inl ⟨rfl,rfl⟩)|exact .inr (.inr ⟨rfl,rfl⟩)|refine And.intro ?_ ?_|refine ⟨_,rfl,?_⟩|decide|exact of_decide_eq_true rfl)),⟨by rfl,by rfl,by rfl,trivial,by (repeat' first|exact trivial|exact rfl|exact ⟨_,rfl⟩|exact .inl rfl|exact .inr (.inl ⟨rfl,rfl⟩)|exact .inr (.inr ⟨rfl,rfl⟩)|refine And.intro ?_ ?_|refine ⟨_,rfl,?_⟩|decide|exact of_decide_eq_true rfl)⟩,by (repeat' first|exact trivial|exact rfl|exact ⟨_,rfl⟩|exact .inl rfl|exact .inr (.inl ⟨rfl,rfl⟩)|exact .inr (.inr ⟨rfl,rfl⟩)|refine And.intro ?_ ?_|refine ⟨_,rfl,?_⟩|decide|exact of_decide_eq_true rfl)⟩
end Go.Ab
