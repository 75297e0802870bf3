/- A part of the proofs of this seat: functions and their contracts. -/
import Derived.Test.YtjehkdhnhfghiaaGreatDoorMC
import Derived.Test.YtjehkdhnhfghiaaGreatDoorProg
import Derived.Lib.TrailingZeros
import Derived.Sort.AssemblyPlain
import Derived.Shelf.Strconv.Itoa0
import Derived.Sort.WalkA14
set_option linter.unusedVariables false
set_option linter.unusedSimpArgs false
set_option linter.unusedSectionVars false
namespace Go.Ab.K
open Go
abbrev t:=Arg.t
abbrev c:=Arg.c
abbrev n (x:Int):V := .d (.int .i64 x)
abbrev u (x:BitVec 64):V := .d (.u64 x)
abbrev m (x:Nat):CO := .mv (.t x)
abbrev pf (x y:Nat):CO := .pick (.t x) (.t y) (.c .bf)
abbrev pt (x y:Nat):CO := .pick (.t x) (.c .bt) (.t y)
abbrev b (o:BinOp) (x y:Nat):CO := .bin o (.t x) (.t y)
abbrev bc (o:BinOp) (x:Nat) (y:V):CO := .bin o (.t x) (.c y)
abbrev l (x:Nat):CO := .load none (.t x)
abbrev la (k x:Nat):CO := .load (some k) (.t x)
abbrev f (o x:Nat):CO := .faddr o (.t x)
abbrev ia (s x i:Nat):CO := .iaddr s (.t x) (.t i)
abbrev e (x k:Nat):CO := .ext (.t x) k
abbrev ln (x:Nat):CO := .len (.t x)
abbrev o (d:Nat) (x:CO):COp:=⟨some d,none,x⟩
abbrev w (x:CO):COp:=⟨none,none,x⟩
abbrev g (d k:Nat) (v:Bool) (x:CO):COp:=⟨some d,some (k,v),x⟩
abbrev gw (k:Nat) (v:Bool) (x:CO):COp:=⟨none,some (k,v),x⟩
abbrev i (x:Nat) (p r:CC):CC := .cond (.t x) p r
def q:List CC→CC
 | [] => .skip
 | [x]=>x
 | x::y::r => .seq x (q (y::r))
end Go.Ab.K
namespace Go.Ab
open Go K
def zgm:Nat:=13
def zeK:Nat:=14
def ziv:Nat:=15
def ziu:Nat:=16
def zfE:Nat:=18
def zdn:Nat:=21
def zdv:Nat:=22
def zfo:Nat:=30
def zgl:Nat:=31
def zhT:Nat:=35
def zgF:Nat:=37
def zhS:Nat:=41
def zbe:Nat:=42
def zdP:Nat:=43
def zfn:Nat:=44
def zdk:Nat:=46
def zh7:Nat:=51
def zez:Nat:=53
def zeL:Nat:=54
def zgK:Nat:=55
def zd1:Nat:=56
def zgL:Nat:=57
def zky:Nat:=64
def zgI:Nat:=65
def zhO:Nat:=66
def zhN:Nat:=67
def zfm:Nat:=71
def zgJ:Nat:=72
def zhk:Nat:=73
def zkz:Nat:=77
def zhM:Nat:=78
def zbt:Nat:=82
def zcO:Nat:=83
def zmc:Nat:=84
def zbA:Nat:=85
def zkA:Nat:=86
def zit:Nat:=87
def zb2:Nat:=90
def zes:Nat:=92
def zaW:Nat:=93
def zcN:Nat:=99
def zaP:Nat:=100
def zgG:Nat:=105
def zhR:Nat:=106
def zcs:Nat:=113
def zal:Nat:=114
def zcZ:Nat:=115
def zbO:Nat:=120
def zis:Nat:=121
def zd0:Nat:=122
def zgH:Nat:=124
def zey:Nat:=126
def zc0:Nat:=127
def zdO:Nat:=128
def zca:Nat:=138
def zdl:Nat:=152
def zcP:Nat:=153
def zdm:Nat:=154
def zhP:Nat:=155
def zgj:Nat:=156
def zeP:Nat:=157
def zaM:Nat:=158
def zhQ:Nat:=164
def zgk:Nat:=183
def zcM:Nat:=184
def z7:Nat:=185
def zaz:Nat:=186
def zM:Nat:=187
def zA:Nat:=188
def zcr:Nat:=189
def zT:Nat:=190
def zeO:Nat:=196
def zbf:Nat:=208
def zdZ:Nat:=209
def zbz:Nat:=210
def zer:Nat:=211
def zby:Nat:=212
def zaQ:Nat:=218
def zkl:CFn:=⟨41,[.tmp 4],(q [(.reg [o 2 (.box 3 (t 0)),o 4 (.mv (c .bf))]),
 (q [(.reg [o 6 (f 0 2),o 7 (l 6),o 8 (m 1),o 9 (b .gtr 7 8),o 10 (m 9),g 11 10 true (f 0 2),g 12 10 true (l 11),g 13 10 true (bc .leq 12 (n 64)),o 14 (pf 10 13),o 15 (m 14),g 16 15 false (f 1 2),g 17 15 false (l 16),g 18 15 false (ln 17),g 19 15 false (bc .gtr 18 (n 20)),o 20 (pt 15 19),o 21 (m 20),g 22 21 false (f 2 2),g 23 21 false (l 22),g 24 21 false (ln 23),g 25 21 false (bc .gtr 24 (n 10)),o 26 (pt 21 25)]),
 (i 26 (q [(.reg [o 4 (.mv (c .bf))]),
 .ret]) .skip)]),
 (q [(.reg [o 5 (.mv (c (n 0)))]),
 (.block 0 (.loop (q [(q [(.reg [o 27 (m 5),o 28 (f 2 2),o 29 (l 28),o 30 (ln 29),o 31 (b .lss 27 30)]),
 (i 31 .skip (.exit 0))]),
 (.block 1 (q [(.reg [o 34 (f 2 2),o 35 (l 34),o 36 (m 5),o 37 (ia 1 35 36),o 38 (l 37),o 39 (ln 38),o 40 (bc .gtr 39 (n 70))]),
 (i 40 (q [(.reg [o 4 (.mv (c .bf))]),
 .ret]) .skip)])),
 (.reg [o 32 (m 5),o 33 (bc .add 32 (n 1)),o 5 (m 33)])])))]),
 (.reg [o 4 (.mv (c .bt))]),
 .ret])⟩
def zqe:CFn:=⟨47,[.tmp 2],(q [(.reg [o 1 (.box 3 (t 0)),o 2 (.mv (c (n 0)))]),
 (q [(.reg [o 5 (f 0 1),o 6 (l 5),o 7 (bc .lss 6 (n 1)),o 8 (m 7),g 9 8 false (f 0 1),g 10 8 false (l 9),g 11 8 false (bc .gtr 10 (n 64)),o 12 (pt 8 11)]),
 (i 12 (q [(.reg [o 2 (.mv (c (n 2)))]),
 .ret]) .skip)]),
 (q [(.reg [o 13 (f 2 1),o 14 (l 13),o 15 (ln 14),o 16 (bc .gtr 15 (n 4)),o 17 (m 16),g 18 17 false (f 1 1),g 19 17 false (l 18),g 20 17 false (ln 19),g 21 17 false (bc .gtr 20 (n 8)),o 22 (pt 17 21)]),
 (i 22 (q [(.reg [o 2 (.mv (c (n 8)))]),
 .ret]) .skip)]),
 (q [(.reg [o 23 (f 2 1),o 24 (l 23),o 25 (ln 24),o 26 (.mv (c (n 0)))]),
 (.block 0 (.loop (q [(.reg [o 27 (b .lss 26 25)]),
 (i 27 .skip (.exit 0)),
 (.block 1 (q [(.reg [o 28 (ia 1 24 26),o 29 (l 28),o 4 (m 29)]),
 (.reg [o 30 (m 4),o 31 (ln 30),o 32 (f 0 1),o 33 (l 32),o 34 (b .neq 31 33)]),
 (i 34 (q [(.reg [o 2 (.mv (c (n 3)))]),
 .ret]) .skip)])),
 (.reg [o 35 (bc .add 26 (n 1)),o 26 (m 35)])])))]),
 (q [(.reg [o 36 (f 1 1),o 37 (l 36),o 38 (f 0 1),o 39 (l 38),o 40 (.call 41 [(t 37),(t 39)]),o 41 (m 40),g 42 41 false (f 2 1),g 43 41 false (l 42),g 44 41 false (.fnew zdP [(t 1)]),g 45 41 false (.call 42 [(t 43),(t 44)]),o 46 (pt 41 45)]),
 (i 46 (q [(.reg [o 2 (.mv (c (n 2)))]),
 .ret]) .skip)]),
 (.reg [o 2 (.mv (c (n 0)))]),
 .ret])⟩
def zoS:CFn:=⟨61,[.cell 4 (some 3),.tmp 5],(q [(.reg [o 2 (.box 3 (t 0)),o 4 (.alloc [(n 0),(.nils 1),(.nils 1)]),o 5 (.mv (c (n 0)))]),
 (q [(.reg [o 11 (la 3 2),o 12 (.call 14 [(t 11)]),o 6 (m 12)]),
 (.reg [o 13 (m 6),o 14 (bc .neq 13 (n 0))]),
 (i 14 (q [(.reg [o 15 (.build [(n 0),(.nils 1),(.nils 1)] []),o 16 (m 6),w (.store 3 (t 4) (t 15)),o 5 (m 16)]),
 .ret]) .skip)]),
 (q [(.reg [o 17 (m 1),o 18 (ln 17),o 19 (f 0 2),o 20 (l 19),o 21 (b .neq 18 20)]),
 (i 21 (q [(.reg [o 22 (.build [(n 0),(.nils 1),(.nils 1)] []),w (.store 3 (t 4) (t 22)),o 5 (.mv (c (n 1)))]),
 .ret]) .skip)]),
 (.reg [o 23 (m 1),o 24 (ln 23),o 25 (.mkslice 1 8 [(n 0)] (t 24) (t 24)),o 7 (m 25)]),
 (.reg [o 8 (.mv (c (u 0)))]),
 (q [(.reg [o 26 (m 1),o 27 (ln 26),o 28 (.mv (c (n 0)))]),
 (.block 0 (.loop (q [(.reg [o 29 (b .lss 28 27)]),
 (i 29 .skip (.exit 0)),
 (.block 1 (q [(.reg [o 30 (m 28),o 31 (ia 1 26 28),o 32 (l 31),o 9 (m 30),o 10 (m 32)]),
 (q [(.reg [o 33 (m 10),o 34 (bc .lss 33 (n 0)),o 35 (m 34),g 36 35 false (m 10),g 37 35 false (m 1),g 38 35 false (ln 37),g 39 35 false (b .geq 36 38),o 40 (pt 35 39),o 41 (m 40),g 42 41 false (m 8),g 43 41 false (m 10),g 44 41 false (b .shr 42 43),g 45 41 false (bc .and 44 (u 1)),g 46 41 false (bc .eql 45 (u 1)),o 47 (pt 41 46)]),
 (i 47 (q [(.reg [o 48 (.build [(n 0),(.nils 1),(.nils 1)] []),w (.store 3 (t 4) (t 48)),o 5 (.mv (c (n 1)))]),
 .ret]) .skip)]),
 (.reg [o 49 (m 8),o 50 (m 10),o 51 (.bin .shl (c (u 1)) (t 50)),o 52 (b .or 49 51),o 8 (m 52)]),
 (.reg [o 53 (m 7),o 54 (m 10),o 55 (m 9),o 56 (ia 1 53 54),w (.store 1 (t 56) (t 55))])])),
 (.reg [o 57 (bc .add 28 (n 1)),o 28 (m 57)])])))]),
 (.reg [o 58 (la 3 2),o 59 (m 7),o 60 (.call 44 [(t 58),(t 59)]),w (.store 3 (t 4) (t 60)),o 5 (.mv (c (n 0)))]),
 .ret])⟩
def zj5:CFn:=⟨22,[.cell 2 (some 3),.tmp 3,.tmp 4],(q [(.reg [o 1 (.box 3 (t 0)),o 2 (.alloc [(n 0),(.nils 1),(.nils 1)]),o 3 (.mv (c (.nils 1))),o 4 (.mv (c (n 0)))]),
 (.reg [o 8 (la 3 1),o 9 (.call 46 [(t 8)]),o 7 (m 9),o 10 (e 7 0),o 11 (e 7 1),o 5 (m 10),o 6 (m 11)]),
 (q [(.reg [o 12 (m 6),o 13 (bc .neq 12 (n 0))]),
 (i 13 (q [(.reg [o 14 (.build [(n 0),(.nils 1),(.nils 1)] []),o 15 (m 6),w (.store 3 (t 2) (t 14)),o 3 (.mv (c (.nils 1))),o 4 (m 15)]),
 .ret]) .skip)]),
 (.reg [o 16 (la 3 1),o 17 (m 5),o 18 (.call 22 [(t 16),(t 17)]),o 19 (e 18 0),o 20 (e 18 1),o 21 (e 18 2),w (.store 3 (t 2) (t 19)),o 3 (m 20),o 4 (m 21)]),
 .ret])⟩
def zqg:CFn:=⟨134,[.cell 4 (some 3),.tmp 5,.tmp 6],(q [(.reg [o 2 (.box 3 (t 0)),o 4 (.alloc [(n 0),(.nils 1),(.nils 1)]),o 5 (.mv (c (.nils 1))),o 6 (.mv (c (n 0)))]),
 (q [(.reg [o 23 (la 3 2),o 24 (.call 14 [(t 23)]),o 7 (m 24)]),
 (.reg [o 25 (m 7),o 26 (bc .neq 25 (n 0))]),
 (i 26 (q [(.reg [o 27 (.build [(n 0),(.nils 1),(.nils 1)] []),o 28 (m 7),w (.store 3 (t 4) (t 27)),o 5 (.mv (c (.nils 1))),o 6 (m 28)]),
 .ret]) .skip)]),
 (q [(.reg [o 29 (m 1),o 30 (.call 53 [(t 29)]),o 8 (m 30)]),
 (.reg [o 31 (m 8),o 32 (bc .neq 31 (n 0))]),
 (i 32 (q [(.reg [o 33 (.build [(n 0),(.nils 1),(.nils 1)] []),o 34 (m 8),w (.store 3 (t 4) (t 33)),o 5 (.mv (c (.nils 1))),o 6 (m 34)]),
 .ret]) .skip)]),
 (q [(.reg [o 35 (m 1),o 36 (ln 35),o 37 (f 0 2),o 38 (l 37),o 39 (b .neq 36 38)]),
 (i 39 (q [(.reg [o 40 (.build [(n 0),(.nils 1),(.nils 1)] []),w (.store 3 (t 4) (t 40)),o 5 (.mv (c (.nils 1))),o 6 (.mv (c (n 3)))]),
 .ret]) .skip)]),
 (q [(.reg [o 41 (m 1),o 42 (ln 41),o 43 (.mv (c (n 0)))]),
 (.block 0 (.loop (q [(.reg [o 44 (b .lss 43 42)]),
 (i 44 .skip (.exit 0)),
 (.block 1 (q [(.reg [o 45 (m 43),o 46 (ia 1 41 43),o 47 (l 46),o 9 (m 45),o 10 (m 47)]),
 (.regd [o 48 (la 3 2),o 49 (m 9),o 50 (.call 54 [(t 48),(t 49)]),o 51 (la 3 2),o 52 (m 10),o 53 (.call 54 [(t 51),(t 52)]),o 54 (b .neq 50 53)] [0,0,3,0,0,31,63]),
 (i 54 (q [(.reg [o 55 (.build [(n 0),(.nils 1),(.nils 1)] []),w (.store 3 (t 4) (t 55)),o 5 (.mv (c (.nils 1))),o 6 (.mv (c (n 1)))]),
 .ret]) .skip)])),
 (.reg [o 56 (bc .add 43 (n 1)),o 43 (m 56)])])))]),
 (.reg [o 57 (m 1),o 58 (.call 55 [(t 57)]),o 11 (m 58)]),
 (.reg [o 59 (m 1),o 60 (ln 59),o 61 (.mkslice 1 8 [(n 0)] (t 60) (t 60)),o 12 (m 61)]),
 (q [(.reg [o 62 (m 1),o 63 (ln 62),o 64 (.mv (c (n 0)))]),
 (.block 2 (.loop (q [(.reg [o 65 (b .lss 64 63)]),
 (i 65 .skip (.exit 2)),
 (.block 3 (q [(.reg [o 66 (m 64),o 67 (ia 1 62 64),o 68 (l 67),o 13 (m 66),o 14 (m 68)]),
 (.reg [o 69 (m 12),o 70 (m 13),o 71 (m 11),o 72 (m 14),o 73 (.call 56 [(t 71),(t 72)]),o 74 (ia 1 69 70),w (.store 1 (t 74) (t 73))])])),
 (.reg [o 75 (bc .add 64 (n 1)),o 64 (m 75)])])))]),
 (.reg [o 76 (m 11),o 77 (ln 76),o 78 (.build [(n 0),(.nils 1),(.nils 1)] [(0,1,(t 77))]),o 15 (.alloc [(n 0),(.nils 1),(.nils 1)]),w (.store 3 (t 15) (t 78))]),
 (q [(.reg [o 79 (f 1 2),o 80 (l 79),o 81 (ln 80),o 82 (.mv (c (n 0)))]),
 (.block 4 (.loop (q [(.reg [o 83 (b .lss 82 81)]),
 (i 83 .skip (.exit 4)),
 (.block 5 (q [(.reg [o 84 (ia 1 80 82),o 85 (l 84),o 17 (m 85)]),
 (.regd [o 86 (f 1 15),o 87 (l 86),o 88 (m 17),o 89 (m 12),o 90 (.call 57 [(t 88),(t 89)]),o 91 (.bslice 1 1 [(u 0)] [(0,(t 90))]),o 92 (.app 1 8 (t 87) (t 91)),o 93 (f 1 15),w (.store 1 (t 93) (t 92))] [0,1,0,0,12,28,63,127,255])])),
 (.reg [o 94 (bc .add 82 (n 1)),o 82 (m 94)])])))]),
 (q [(.reg [o 95 (f 2 2),o 96 (l 95),o 97 (ln 96),o 98 (.mv (c (n 0)))]),
 (.block 6 (.loop (q [(.reg [o 99 (b .lss 98 97)]),
 (i 99 .skip (.exit 6)),
 (.block 7 (q [(.reg [o 100 (ia 1 96 98),o 101 (l 100),o 19 (m 101)]),
 (.reg [o 102 (m 11),o 103 (ln 102),o 104 (.mkslice 1 8 [(u 0)] (t 103) (t 103)),o 20 (m 104)]),
 (q [(.reg [o 105 (m 19),o 106 (ln 105),o 107 (.mv (c (n 0)))]),
 (.block 8 (.loop (q [(.reg [o 108 (b .lss 107 106)]),
 (i 108 .skip (.exit 8)),
 (.block 9 (q [(.reg [o 109 (m 107),o 110 (ia 1 105 107),o 111 (l 110),o 21 (m 109),o 22 (m 111)]),
 (.regd [o 112 (m 20),o 113 (m 12),o 114 (m 21),o 115 (ia 1 113 114),o 116 (l 115),o 117 (ia 1 112 116),o 118 (l 117),o 119 (m 22),o 120 (m 12),o 121 (.call 57 [(t 119),(t 120)]),o 122 (b .or 118 121),o 123 (ia 1 112 116),w (.store 1 (t 123) (t 122))] [0,0,0,6,14,31,63,0,0,384,1023,2047,4095])])),
 (.reg [o 124 (bc .add 107 (n 1)),o 107 (m 124)])])))]),
 (.reg [o 125 (f 2 15),o 126 (l 125),o 127 (m 20),o 128 (.bslice 1 1 [(.nils 1)] [(0,(t 127))]),o 129 (.app 1 24 (t 126) (t 128)),o 130 (f 2 15),w (.store 1 (t 130) (t 129))])])),
 (.reg [o 131 (bc .add 98 (n 1)),o 98 (m 131)])])))]),
 (.reg [o 132 (la 3 15),o 133 (m 12),w (.store 3 (t 4) (t 132)),o 5 (m 133),o 6 (.mv (c (n 0)))]),
 .ret])⟩
def zje:CFn:=⟨31,[.cell 4 (some 3),.tmp 5],(q [(.reg [o 2 (.box 3 (t 0)),o 4 (.alloc [(n 0),(.nils 1),(.nils 1)]),o 5 (.mv (c (n 0)))]),
 (.reg [o 12 (la 3 2),o 13 (m 1),o 14 (.call 31 [(t 12),(t 13)]),o 11 (m 14),o 15 (e 11 0),o 16 (e 11 1),o 17 (e 11 2),o 6 (.alloc [(n 0),(.nils 1),(.nils 1)]),w (.store 3 (t 6) (t 15)),o 7 (m 16),o 8 (m 17)]),
 (q [(.reg [o 18 (m 8),o 19 (bc .neq 18 (n 0))]),
 (i 19 (q [(.reg [o 20 (.build [(n 0),(.nils 1),(.nils 1)] []),o 21 (m 8),w (.store 3 (t 4) (t 20)),o 5 (m 21)]),
 .ret]) .skip)]),
 (.reg [o 23 (la 3 6),o 24 (m 7),o 25 (.call 71 [(t 23),(t 24)]),o 22 (m 25),o 26 (e 22 0),o 27 (e 22 1),o 28 (e 22 2),o 9 (.alloc [(n 0),(.nils 1),(.nils 1)]),w (.store 3 (t 9) (t 26)),o 10 (m 27),o 8 (m 28)]),
 (.reg [o 29 (la 3 9),o 30 (m 8),w (.store 3 (t 4) (t 29)),o 5 (m 30)]),
 .ret])⟩
def zkk:CFn:=⟨62,[.cell 4 (some 3),.tmp 5,.tmp 6],(q [(.reg [o 2 (.box 3 (t 0)),o 4 (.alloc [(n 0),(.nils 1),(.nils 1)]),o 5 (.mv (c (n 0))),o 6 (.mv (c (n 0)))]),
 (q [(.reg [o 16 (la 3 2),o 17 (.call 14 [(t 16)]),o 7 (m 17)]),
 (.reg [o 18 (m 7),o 19 (bc .neq 18 (n 0))]),
 (i 19 (q [(.reg [o 20 (.build [(n 0),(.nils 1),(.nils 1)] []),o 21 (m 7),w (.store 3 (t 4) (t 20)),o 5 (.mv (c (n 0))),o 6 (m 21)]),
 .ret]) .skip)]),
 (q [(.reg [o 22 (m 1),o 23 (bc .lss 22 (n 0)),o 24 (m 23),g 25 24 false (m 1),g 26 24 false (f 0 2),g 27 24 false (l 26),g 28 24 false (b .geq 25 27),o 29 (pt 24 28)]),
 (i 29 (q [(.reg [o 30 (.build [(n 0),(.nils 1),(.nils 1)] []),w (.store 3 (t 4) (t 30)),o 5 (.mv (c (n 0))),o 6 (.mv (c (n 2)))]),
 .ret]) .skip)]),
 (.regd [o 32 (la 3 2),o 33 (m 1),o 34 (.bin .shl (c (u 1)) (t 33)),o 35 (.call 72 [(t 32),(t 34)]),o 31 (m 35),o 36 (e 31 0),o 37 (e 31 1),o 8 (m 36),o 9 (m 37)] [0,0,2,7,15,31,31,63,255]),
 (.reg [o 39 (la 3 2),o 40 (m 8),o 41 (.call 73 [(t 39),(t 40)]),o 38 (m 41),o 42 (e 38 0),o 43 (e 38 1),o 44 (e 38 2),o 10 (.alloc [(n 0),(.nils 1),(.nils 1)]),w (.store 3 (t 10) (t 42)),o 11 (m 43),o 12 (m 44)]),
 (.reg [o 46 (la 3 10),o 47 (.call 18 [(t 46)]),o 45 (m 47),o 48 (e 45 0),o 49 (e 45 1),o 50 (e 45 2),o 13 (.alloc [(n 0),(.nils 1),(.nils 1)]),w (.store 3 (t 13) (t 48)),o 14 (m 49),o 15 (m 50)]),
 (q [(.reg [o 51 (m 15),o 52 (bc .neq 51 (n 0))]),
 (i 52 (q [(.reg [o 53 (.build [(n 0),(.nils 1),(.nils 1)] []),o 54 (m 15),w (.store 3 (t 4) (t 53)),o 5 (.mv (c (n 0))),o 6 (m 54)]),
 .ret]) .skip)]),
 (.regd [o 55 (la 3 13),o 56 (m 14),o 57 (m 11),o 58 (m 1),o 59 (.call 56 [(t 57),(t 58)]),o 60 (ia 1 56 59),o 61 (l 60),w (.store 3 (t 4) (t 55)),o 5 (m 61),o 6 (.mv (c (n 0)))] [0,0,0,0,12,30,62,29,255,511]),
 .ret])⟩
def znN:CFn:=⟨62,[.tmp 8,.tmp 9],(q [(.reg [o 4 (.box 3 (t 0)),o 6 (.box 3 (t 2)),o 8 (.mv (c .bf)),o 9 (.mv (c (n 0)))]),
 (q [(.reg [o 15 (la 3 4),o 16 (.call 14 [(t 15)]),o 10 (m 16)]),
 (.reg [o 17 (m 10),o 18 (bc .neq 17 (n 0))]),
 (i 18 (q [(.reg [o 19 (m 10),o 8 (.mv (c .bf)),o 9 (m 19)]),
 .ret]) .skip)]),
 (q [(.reg [o 20 (la 3 6),o 21 (.call 14 [(t 20)]),o 11 (m 21)]),
 (.reg [o 22 (m 11),o 23 (bc .neq 22 (n 0))]),
 (i 23 (q [(.reg [o 24 (m 11),o 8 (.mv (c .bf)),o 9 (m 24)]),
 .ret]) .skip)]),
 (q [(.reg [o 25 (f 2 4),o 26 (l 25),o 27 (ln 26),o 28 (f 2 6),o 29 (l 28),o 30 (ln 29),o 31 (b .neq 27 30),o 32 (m 31),g 33 32 false (f 1 4),g 34 32 false (l 33),g 35 32 false (ln 34),g 36 32 false (f 1 6),g 37 32 false (l 36),g 38 32 false (ln 37),g 39 32 false (b .neq 35 38),o 40 (pt 32 39)]),
 (i 40 (q [(.reg [o 8 (.mv (c .bf)),o 9 (.mv (c (n 1)))]),
 .ret]) .skip)]),
 (.reg [o 42 (la 3 4),o 43 (m 1),o 44 (.call 30 [(t 42),(t 43)]),o 41 (m 44),o 45 (e 41 0),o 46 (e 41 1),o 12 (.alloc [(n 0),(.nils 1),(.nils 1)]),w (.store 3 (t 12) (t 45)),o 13 (m 46)]),
 (q [(.reg [o 47 (m 13),o 48 (bc .neq 47 (n 0))]),
 (i 48 (q [(.reg [o 49 (m 13),o 8 (.mv (c .bf)),o 9 (m 49)]),
 .ret]) .skip)]),
 (.reg [o 51 (la 3 6),o 52 (m 3),o 53 (.call 30 [(t 51),(t 52)]),o 50 (m 53),o 54 (e 50 0),o 55 (e 50 1),o 14 (.alloc [(n 0),(.nils 1),(.nils 1)]),w (.store 3 (t 14) (t 54)),o 13 (m 55)]),
 (q [(.reg [o 56 (m 13),o 57 (bc .neq 56 (n 0))]),
 (i 57 (q [(.reg [o 58 (m 13),o 8 (.mv (c .bf)),o 9 (m 58)]),
 .ret]) .skip)]),
 (.reg [o 59 (la 3 12),o 60 (la 3 14),o 61 (.call 77 [(t 59),(t 60)]),o 8 (m 61),o 9 (.mv (c (n 0)))]),
 .ret])⟩
def zlJ:CFn:=⟨47,[.tmp 8,.tmp 9],(q [(.reg [o 4 (.box 3 (t 0)),o 6 (.box 3 (t 2)),o 8 (.mv (c .bf)),o 9 (.mv (c (n 0)))]),
 (.reg [o 13 (la 3 4),o 14 (la 3 6),o 15 (.call 78 [(t 13),(t 14)]),o 12 (m 15),o 16 (e 12 0),o 17 (e 12 1),o 10 (m 16),o 11 (m 17)]),
 (q [(.reg [o 18 (m 11),o 19 (bc .neq 18 (n 0))]),
 (i 19 (q [(.reg [o 20 (m 11),o 8 (.mv (c .bf)),o 9 (m 20)]),
 .ret]) .skip)]),
 (q [(.reg [o 21 (m 1),o 22 (bc .lss 21 (n 0)),o 23 (m 22),g 24 23 false (m 1),g 25 23 false (f 0 4),g 26 23 false (l 25),g 27 23 false (b .geq 24 26),o 28 (pt 23 27),o 29 (m 28),g 30 29 false (m 3),g 31 29 false (bc .lss 30 (n 0)),o 32 (pt 29 31),o 33 (m 32),g 34 33 false (m 3),g 35 33 false (f 0 6),g 36 33 false (l 35),g 37 33 false (b .geq 34 36),o 38 (pt 33 37)]),
 (i 38 (q [(.reg [o 8 (.mv (c .bf)),o 9 (.mv (c (n 2)))]),
 .ret]) .skip)]),
 (.reg [o 39 (m 10),o 40 (m 1),o 41 (ia 1 39 40),o 42 (l 41),o 43 (m 3),o 44 (b .shr 42 43),o 45 (bc .and 44 (u 1)),o 46 (bc .eql 45 (u 1)),o 8 (m 46),o 9 (.mv (c (n 0)))]),
 .ret])⟩
def znM:CFn:=⟨8,[.tmp 4],(q [(.reg [o 3 (.box 1 (t 1)),o 4 (.mv (c .bf))]),
 (.reg [o 5 (m 0),o 6 (.fnew zcO [(t 3)]),o 7 (.call 82 [(t 5),(t 6)]),o 4 (m 7)]),
 .ret])⟩
def zdt:CFn:=⟨9,[.tmp 4],(q [(.reg [o 4 (.mv (c .bf))]),
 (.reg [o 5 (m 0),o 6 (m 1),o 7 (.call 85 [(t 5),(t 6)]),o 8 (bc .geq 7 (n 0)),o 4 (m 8)]),
 .ret])⟩
def znJ:CFn:=⟨8,[.tmp 3],(q [(.reg [o 3 (.mv (c .bf))]),
 (.reg [o 4 (m 0),o 5 (f 0 1),o 6 (l 5),o 7 (.call 41 [(t 4),(t 6)]),o 3 (m 7)]),
 .ret])⟩
def znK:CFn:=⟨63,[.cell 4 (some 3)],(q [(.reg [o 2 (.box 3 (t 0)),o 4 (.alloc [(n 0),(.nils 1),(.nils 1)])]),
 (.reg [o 13 (m 1),o 14 (ln 13),o 15 (.build [(n 0),(.nils 1),(.nils 1)] [(0,1,(t 14))]),o 5 (.alloc [(n 0),(.nils 1),(.nils 1)]),w (.store 3 (t 5) (t 15))]),
 (q [(.reg [o 16 (f 1 2),o 17 (l 16),o 18 (ln 17),o 19 (.mv (c (n 0)))]),
 (.block 0 (.loop (q [(.reg [o 20 (b .lss 19 18)]),
 (i 20 .skip (.exit 0)),
 (.block 1 (q [(.reg [o 21 (ia 1 17 19),o 22 (l 21),o 7 (m 22)]),
 (.regd [o 23 (f 1 5),o 24 (l 23),o 25 (m 7),o 26 (m 1),o 27 (.call 86 [(t 25),(t 26)]),o 28 (.bslice 1 1 [(u 0)] [(0,(t 27))]),o 29 (.app 1 8 (t 24) (t 28)),o 30 (f 1 5),w (.store 1 (t 30) (t 29))] [0,1,0,0,12,28,63,127,255])])),
 (.reg [o 31 (bc .add 19 (n 1)),o 19 (m 31)])])))]),
 (q [(.reg [o 32 (f 2 2),o 33 (l 32),o 34 (ln 33),o 35 (.mv (c (n 0)))]),
 (.block 2 (.loop (q [(.reg [o 36 (b .lss 35 34)]),
 (i 36 .skip (.exit 2)),
 (.block 3 (q [(.reg [o 37 (ia 1 33 35),o 38 (l 37),o 9 (m 38)]),
 (.reg [o 10 (.mv (c (.nils 1)))]),
 (q [(.reg [o 39 (m 1),o 40 (ln 39),o 41 (.mv (c (n 0)))]),
 (.block 4 (.loop (q [(.reg [o 42 (b .lss 41 40)]),
 (i 42 .skip (.exit 4)),
 (.block 5 (q [(.reg [o 43 (ia 1 39 41),o 44 (l 43),o 12 (m 44)]),
 (.reg [o 45 (m 10),o 46 (m 9),o 47 (m 12),o 48 (ia 1 46 47),o 49 (l 48),o 50 (m 1),o 51 (.call 86 [(t 49),(t 50)]),o 52 (.bslice 1 1 [(u 0)] [(0,(t 51))]),o 53 (.app 1 8 (t 45) (t 52)),o 10 (m 53)])])),
 (.reg [o 54 (bc .add 41 (n 1)),o 41 (m 54)])])))]),
 (.reg [o 55 (f 2 5),o 56 (l 55),o 57 (m 10),o 58 (.bslice 1 1 [(.nils 1)] [(0,(t 57))]),o 59 (.app 1 24 (t 56) (t 58)),o 60 (f 2 5),w (.store 1 (t 60) (t 59))])])),
 (.reg [o 61 (bc .add 35 (n 1)),o 35 (m 61)])])))]),
 (.reg [o 62 (la 3 5),w (.store 3 (t 4) (t 62))]),
 .ret])⟩
def zmH:CFn:=⟨20,[.tmp 2,.tmp 3],(q [(.reg [o 1 (.box 3 (t 0)),o 2 (.mv (c (.nils 1))),o 3 (.mv (c (n 0)))]),
 (q [(.reg [o 7 (la 3 1),o 8 (.call 14 [(t 7)]),o 4 (m 8)]),
 (.reg [o 9 (m 4),o 10 (bc .neq 9 (n 0))]),
 (i 10 (q [(.reg [o 11 (m 4),o 2 (.mv (c (.nils 1))),o 3 (m 11)]),
 .ret]) .skip)]),
 (.reg [o 13 (la 3 1),o 14 (f 2 1),o 15 (l 14),o 16 (.call 87 [(t 13),(t 15)]),o 12 (m 16),o 17 (e 12 0),o 18 (e 12 1),o 5 (m 17),o 6 (m 18)]),
 (.reg [o 19 (m 5),o 2 (m 19),o 3 (.mv (c (n 0)))]),
 .ret])⟩
def zlQ:CFn:=⟨31,[.tmp 2],(q [(.reg [o 2 (.mv (c (n 0)))]),
 (q [(.reg [o 5 (m 0),o 6 (ln 5),o 7 (bc .gtr 6 (n 64))]),
 (i 7 (q [(.reg [o 2 (.mv (c (n 8)))]),
 .ret]) .skip)]),
 (q [(.reg [o 8 (m 0),o 9 (ln 8),o 10 (.mv (c (n 0)))]),
 (.block 0 (.loop (q [(.reg [o 11 (b .lss 10 9)]),
 (i 11 .skip (.exit 0)),
 (.block 1 (q [(.reg [o 12 (m 10),o 13 (ia 1 8 10),o 14 (l 13),o 3 (m 12),o 4 (m 14)]),
 (.reg [o 15 (m 4),o 16 (bc .lss 15 (n 0)),o 17 (m 16),g 18 17 false (m 4),g 19 17 false (m 3),g 20 17 false (b .gtr 18 19),o 21 (pt 17 20),o 22 (m 21),g 23 22 false (m 0),g 24 22 false (m 4),g 25 22 false (ia 1 23 24),g 26 22 false (l 25),g 27 22 false (m 4),g 28 22 false (b .neq 26 27),o 29 (pt 22 28)]),
 (i 29 (q [(.reg [o 2 (.mv (c (n 3)))]),
 .ret]) .skip)])),
 (.reg [o 30 (bc .add 10 (n 1)),o 10 (m 30)])])))]),
 (.reg [o 2 (.mv (c (n 0)))]),
 .ret])⟩
def zqf:CFn:=⟨40,[.tmp 4],(q [(.reg [o 2 (.box 3 (t 0)),o 4 (.mv (c (n 0)))]),
 (q [(.reg [o 8 (la 3 2),o 9 (.call 14 [(t 8)]),o 10 (bc .neq 9 (n 0)),o 11 (m 10),g 12 11 false (m 1),g 13 11 false (bc .lss 12 (n 0)),o 14 (pt 11 13),o 15 (m 14),g 16 15 false (m 1),g 17 15 false (f 0 2),g 18 15 false (l 17),g 19 15 false (b .geq 16 18),o 20 (pt 15 19)]),
 (i 20 (q [(.reg [o 4 (.mv (c (n (-1))))]),
 .ret]) .skip)]),
 (.reg [o 5 (.mv (c (n 0)))]),
 (q [(.reg [o 21 (f 1 2),o 22 (l 21),o 23 (ln 22),o 24 (.mv (c (n 0)))]),
 (.block 0 (.loop (q [(.reg [o 25 (b .lss 24 23)]),
 (i 25 .skip (.exit 0)),
 (.block 1 (q [(.reg [o 26 (m 24),o 27 (ia 1 22 24),o 28 (l 27),o 6 (m 26),o 7 (m 28)]),
 (.reg [o 29 (m 5),o 30 (m 7),o 31 (m 1),o 32 (b .shr 30 31),o 33 (bc .and 32 (u 1)),o 34 (.conv .i64 (t 33)),o 35 (m 6),o 36 (b .shl 34 35),o 37 (b .or 29 36),o 5 (m 37)])])),
 (.reg [o 38 (bc .add 24 (n 1)),o 24 (m 38)])])))]),
 (.reg [o 39 (m 5),o 4 (m 39)]),
 .ret])⟩
def zlS:CFn:=⟨10,[.tmp 2],(q [(.reg [o 2 (.mv (c (.nils 1)))]),
 (.reg [o 4 (m 0),o 5 (.call 90 [(t 4)]),o 3 (m 5)]),
 (.reg [o 6 (m 3),o 7 (.call 92 [(t 6)])]),
 (.reg [o 8 (m 3),o 9 (.call 93 [(t 8)]),o 2 (m 9)]),
 .ret])⟩
def zhf:CFn:=⟨19,[.tmp 4],(q [(.reg [o 4 (.mv (c (n 0)))]),
 (q [(.reg [o 6 (m 0),o 7 (ln 6),o 8 (.mv (c (n 0)))]),
 (.block 0 (.loop (q [(.reg [o 9 (b .lss 8 7)]),
 (i 9 .skip (.exit 0)),
 (.block 1 (q [(.reg [o 10 (m 8),o 5 (m 10)]),
 (.reg [o 11 (m 1),o 12 (m 0),o 13 (m 5),o 14 (ia 1 12 13),o 15 (l 14),o 16 (b .eql 11 15)]),
 (i 16 (q [(.reg [o 17 (m 5),o 4 (m 17)]),
 .ret]) .skip)])),
 (.reg [o 18 (bc .add 8 (n 1)),o 8 (m 18)])])))]),
 (.reg [o 4 (.mv (c (n (-1))))]),
 .ret])⟩
def zlT:CFn:=⟨26,[.tmp 4],(q [(.reg [o 4 (.mv (c (u 0)))]),
 (.reg [o 5 (.mv (c (u 0)))]),
 (q [(.reg [o 8 (m 1),o 9 (ln 8),o 10 (.mv (c (n 0)))]),
 (.block 0 (.loop (q [(.reg [o 11 (b .lss 10 9)]),
 (i 11 .skip (.exit 0)),
 (.block 1 (q [(.reg [o 12 (m 10),o 13 (ia 1 8 10),o 14 (l 13),o 6 (m 12),o 7 (m 14)]),
 (.reg [o 15 (m 0),o 16 (m 6),o 17 (b .shr 15 16),o 18 (bc .and 17 (u 1)),o 19 (bc .eql 18 (u 1))]),
 (i 19 (.reg [o 20 (m 5),o 21 (m 7),o 22 (.bin .shl (c (u 1)) (t 21)),o 23 (b .or 20 22),o 5 (m 23)]) .skip)])),
 (.reg [o 24 (bc .add 10 (n 1)),o 10 (m 24)])])))]),
 (.reg [o 25 (m 5),o 4 (m 25)]),
 .ret])⟩
def zqS:CFn:=⟨33,[.tmp 4],(q [(.reg [o 2 (.box 3 (t 0)),o 3 (.box 3 (t 1)),o 4 (.mv (c (n 0)))]),
 (q [(.reg [o 7 (la 3 2),o 8 (.call 14 [(t 7)]),o 5 (m 8)]),
 (.reg [o 9 (m 5),o 10 (bc .neq 9 (n 0))]),
 (i 10 (q [(.reg [o 11 (m 5),o 4 (m 11)]),
 .ret]) .skip)]),
 (q [(.reg [o 12 (la 3 3),o 13 (.call 14 [(t 12)]),o 6 (m 13)]),
 (.reg [o 14 (m 6),o 15 (bc .neq 14 (n 0))]),
 (i 15 (q [(.reg [o 16 (m 6),o 4 (m 16)]),
 .ret]) .skip)]),
 (q [(.reg [o 17 (f 2 2),o 18 (l 17),o 19 (ln 18),o 20 (f 2 3),o 21 (l 20),o 22 (ln 21),o 23 (b .neq 19 22),o 24 (m 23),g 25 24 false (f 1 2),g 26 24 false (l 25),g 27 24 false (ln 26),g 28 24 false (f 1 3),g 29 24 false (l 28),g 30 24 false (ln 29),g 31 24 false (b .neq 27 30),o 32 (pt 24 31)]),
 (i 32 (q [(.reg [o 4 (.mv (c (n 1)))]),
 .ret]) .skip)]),
 (.reg [o 4 (.mv (c (n 0)))]),
 .ret])⟩
def znF:CFn:=⟨4,[.tmp 2],(q [(.reg [o 1 (.box 1 (t 0)),o 2 (.mv (c (.d .nil)))]),
 (.reg [o 3 (.fnew zcN [(t 1)]),o 2 (m 3)]),
 .ret])⟩
def znE:CFn:=⟨69,[.cell 10 none],(q [(.reg [o 5 (.box 3 (t 0)),o 6 (.box 3 (t 1)),o 7 (.box 1 (t 2)),o 9 (.box 1 (t 4)),o 10 (.alloc [.bf])]),
 (q [(.regd [o 14 (la 3 5),o 15 (m 3),o 16 (.call 54 [(t 14),(t 15)]),o 17 (la 3 6),o 18 (l 9),o 19 (.call 54 [(t 17),(t 18)]),o 20 (b .neq 16 19)] [0,0,3,0,0,31,63]),
 (i 20 (q [(.reg [w (.store 1 (t 10) (c .bf))]),
 .ret]) .skip)]),
 (q [(.reg [o 21 (f 2 5),o 22 (l 21),o 23 (ln 22),o 24 (.mv (c (n 0)))]),
 (.block 0 (.loop (q [(.reg [o 25 (b .lss 24 23)]),
 (i 25 .skip (.exit 0)),
 (.block 1 (q [(.reg [o 26 (m 24),o 11 (.alloc [(n 0)]),w (.store 1 (t 11) (t 26))]),
 (.reg [o 12 (.alloc [(u 0)])]),
 (q [(.reg [o 27 (f 2 5),o 28 (l 27),o 29 (l 11),o 30 (ia 1 28 29),o 31 (l 30),o 32 (m 3),o 33 (ia 1 31 32),o 34 (l 33),o 35 (.call 66 [(t 34)])]),
 (.block 2 (.rng (t 35) [36] (.reg [o 13 (m 36)]) (.block 3 (q [(q [(.regd [o 37 (l 7),o 38 (m 13),o 39 (ia 1 37 38),o 40 (l 39),o 41 (f 2 6),o 42 (l 41),o 43 (l 11),o 44 (ia 1 42 43),o 45 (l 44),o 46 (l 9),o 47 (ia 1 45 46),o 48 (l 47),o 49 (b .and 40 48),o 50 (bc .eql 49 (u 0))] [0,0,3,7,0,16,0,112,240,0,1008,2032,4095,8191]),
 (i 50 (q [(.reg [w (.store 1 (t 10) (c .bf))]),
 .ret]) .skip)]),
 (.regd [o 51 (l 12),o 52 (l 7),o 53 (m 13),o 54 (ia 1 52 53),o 55 (l 54),o 56 (b .or 51 55),w (.store 1 (t 12) (t 56))] [0,0,0,6,14,31,63])]))))]),
 (.regd [o 57 (f 2 6),o 58 (l 57),o 59 (l 11),o 60 (ia 1 58 59),o 61 (l 60),o 62 (l 9),o 63 (ia 1 61 62),o 64 (l 63),o 65 (l 12),o 66 (b .andNot 64 65),o 67 (bc .neq 66 (u 0))] [0,1,0,7,15,0,63,127,0,511,1023]),
 (i 67 (q [(.reg [w (.store 1 (t 10) (c .bf))]),
 .ret]) .skip)])),
 (.reg [o 68 (bc .add 24 (n 1)),o 24 (m 68)])])))]),
 (.reg [w (.store 1 (t 10) (c .bt))]),
 .ret])⟩
def zjd:CFn:=⟨95,[.cell 4 (some 3),.tmp 5,.tmp 6],(q [(.reg [o 2 (.box 3 (t 0)),o 4 (.alloc [(n 0),(.nils 1),(.nils 1)]),o 5 (.mv (c (.nils 1))),o 6 (.mv (c (n 0)))]),
 (q [(.reg [o 22 (la 3 2),o 23 (.call 14 [(t 22)]),o 7 (m 23)]),
 (.reg [o 24 (m 7),o 25 (bc .neq 24 (n 0))]),
 (i 25 (q [(.reg [o 26 (.build [(n 0),(.nils 1),(.nils 1)] []),o 27 (m 7),w (.store 3 (t 4) (t 26)),o 5 (.mv (c (.nils 1))),o 6 (m 27)]),
 .ret]) .skip)]),
 (q [(.reg [o 28 (m 1),o 29 (bc .lss 28 (n 0)),o 30 (m 29),g 31 30 false (m 1),g 32 30 false (f 0 2),g 33 30 false (l 32),g 34 30 false (b .geq 31 33),o 35 (pt 30 34)]),
 (i 35 (q [(.reg [o 36 (.build [(n 0),(.nils 1),(.nils 1)] []),w (.store 3 (t 4) (t 36)),o 5 (.mv (c (.nils 1))),o 6 (.mv (c (n 2)))]),
 .ret]) .skip)]),
 (.regd [o 38 (la 3 2),o 39 (m 1),o 40 (.bin .shl (c (u 1)) (t 39)),o 41 (.call 72 [(t 38),(t 40)]),o 37 (m 41),o 42 (e 37 0),o 43 (e 37 1),o 8 (m 42),o 9 (m 43)] [0,0,2,7,15,31,31,63,255]),
 (.reg [o 45 (la 3 2),o 46 (m 8),o 47 (.call 73 [(t 45),(t 46)]),o 44 (m 47),o 48 (e 44 0),o 49 (e 44 1),o 50 (e 44 2),o 10 (.alloc [(n 0),(.nils 1),(.nils 1)]),w (.store 3 (t 10) (t 48)),o 11 (m 49),o 12 (m 50)]),
 (q [(.reg [o 52 (la 3 10),o 53 (.call 105 [(t 52),(c (n (-1)))]),o 51 (m 53),o 54 (e 51 0),o 55 (e 51 1),o 13 (m 54),o 14 (m 55)]),
 (.reg [o 56 (m 14),o 57 (f 0 10),o 58 (l 57),o 59 (b .lss 56 58)]),
 (i 59 (q [(.reg [o 60 (.build [(n 0),(.nils 1),(.nils 1)] []),w (.store 3 (t 4) (t 60)),o 5 (.mv (c (.nils 1))),o 6 (.mv (c (n 16)))]),
 .ret]) .skip)]),
 (.regd [o 62 (la 3 10),o 63 (m 11),o 64 (m 1),o 65 (.call 56 [(t 63),(t 64)]),o 66 (.call 105 [(t 62),(t 65)]),o 61 (m 66),o 67 (e 61 0),o 68 (e 61 1),o 15 (m 67),o 16 (m 68)] [0,0,0,6,15,31,63,63,127,511]),
 (.reg [o 70 (la 3 10),o 71 (m 15),o 72 (.call 16 [(t 70),(t 71)]),o 69 (m 72),o 73 (e 69 0),o 74 (e 69 1),o 17 (.alloc [(n 0),(.nils 1),(.nils 1)]),w (.store 3 (t 17) (t 73)),o 18 (m 74)]),
 (.reg [o 75 (m 15),o 76 (ln 75),o 77 (.mkslice 1 8 [(n 0)] (t 76) (t 76)),o 19 (m 77)]),
 (q [(.reg [o 78 (m 15),o 79 (ln 78),o 80 (.mv (c (n 0)))]),
 (.block 0 (.loop (q [(.reg [o 81 (b .lss 80 79)]),
 (i 81 .skip (.exit 0)),
 (.block 1 (q [(.reg [o 82 (m 80),o 83 (ia 1 78 80),o 84 (l 83),o 20 (m 82),o 21 (m 84)]),
 (.reg [o 85 (m 19),o 86 (m 21),o 87 (m 11),o 88 (m 20),o 89 (ia 1 87 88),o 90 (l 89),o 91 (ia 1 85 86),w (.store 1 (t 91) (t 90))])])),
 (.reg [o 92 (bc .add 80 (n 1)),o 80 (m 92)])])))]),
 (.reg [o 93 (la 3 17),o 94 (m 19),w (.store 3 (t 4) (t 93)),o 5 (m 94),o 6 (.mv (c (n 0)))]),
 .ret])⟩
def zlO:CFn:=⟨56,[.tmp 4,.tmp 5],(q [(.reg [o 2 (.box 3 (t 0)),o 4 (.mv (c (u 0))),o 5 (.mv (c (n 0)))]),
 (q [(.reg [o 12 (la 3 2),o 13 (.call 14 [(t 12)]),o 6 (m 13)]),
 (.reg [o 14 (m 6),o 15 (bc .neq 14 (n 0))]),
 (i 15 (q [(.reg [o 16 (m 6),o 4 (.mv (c (u 0))),o 5 (m 16)]),
 .ret]) .skip)]),
 (q [(.reg [o 17 (m 1),o 18 (f 0 2),o 19 (l 18),o 20 (.call 84 [(t 19)]),o 21 (b .andNot 17 20),o 22 (bc .neq 21 (u 0))]),
 (i 22 (q [(.reg [o 4 (.mv (c (u 0))),o 5 (.mv (c (n 2)))]),
 .ret]) .skip)]),
 (.reg [o 23 (m 1),o 7 (m 23)]),
 (q [(.reg [o 24 (m 1),o 8 (m 24)]),
 (.block 0 (.loop (q [(q [(.reg [o 25 (m 8),o 26 (bc .neq 25 (u 0))]),
 (i 26 .skip (.exit 0))]),
 (.block 1 (q [(.reg [o 27 (m 8),o 28 (.call 100 [(t 27)]),o 9 (m 28)]),
 (.reg [o 29 (m 8),o 30 (m 8),o 31 (bc .sub 30 (u 1)),o 32 (b .and 29 31),o 8 (m 32)]),
 (.reg [o 33 (f 2 2),o 34 (l 33),o 35 (ln 34),o 36 (.mv (c (n 0)))]),
 (.block 2 (.loop (q [(.reg [o 37 (b .lss 36 35)]),
 (i 37 .skip (.exit 2)),
 (.block 3 (q [(.reg [o 38 (ia 1 34 36),o 39 (l 38),o 11 (m 39)]),
 (.reg [o 40 (m 8),o 41 (m 11),o 42 (m 9),o 43 (ia 1 41 42),o 44 (l 43),o 45 (m 7),o 46 (b .andNot 44 45),o 47 (b .or 40 46),o 8 (m 47)]),
 (.reg [o 48 (m 7),o 49 (m 11),o 50 (m 9),o 51 (ia 1 49 50),o 52 (l 51),o 53 (b .or 48 52),o 7 (m 53)])])),
 (.reg [o 54 (bc .add 36 (n 1)),o 36 (m 54)])])))]))])))]),
 (.reg [o 55 (m 7),o 4 (m 55),o 5 (.mv (c (n 0)))]),
 .ret])⟩
def zmM:CFn:=⟨31,[.cell 4 (some 3),.tmp 5,.tmp 6],(q [(.reg [o 2 (.box 3 (t 0)),o 4 (.alloc [(n 0),(.nils 1),(.nils 1)]),o 5 (.mv (c (.nils 1))),o 6 (.mv (c (n 0)))]),
 (q [(.reg [o 9 (la 3 2),o 10 (.call 14 [(t 9)]),o 7 (m 10)]),
 (.reg [o 11 (m 7),o 12 (bc .neq 11 (n 0))]),
 (i 12 (q [(.reg [o 13 (.build [(n 0),(.nils 1),(.nils 1)] []),o 14 (m 7),w (.store 3 (t 4) (t 13)),o 5 (.mv (c (.nils 1))),o 6 (m 14)]),
 .ret]) .skip)]),
 (q [(.reg [o 15 (m 1),o 16 (f 0 2),o 17 (l 16),o 18 (.call 84 [(t 17)]),o 19 (b .andNot 15 18),o 20 (bc .neq 19 (u 0))]),
 (i 20 (q [(.reg [o 21 (.build [(n 0),(.nils 1),(.nils 1)] []),w (.store 3 (t 4) (t 21)),o 5 (.mv (c (.nils 1))),o 6 (.mv (c (n 2)))]),
 .ret]) .skip)]),
 (q [(.reg [o 22 (m 1),o 23 (bc .eql 22 (u 0))]),
 (i 23 (q [(.reg [o 24 (.build [(n 0),(.nils 1),(.nils 1)] []),w (.store 3 (t 4) (t 24)),o 5 (.mv (c (.nils 1))),o 6 (.mv (c (n 6)))]),
 .ret]) .skip)]),
 (.reg [o 25 (m 1),o 26 (.call 106 [(t 25)]),o 8 (m 26)]),
 (.reg [o 27 (la 3 2),o 28 (m 8),o 29 (.call 44 [(t 27),(t 28)]),o 30 (m 8),w (.store 3 (t 4) (t 29)),o 5 (m 30),o 6 (.mv (c (n 0)))]),
 .ret])⟩
def zqT:CFn:=⟨24,[.tmp 4],(q [(.reg [o 2 (.box 3 (t 0)),o 3 (.box 3 (t 1)),o 4 (.mv (c .bf))]),
 (.reg [o 5 (f 0 2),o 6 (l 5),o 7 (f 0 3),o 8 (l 7),o 9 (b .eql 6 8),o 10 (m 9),g 11 10 true (f 1 2),g 12 10 true (l 11),g 13 10 true (f 1 3),g 14 10 true (l 13),g 15 10 true (.call 113 [(t 12),(t 14)]),o 16 (pf 10 15),o 17 (m 16),g 18 17 true (f 2 2),g 19 17 true (l 18),g 20 17 true (f 2 3),g 21 17 true (l 20),g 22 17 true (.call 114 [(t 19),(t 21),(c (.fn zcZ []))]),o 23 (pf 17 22),o 4 (m 23)]),
 .ret])⟩
def znD:CFn:=⟨64,[.tmp 4,.tmp 5],(q [(.reg [o 2 (.box 3 (t 0)),o 3 (.box 3 (t 1)),o 4 (.mv (c (.nils 1))),o 5 (.mv (c (n 0)))]),
 (q [(.reg [o 13 (la 3 2),o 14 (la 3 3),o 15 (.call 64 [(t 13),(t 14)]),o 6 (m 15)]),
 (.reg [o 16 (m 6),o 17 (bc .neq 16 (n 0))]),
 (i 17 (q [(.reg [o 18 (m 6),o 4 (.mv (c (.nils 1))),o 5 (m 18)]),
 .ret]) .skip)]),
 (.reg [o 19 (f 0 2),o 20 (l 19),o 21 (.mkslice 1 8 [(u 0)] (t 20) (t 20)),o 7 (.alloc [(.nils 1)]),w (.store 1 (t 7) (t 21))]),
 (q [(.reg [o 22 (l 7),o 23 (ln 22),o 24 (.mv (c (n 0)))]),
 (.block 0 (.loop (q [(.reg [o 25 (b .lss 24 23)]),
 (i 25 .skip (.exit 0)),
 (.block 1 (q [(.reg [o 26 (m 24),o 8 (m 26)]),
 (.regd [o 27 (l 7),o 28 (m 8),o 29 (f 0 3),o 30 (l 29),o 31 (.bin .shl (c (u 1)) (t 30)),o 32 (bc .sub 31 (u 1)),o 33 (ia 1 27 28),w (.store 1 (t 33) (t 32))] [0,0,0,4,12,28,63,127])])),
 (.reg [o 34 (bc .add 24 (n 1)),o 24 (m 34)])])))]),
 (q [(.reg [o 9 (.alloc [.bf]),w (.store 1 (t 9) (c .bt))]),
 (.block 2 (.loop (q [(q [(.reg [o 35 (l 9)]),
 (i 35 .skip (.exit 2))]),
 (.block 3 (q [(.reg [w (.store 1 (t 9) (c .bf))]),
 (.reg [o 36 (l 7),o 37 (ln 36),o 38 (.mv (c (n 0)))]),
 (.block 4 (.loop (q [(.reg [o 39 (b .lss 38 37)]),
 (i 39 .skip (.exit 4)),
 (.block 5 (q [(.reg [o 40 (m 38),o 41 (ia 1 36 38),o 42 (l 41),o 10 (.alloc [(n 0)]),w (.store 1 (t 10) (t 40)),o 11 (m 42)]),
 (.reg [o 43 (m 11),o 44 (.call 66 [(t 43)])]),
 (.block 6 (.rng (t 44) [45] (.reg [o 12 (m 45)]) (.block 7 (q [(.reg [o 46 (la 3 2),o 47 (la 3 3),o 48 (l 7),o 49 (l 10),o 50 (m 12),o 51 (.call 67 [(t 46),(t 47),(t 48),(t 49),(t 50)]),o 52 (.un .not (t 51))]),
 (i 52 (q [(.regd [o 53 (l 7),o 54 (l 10),o 55 (ia 1 53 54),o 56 (l 55),o 57 (m 12),o 58 (.bin .shl (c (u 1)) (t 57)),o 59 (b .andNot 56 58),o 60 (ia 1 53 54),w (.store 1 (t 60) (t 59))] [0,0,3,7,0,16,63,127,255]),
 (.reg [w (.store 1 (t 9) (c .bt))])]) .skip)]))))])),
 (.reg [o 61 (bc .add 38 (n 1)),o 38 (m 61)])])))])),
 (.reg [o 62 (l 9)]),
 (.reg [o 9 (.alloc [.bf]),w (.store 1 (t 9) (t 62))])])))]),
 (.reg [o 63 (l 7),o 4 (m 63),o 5 (.mv (c (n 0)))]),
 .ret])⟩
def zdR:CFn:=⟨9,[.tmp 4],(q [(.reg [o 4 (.mv (c .bf))]),
 (.reg [o 5 (m 0),o 6 (m 1),o 7 (.call 120 [(t 5),(t 6)]),o 8 (bc .geq 7 (n 0)),o 4 (m 8)]),
 .ret])⟩
def zlP:CFn:=⟨9,[.tmp 3],(q [(.reg [o 3 (.mv (c .bf))]),
 (.reg [o 4 (m 0),o 5 (l 1),o 6 (.call 84 [(t 5)]),o 7 (b .andNot 4 6),o 8 (bc .neq 7 (u 0)),o 3 (m 8)]),
 .ret])⟩
def zss:CFn:=⟨8,[.tmp 2],(q [(.reg [o 2 (.mv (c (u 0)))]),
 (q [(.reg [o 3 (m 0),o 4 (bc .geq 3 (n 64))]),
 (i 4 (q [(.reg [o 2 (.mv (c (u 18446744073709551615)))]),
 .ret]) .skip)]),
 (.reg [o 5 (m 0),o 6 (.bin .shl (c (u 1)) (t 5)),o 7 (bc .sub 6 (u 1)),o 2 (m 7)]),
 .ret])⟩
def zdW:CFn:=⟨19,[.tmp 4],(q [(.reg [o 4 (.mv (c (n 0)))]),
 (q [(.reg [o 6 (m 0),o 7 (ln 6),o 8 (.mv (c (n 0)))]),
 (.block 0 (.loop (q [(.reg [o 9 (b .lss 8 7)]),
 (i 9 .skip (.exit 0)),
 (.block 1 (q [(.reg [o 10 (m 8),o 5 (m 10)]),
 (.reg [o 11 (m 1),o 12 (m 0),o 13 (m 5),o 14 (ia 1 12 13),o 15 (l 14),o 16 (.callv (t 11) [(t 15)])]),
 (i 16 (q [(.reg [o 17 (m 5),o 4 (m 17)]),
 .ret]) .skip)])),
 (.reg [o 18 (bc .add 8 (n 1)),o 8 (m 18)])])))]),
 (.reg [o 4 (.mv (c (n (-1))))]),
 .ret])⟩
def zqU:CFn:=⟨25,[.tmp 4],(q [(.reg [o 4 (.mv (c (u 0)))]),
 (.reg [o 5 (.mv (c (u 0)))]),
 (q [(.reg [o 8 (m 1),o 9 (ln 8),o 10 (.mv (c (n 0)))]),
 (.block 0 (.loop (q [(.reg [o 11 (b .lss 10 9)]),
 (i 11 .skip (.exit 0)),
 (.block 1 (q [(.reg [o 12 (m 10),o 13 (ia 1 8 10),o 14 (l 13),o 6 (m 12),o 7 (m 14)]),
 (.reg [o 15 (m 5),o 16 (m 0),o 17 (m 7),o 18 (b .shr 16 17),o 19 (bc .and 18 (u 1)),o 20 (m 6),o 21 (b .shl 19 20),o 22 (b .or 15 21),o 5 (m 22)])])),
 (.reg [o 23 (bc .add 10 (n 1)),o 10 (m 23)])])))]),
 (.reg [o 24 (m 5),o 4 (m 24)]),
 .ret])⟩
def zoR:CFn:=⟨21,[.tmp 4,.tmp 5],(q [(.reg [o 2 (.box 3 (t 0)),o 4 (.mv (c (.nils 1))),o 5 (.mv (c (n 0)))]),
 (.reg [o 6 (.alloc [(.nils 1)])]),
 (.reg [o 7 (.alloc [(n 0)]),w (.store 1 (t 7) (c (n (-1))))]),
 (q [(.reg [o 9 (la 3 2),o 10 (m 1),o 11 (.call 121 [(t 9),(t 10)])]),
 (.block 0 (.rng (t 11) [12] (.reg [o 8 (m 12)]) (.block 1 (q [(q [(.reg [o 13 (m 8),o 14 (l 6),o 15 (.call 122 [(t 13),(t 14)])]),
 (i 15 (.exit 0) .skip)]),
 (.reg [o 16 (m 8),w (.store 1 (t 6) (t 16))]),
 (.reg [o 17 (l 7),o 18 (bc .add 17 (n 1)),w (.store 1 (t 7) (t 18))])]))))]),
 (.regd [o 19 (l 6),o 20 (l 7),o 4 (m 19),o 5 (m 20)] [0,0,1,7]),
 .ret])⟩
def zhd:CFn:=⟨8,[.tmp 2],(q [(.reg [o 2 (.mv (c (.nils 1)))]),
 (q [(.reg [o 3 (m 0),o 4 (.eqN false (t 3) (c (.nils 1)))]),
 (i 4 (q [(.reg [o 2 (.mv (c (.nils 1)))]),
 .ret]) .skip)]),
 (.reg [o 5 (.bslice 1 0 [(n 0)] []),o 6 (m 0),o 7 (.app 1 8 (t 5) (t 6)),o 2 (m 7)]),
 .ret])⟩
def zhH:CFn:=⟨11,[],(q [(.reg [o 3 (m 0),o 4 (ln 3),o 2 (m 4)]),
 (.reg [o 5 (m 0),o 6 (m 2),o 7 (m 2),o 8 (.conv .u64 (t 7)),o 9 (.call 128 [(t 8)]),o 10 (.call 127 [(t 5),(c (n 0)),(t 6),(t 9)])])])⟩
def zgx:CFn:=⟨61,[.tmp 2],(q [(.reg [o 2 (.mv (c (.nils 1)))]),
 (q [(.reg [o 6 (m 0),o 7 (ln 6),o 8 (bc .lss 7 (n 2))]),
 (i 8 (q [(.reg [o 9 (m 0),o 2 (m 9)]),
 .ret]) .skip)]),
 (q [(.reg [o 3 (.mv (c (n 1)))]),
 (.block 0 (.loop (q [(q [(.reg [o 10 (m 3),o 11 (m 0),o 12 (ln 11),o 13 (b .lss 10 12)]),
 (i 13 .skip (.exit 0))]),
 (.block 1 (q [(.regd [o 16 (m 0),o 17 (m 3),o 18 (ia 1 16 17),o 19 (l 18),o 20 (m 0),o 21 (m 3),o 22 (bc .sub 21 (n 1)),o 23 (ia 1 20 22),o 24 (l 23),o 25 (b .eql 19 24)] [0,0,3,7,0,0,32,112,240,511]),
 (i 25 (q [(.reg [o 26 (m 0),o 27 (m 3),o 28 (.slice 1 (t 26) (some (t 27)) none),o 4 (m 28)]),
 (q [(.reg [o 5 (.mv (c (n 1)))]),
 (.block 2 (.loop (q [(q [(.reg [o 29 (m 5),o 30 (m 4),o 31 (ln 30),o 32 (b .lss 29 31)]),
 (i 32 .skip (.exit 2))]),
 (.block 3 (q [(.regd [o 35 (m 4),o 36 (m 5),o 37 (ia 1 35 36),o 38 (l 37),o 39 (m 4),o 40 (m 5),o 41 (bc .sub 40 (n 1)),o 42 (ia 1 39 41),o 43 (l 42),o 44 (b .neq 38 43)] [0,0,3,7,0,0,32,112,240,511]),
 (i 44 (q [(.reg [o 45 (m 0),o 46 (m 3),o 47 (m 4),o 48 (m 5),o 49 (ia 1 47 48),o 50 (l 49),o 51 (ia 1 45 46),w (.store 1 (t 51) (t 50))]),
 (.reg [o 52 (m 3),o 53 (bc .add 52 (n 1)),o 3 (m 53)])]) .skip)])),
 (.reg [o 33 (m 5),o 34 (bc .add 33 (n 1)),o 5 (m 34)])])))]),
 (.reg [o 54 (m 0),o 55 (m 3),o 56 (.slice 1 (t 54) (some (t 55)) none),w (.clear 1 [(n 0)] (t 56))]),
 (.reg [o 57 (m 0),o 58 (m 3),o 59 (.slice 1 (t 57) none (some (t 58))),o 2 (m 59)]),
 .ret]) .skip)])),
 (.reg [o 14 (m 3),o 15 (bc .add 14 (n 1)),o 3 (m 15)])])))]),
 (.reg [o 60 (m 0),o 2 (m 60)]),
 .ret])⟩
def zlK:CFn:=⟨14,[],(.block 0 (.loop (q [(q [(.reg [o 3 (l 1),o 4 (bc .neq 3 (u 0))]),
 (i 4 .skip (.exit 0))]),
 (.block 1 (q [(.reg [o 9 (m 0),o 10 (l 1),o 11 (.call 100 [(t 10)]),o 12 (.callv (t 9) [(t 11)]),o 13 (.un .not (t 12))]),
 (i 13 .ret .skip)])),
 (.reg [o 5 (l 1),o 6 (l 1),o 7 (bc .sub 6 (u 1)),o 8 (b .and 5 7),w (.store 1 (t 1) (t 8))])])))⟩
def zlL:CFn:=⟨33,[.tmp 4,.tmp 5],(q [(.reg [o 2 (.box 3 (t 0)),o 4 (.mv (c (.nils 1))),o 5 (.mv (c (n 0)))]),
 (.reg [o 6 (.mv (c (.nils 1)))]),
 (q [(.reg [o 9 (f 0 2),o 10 (l 9),o 11 (.mv (c (n 0)))]),
 (.block 0 (.loop (q [(.reg [o 12 (b .lss 11 10)]),
 (i 12 .skip (.exit 0)),
 (.block 1 (q [(.reg [o 13 (m 11),o 7 (m 13)]),
 (.reg [o 8 (.mv (c (n 1)))]),
 (q [(.reg [o 14 (m 7),o 15 (m 1),o 16 (b .eql 14 15)]),
 (i 16 (.reg [o 8 (.mv (c (n 0)))]) .skip)]),
 (.reg [o 17 (m 6),o 18 (m 8),o 19 (.bslice 1 1 [(n 0)] [(0,(t 18))]),o 20 (la 3 2),o 21 (m 7),o 22 (.call 54 [(t 20),(t 21)]),o 23 (.bslice 1 1 [(n 0)] [(0,(t 22))]),o 24 (.bslice 1 2 [(.nils 1)] [(0,(t 19)),(1,(t 23))]),o 25 (.bslice 1 1 [(.nils 1)] [(0,(t 24))]),o 26 (.app 1 24 (t 17) (t 25)),o 6 (m 26)])])),
 (.reg [o 27 (bc .add 11 (n 1)),o 11 (m 27)])])))]),
 (.reg [o 28 (m 6),o 29 (.fnew zca [(t 2)]),o 30 (.call 124 [(t 28),(t 29)]),o 31 (e 30 0),o 32 (e 30 1),o 4 (m 31),o 5 (m 32)]),
 .ret])⟩
def znL:CFn:=⟨16,[.tmp 2],(q [(.reg [o 2 (.mv (c (.nils 1)))]),
 (.reg [o 3 (.mv (c (.nils 1)))]),
 (.block 0 (.loop (q [(q [(.reg [o 4 (m 0),o 5 (bc .neq 4 (u 0))]),
 (i 5 .skip (.exit 0))]),
 (.block 1 (.reg [o 10 (m 3),o 11 (m 0),o 12 (.call 100 [(t 11)]),o 13 (.bslice 1 1 [(n 0)] [(0,(t 12))]),o 14 (.app 1 8 (t 10) (t 13)),o 3 (m 14)])),
 (.reg [o 6 (m 0),o 7 (m 0),o 8 (bc .sub 7 (u 1)),o 9 (b .and 6 8),o 0 (m 9)])]))),
 (.reg [o 15 (m 3),o 2 (m 15)]),
 .ret])⟩
def zfh:CFn:=⟨26,[.tmp 4],(q [(.reg [o 4 (.mv (c .bf))]),
 (q [(.reg [o 6 (m 0),o 7 (ln 6),o 8 (m 1),o 9 (ln 8),o 10 (b .neq 7 9)]),
 (i 10 (q [(.reg [o 4 (.mv (c .bf))]),
 .ret]) .skip)]),
 (q [(.reg [o 11 (m 0),o 12 (ln 11),o 13 (.mv (c (n 0)))]),
 (.block 0 (.loop (q [(.reg [o 14 (b .lss 13 12)]),
 (i 14 .skip (.exit 0)),
 (.block 1 (q [(.reg [o 15 (m 13),o 5 (m 15)]),
 (.regd [o 16 (m 0),o 17 (m 5),o 18 (ia 1 16 17),o 19 (l 18),o 20 (m 1),o 21 (m 5),o 22 (ia 1 20 21),o 23 (l 22),o 24 (b .neq 19 23)] [0,0,3,7,0,0,48,112,255]),
 (i 24 (q [(.reg [o 4 (.mv (c .bf))]),
 .ret]) .skip)])),
 (.reg [o 25 (bc .add 13 (n 1)),o 13 (m 25)])])))]),
 (.reg [o 4 (.mv (c .bt))]),
 .ret])⟩
def zbE:CFn:=⟨32,[.tmp 6],(q [(.reg [o 6 (.mv (c .bf))]),
 (q [(.reg [o 10 (m 0),o 11 (ln 10),o 12 (m 1),o 13 (ln 12),o 14 (b .neq 11 13)]),
 (i 14 (q [(.reg [o 6 (.mv (c .bf))]),
 .ret]) .skip)]),
 (q [(.reg [o 15 (m 0),o 16 (ln 15),o 17 (.mv (c (n 0)))]),
 (.block 0 (.loop (q [(.reg [o 18 (b .lss 17 16)]),
 (i 18 .skip (.exit 0)),
 (.block 1 (q [(.reg [o 19 (m 17),o 20 (ia 1 15 17),o 21 (l 20),o 7 (m 19),o 8 (m 21)]),
 (.reg [o 22 (m 1),o 23 (m 7),o 24 (ia 1 22 23),o 25 (l 24),o 9 (m 25)]),
 (.reg [o 26 (m 2),o 27 (m 8),o 28 (m 9),o 29 (.callv (t 26) [(t 27),(t 28)]),o 30 (.un .not (t 29))]),
 (i 30 (q [(.reg [o 6 (.mv (c .bf))]),
 .ret]) .skip)])),
 (.reg [o 31 (bc .add 17 (n 1)),o 17 (m 31)])])))]),
 (.reg [o 6 (.mv (c .bt))]),
 .ret])⟩
def zoT:CFn:=⟨8,[.tmp 4],(q [(.reg [o 4 (.mv (c .bf))]),
 (.reg [o 5 (m 0),o 6 (m 1),o 7 (.call 113 [(t 5),(t 6)]),o 4 (m 7)]),
 .ret])⟩
def zev:CFn:=⟨19,[.tmp 4],(q [(.reg [o 4 (.mv (c (n 0)))]),
 (q [(.reg [o 6 (m 0),o 7 (ln 6),o 8 (.mv (c (n 0)))]),
 (.block 0 (.loop (q [(.reg [o 9 (b .lss 8 7)]),
 (i 9 .skip (.exit 0)),
 (.block 1 (q [(.reg [o 10 (m 8),o 5 (m 10)]),
 (.reg [o 11 (m 1),o 12 (m 0),o 13 (m 5),o 14 (ia 1 12 13),o 15 (l 14),o 16 (.callv (t 11) [(t 15)])]),
 (i 16 (q [(.reg [o 17 (m 5),o 4 (m 17)]),
 .ret]) .skip)])),
 (.reg [o 18 (bc .add 8 (n 1)),o 8 (m 18)])])))]),
 (.reg [o 4 (.mv (c (n (-1))))]),
 .ret])⟩
def zoQ:CFn:=⟨6,[.tmp 4],(q [(.reg [o 2 (.box 3 (t 0)),o 3 (.box 1 (t 1)),o 4 (.mv (c (.d .nil)))]),
 (.reg [o 5 (.fnew zdl [(t 2),(t 3)]),o 4 (m 5)]),
 .ret])⟩
def zhe:CFn:=⟨26,[.tmp 4],(q [(.reg [o 4 (.mv (c .bf))]),
 (q [(.reg [o 6 (m 0),o 7 (ln 6),o 8 (m 1),o 9 (ln 8),o 10 (b .neq 7 9)]),
 (i 10 (q [(.reg [o 4 (.mv (c .bf))]),
 .ret]) .skip)]),
 (q [(.reg [o 11 (m 0),o 12 (ln 11),o 13 (.mv (c (n 0)))]),
 (.block 0 (.loop (q [(.reg [o 14 (b .lss 13 12)]),
 (i 14 .skip (.exit 0)),
 (.block 1 (q [(.reg [o 15 (m 13),o 5 (m 15)]),
 (.regd [o 16 (m 0),o 17 (m 5),o 18 (ia 1 16 17),o 19 (l 18),o 20 (m 1),o 21 (m 5),o 22 (ia 1 20 21),o 23 (l 22),o 24 (b .neq 19 23)] [0,0,3,7,0,0,48,112,255]),
 (i 24 (q [(.reg [o 4 (.mv (c .bf))]),
 .ret]) .skip)])),
 (.reg [o 25 (bc .add 13 (n 1)),o 13 (m 25)])])))]),
 (.reg [o 4 (.mv (c .bt))]),
 .ret])⟩
def zlM:CFn:=⟨45,[.tmp 4,.tmp 5],(q [(.reg [o 4 (.mv (c (.nils 1))),o 5 (.mv (c (n 0)))]),
 (.reg [o 13 (m 0),o 14 (.call 157 [(t 13)]),o 12 (m 14),o 15 (e 12 0),o 16 (e 12 1),o 6 (m 15),o 7 (m 16)]),
 (.block 0 (.loop (.block 1 (q [(.reg [o 17 (m 6),o 18 (ln 17),o 19 (.mkslice 1 24 [(.nils 1)] (t 18) (t 18)),o 8 (m 19)]),
 (q [(.reg [o 20 (m 8),o 21 (ln 20),o 22 (.mv (c (n 0)))]),
 (.block 2 (.loop (q [(.reg [o 23 (b .lss 22 21)]),
 (i 23 .skip (.exit 2)),
 (.block 3 (q [(.reg [o 24 (m 22),o 9 (m 24)]),
 (.reg [o 25 (m 8),o 26 (m 9),o 27 (m 1),o 28 (m 6),o 29 (m 9),o 30 (.callv (t 27) [(t 28),(t 29)]),o 31 (ia 1 25 26),w (.store 1 (t 31) (t 30))])])),
 (.reg [o 32 (bc .add 22 (n 1)),o 22 (m 32)])])))]),
 (.reg [o 34 (m 8),o 35 (.call 157 [(t 34)]),o 33 (m 35),o 36 (e 33 0),o 37 (e 33 1),o 10 (m 36),o 11 (m 37)]),
 (q [(.reg [o 38 (m 11),o 39 (m 7),o 40 (b .eql 38 39)]),
 (i 40 (q [(.reg [o 41 (m 6),o 42 (m 7),o 4 (m 41),o 5 (m 42)]),
 .ret]) .skip)]),
 (.reg [o 43 (m 10),o 44 (m 11),o 6 (m 43),o 7 (m 44)])]))))])⟩
def zlN:CFn:=⟨26,[.tmp 4],(q [(.reg [o 4 (.mv (c (.nils 1)))]),
 (.reg [o 5 (.mv (c (.nils 1)))]),
 (q [(.reg [o 8 (m 1),o 9 (.call 156 [(t 8)]),o 10 (ln 9),o 11 (.mv (c (n 0)))]),
 (.block 0 (.loop (q [(.reg [o 12 (b .lss 11 10)]),
 (i 12 .skip (.exit 0)),
 (.block 1 (q [(.reg [o 13 (ia 1 9 11),o 14 (l 13),o 7 (m 14)]),
 (.reg [o 15 (m 5),o 16 (m 0),o 17 (m 7),o 18 (ia 1 16 17),o 19 (l 18),o 20 (.bslice 1 1 [(n 0)] [(0,(t 19))]),o 21 (.app 1 8 (t 15) (t 20)),o 5 (m 21)])])),
 (.reg [o 22 (bc .add 11 (n 1)),o 11 (m 22)])])))]),
 (.reg [o 23 (m 5),o 24 (.call 92 [(t 23)])]),
 (.reg [o 25 (m 5),o 4 (m 25)]),
 .ret])⟩
def zfI:CFn:=⟨134,[],(q [(.reg [o 8 (.mv (c .bt))]),
 (.reg [o 9 (.mv (c .bt))]),
 (.block 0 (.loop (.block 1 (q [(.reg [o 19 (m 2),o 20 (m 1),o 21 (b .sub 19 20),o 10 (m 21)]),
 (q [(.reg [o 22 (m 10),o 23 (bc .leq 22 (n 12))]),
 (i 23 (q [(.reg [o 24 (m 0),o 25 (m 1),o 26 (m 2),o 27 (.call 158 [(t 24),(t 25),(t 26)])]),
 .ret]) .skip)]),
 (q [(.reg [o 28 (m 3),o 29 (bc .eql 28 (n 0))]),
 (i 29 (q [(.reg [o 30 (m 0),o 31 (m 1),o 32 (m 2),o 33 (.call 159 [(t 30),(t 31),(t 32)])]),
 .ret]) .skip)]),
 (q [(.reg [o 34 (m 8),o 35 (.un .not (t 34))]),
 (i 35 (q [(.reg [o 36 (m 0),o 37 (m 1),o 38 (m 2),o 39 (.call 160 [(t 36),(t 37),(t 38)])]),
 (.reg [o 40 (m 3),o 41 (bc .sub 40 (n 1)),o 3 (m 41)])]) .skip)]),
 (.reg [o 43 (m 0),o 44 (m 1),o 45 (m 2),o 46 (.call 161 [(t 43),(t 44),(t 45)]),o 42 (m 46),o 47 (e 42 0),o 48 (e 42 1),o 11 (m 47),o 12 (m 48)]),
 (q [(.reg [o 49 (m 12),o 50 (bc .eql 49 (n 2))]),
 (i 50 (q [(.reg [o 51 (m 0),o 52 (m 1),o 53 (m 2),o 54 (.call 162 [(t 51),(t 52),(t 53)])]),
 (.reg [o 55 (m 2),o 56 (bc .sub 55 (n 1)),o 57 (m 11),o 58 (m 1),o 59 (b .sub 57 58),o 60 (b .sub 56 59),o 11 (m 60)]),
 (.reg [o 12 (.mv (c (n 1)))])]) .skip)]),
 (q [(.reg [o 61 (m 8),o 62 (m 61),g 63 62 true (m 9),o 64 (pf 62 63),o 65 (m 64),g 66 65 true (m 12),g 67 65 true (bc .eql 66 (n 1)),o 68 (pf 65 67)]),
 (i 68 (q [(.reg [o 69 (m 0),o 70 (m 1),o 71 (m 2),o 72 (.call 163 [(t 69),(t 70),(t 71)])]),
 (i 72 .ret .skip)]) .skip)]),
 (q [(.regd [o 73 (m 1),o 74 (bc .gtr 73 (n 0)),o 75 (m 74),g 76 75 true (m 0),g 77 75 true (m 1),g 78 75 true (bc .sub 77 (n 1)),g 79 75 true (ia 1 76 78),g 80 75 true (l 79),g 81 75 true (m 0),g 82 75 true (m 11),g 83 75 true (ia 1 81 82),g 84 75 true (l 83),g 85 75 true (.call 164 [(t 80),(t 84)]),g 86 75 true (.un .not (t 85)),o 87 (pf 75 86)] [0,1,3,7,7,23,63,127,7,7,775,1799,4095,8191,16383]),
 (i 87 (q [(.reg [o 88 (m 0),o 89 (m 1),o 90 (m 2),o 91 (m 11),o 92 (.call 165 [(t 88),(t 89),(t 90),(t 91)]),o 13 (m 92)]),
 (.reg [o 93 (m 13),o 1 (m 93)]),
 (.exit 1)]) .skip)]),
 (.reg [o 95 (m 0),o 96 (m 1),o 97 (m 2),o 98 (m 11),o 99 (.call 166 [(t 95),(t 96),(t 97),(t 98)]),o 94 (m 99),o 100 (e 94 0),o 101 (e 94 1),o 14 (m 100),o 15 (m 101)]),
 (.reg [o 102 (m 15),o 9 (m 102)]),
 (.reg [o 103 (m 14),o 104 (m 1),o 105 (b .sub 103 104),o 106 (m 2),o 107 (m 14),o 108 (b .sub 106 107),o 16 (m 105),o 17 (m 108)]),
 (.reg [o 109 (m 10),o 110 (bc .quo 109 (n 8)),o 18 (m 110)]),
 (.reg [o 111 (m 16),o 112 (m 17),o 113 (b .lss 111 112)]),
 (i 113 (q [(.reg [o 114 (m 16),o 115 (m 18),o 116 (b .geq 114 115),o 8 (m 116)]),
 (.reg [o 117 (m 0),o 118 (m 1),o 119 (m 14),o 120 (m 3),o 121 (.call 127 [(t 117),(t 118),(t 119),(t 120)])]),
 (.reg [o 122 (m 14),o 123 (bc .add 122 (n 1)),o 1 (m 123)])]) (q [(.reg [o 124 (m 17),o 125 (m 18),o 126 (b .geq 124 125),o 8 (m 126)]),
 (.reg [o 127 (m 0),o 128 (m 14),o 129 (bc .add 128 (n 1)),o 130 (m 2),o 131 (m 3),o 132 (.call 127 [(t 127),(t 129),(t 130),(t 131)])]),
 (.reg [o 133 (m 14),o 2 (m 133)])]))]))))])⟩
def znI:CFn:=⟨8,[.tmp 2],(q [(.reg [o 2 (.mv (c (n 0)))]),
 (.cond (c .bf) (q [(.reg [o 3 (m 0),o 4 (.conv .u32 (t 3)),o 5 (.call 167 [(t 4)]),o 2 (m 5)]),
 .ret]) .skip),
 (.reg [o 6 (m 0),o 7 (.call 65 [(t 6)]),o 2 (m 7)]),
 .ret])⟩
def zj4:CFn:=⟨34,[.tmp 5],(q [(.reg [o 5 (.mv (c (.nils 1)))]),
 (.reg [o 9 (m 0),o 10 (m 1),o 11 (ia 1 9 10),o 12 (l 11),o 13 (.bslice 1 1 [(n 0)] [(0,(t 12))]),o 14 (.bslice 1 1 [(.nils 1)] [(0,(t 13))]),o 6 (m 14)]),
 (q [(.reg [o 15 (f 2 2),o 16 (l 15),o 17 (ln 16),o 18 (.mv (c (n 0)))]),
 (.block 0 (.loop (q [(.reg [o 19 (b .lss 18 17)]),
 (i 19 .skip (.exit 0)),
 (.block 1 (q [(.reg [o 20 (ia 1 16 18),o 21 (l 20),o 8 (m 21)]),
 (.reg [o 22 (m 6),o 23 (m 0),o 24 (m 8),o 25 (m 1),o 26 (ia 1 24 25),o 27 (l 26),o 28 (.call 126 [(t 23),(t 27)]),o 29 (.call 93 [(t 28)]),o 30 (.bslice 1 1 [(.nils 1)] [(0,(t 29))]),o 31 (.app 1 24 (t 22) (t 30)),o 6 (m 31)])])),
 (.reg [o 32 (bc .add 18 (n 1)),o 18 (m 32)])])))]),
 (.reg [o 33 (m 6),o 5 (m 33)]),
 .ret])⟩
def zmI:CFn:=⟨93,[],(q [(.reg [o 15 (f 0 1),o 16 (l 15),o 17 (.mkslice 1 8 [(n 0)] (t 16) (t 16)),o 4 (m 17)]),
 (.reg [o 18 (f 0 1),o 19 (l 18),o 20 (.mkslice 1 8 [(n 0)] (t 19) (t 19)),o 5 (m 20)]),
 (q [(.reg [o 21 (m 5),o 22 (ln 21),o 23 (.mv (c (n 0)))]),
 (.block 0 (.loop (q [(.reg [o 24 (b .lss 23 22)]),
 (i 24 .skip (.exit 0)),
 (.block 1 (q [(.reg [o 25 (m 23),o 6 (m 25)]),
 (.reg [o 26 (m 5),o 27 (m 6),o 28 (la 3 1),o 29 (m 6),o 30 (.call 54 [(t 28),(t 29)]),o 31 (ia 1 26 27),w (.store 1 (t 31) (t 30))])])),
 (.reg [o 32 (bc .add 23 (n 1)),o 23 (m 32)])])))]),
 (.reg [o 34 (m 4),o 35 (m 5),o 36 (.call 153 [(t 34),(t 35)]),o 33 (m 36),o 37 (e 33 0),o 38 (e 33 1),o 4 (m 37)]),
 (.block 2 (.loop (q [(q [(.reg [o 39 (m 0),o 40 (m 4),o 41 (.callv (t 39) [(t 40)])]),
 (i 41 .skip (.exit 2))]),
 (.block 3 (q [(.reg [o 42 .mkmap,o 7 (m 42)]),
 (.reg [o 43 (f 0 1),o 44 (l 43),o 45 (.mkslice 1 8 [(n 0)] (t 44) (t 44)),o 8 (m 45)]),
 (q [(.reg [o 46 (m 8),o 47 (ln 46),o 48 (.mv (c (n 0)))]),
 (.block 4 (.loop (q [(.reg [o 49 (b .lss 48 47)]),
 (i 49 .skip (.exit 4)),
 (.block 5 (q [(.reg [o 50 (m 48),o 9 (m 50)]),
 (.reg [o 10 (.mv (c (.d (.str []))))]),
 (q [(.reg [o 51 (l 2),o 52 (ln 51),o 53 (.mv (c (n 0)))]),
 (.block 6 (.loop (q [(.reg [o 54 (b .lss 53 52)]),
 (i 54 .skip (.exit 6)),
 (.block 7 (q [(.reg [o 55 (ia 1 51 53),o 56 (l 55),o 12 (m 56)]),
 (.reg [o 57 (m 10),o 58 (m 4),o 59 (m 12),o 60 (m 9),o 61 (ia 1 59 60),o 62 (l 61),o 63 (.call 155 [(t 58),(t 62)]),o 64 (.call 154 [(t 63),(c (n 16))]),o 65 (bc .add 64 (.d (.str [32]))),o 66 (b .add 57 65),o 10 (m 66)])])),
 (.reg [o 67 (bc .add 53 (n 1)),o 53 (m 67)])])))]),
 (q [(.reg [o 69 (m 7),o 70 (m 10),o 71 (.look .str [(n 0)] (t 69) (t 70) true),o 68 (m 71),o 72 (e 68 0),o 73 (e 68 1),o 13 (m 72),o 14 (m 73)]),
 (.reg [o 74 (m 14),o 75 (.un .not (t 74))]),
 (i 75 (.reg [o 76 (m 7),o 77 (m 10),o 78 (m 7),o 79 (.lenm (t 78)),w (.mupd .str (t 76) (t 77) (t 79))]) .skip)]),
 (.reg [o 80 (m 8),o 81 (m 9),o 82 (m 7),o 83 (m 10),o 84 (.look .str [(n 0)] (t 82) (t 83) false),o 85 (ia 1 80 81),w (.store 1 (t 85) (t 84))])])),
 (.reg [o 86 (bc .add 48 (n 1)),o 48 (m 86)])])))]),
 (.reg [o 88 (m 4),o 89 (m 8),o 90 (.call 153 [(t 88),(t 89)]),o 87 (m 90),o 91 (e 87 0),o 92 (e 87 1),o 4 (m 91)])]))])))])⟩
def zlR:CFn:=⟨20,[.tmp 4,.tmp 5],(q [(.reg [o 4 (.mv (c (.nils 1))),o 5 (.mv (c (n 0)))]),
 (q [(.reg [o 7 (m 0),o 8 (.call 53 [(t 7)]),o 6 (m 8)]),
 (.reg [o 9 (m 6),o 10 (bc .neq 9 (n 0))]),
 (i 10 (q [(.reg [o 11 (m 6),o 4 (.mv (c (.nils 1))),o 5 (m 11)]),
 .ret]) .skip)]),
 (q [(.reg [o 12 (m 0),o 13 (ln 12),o 14 (m 1),o 15 (ln 14),o 16 (b .neq 13 15)]),
 (i 16 (q [(.reg [o 4 (.mv (c (.nils 1))),o 5 (.mv (c (n 3)))]),
 .ret]) .skip)]),
 (.reg [o 17 (m 0),o 18 (m 1),o 19 (.call 183 [(t 17),(t 18)]),o 4 (m 19),o 5 (.mv (c (n 0)))]),
 .ret])⟩
def zjf:CFn:=⟨8,[.tmp 4],(q [(.reg [o 4 (.mv (c (.d (.str []))))]),
 (.reg [o 5 (m 0),o 6 (m 1),o 7 (.call 184 [(t 5),(t 6)]),o 4 (m 7)]),
 .ret])⟩
def znG:CFn:=⟨18,[.tmp 4],(q [(.reg [o 2 (.box 1 (t 0)),o 4 (.mv (c (u 0)))]),
 (.reg [o 5 (.alloc [(u 0)])]),
 (q [(.reg [o 7 (m 1),o 8 (.call 66 [(t 7)])]),
 (.block 0 (.rng (t 8) [9] (.reg [o 6 (m 9)]) (.block 1 (.regd [o 10 (l 5),o 11 (l 2),o 12 (m 6),o 13 (ia 1 11 12),o 14 (l 13),o 15 (.bin .shl (c (u 1)) (t 14)),o 16 (b .or 10 15),w (.store 1 (t 5) (t 16))] [0,0,0,6,14,30,63,127]))))]),
 (.reg [o 17 (l 5),o 4 (m 17)]),
 .ret])⟩
def zkg:CFn:=⟨16,[.tmp 2],(q [(.reg [o 2 (.mv (c (.nils 1)))]),
 (.reg [o 3 (.mv (c (.nils 1)))]),
 (.block 0 (.loop (q [(q [(.reg [o 4 (m 0),o 5 (bc .neq 4 (u 0))]),
 (i 5 .skip (.exit 0))]),
 (.block 1 (.reg [o 10 (m 3),o 11 (m 0),o 12 (.call 100 [(t 11)]),o 13 (.bslice 1 1 [(n 0)] [(0,(t 12))]),o 14 (.app 1 8 (t 10) (t 13)),o 3 (m 14)])),
 (.reg [o 6 (m 0),o 7 (m 0),o 8 (bc .sub 7 (u 1)),o 9 (b .and 6 8),o 0 (m 9)])]))),
 (.reg [o 15 (m 3),o 2 (m 15)]),
 .ret])⟩
def zmL:CFn:=⟨37,[.tmp 2,.tmp 3],(q [(.reg [o 2 (.mv (c (.nils 1))),o 3 (.mv (c (n 0)))]),
 (.reg [o 8 (m 0),o 9 (.call 185 [(t 8)]),o 4 (m 9)]),
 (.reg [o 10 (m 4),o 11 (.call 186 [(t 10),(c (.fn zM []))])]),
 (.reg [o 12 (m 4),o 13 (.call 188 [(t 12),(c (.fn zcr []))]),o 4 (m 13)]),
 (.reg [o 14 (m 0),o 15 (ln 14),o 16 (.mkslice 1 8 [(n 0)] (t 15) (t 15)),o 5 (m 16)]),
 (q [(.reg [o 17 (m 0),o 18 (ln 17),o 19 (.mv (c (n 0)))]),
 (.block 0 (.loop (q [(.reg [o 20 (b .lss 19 18)]),
 (i 20 .skip (.exit 0)),
 (.block 1 (q [(.reg [o 21 (m 19),o 22 (ia 1 17 19),o 23 (l 22),o 6 (m 21),o 7 (m 23)]),
 (.reg [o 25 (m 5),o 26 (m 6),o 27 (m 4),o 28 (m 7),o 29 (.call 190 [(t 27),(t 28),(c (.fn zM []))]),o 24 (m 29),o 30 (e 24 0),o 31 (e 24 1),o 32 (ia 1 25 26),w (.store 1 (t 32) (t 30))])])),
 (.reg [o 33 (bc .add 19 (n 1)),o 19 (m 33)])])))]),
 (.reg [o 34 (m 5),o 35 (m 4),o 36 (ln 35),o 2 (m 34),o 3 (m 36)]),
 .ret])⟩
def zew:CFn:=⟨49,[],(q [(.reg [o 8 (m 1),o 9 (bc .add 8 (n 1)),o 6 (m 9)]),
 (.block 0 (.loop (q [(q [(.reg [o 10 (m 6),o 11 (m 2),o 12 (b .lss 10 11)]),
 (i 12 .skip (.exit 0))]),
 (.block 1 (q [(.reg [o 15 (m 6),o 7 (m 15)]),
 (.block 2 (.loop (q [(q [(.regd [o 16 (m 7),o 17 (m 1),o 18 (b .gtr 16 17),o 19 (m 18),g 20 19 true (m 0),g 21 19 true (m 7),g 22 19 true (ia 1 20 21),g 23 19 true (l 22),g 24 19 true (m 0),g 25 19 true (m 7),g 26 19 true (bc .sub 25 (n 1)),g 27 19 true (ia 1 24 26),g 28 19 true (l 27),g 29 19 true (.call 164 [(t 23),(t 28)]),o 30 (pf 19 29)] [0,0,3,7,15,15,63,127,15,15,527,1807,3855,8191,16383]),
 (i 30 .skip (.exit 2))]),
 (.block 3 (.regd [o 33 (m 0),o 34 (m 7),o 35 (m 0),o 36 (m 7),o 37 (bc .sub 36 (n 1)),o 38 (m 0),o 39 (m 7),o 40 (bc .sub 39 (n 1)),o 41 (ia 1 38 40),o 42 (l 41),o 43 (m 0),o 44 (m 7),o 45 (ia 1 43 44),o 46 (l 45),o 47 (ia 1 33 34),w (.store 1 (t 47) (t 42)),o 48 (ia 1 35 37),w (.store 1 (t 48) (t 46))] [0,0,0,0,8,0,0,64,224,480,0,0,3072,7168,16355,32739,65535,131071])),
 (.reg [o 31 (m 7),o 32 (bc .sub 31 (n 1)),o 7 (m 32)])])))])),
 (.reg [o 13 (m 6),o 14 (bc .add 13 (n 1)),o 6 (m 14)])])))])⟩
def znH:CFn:=⟨17,[.tmp 4],(q [(.reg [o 4 (.mv (c .bf))]),
 (.reg [o 5 (m 0),o 6 (.call 196 [(t 5)]),o 7 (m 6),g 8 7 true (m 1),g 9 7 true (.call 196 [(t 8)]),g 10 7 true (.un .not (t 9)),o 11 (pf 7 10),o 12 (m 11),g 13 12 false (m 0),g 14 12 false (m 1),g 15 12 false (b .lss 13 14),o 16 (pt 12 15),o 4 (m 16)]),
 .ret])⟩
def zkj:CFn:=⟨48,[.tmp 4],(q [(.reg [o 4 (.mv (c (.nils 1)))]),
 (.reg [o 11 .mkmap,o 5 (m 11)]),
 (.reg [o 12 (m 0),o 13 (ln 12),o 14 (.mkslice 1 8 [(n 0)] (t 13) (t 13)),o 6 (m 14)]),
 (q [(.reg [o 15 (m 0),o 16 (ln 15),o 17 (.mv (c (n 0)))]),
 (.block 0 (.loop (q [(.reg [o 18 (b .lss 17 16)]),
 (i 18 .skip (.exit 0)),
 (.block 1 (q [(.reg [o 19 (m 17),o 7 (m 19)]),
 (.regd [o 20 (m 0),o 21 (m 7),o 22 (ia 1 20 21),o 23 (l 22),o 24 (m 1),o 25 (m 7),o 26 (ia 1 24 25),o 27 (l 26),o 28 (.build [(n 0),(n 0)] [(0,1,(t 23)),(1,1,(t 27))]),o 8 (.alloc [(n 0),(n 0)]),w (.store 2 (t 8) (t 28))] [0,0,3,7,0,0,48,112,255,0,1023]),
 (q [(.reg [o 30 (m 5),o 31 (la 2 8),o 32 (.look (.agg [(.int .i64),(.int .i64)]) [(n 0)] (t 30) (t 31) true),o 29 (m 32),o 33 (e 29 0),o 34 (e 29 1),o 9 (m 33),o 10 (m 34)]),
 (.reg [o 35 (m 10),o 36 (.un .not (t 35))]),
 (i 36 (.reg [o 37 (m 5),o 38 (la 2 8),o 39 (m 7),w (.mupd (.agg [(.int .i64),(.int .i64)]) (t 37) (t 38) (t 39))]) .skip)]),
 (.reg [o 40 (m 6),o 41 (m 7),o 42 (m 5),o 43 (la 2 8),o 44 (.look (.agg [(.int .i64),(.int .i64)]) [(n 0)] (t 42) (t 43) false),o 45 (ia 1 40 41),w (.store 1 (t 45) (t 44))])])),
 (.reg [o 46 (bc .add 17 (n 1)),o 17 (m 46)])])))]),
 (.reg [o 47 (m 6),o 4 (m 47)]),
 .ret])⟩
def zce:CFn:=⟨8,[.tmp 2],(q [(.reg [o 2 (.mv (c (.nils 1)))]),
 (q [(.reg [o 3 (m 0),o 4 (.eqN false (t 3) (c (.nils 1)))]),
 (i 4 (q [(.reg [o 2 (.mv (c (.nils 1)))]),
 .ret]) .skip)]),
 (.reg [o 5 (.bslice 1 0 [(.nils 1)] []),o 6 (m 0),o 7 (.app 1 24 (t 5) (t 6)),o 2 (m 7)]),
 .ret])⟩
def zbW:CFn:=⟨14,[],(q [(.reg [o 5 (m 0),o 6 (ln 5),o 4 (m 6)]),
 (.reg [o 7 (m 0),o 8 (m 4),o 9 (m 4),o 10 (.conv .u64 (t 9)),o 11 (.call 128 [(t 10)]),o 12 (m 1),o 13 (.call 208 [(t 7),(c (n 0)),(t 8),(t 11),(t 12)])])])⟩
def zmK:CFn:=⟨8,[.tmp 4],(q [(.reg [o 4 (.mv (c (n 0)))]),
 (.reg [o 5 (m 0),o 6 (m 1),o 7 (.call 209 [(t 5),(t 6),(c (.fn zbz []))]),o 4 (m 7)]),
 .ret])⟩
def zbM:CFn:=⟨66,[.tmp 4],(q [(.reg [o 4 (.mv (c (.nils 1)))]),
 (q [(.reg [o 8 (m 0),o 9 (ln 8),o 10 (bc .lss 9 (n 2))]),
 (i 10 (q [(.reg [o 11 (m 0),o 4 (m 11)]),
 .ret]) .skip)]),
 (q [(.reg [o 5 (.mv (c (n 1)))]),
 (.block 0 (.loop (q [(q [(.reg [o 12 (m 5),o 13 (m 0),o 14 (ln 13),o 15 (b .lss 12 14)]),
 (i 15 .skip (.exit 0))]),
 (.block 1 (q [(.regd [o 18 (m 1),o 19 (m 0),o 20 (m 5),o 21 (ia 1 19 20),o 22 (l 21),o 23 (m 0),o 24 (m 5),o 25 (bc .sub 24 (n 1)),o 26 (ia 1 23 25),o 27 (l 26),o 28 (.callv (t 18) [(t 22),(t 27)])] [0,0,0,6,14,0,0,64,224,480,1023]),
 (i 28 (q [(.reg [o 29 (m 0),o 30 (m 5),o 31 (.slice 1 (t 29) (some (t 30)) none),o 6 (m 31)]),
 (q [(.reg [o 7 (.mv (c (n 1)))]),
 (.block 2 (.loop (q [(q [(.reg [o 32 (m 7),o 33 (m 6),o 34 (ln 33),o 35 (b .lss 32 34)]),
 (i 35 .skip (.exit 2))]),
 (.block 3 (q [(.regd [o 38 (m 1),o 39 (m 6),o 40 (m 7),o 41 (ia 1 39 40),o 42 (l 41),o 43 (m 6),o 44 (m 7),o 45 (bc .sub 44 (n 1)),o 46 (ia 1 43 45),o 47 (l 46),o 48 (.callv (t 38) [(t 42),(t 47)]),o 49 (.un .not (t 48))] [0,0,0,6,14,0,0,64,224,480,1023,2047]),
 (i 49 (q [(.reg [o 50 (m 0),o 51 (m 5),o 52 (m 6),o 53 (m 7),o 54 (ia 1 52 53),o 55 (l 54),o 56 (ia 1 50 51),w (.store 1 (t 56) (t 55))]),
 (.reg [o 57 (m 5),o 58 (bc .add 57 (n 1)),o 5 (m 58)])]) .skip)])),
 (.reg [o 36 (m 7),o 37 (bc .add 36 (n 1)),o 7 (m 37)])])))]),
 (.reg [o 59 (m 0),o 60 (m 5),o 61 (.slice 1 (t 59) (some (t 60)) none),w (.clear 1 [(.nils 1)] (t 61))]),
 (.reg [o 62 (m 0),o 63 (m 5),o 64 (.slice 1 (t 62) none (some (t 63))),o 4 (m 64)]),
 .ret]) .skip)])),
 (.reg [o 16 (m 5),o 17 (bc .add 16 (n 1)),o 5 (m 17)])])))]),
 (.reg [o 65 (m 0),o 4 (m 65)]),
 .ret])⟩
def zki:CFn:=⟨9,[.tmp 4],(q [(.reg [o 4 (.mv (c .bf))]),
 (.reg [o 5 (m 0),o 6 (m 1),o 7 (.call 187 [(t 5),(t 6)]),o 8 (bc .eql 7 (n 0)),o 4 (m 8)]),
 .ret])⟩
def zaE:CFn:=⟨49,[.tmp 6,.tmp 7],(q [(.reg [o 6 (.mv (c (n 0))),o 7 (.mv (c .bf))]),
 (.reg [o 12 (m 0),o 13 (ln 12),o 8 (m 13)]),
 (.reg [o 14 (m 8),o 9 (.mv (c (n 0))),o 10 (m 14)]),
 (.block 0 (.loop (q [(q [(.reg [o 15 (m 9),o 16 (m 10),o 17 (b .lss 15 16)]),
 (i 17 .skip (.exit 0))]),
 (.block 1 (q [(.reg [o 18 (m 9),o 19 (m 10),o 20 (b .add 18 19),o 21 (.conv .u64 (t 20)),o 22 (bc .shr 21 (u 1)),o 23 (.conv .i64 (t 22)),o 11 (m 23)]),
 (.reg [o 24 (m 2),o 25 (m 0),o 26 (m 11),o 27 (ia 1 25 26),o 28 (l 27),o 29 (m 1),o 30 (.callv (t 24) [(t 28),(t 29)]),o 31 (bc .lss 30 (n 0))]),
 (i 31 (.reg [o 32 (m 11),o 33 (bc .add 32 (n 1)),o 9 (m 33)]) (.reg [o 34 (m 11),o 10 (m 34)]))]))]))),
 (.reg [o 35 (m 9),o 36 (m 9),o 37 (m 8),o 38 (b .lss 36 37),o 39 (m 38),g 40 39 true (m 2),g 41 39 true (m 0),g 42 39 true (m 9),g 43 39 true (ia 1 41 42),g 44 39 true (l 43),g 45 39 true (m 1),g 46 39 true (.callv (t 40) [(t 44),(t 45)]),g 47 39 true (bc .eql 46 (n 0)),o 48 (pf 39 47),o 6 (m 35),o 7 (m 48)]),
 .ret])⟩
def zmJ:CFn:=⟨6,[.tmp 2],(q [(.reg [o 2 (.mv (c .bf))]),
 (.reg [o 3 (m 0),o 4 (m 0),o 5 (b .neq 3 4),o 2 (m 5)]),
 .ret])⟩
def zdu:CFn:=⟨148,[],(q [(.reg [o 10 (.mv (c .bt))]),
 (.reg [o 11 (.mv (c .bt))]),
 (.block 0 (.loop (.block 1 (q [(.reg [o 21 (m 2),o 22 (m 1),o 23 (b .sub 21 22),o 12 (m 23)]),
 (q [(.reg [o 24 (m 12),o 25 (bc .leq 24 (n 12))]),
 (i 25 (q [(.reg [o 26 (m 0),o 27 (m 1),o 28 (m 2),o 29 (m 4),o 30 (.call 218 [(t 26),(t 27),(t 28),(t 29)])]),
 .ret]) .skip)]),
 (q [(.reg [o 31 (m 3),o 32 (bc .eql 31 (n 0))]),
 (i 32 (q [(.reg [o 33 (m 0),o 34 (m 1),o 35 (m 2),o 36 (m 4),o 37 (.call 219 [(t 33),(t 34),(t 35),(t 36)])]),
 .ret]) .skip)]),
 (q [(.reg [o 38 (m 10),o 39 (.un .not (t 38))]),
 (i 39 (q [(.reg [o 40 (m 0),o 41 (m 1),o 42 (m 2),o 43 (m 4),o 44 (.call 220 [(t 40),(t 41),(t 42),(t 43)])]),
 (.reg [o 45 (m 3),o 46 (bc .sub 45 (n 1)),o 3 (m 46)])]) .skip)]),
 (.reg [o 48 (m 0),o 49 (m 1),o 50 (m 2),o 51 (m 4),o 52 (.call 221 [(t 48),(t 49),(t 50),(t 51)]),o 47 (m 52),o 53 (e 47 0),o 54 (e 47 1),o 13 (m 53),o 14 (m 54)]),
 (q [(.reg [o 55 (m 14),o 56 (bc .eql 55 (n 2))]),
 (i 56 (q [(.reg [o 57 (m 0),o 58 (m 1),o 59 (m 2),o 60 (m 4),o 61 (.call 222 [(t 57),(t 58),(t 59),(t 60)])]),
 (.reg [o 62 (m 2),o 63 (bc .sub 62 (n 1)),o 64 (m 13),o 65 (m 1),o 66 (b .sub 64 65),o 67 (b .sub 63 66),o 13 (m 67)]),
 (.reg [o 14 (.mv (c (n 1)))])]) .skip)]),
 (q [(.reg [o 68 (m 10),o 69 (m 68),g 70 69 true (m 11),o 71 (pf 69 70),o 72 (m 71),g 73 72 true (m 14),g 74 72 true (bc .eql 73 (n 1)),o 75 (pf 72 74)]),
 (i 75 (q [(.reg [o 76 (m 0),o 77 (m 1),o 78 (m 2),o 79 (m 4),o 80 (.call 223 [(t 76),(t 77),(t 78),(t 79)])]),
 (i 80 .ret .skip)]) .skip)]),
 (q [(.regd [o 81 (m 1),o 82 (bc .gtr 81 (n 0)),o 83 (m 82),g 84 83 true (m 4),g 85 83 true (m 0),g 86 83 true (m 1),g 87 83 true (bc .sub 86 (n 1)),g 88 83 true (ia 1 85 87),g 89 83 true (l 88),g 90 83 true (m 0),g 91 83 true (m 13),g 92 83 true (ia 1 90 91),g 93 83 true (l 92),g 94 83 true (.callv (t 84) [(t 89),(t 93)]),g 95 83 true (bc .lss 94 (n 0)),g 96 83 true (.un .not (t 95)),o 97 (pf 83 96)] [0,1,3,7,7,7,39,119,247,7,7,1543,3591,8191,16383,32767,65535]),
 (i 97 (q [(.reg [o 98 (m 0),o 99 (m 1),o 100 (m 2),o 101 (m 13),o 102 (m 4),o 103 (.call 224 [(t 98),(t 99),(t 100),(t 101),(t 102)]),o 15 (m 103)]),
 (.reg [o 104 (m 15),o 1 (m 104)]),
 (.exit 1)]) .skip)]),
 (.reg [o 106 (m 0),o 107 (m 1),o 108 (m 2),o 109 (m 13),o 110 (m 4),o 111 (.call 225 [(t 106),(t 107),(t 108),(t 109),(t 110)]),o 105 (m 111),o 112 (e 105 0),o 113 (e 105 1),o 16 (m 112),o 17 (m 113)]),
 (.reg [o 114 (m 17),o 11 (m 114)]),
 (.reg [o 115 (m 16),o 116 (m 1),o 117 (b .sub 115 116),o 118 (m 2),o 119 (m 16),o 120 (b .sub 118 119),o 18 (m 117),o 19 (m 120)]),
 (.reg [o 121 (m 12),o 122 (bc .quo 121 (n 8)),o 20 (m 122)]),
 (.reg [o 123 (m 18),o 124 (m 19),o 125 (b .lss 123 124)]),
 (i 125 (q [(.reg [o 126 (m 18),o 127 (m 20),o 128 (b .geq 126 127),o 10 (m 128)]),
 (.reg [o 129 (m 0),o 130 (m 1),o 131 (m 16),o 132 (m 3),o 133 (m 4),o 134 (.call 208 [(t 129),(t 130),(t 131),(t 132),(t 133)])]),
 (.reg [o 135 (m 16),o 136 (bc .add 135 (n 1)),o 1 (m 136)])]) (q [(.reg [o 137 (m 19),o 138 (m 20),o 139 (b .geq 137 138),o 10 (m 139)]),
 (.reg [o 140 (m 0),o 141 (m 16),o 142 (bc .add 141 (n 1)),o 143 (m 2),o 144 (m 3),o 145 (m 4),o 146 (.call 208 [(t 140),(t 142),(t 143),(t 144),(t 145)])]),
 (.reg [o 147 (m 16),o 2 (m 147)])]))]))))])⟩
def zhc:CFn:=⟨36,[.tmp 6],(q [(.reg [o 6 (.mv (c (n 0)))]),
 (q [(.reg [o 9 (m 0),o 10 (ln 9),o 11 (m 1),o 12 (ln 11),o 13 (.mm false (t 10) (t 12)),o 14 (.mv (c (n 0)))]),
 (.block 0 (.loop (q [(.reg [o 15 (b .lss 14 13)]),
 (i 15 .skip (.exit 0)),
 (.block 1 (q [(.reg [o 16 (m 14),o 7 (m 16)]),
 (.regd [o 17 (m 2),o 18 (m 0),o 19 (m 7),o 20 (ia 1 18 19),o 21 (l 20),o 22 (m 1),o 23 (m 7),o 24 (ia 1 22 23),o 25 (l 24),o 26 (.callv (t 17) [(t 21),(t 25)]),o 8 (m 26)] [0,0,0,6,14,0,0,96,224,511,1023]),
 (.reg [o 27 (m 8),o 28 (bc .neq 27 (n 0))]),
 (i 28 (q [(.reg [o 29 (m 8),o 6 (m 29)]),
 .ret]) .skip)])),
 (.reg [o 30 (bc .add 14 (n 1)),o 14 (m 30)])])))]),
 (.reg [o 31 (m 0),o 32 (ln 31),o 33 (m 1),o 34 (ln 33),o 35 (.call 212 [(t 32),(t 34)]),o 6 (m 35)]),
 .ret])⟩
def zkh:CFn:=⟨8,[.tmp 4],(q [(.reg [o 4 (.mv (c (n 0)))]),
 (.reg [o 5 (m 0),o 6 (m 1),o 7 (.call 211 [(t 5),(t 6),(c (.fn zby []))]),o 4 (m 7)]),
 .ret])⟩
def zhG:CFn:=⟨36,[.tmp 6],(q [(.reg [o 6 (.mv (c (n 0)))]),
 (q [(.reg [o 9 (m 0),o 10 (ln 9),o 11 (m 1),o 12 (ln 11),o 13 (.mm false (t 10) (t 12)),o 14 (.mv (c (n 0)))]),
 (.block 0 (.loop (q [(.reg [o 15 (b .lss 14 13)]),
 (i 15 .skip (.exit 0)),
 (.block 1 (q [(.reg [o 16 (m 14),o 7 (m 16)]),
 (.regd [o 17 (m 2),o 18 (m 0),o 19 (m 7),o 20 (ia 1 18 19),o 21 (l 20),o 22 (m 1),o 23 (m 7),o 24 (ia 1 22 23),o 25 (l 24),o 26 (.callv (t 17) [(t 21),(t 25)]),o 8 (m 26)] [0,0,0,6,14,0,0,96,224,511,1023]),
 (.reg [o 27 (m 8),o 28 (bc .neq 27 (n 0))]),
 (i 28 (q [(.reg [o 29 (m 8),o 6 (m 29)]),
 .ret]) .skip)])),
 (.reg [o 30 (bc .add 14 (n 1)),o 14 (m 30)])])))]),
 (.reg [o 31 (m 0),o 32 (ln 31),o 33 (m 1),o 34 (ln 33),o 35 (.call 212 [(t 32),(t 34)]),o 6 (m 35)]),
 .ret])⟩
def zkf:CFn:=⟨20,[.tmp 4],(q [(.reg [o 4 (.mv (c (n 0)))]),
 (.reg [o 7 (m 0),o 8 (.call 196 [(t 7)]),o 5 (m 8)]),
 (.reg [o 9 (m 1),o 10 (.call 196 [(t 9)]),o 6 (m 10)]),
 (q [(.reg [o 11 (m 5)]),
 (i 11 (q [(q [(.reg [o 12 (m 6)]),
 (i 12 (q [(.reg [o 4 (.mv (c (n 0)))]),
 .ret]) .skip)]),
 (.reg [o 4 (.mv (c (n (-1))))]),
 .ret]) .skip)]),
 (q [(.reg [o 13 (m 6)]),
 (i 13 (q [(.reg [o 4 (.mv (c (n 1)))]),
 .ret]) .skip)]),
 (q [(.reg [o 14 (m 0),o 15 (m 1),o 16 (b .lss 14 15)]),
 (i 16 (q [(.reg [o 4 (.mv (c (n (-1))))]),
 .ret]) .skip)]),
 (q [(.reg [o 17 (m 0),o 18 (m 1),o 19 (b .gtr 17 18)]),
 (i 19 (q [(.reg [o 4 (.mv (c (n 1)))]),
 .ret]) .skip)]),
 (.reg [o 4 (.mv (c (n 0)))]),
 .ret])⟩
def zcp:CFn:=⟨53,[],(q [(.reg [o 10 (m 1),o 11 (bc .add 10 (n 1)),o 8 (m 11)]),
 (.block 0 (.loop (q [(q [(.reg [o 12 (m 8),o 13 (m 2),o 14 (b .lss 12 13)]),
 (i 14 .skip (.exit 0))]),
 (.block 1 (q [(.reg [o 17 (m 8),o 9 (m 17)]),
 (.block 2 (.loop (q [(q [(.regd [o 18 (m 9),o 19 (m 1),o 20 (b .gtr 18 19),o 21 (m 20),g 22 21 true (m 3),g 23 21 true (m 0),g 24 21 true (m 9),g 25 21 true (ia 1 23 24),g 26 21 true (l 25),g 27 21 true (m 0),g 28 21 true (m 9),g 29 21 true (bc .sub 28 (n 1)),g 30 21 true (ia 1 27 29),g 31 21 true (l 30),g 32 21 true (.callv (t 22) [(t 26),(t 31)]),g 33 21 true (bc .lss 32 (n 0)),o 34 (pf 21 33)] [0,0,3,7,15,15,15,111,239,15,15,1039,3599,7695,16383,32767,65535]),
 (i 34 .skip (.exit 2))]),
 (.block 3 (.regd [o 37 (m 0),o 38 (m 9),o 39 (m 0),o 40 (m 9),o 41 (bc .sub 40 (n 1)),o 42 (m 0),o 43 (m 9),o 44 (bc .sub 43 (n 1)),o 45 (ia 1 42 44),o 46 (l 45),o 47 (m 0),o 48 (m 9),o 49 (ia 1 47 48),o 50 (l 49),o 51 (ia 1 37 38),w (.store 1 (t 51) (t 46)),o 52 (ia 1 39 41),w (.store 1 (t 52) (t 50))] [0,0,0,0,8,0,0,64,224,480,0,0,3072,7168,16355,32739,65535,131071])),
 (.reg [o 35 (m 9),o 36 (bc .sub 35 (n 1)),o 9 (m 36)])])))])),
 (.reg [o 15 (m 8),o 16 (bc .add 15 (n 1)),o 8 (m 16)])])))])⟩
end Go.Ab
namespace Go.Ab
open Go Go.Proofs
theorem zy:Tryz.prog.follows .mixedOrders=true:=by kernel_rfl
theorem zkX:zi Tryz.prog zgm=some zkl:=by kernel_rfl
theorem zqi:zi Tryz.prog zeK=some zqe:=by kernel_rfl
theorem zo6:zi Tryz.prog ziu=some zoS:=by kernel_rfl
theorem zj7:zi Tryz.prog zfE=some zj5:=by kernel_rfl
theorem zj0:zi Tryz.prog zdv=some zqg:=by kernel_rfl
theorem zjy:zi Tryz.prog zfo=some zje:=by kernel_rfl
theorem zkW:zi Tryz.prog zgl=some zkk:=by kernel_rfl
theorem zol:zi Tryz.prog zhT=some znN:=by kernel_rfl
theorem zlU:zi Tryz.prog zgF=some zlJ:=by kernel_rfl
theorem zok:zi Tryz.prog zhS=some znM:=by kernel_rfl
theorem zdy:zi Tryz.prog zbe=some zdt:=by kernel_rfl
theorem zoh:zi Tryz.prog zdP=some znJ:=by kernel_rfl
theorem zoi:zi Tryz.prog zfn=some znK:=by kernel_rfl
theorem zm0:zi Tryz.prog zdk=some zmH:=by kernel_rfl
theorem zl1:zi Tryz.prog zez=some zlQ:=by kernel_rfl
theorem zqj:zi Tryz.prog zeL=some zqf:=by kernel_rfl
theorem zl3:zi Tryz.prog zgK=some zlS:=by kernel_rfl
theorem zhs:zi Tryz.prog zd1=some zhf:=by kernel_rfl
theorem zl4:zi Tryz.prog zgL=some zlT:=by kernel_rfl
theorem zrx:zi Tryz.prog zky=some zqS:=by kernel_rfl
theorem zod:zi Tryz.prog zhO=some znF:=by kernel_rfl
theorem zoc:zi Tryz.prog zhN=some znE:=by kernel_rfl
theorem zdo:zi Tryz.prog zfm=some zjd:=by kernel_rfl
theorem zlZ:zi Tryz.prog zgJ=some zlO:=by kernel_rfl
theorem zm4:zi Tryz.prog zhk=some zmM:=by kernel_rfl
theorem zry:zi Tryz.prog zkz=some zqT:=by kernel_rfl
theorem zob:zi Tryz.prog zhM=some znD:=by kernel_rfl
theorem zdS:zi Tryz.prog zbt=some zdR:=by kernel_rfl
theorem zl0:zi Tryz.prog zcO=some zlP:=by kernel_rfl
theorem zsM:zi Tryz.prog zmc=some zss:=by kernel_rfl
theorem zd5:zi Tryz.prog zbA=some zdW:=by kernel_rfl
theorem zrz:zi Tryz.prog zkA=some zqU:=by kernel_rfl
theorem zo5:zi Tryz.prog zit=some zoR:=by kernel_rfl
theorem zhq:zi Tryz.prog zb2=some zhd:=by kernel_rfl
theorem zhJ:zi Tryz.prog zes=some zhH:=by kernel_rfl
theorem zdx:zi Tryz.prog zaW=some zgx:=by kernel_rfl
theorem zlV:zi Tryz.prog zcN=some zlK:=by kernel_rfl
theorem zlW:zi Tryz.prog zgG=some zlL:=by kernel_rfl
theorem zoj:zi Tryz.prog zhR=some znL:=by kernel_rfl
theorem zft:zi Tryz.prog zcs=some zfh:=by kernel_rfl
theorem zbF:zi Tryz.prog zal=some zbE:=by kernel_rfl
theorem zo7:zi Tryz.prog zcZ=some zoT:=by kernel_rfl
theorem zeA:zi Tryz.prog zbO=some zev:=by kernel_rfl
theorem zo4:zi Tryz.prog zis=some zoQ:=by kernel_rfl
theorem zhr:zi Tryz.prog zd0=some zhe:=by kernel_rfl
theorem zlX:zi Tryz.prog zgH=some zlM:=by kernel_rfl
theorem zlY:zi Tryz.prog zey=some zlN:=by kernel_rfl
theorem zfO:zi Tryz.prog zc0=some zfI:=by kernel_rfl
theorem zog:zi Tryz.prog zdO=some znI:=by kernel_rfl
theorem zj6:zi Tryz.prog zca=some zj4:=by kernel_rfl
theorem zm1:zi Tryz.prog zdl=some zmI:=by kernel_rfl
theorem zl2:zi Tryz.prog zcP=some zlR:=by kernel_rfl
theorem zjz:zi Tryz.prog zdm=some zjf:=by kernel_rfl
theorem zoe:zi Tryz.prog zhP=some znG:=by kernel_rfl
theorem zkS:zi Tryz.prog zgj=some zkg:=by kernel_rfl
theorem zm3:zi Tryz.prog zeP=some zmL:=by kernel_rfl
theorem zeB:zi Tryz.prog zaM=some zew:=by kernel_rfl
theorem zof:zi Tryz.prog zhQ=some znH:=by kernel_rfl
theorem zkV:zi Tryz.prog zgk=some zkj:=by kernel_rfl
theorem zcf:zi Tryz.prog z7=some zce:=by kernel_rfl
theorem zbX:zi Tryz.prog zaz=some zbW:=by kernel_rfl
theorem zm2:zi Tryz.prog zM=some zmK:=by kernel_rfl
theorem zam:zi Tryz.prog zA=some zbM:=by kernel_rfl
theorem zkU:zi Tryz.prog zcr=some zki:=by kernel_rfl
theorem zaF:zi Tryz.prog zT=some zaE:=by kernel_rfl
theorem zho:zi Tryz.prog zeO=some zmJ:=by kernel_rfl
theorem zdz:zi Tryz.prog zbf=some zdu:=by kernel_rfl
theorem zhp:zi Tryz.prog zdZ=some zhc:=by kernel_rfl
theorem zkT:zi Tryz.prog zbz=some zkh:=by kernel_rfl
theorem zhI:zi Tryz.prog zer=some zhG:=by kernel_rfl
theorem zkR:zi Tryz.prog zby=some zkf:=by kernel_rfl
theorem zcv:zi Tryz.prog zaQ=some zcp:=by kernel_rfl
end Go.Ab
namespace Go.Ab
open Go Go.Proofs
set_option maxRecDepth 10000
set_option maxHeartbeats 4000000
variable {T:Nat→Obj→Prop}
def zi7 (n:Int):BitVec 64:=if n ≥ 64 then -1 else (1#64 <<< n.toNat) - 1#64
def bad (n:Int) (s:BitVec 64):Bool:=s &&& ~~~ (zi7 n)≠0
def zv7 (worlds agents:Int) (val:List (BitVec 64)):Int :=
 if worlds < 1∨64 < worlds then 2 else if 8 < val.length∨4 < agents then 8 else if val.any (bad worlds) then 3 else 0
theorem zkH (a b:List Int):Fn Tryz.prog T zd0 [.d (dI a),.d (dI b)] [] (.d (.bool (a==b))) []:=by
 refine zj zy zhr (by show 2≤26;decide) ?_
 (repeat' ((conv=>whnf);first|refine vA ?_|(refine vD ?_ ?_<;>intro hc<;>try simp only [vL] at hc)|refine vJ fun hg=>?_|refine vT ?_|refine vZ ?_));all_goals try conv=>whnf
 ·have:a≠b:=fun e=>hc (by rw [e])
  simp [this]
 ·refine zaH (fun (k:Nat)=>[(0,.d (dI a)),(1,.d (dI b)),(12,.d (.int .i64 ((a.map (D.int .i64)).length:Int))),(13,.d (.int .i64 ((k:Int))))]) (fun (k:Nat)=>k≤a.length∧(a==b)=(a.drop k==b.drop k)) (fun (k:Nat)=>a.length - k) (0) (⟨by simp,by simp⟩) (by (repeat' first|exact trivial|exact rfl|refine And.intro ?_ ?_)) ?_
  rintro k ⟨hk,hI⟩
  (repeat' ((conv=>whnf);first|refine vA ?_|((first|refine vD ?_ ?_|refine vF ?_ ?_)<;>intro hc<;>try simp only [vL] at hc)|refine vT ?_|(refine vQ ?_ fun x hx=>?_;·omega)|(refine vO ?_ ?_;·omega)|(refine vU ?_ ?_;·kernel_rfl)|refine vZ ?_));all_goals try conv=>whnf
  ·rw [hI,zW ‹a[k]? = some _›,zW ‹b[k]? = some _›];simp [hc]
  ·exact ⟨k+1,[],[],⟨by (omega),by rw [hI,zW ‹a[k]? = some _›,zW ‹b[k]? = some _›];simp [hc]⟩,by (omega),by (refine ⟨rfl,rfl,rfl,?_,?_⟩;repeat' first|exact trivial|exact rfl|refine And.intro ?_ ?_)⟩
  ·rw [hI,List.drop_eq_nil_of_le (by omega),List.drop_eq_nil_of_le (by omega)];rfl
theorem zkI (a b:List (BitVec 64)):Fn Tryz.prog T zcs [.d (dU a),.d (dU b)] [] (.d (.bool (a==b))) []:=by
 refine zj zy zft (by show 2≤26;decide) ?_
 (repeat' ((conv=>whnf);first|refine vA ?_|(refine vD ?_ ?_<;>intro hc<;>try simp only [vL] at hc)|refine vJ fun hg=>?_|refine vT ?_|refine vZ ?_));all_goals try conv=>whnf
 ·have:a≠b:=fun e=>hc (by rw [e])
  simp [this]
 ·refine zaH (fun (k:Nat)=>[(0,.d (dU a)),(1,.d (dU b)),(12,.d (.int .i64 ((a.map D.u64).length:Int))),(13,.d (.int .i64 ((k:Int))))]) (fun (k:Nat)=>k≤a.length∧(a==b)=(a.drop k==b.drop k)) (fun (k:Nat)=>a.length - k) (0) (⟨by simp,by simp⟩) (by (repeat' first|exact trivial|exact rfl|refine And.intro ?_ ?_)) ?_
  rintro k ⟨hk,hI⟩
  (repeat' ((conv=>whnf);first|refine vA ?_|((first|refine vD ?_ ?_|refine vF ?_ ?_)<;>intro hc<;>try simp only [vL] at hc)|refine vT ?_|(refine vQ ?_ fun x hx=>?_;·omega)|(refine vO ?_ ?_;·omega)|(refine vU ?_ ?_;·kernel_rfl)|refine vZ ?_));all_goals try conv=>whnf
  ·rw [hI,zW ‹a[k]? = some _›,zW ‹b[k]? = some _›];simp [hc]
  ·exact ⟨k+1,[],[],⟨by (omega),by rw [hI,zW ‹a[k]? = some _›,zW ‹b[k]? = some _›];simp [hc]⟩,by (omega),by (refine ⟨rfl,rfl,rfl,?_,?_⟩;repeat' first|exact trivial|exact rfl|refine And.intro ?_ ?_)⟩
  ·rw [hI,List.drop_eq_nil_of_le (by omega),List.drop_eq_nil_of_le (by omega)];rfl
structure PM where
 W:Int
 val:List (BitVec 64)
 cell:List (List Int)
 rank:List (List Int)
 deriving DecidableEq
theorem ze1 (s:BitVec 64) (n:Nat):(s >>> n)&&&1#64=1#64↔s.getLsbD n=true:=by
 constructor
 ·intro h
  have:=congrArg (fun x=>x.getLsbD 0) h
  simpa using this
 ·intro h
  apply BitVec.eq_of_getLsbD_eq
  intro i hi
  by_cases h0:i=0
  ·subst h0;simpa using h
  ·simp [h0]
theorem zmG (s:BitVec 64) (n:Nat):(s >>> n)&&&1#64=0#64↔s.getLsbD n=false:=by
 constructor
 ·intro h
  have:=congrArg (fun x=>x.getLsbD 0) h
  simpa using this
 ·intro h
  apply BitVec.eq_of_getLsbD_eq
  intro i hi
  by_cases h0:i=0
  ·subst h0;simpa using h
  ·simp [h0]
@[irreducible] def bit (s:BitVec 64) (i:Nat):Bool:=s.getLsbD i
def at0 (l:List Int) (i:Nat):Int:=l.getD i 0
theorem zcV {l:List Int} {i:Nat} {x:Int} (h:l[i]? = some x):at0 l i=x:=by simp [at0,List.getD,h]
theorem zdC {l:List Int} {i:Nat} (h:i < l.length):l[i]? = some (at0 l i):=by simp [at0,List.getD,h]
abbrev zzP (cell:List Int):Prop := ∀ w,w < cell.length→0≤at0 cell w∧at0 cell w≤w∧at0 cell (at0 cell w).toNat=at0 cell w
abbrev zzn (cell rank:List Int):Prop := ∀ w,w < cell.length→0≤at0 rank w∧(at0 rank w=0 ∨ ∃ v,v < cell.length∧at0 cell v=at0 cell w∧at0 rank v=at0 rank w - 1)
end Go.Ab
namespace Go.Ab
open Go Go.Proofs
set_option maxRecDepth 10000
set_option maxHeartbeats 4000000
variable {T:Nat→Obj→Prop}
def zaC (f:Nat→Bool):Nat→BitVec 64
 | 0=>0#64
 | k+1=>if f k then zaC f k|||1#64 <<< k else zaC f k
theorem zoO (k i:Nat):(1#64 <<< k).getLsbD i=(decide (i < 64)&&decide (i=k)):=by
 rw [BitVec.getLsbD_shiftLeft]
 by_cases h:i < 64
 ·by_cases h1:i < k
  ·simp [h,h1];omega
  ·by_cases h2:i=k
   ·subst h2;simp [h]
   ·have:i - k≠0:=by omega
    simp [h,h1,h2,this]
 ·simp [h]
theorem zp1 (f:Nat→Bool) : ∀ (n i:Nat),(zaC f n).getLsbD i=(decide (i < 64)&&decide (i < n)&&f i)
 | 0,i=>by simp [zaC]
 | n+1,i=>by
  have ih:=zp1 f n i
  unfold zaC
  split
  ·rename_i h
   rw [BitVec.getLsbD_or,ih,zoO]
   by_cases h1:i=n
   ·subst h1;simp [h]
   ·by_cases h2:i < n
    ·simp [h1,h2,show i < n+1 by omega]
    ·simp [h1,h2,show ¬ i < n+1 by omega]
  ·rename_i h
   rw [ih]
   by_cases h1:i=n
   ·subst h1;simp [h]
   ·by_cases h2:i < n
    ·simp [h2,show i < n+1 by omega]
    ·simp [h2,show ¬ i < n+1 by omega]
end Go.Ab
namespace Go.Ab
open Go Go.Proofs
set_option maxRecDepth 10000
set_option maxHeartbeats 4000000
variable {T:Nat→Obj→Prop}
def zoy (l:List (List Int)) (a:Nat):List Int:=l.getD a []
abbrev zAc (p:PM):Prop := ∀ a,a < p.cell.length→((zoy p.cell a).length:Int)=p.W∧((zoy p.rank a).length:Int)=p.W
abbrev zwz (p:PM):Prop := ∀ a,a < p.cell.length→zzP (zoy p.cell a)
abbrev zuN (p:PM):Prop := ∀ a,a < p.cell.length→zzn (zoy p.cell a) (zoy p.rank a)
def zu2 (p:PM):Int :=
 if zv7 p.W p.cell.length p.val≠0 then zv7 p.W p.cell.length p.val
 else if p.rank.length≠p.cell.length then 3
 else if ¬zAc p then 3
 else if ¬zwz p then 1
 else if ¬zuN p then 9
 else 0
end Go.Ab
namespace Go.Ab
open Go Go.Proofs
set_option maxRecDepth 10000
set_option maxHeartbeats 4000000
variable {T:Nat→Obj→Prop}
structure At (p:PM) (a w:Int):Prop where
 ok:zu2 p=0
 a0:0≤a
 a1:a < p.cell.length
 w0:0≤w
 w1:w < p.W
instance (p:PM) (a w:Int):Decidable (At p a w):=decidable_of_iff (zu2 p=0∧0≤a∧a < p.cell.length∧0≤w∧w < p.W) ⟨fun ⟨a,b,c,d,e⟩=>⟨a,b,c,d,e⟩,fun ⟨a,b,c,d,e⟩=>⟨a,b,c,d,e⟩⟩
theorem zvN {k:Nat} (h:k < 18446744073709551616):(BitVec.ofInt 64 (k:Int)).toNat=k:=by
 rw [BitVec.toNat_ofInt,Int.emod_eq_of_lt (by omega) (by omega)];rfl
theorem zef {β:Type} {g:Nat→β} {n k:Nat} (x:β):((List.range n).map g).set k x=(List.range n).map fun u=>if u=k then x else g u:=by
 refine List.ext_getElem (by simp) fun i h1 h2=>?_
 rw [List.getElem_set]
 by_cases e:k=i
 ·subst e;simp
 ·simp [e,Ne.symm e]
theorem zL {β:Type} {g h:Nat→β} {n:Nat} (e : ∀ u,u < n→g u=h u):(List.range n).map g=(List.range n).map h :=
 List.map_congr_left fun u hu=>e u (List.mem_range.1 hu)
theorem zaa {β:Type} (x:β) (n:Nat):List.replicate n x=(List.range n).map fun _=>x:=by
 refine List.ext_getElem (by simp) fun i h1 h2=>by simp
end Go.Ab
namespace Go.Ab
open Go Go.Proofs
set_option maxRecDepth 10000
set_option maxHeartbeats 4000000
variable {T:Nat→Obj→Prop}
structure KM where
 W:Int
 val:List (BitVec 64)
 rel:List (List (BitVec 64))
 deriving DecidableEq
abbrev dKM (m:KM):D := .agg [.int .i64 m.W,dU m.val,dUU m.rel]
abbrev zao (m:KM):Ob := .box [.d (.int .i64 m.W),.d (dU m.val),.d (dUU m.rel)]
abbrev dKI (x:KM×Int):D := .tup [dKM x.1,.int .i64 x.2]
end Go.Ab
namespace Go.Ab
open Go Go.Proofs
set_option maxRecDepth 10000
set_option maxHeartbeats 4000000
variable {T:Nat→Obj→Prop}
theorem zmE {n:Int} {i:Nat} (h1:0≤n) (hi:i < 64):(zi7 n).getLsbD i=decide ((i:Int) < n):=by
 unfold zi7
 split
 ·rename_i h
  rw [show ((-1:BitVec 64))=BitVec.allOnes 64 from rfl,BitVec.getLsbD_allOnes]
  simp [hi];omega
 ·rename_i h
  obtain ⟨m,rfl⟩:=Int.eq_ofNat_of_zero_le h1
  have hm:m < 64:=by omega
  rw [show (1#64 <<< (m:Int).toNat - 1#64)=BitVec.setWidth 64 (BitVec.allOnes m) from ?_]
  ·rw [BitVec.getLsbD_setWidth,BitVec.getLsbD_allOnes];simp [hi]
  ·apply BitVec.eq_of_toNat_eq
   have h2:2 ^ m < 2 ^ 64:=Nat.pow_lt_pow_right (by omega) hm
   have h3:0 < 2 ^ m:=Nat.two_pow_pos m
   rw [BitVec.toNat_sub,BitVec.toNat_shiftLeft,BitVec.toNat_setWidth,BitVec.toNat_allOnes]
   simp only [Int.toNat_natCast,Nat.shiftLeft_eq]
   rw [show (1#64).toNat=1 from rfl,Nat.one_mul,Nat.mod_eq_of_lt h2,Nat.mod_eq_of_lt (show 2 ^ m - 1 < 2 ^ 64 by omega)]
   omega
end Go.Ab
namespace Go.Ab
open Go Go.Proofs
set_option maxRecDepth 10000
set_option maxHeartbeats 4000000
variable {T:Nat→Obj→Prop}
def zn (s:BitVec 64):List Nat:=(List.range 64).filter fun i=>s.getLsbD i
theorem zkD {p:Nat→Bool} {k:Nat} (hk:p k=true) (hlow : ∀ i,i < k→p i=false) : ∀ n,k < n→(List.range n).filter p=k::(List.range n).filter fun i=>p i&&i != k
 | 0,h=>by omega
 | n+1,h=>by
  rw [List.range_succ,List.filter_append,List.filter_append]
  by_cases e:k=n
  ·subst e
   have h1:(List.range k).filter p=[]:=by
    rw [List.filter_eq_nil_iff];intro i hi;rw [hlow i (List.mem_range.1 hi)];simp
   have h2:((List.range k).filter fun i=>p i&&i != k)=[]:=by
    rw [List.filter_eq_nil_iff];intro i hi;rw [hlow i (List.mem_range.1 hi)];simp
   rw [h1,h2]
   simp [hk]
  ·rw [zkD hk hlow n (by omega)]
   have:(n != k)=true:=by simp;omega
   have:List.filter (fun i=>p i&&i != k) [n]=List.filter p [n]:=by
    simp only [List.filter,this,Bool.and_true]
   rw [this];rfl
theorem ztl (s:BitVec 64) (h:s≠0#64):Lib.ctz 64 s.toNat < 64∧s.getLsbD (Lib.ctz 64 s.toNat)=true∧(∀ i,i < Lib.ctz 64 s.toNat→s.getLsbD i=false) ∧
  ∀ i,(s&&&(s - 1#64)).getLsbD i=(s.getLsbD i&&i != Lib.ctz 64 s.toNat):=by
 have h0:s.toNat≠0:=fun e=>h (BitVec.eq_of_toNat_eq (by simpa using e))
 have hc:Lib.ctz 64 s.toNat=Lib.ctzFrom 64 s.toNat:=by rw [Lib.ctz,if_neg h0]
 rw [hc]
 obtain ⟨m,hm,hlt⟩:=Lib.ctzFrom_spec 64 s.toNat (by omega) s.isLt
 generalize Lib.ctzFrom 64 s.toNat=k at hm hlt
 have hp:0 < 2 ^ k:=Nat.two_pow_pos k
 have hs:s.toNat=2 ^ k * (2 * m+1)+0:=hm
 have hbit : ∀ i,s.getLsbD i=if i < k then false else (2 * m+1).testBit (i - k):=fun i=>by
  rw [BitVec.getLsbD,hs,Nat.testBit_two_pow_mul_add _ hp]
  simp
 have hsub:(s - 1#64).toNat=2 ^ k * (2 * m)+(2 ^ k - 1):=by
  rw [BitVec.toNat_sub]
  have hlt':=s.isLt
  rw [hm] at hlt' ⊢
  rw [show (1#64).toNat=1 from rfl,Nat.mul_add,Nat.mul_one]
  rw [Nat.mul_add,Nat.mul_one] at hlt'
  omega
 have hbit' : ∀ i,(s - 1#64).getLsbD i=if i < k then (2 ^ k - 1).testBit i else (2 * m).testBit (i - k):=fun i=>by
  rw [BitVec.getLsbD,hsub,Nat.testBit_two_pow_mul_add _ (by omega)]
 refine ⟨hlt,?_,fun i hi=>?_,fun i=>?_⟩
 ·rw [hbit,if_neg (by omega),Nat.sub_self,Nat.testBit_zero];simp
 ·rw [hbit,if_pos hi]
 ·rw [BitVec.getLsbD_and,hbit,hbit']
  by_cases h1:i < k
  ·simp [h1]
  ·simp only [h1,if_false]
   by_cases h2:i=k
   ·subst h2;simp [Nat.testBit_zero]
   ·obtain ⟨j,hj⟩ : ∃ j,i - k=j+1:=⟨i - k - 1,by omega⟩
    rw [hj,Nat.testBit_succ,Nat.testBit_succ]
    have e1:(2 * m+1) / 2=m:=by omega
    have e2:2 * m / 2=m:=by omega
    rw [e1,e2]
    simp [h2]
theorem zf4 (s:BitVec 64) (h:s≠0#64):zn s=Lib.ctz 64 s.toNat::zn (s&&&(s - 1#64)):=by
 obtain ⟨h1,h2,h3,h4⟩:=ztl s h
 rw [zn,zkD h2 h3 64 h1,zn]
 congr 1
 exact List.filter_congr fun i _=>(h4 i).symm
theorem zeF:zn 0#64=[]:=by decide
abbrev zji (s:BitVec 64):List (List D):=(zn s).map fun (i:Nat)=>[D.int .i64 (i:Int)]
def zbP (T:Nat→Obj→Prop):Prop := ∀ x:BitVec 64,Fn Tryz.prog T zaP [.d (.u64 x)] [] (.d (.int .i64 (Lib.ctz 64 x.toNat))) []
def zdE (r:List (BitVec 64)) (l:List Nat):BitVec 64:=l.foldl (fun o w=>o|||r.getD w 0#64) 0#64
theorem zkp {s:BitVec 64} {i:Nat} {x:List D} (h:(zji s)[i]? = some x) : ∃ w:Nat,(zn s)[i]? = some w∧x=[.int .i64 (w:Int)]∧s.getLsbD w=true∧w < 64:=by
 rw [List.getElem?_map,Option.map_eq_some_iff] at h
 obtain ⟨w,hw,rfl⟩:=h
 have:=List.mem_filter.1 (List.mem_of_getElem? hw)
 exact ⟨w,hw,rfl,this.2,List.mem_range.1 this.1⟩
theorem zsm {r:List (BitVec 64)} {l:List Nat} {i w:Nat} (h:l[i]? = some w):zdE r (l.take (i+1))=zdE r (l.take i)|||r.getD w 0#64:=by
 rw [List.take_add_one,h];simp [zdE]
def rb (r:List (BitVec 64)) (w v:Nat):Bool:=(r.getD w 0#64).getLsbD v
theorem zyi {r:List (BitVec 64)} {w:Nat} {s:BitVec 64} (h:r[w]? = some s) (v:Nat):rb r w v=s.getLsbD v:=by simp [rb,List.getD,h]
theorem zzF {r:List (BitVec 64)} {w v:Nat} (h:r.length≤w):rb r w v=false:=by simp [rb,List.getD,h]
theorem zbR {s:BitVec 64} {v:Nat} : v∈zn s↔s.getLsbD v=true:=by
 rw [zn,List.mem_filter,List.mem_range]
 constructor
 ·exact fun h=>h.2
 ·exact fun h=>⟨BitVec.lt_of_getLsbD h,h⟩
theorem zk1 (s:BitVec 64):(zn s).Nodup:=List.nodup_range.filter _
def zeM {α:Type} (p:α→Bool) (l:List α):Int:=if l.findIdx p < l.length then (l.findIdx p:Int) else -1
theorem zgo {α:Type} {p:α→Bool} {l:List α} {k:Nat} {x:α} (h:l[k]? = some x) (hp:p x=true) (hI : ∀ i y,i < k→l[i]? = some y→p y=false):zeM p l=k:=by
 obtain ⟨hk,rfl⟩:=List.getElem?_eq_some_iff.1 h
 have:l.findIdx p=k:=by
  rw [List.findIdx_eq hk]
  exact ⟨hp,fun j hj=>by simpa using hI j l[j] hj (List.getElem?_eq_getElem (by omega))⟩
 rw [zeM,this,if_pos hk]
theorem zjo {α:Type} {p:α→Bool} {l:List α} (hI : ∀ i y,i < l.length→l[i]? = some y→p y=false):zeM p l = -1:=by
 rw [zeM,if_neg]
 intro h
 have h1:=List.findIdx_getElem (p:=p) (xs:=l) (w:=h)
 rw [hI _ _ h (List.getElem?_eq_getElem h)] at h1;cases h1
theorem zrd {α:Type} {p:α→Bool} {l:List α} : 0≤zeM p l ↔ ∃ x∈l,p x=true:=by
 rw [zeM,← List.findIdx_lt_length]
 split<;>omega
theorem zhl (l:List Int) (x:Int):Fn Tryz.prog T zd1 [.d (dI l),.d (.int .i64 x)] [] (.d (.int .i64 (zeM (fun y=>x==y) l))) []:=by
 refine zj zy zhs (by show 2≤19;decide) ?_
 (repeat' ((conv=>whnf);first|refine vA ?_|refine vJ fun hg=>?_|refine vT ?_));all_goals try conv=>whnf
 refine zaH (fun (k:Nat)=>[(0,.d (dI l)),(1,.d (.int .i64 (x))),(7,.d (.int .i64 ((l.map (D.int .i64)).length:Int))),(8,.d (.int .i64 ((k:Int))))]) (fun (k:Nat)=>k≤l.length ∧ ∀ i y,i < k→l[i]? = some y→(x==y)=false) (fun (k:Nat)=>l.length - k) (0) (⟨by simp,by simp⟩) (by (repeat' first|exact trivial|exact rfl|refine And.intro ?_ ?_)) ?_
 rintro k ⟨hk,hI⟩
 (repeat' ((conv=>whnf);first|refine vA ?_|(refine vF ?_ ?_<;>intro hc<;>try simp only [vL] at hc)|refine vT ?_|(refine vQ ?_ fun x hx=>?_;·omega)|(refine vO ?_ ?_;·omega)|refine vX ?_));all_goals try conv=>whnf
 ·exact (zgo hx (by simpa using hc) hI).symm
 ·have hne:=hc
  exact ⟨k+1,[],[],⟨by (omega),fun i y hi hy=>by
   by_cases e:i=k
   ·subst e;rw [hx] at hy;cases hy;simpa using hne
   ·exact hI i y (by omega) hy⟩,by (omega),by (refine ⟨rfl,rfl,rfl,?_,?_⟩;repeat' first|exact trivial|exact rfl|refine And.intro ?_ ?_)⟩
 ·exact (zjo fun i y hi hy=>hI i y (by omega) hy).symm
theorem zuS {n:Int} {s:BitVec 64} (h:0≤n):bad n s=false ↔ ∀ i,s.getLsbD i=true→(i:Int) < n:=by
 rw [bad,decide_eq_false_iff_not,Classical.not_not]
 constructor
 ·intro e i hi
  have hlt:=BitVec.lt_of_getLsbD hi
  have:=congrArg (fun x=>x.getLsbD i) e
  simp only [BitVec.getLsbD_and,BitVec.getLsbD_not,hlt,decide_true,Bool.true_and,hi,zmE h hlt] at this
  simpa using this
 ·intro hs
  apply BitVec.eq_of_getLsbD_eq
  intro i hi
  rw [BitVec.getLsbD_and,BitVec.getLsbD_not,zmE h hi]
  cases hb:s.getLsbD i with
  | false=>simp
  | true=>have:=hs i hb;simp [hi,this]
theorem zmz {r:List (BitVec 64)} {v:Nat} : ∀ {l:List Nat},(zdE r l).getLsbD v=true ↔ ∃ u∈l,rb r u v=true:=by
 have key : ∀ (l:List Nat) (o:BitVec 64),(l.foldl (fun o w=>o|||r.getD w 0#64) o).getLsbD v=true↔o.getLsbD v=true ∨ ∃ u∈l,rb r u v=true:=by
  intro l
  induction l with
  | nil=>intro o;simp
  | cons u l ih =>
   intro o
   rw [List.foldl_cons,ih,BitVec.getLsbD_or,Bool.or_eq_true]
   constructor
   ·rintro ((h|h)|⟨w,h1,h2⟩)
    ·exact .inl h
    ·exact .inr ⟨u,by simp,h⟩
    ·exact .inr ⟨w,by simp [h1],h2⟩
   ·rintro (h|⟨w,h1,h2⟩)
    ·exact .inl (.inl h)
    ·rcases List.mem_cons.1 h1 with rfl|h1
     ·exact .inl (.inr h2)
     ·exact .inr ⟨w,h1,h2⟩
 intro l
 rw [zdE,key];simp
end Go.Ab
namespace Go.Ab
open Go Go.Proofs
set_option maxRecDepth 10000
set_option maxHeartbeats 4000000
variable {T:Nat→Obj→Prop}
theorem zan.objs {P:Program} {M:Nat→Option Ob} {n f:Nat} {vs lvs:List V} {obs:List Ob} {lv:V} {obs':List (Option Ob)} {K:V→Upd→Nat→Prop} (js:List Nat) (hf:Fn P T f lvs obs lv obs') (ha:VPasses M js [] 20 lvs vs)
  (ho:zaD M js [] obs js) (hnd:nodup js=true) (hsj:zeD js (zK M vs)=true) (hle:js.length≤obs'.length)
  (hK:K (zjJ js n 20 lv) (zgN js [] n obs' false) (obs'.length - js.length)):zan (zcj P T) M n f vs K :=
 ⟨⟨_,_,_,⟨js,[],false,lvs,obs,lv,obs',hf,ha,ho,hnd,by simp [zdi],hsj,by simp [zeD],hle,nofun,rfl,rfl,rfl⟩,hK⟩⟩
section
variable {α:Type} [Inhabited α]
theorem zbI {d:Array α} {i:Nat} (h:i < d.size):d.toList[i]? = some d[i]! := by
 simp [h]
theorem zaZ {d:Array α} {i:Nat} {x:α} (h:d.toList[i]? = some x):d[i]! = x∧i < d.size:=by
 obtain ⟨h1,h2⟩:=List.getElem?_eq_some_iff.1 h
 rw [Array.length_toList] at h1
 exact ⟨by simp [h1];simpa using h2,h1⟩
theorem ztF {enc:α→D} {d:Array α} {i j:Nat} {x y:α} (hi:d.toList[i]? = some x) (hj:d.toList[j]? = some y):((d.toList.map enc).set i (enc y)).set j (enc x)=(Sort.swp d i j).toList.map enc:=by
 obtain ⟨e1,_⟩:=zaZ hi
 obtain ⟨e2,_⟩:=zaZ hj
 simp [Sort.swp,e1,e2,List.map_set]
theorem zge {d:Array α} {i:Int} {x:α} (k:Nat) (h:d.toList[i.toNat]? = some x) (hk:i=k):d.toList[k]? = some x:=by subst hk;exact h
theorem zsk (d:Array α) (i j:Nat):(Sort.swp d i j).size=d.size:=by simp [Sort.swp]
variable {lt:α→α→Bool}
theorem zjZ {a j:Nat} {d:Array α} (h : ¬(a < j∧lt d[j]! d[j - 1]! = true)):Sort.insInner lt a j d=d:=by
 cases j with
 | zero=>rfl
 | succ j =>
  unfold Sort.insInner
  rw [if_neg]
  simpa using h
theorem zjY {a j:Nat} {d:Array α} (h1:a < j) (h2:lt d[j]! d[j - 1]! = true):Sort.insInner lt a j d=Sort.insInner lt a (j - 1) (Sort.swp d j (j - 1)):=by
 cases j with
 | zero=>omega
 | succ j =>
  rw [Sort.insInner,if_pos]
  ·simp
  ·simp at h2 ⊢;exact ⟨by omega,h2⟩
end
end Go.Ab
namespace Go.Ab
open Go
def zU (e:Nat→Nat→Bool) (w:Nat):Nat:=((List.range w).find? fun v=>e v w).getD w
theorem ziL (e:Nat→Nat→Bool) (w:Nat):(zU e w < w∧e (zU e w) w=true∨zU e w=w) ∧ ∀ v,v < zU e w→e v w=false:=by
 unfold zU
 cases h:(List.range w).find? fun v=>e v w with
 | none =>
  refine ⟨.inr rfl,fun v hv=>?_⟩
  have:=List.find?_eq_none.1 h v (List.mem_range.2 hv)
  simpa using this
 | some u =>
  obtain ⟨h1,l1,l2,h2,h3⟩:=List.find?_eq_some_iff_append.1 h
  have hu:u∈List.range w:=by rw [h2];simp
  have hlen:l1.length=u:=by
   have h4:(List.range w)[l1.length]? = some u:=by rw [h2];simp
   rw [List.getElem?_range (by
    have:l1.length < (List.range w).length:=by rw [h2];simp
    simpa using this)] at h4
   exact Option.some.inj h4
  refine ⟨.inl ⟨List.mem_range.1 hu,h1⟩,fun v hv=>?_⟩
  have hv:v < u:=hv
  have hm:v∈l1:=by
   have h4:(List.range w)[v]? = some v:=List.getElem?_range (by have:=List.mem_range.1 hu;omega)
   rw [h2,List.getElem?_append_left (by omega)] at h4
   exact List.mem_of_getElem? h4
  simpa using h3 v hm
theorem zuo (e:Nat→Nat→Bool) (w:Nat):zU e w≤w:=by
 rcases (ziL e w).1 with h|h<;>omega
theorem zrH {e:Nat→Nat→Bool} {w v:Nat} (h:v < zU e w):e v w=false:=(ziL e w).2 v h
structure Eqv (e:Nat→Nat→Bool):Prop where
 refl : ∀ v,e v v=true
 symm : ∀ v w,e v w=true→e w v=true
 trans : ∀ u v w,e u v=true→e v w=true→e u w=true
section
variable {e:Nat→Nat→Bool} (he:Eqv e)
include he
theorem zm5 (w:Nat):e (zU e w) w=true:=by
 rcases (ziL e w).1 with h|h
 ·exact h.2
 ·rw [h];exact he.refl w
theorem ziK {v w:Nat} : zU e v=zU e w↔e v w=true:=by
 constructor
 ·intro h
  have h1:=zm5 he v
  rw [h] at h1
  exact he.trans _ _ _ (he.symm _ _ h1) (zm5 he w)
 ·intro h
  have a : ∀ {v w},e v w=true→zU e w≤zU e v:=by
   intro v w h
   rcases Nat.lt_or_ge (zU e v) (zU e w) with hl|hl
   ·have:=zrH hl
    rw [he.trans _ _ _ (zm5 he v) h] at this;cases this
   ·exact hl
  have:=a h;have:=a (he.symm _ _ h);omega
theorem zz6 (w:Nat):zU e (zU e w)=zU e w:=(ziK he).2 (zm5 he w)
end
theorem zht {e e':Nat→Nat→Bool} {w:Nat} (h : ∀ v,v≤w→e v w=e' v w):zU e w=zU e' w:=by
 have a : ∀ {e e':Nat→Nat→Bool},(∀ v,v≤w→e v w=e' v w)→zU e w≤zU e' w:=by
  intro e e' h
  rcases Nat.lt_or_ge (zU e' w) (zU e w) with hl|hl
  ·have h1:=zrH hl
   have hle:=zuo e w
   rcases (ziL e' w).1 with h2|h2
   ·rw [h _ (by omega),h2.2] at h1;cases h1
   ·omega
  ·exact hl
 have:=a h;have:=a fun v hv=>(h v hv).symm;omega
structure zaK (n:Nat) (q:Nat→Nat):Prop where
 le : ∀ w,w < n→q w≤w
 idem : ∀ w,w < n→q (q w)=q w
theorem zd7 {e:Nat→Nat→Bool} (he:Eqv e) (n:Nat):zaK n (zU e):=⟨fun w _=>zuo e w,fun w _=>zz6 he w⟩
def za9 {α:Type} [DecidableEq α] (k:Nat→α) (v w:Nat):Bool:=decide (k v=k w)
theorem zbN {α:Type} [DecidableEq α] (k:Nat→α):Eqv (za9 k) :=
 ⟨fun v=>by simp [za9],fun v w h=>by simp only [za9,decide_eq_true_eq] at h ⊢;exact h.symm,fun u v w h h'=>by simp only [za9,decide_eq_true_eq] at h h' ⊢;exact h.trans h'⟩
theorem zjg {n:Nat} {q:Nat→Nat} (h:zaK n q) {w:Nat} (hw:w < n):zU (za9 q) w=q w:=by
 have h1:=h.le w hw
 have h2:=h.idem w hw
 have h3:zU (za9 q) w≤q w:=by
  rcases Nat.lt_or_ge (q w) (zU (za9 q) w) with hl|hl
  ·have:=zrH hl
   simp [za9,h2] at this
  ·exact hl
 have h4:=zm5 (zbN q) w
 simp only [za9,decide_eq_true_eq] at h4
 have h5:=h.le (zU (za9 q) w) (by omega)
 omega
def zaG (q:Nat→Nat) (s:BitVec 64) (k:Nat):BitVec 64:=(List.range k).foldl (fun o w=>if s.getLsbD w=true then o|||1#64 <<< q w else o) 0#64
theorem zgf (q:Nat→Nat) (s:BitVec 64) (k:Nat):zaG q s (k+1)=if s.getLsbD k=true then zaG q s k|||1#64 <<< q k else zaG q s k:=by
 unfold zaG;rw [List.range_succ,List.foldl_append];rfl
def zfB (n:Nat) (rels:List (Nat→BitVec 64)) (q:Nat→Nat) (v w:Nat):Bool:=decide (q v=q w)&&rels.all fun r=>decide (zaG q (r v) n=zaG q (r w) n)
theorem zh3 (n:Nat) (rels:List (Nat→BitVec 64)) (q:Nat→Nat):Eqv (zfB n rels q):=by
 refine ⟨fun v=>by simp [zfB],fun v w h=>?_,fun u v w h h'=>?_⟩
 ·simp only [zfB,Bool.and_eq_true,decide_eq_true_eq,List.all_eq_true] at h ⊢
  exact ⟨h.1.symm,fun r hr=>(h.2 r hr).symm⟩
 ·simp only [zfB,Bool.and_eq_true,decide_eq_true_eq,List.all_eq_true] at h h' ⊢
  exact ⟨h.1.trans h'.1,fun r hr=>(h.2 r hr).trans (h'.2 r hr)⟩
def zbj (n:Nat) (rels:List (Nat→BitVec 64)) (q:Nat→Nat):Nat→Nat:=zU (zfB n rels q)
theorem zmw (n:Nat) (rels:List (Nat→BitVec 64)) (q:Nat→Nat) (m:Nat):zaK m (zbj n rels q):=zd7 (zh3 n rels q) m
theorem zjb {q q':Nat→Nat} {s:BitVec 64} {n:Nat} (h : ∀ w,w < n→q w=q' w) : ∀ k,k≤n→zaG q s k=zaG q' s k
 | 0,_=>rfl
 | k+1,hk=>by rw [zgf,zgf,zjb h k (by omega),h k (by omega)]
theorem zsV {n:Nat} {rels:List (Nat→BitVec 64)} {q q':Nat→Nat} (h : ∀ w,w < n→q w=q' w) {w:Nat} (hw:w < n):zbj n rels q w=zbj n rels q' w:=by
 refine zht fun v hv=>?_
 unfold zfB
 rw [h v (by omega),h w hw]
 congr 1
 refine congrArg (fun f=>rels.all f) (funext fun r=>?_)
 rw [zjb h n (Nat.le_refl _),zjb h n (Nat.le_refl _)]
section
variable {n:Nat} {rels:List (Nat→BitVec 64)} {q:Nat→Nat} (hq:zaK n q)
include hq
theorem zpm {w:Nat} (hw:w < n):q (zbj n rels q w)=q w:=by
 have:=zm5 (zh3 n rels q) w
 simp only [zfB,Bool.and_eq_true,decide_eq_true_eq] at this
 exact this.1
theorem zws {w:Nat} (hw:w < n) (h:q w=w):zbj n rels q w=w:=by
 have h1:=zuo (zfB n rels q) w
 have h2:=zpm (rels:=rels) hq hw
 have h3:=hq.le (zbj n rels q w) (by unfold zbj;omega)
 unfold zbj at *;omega
theorem zuJ (h : ∀ w,w < n→zbj n rels q w=w→q w=w) {w:Nat} (hw:w < n):zbj n rels q w=q w:=by
 have hc:=zmw n rels q n
 have h1:=h (zbj n rels q w) (by have:=hc.le w hw;omega) (hc.idem w hw)
 rw [← h1,zpm hq hw]
end
def zx (n:Nat) (q:Nat→Nat):Nat:=((List.range n).filter fun w=>decide (q w=w)).length
theorem ze5 {p p':Nat→Bool} (hi : ∀ w,p w=true→p' w=true) : ∀ l:List Nat,(l.filter p).length≤(l.filter p').length∧((∃ w∈l,p w=false∧p' w=true)→(l.filter p).length < (l.filter p').length)
 | []=>⟨Nat.le_refl _,fun ⟨w,h,_⟩=>by cases h⟩
 | x::l=>by
  obtain ⟨h1,h2⟩:=ze5 hi l
  cases hp:p x with
  | true =>
   rw [List.filter_cons_of_pos hp,List.filter_cons_of_pos (hi x hp)]
   refine ⟨by simpa using h1,fun ⟨w,hw,h3,h4⟩=>?_⟩
   rcases List.mem_cons.1 hw with rfl|hw
   ·rw [hp] at h3;cases h3
   ·have:=h2 ⟨w,hw,h3,h4⟩;simpa using this
  | false =>
   rw [List.filter_cons_of_neg (by simp [hp])]
   cases hp':p' x with
   | true =>
    rw [List.filter_cons_of_pos hp',List.length_cons]
    exact ⟨by omega,fun _=>by omega⟩
   | false =>
    rw [List.filter_cons_of_neg (by simp [hp'])]
    refine ⟨h1,fun ⟨w,hw,h3,h4⟩=>?_⟩
    rcases List.mem_cons.1 hw with rfl|hw
    ·rw [hp'] at h4;cases h4
    ·exact h2 ⟨w,hw,h3,h4⟩
theorem zcX (n:Nat) (q:Nat→Nat):zx n q≤n:=by
 unfold zx
 have:=List.length_filter_le (fun w=>decide (q w=w)) (List.range n)
 simpa using this
theorem zyw {n:Nat} {rels:List (Nat→BitVec 64)} {q:Nat→Nat} (hq:zaK n q) (h : ∃ w,w < n∧zbj n rels q w≠q w):zx n q < zx n (zbj n rels q):=by
 unfold zx
 have e1:(List.range n).filter (fun w=>decide (q w=w))=(List.range n).filter fun w=>decide (w < n∧q w=w):=by
  refine List.filter_congr fun w hw=>?_
  have:=List.mem_range.1 hw
  simp [this]
 have e2:(List.range n).filter (fun w=>decide (zbj n rels q w=w))=(List.range n).filter fun w=>decide (w < n∧zbj n rels q w=w):=by
  refine List.filter_congr fun w hw=>?_
  have:=List.mem_range.1 hw
  simp [this]
 rw [e1,e2]
 refine (ze5 (fun w hw=>?_) _).2 ?_
 ·simp only [decide_eq_true_eq] at hw ⊢
  exact ⟨hw.1,zws hq hw.1 hw.2⟩
 ·obtain ⟨w,hw,hne⟩:=h
  by_cases hall : ∀ w,w < n→zbj n rels q w=w→q w=w
  ·exact absurd (zuJ hq hall hw) hne
  ·simp only [Classical.not_forall] at hall
   obtain ⟨u,hu,h1,h2⟩:=hall
   exact ⟨u,List.mem_range.2 hu,by simp [h2],by simp [hu,h1]⟩
def zbu (n:Nat) (rels:List (Nat→BitVec 64)) (q0:Nat→Nat):Nat→Nat→Nat
 | 0=>q0
 | k+1=>zbj n rels (zbu n rels q0 k)
section
variable {n:Nat} {rels:List (Nat→BitVec 64)} {q0:Nat→Nat} (hq:zaK n q0)
include hq
theorem zmp : ∀ k,zaK n (zbu n rels q0 k)
 | 0=>hq
 | k+1=>zmw _ _ _ _
theorem zjw {k:Nat} (h : ∀ w,w < n→zbu n rels q0 (k+1) w=zbu n rels q0 k w) : ∀ j,k≤j → ∀ w,w < n→zbu n rels q0 j w=zbu n rels q0 k w:=by
 intro j hj
 induction j with
 | zero=>intro w hw;rw [show k=0 by omega]
 | succ j ih =>
  intro w hw
  by_cases e:k=j+1
  ·rw [e]
  ·have ih:=ih (by omega)
   rw [← h w hw]
   exact zsV ih hw
theorem zjv {k:Nat} (h : ∀ j,j < k → ∃ w,w < n∧zbu n rels q0 (j+1) w≠zbu n rels q0 j w) : ∀ j,j≤k→zx n q0+j≤zx n (zbu n rels q0 j)
 | 0,_=>Nat.le_refl _
 | j+1,hj=>by
  have h1:=zjv h j (by omega)
  have h2:=zyw (zmp hq j) (h j (by omega))
  show zx n q0+(j+1)≤zx n (zbj n rels (zbu n rels q0 j))
  omega
theorem zvz {j:Nat} (hn:0 < n) (hj:n≤j) {w:Nat} (hw:w < n):zbu n rels q0 j w=zbu n rels q0 n w:=by
 by_cases hall : ∀ i,i < n → ∃ w,w < n∧zbu n rels q0 (i+1) w≠zbu n rels q0 i w
 ·have h1:=zjv hq hall n (Nat.le_refl _)
  have h2:=zcX n (zbu n rels q0 n)
  have h3:0 < zx n q0:=by
   unfold zx
   have h0:q0 0=0:=by have:=hq.le 0 hn;omega
   exact List.length_pos_of_mem (List.mem_filter.2 ⟨List.mem_range.2 hn,by simp [h0]⟩)
  omega
 ·simp only [Classical.not_forall] at hall
  obtain ⟨i,hi,hs⟩:=hall
  have hst : ∀ w,w < n→zbu n rels q0 (i+1) w=zbu n rels q0 i w:=fun w hw=>by
   by_cases e:zbu n rels q0 (i+1) w=zbu n rels q0 i w
   ·exact e
   ·exact absurd ⟨w,hw,e⟩ hs
  rw [zjw hq hst j (by omega) w hw,zjw hq hst n (by omega) w hw]
end
end Go.Ab
namespace Go.Ab
open Go Go.Proofs
set_option maxRecDepth 10000
set_option maxHeartbeats 4000000
variable {T:Nat→Obj→Prop}
theorem zth {α:Type} {l:List α} {i:Nat} {x d:α} (h:l[i]? = some x):l.getD i d=x:=by simp [List.getD,h]
def za (m:KM):Int :=
 if m.W < 1∨64 < m.W then 2 else if 4 < m.rel.length∨8 < m.val.length then 8 else if m.rel.any (fun r=>decide ((r.length:Int)≠m.W)) then 3 else if m.val.any (bad m.W) then 2 else if m.rel.any (fun r=>r.any (bad m.W)) then 2 else 0
structure zcm (m:KM):Prop where
 w1:1≤m.W
 w2:m.W≤64
 n4:m.rel.length≤4
 v8:m.val.length≤8
 len : ∀ r∈m.rel,(r.length:Int)=m.W
 val : ∀ s∈m.val,bad m.W s=false
 rel : ∀ r∈m.rel,∀ s∈r,bad m.W s=false
theorem zq {m:KM} (h:za m=0):zcm m:=by
 unfold za at h
 split at h
 ·cases h
 ·split at h
  ·cases h
  ·split at h
   ·cases h
   ·split at h
    ·cases h
    ·split at h
     ·cases h
     ·rename_i h1 h2 h3 h4 h5
      refine ⟨by omega,by omega,by omega,by omega,fun r hr=>?_,fun s hs=>?_,fun r hr s hs=>?_⟩
      ·simp only [List.any_eq_true,not_exists,not_and] at h3;simpa using h3 r hr
      ·simp only [List.any_eq_true,not_exists,not_and] at h4;simpa using h4 s hs
      ·simp only [List.any_eq_true,not_exists,not_and] at h5;simpa using h5 r hr s hs
theorem zvM {k:IntKind} {a:Nat} (h:a < 2 ^ k.bits):(BitVec.ofInt k.bits (a:Int)).toNat=a:=by
 rw [BitVec.toNat_ofInt,Int.emod_eq_of_lt (Int.natCast_nonneg a) (show (a:Int) < ((2 ^ k.bits:Nat):Int) from Int.ofNat_lt.2 h)]
 rfl
theorem zx4 {a:Nat} (h:a < 2 ^ 63):IntKind.wrap .i64 (a:Int)=a:=zsq ⟨by omega,by omega⟩
theorem zs4 {a b:Nat} (ha:a < 2 ^ 63) (hb:b < 2 ^ 63):zdd .i64 (fun p q=>p|||q) (a:Int) (b:Int)=((a|||b:Nat):Int):=by
 unfold zdd
 rw [BitVec.toNat_or,zvM (k := .i64) (by simp [IntKind.bits];omega),zvM (k := .i64) (by simp [IntKind.bits];omega)]
 exact zx4 (Nat.or_lt_two_pow ha hb)
theorem zop {x:BitVec 64} {k i:Nat} (hk:k < 64):(x|||1#64 <<< k).getLsbD i=true↔x.getLsbD i=true∨i=k:=by
 rw [BitVec.getLsbD_or,Bool.or_eq_true,zoO]
 constructor
 ·rintro (h|h)
  ·exact .inl h
  ·simp at h;exact .inr h.2
 ·rintro (h|rfl)
  ·exact .inl h
  ·exact .inr (by simp [hk])
def zaB (l:List (BitVec 64)) (w:Nat):Nat→Nat
 | 0=>0
 | k+1=>zaB l w k+if (l.getD k 0#64).getLsbD w=true then 2 ^ k else 0
theorem zmR (l:List (BitVec 64)) (w:Nat) : ∀ k,zaB l w k < 2 ^ k
 | 0=>by simp [zaB]
 | k+1=>by
  have:=zmR l w k
  have h2:=Nat.two_pow_pos k
  rw [zaB,Nat.pow_succ]
  split<;>omega
theorem zgn (l:List (BitVec 64)) (w:Nat) {i:Nat} : ∀ k,(zaB l w k).testBit i=true↔i < k∧(l.getD i 0#64).getLsbD w=true
 | 0=>by simp [zaB]
 | k+1=>by
  have hlt:=zmR l w k
  have ih:=zgn l w (i:=i) k
  have e:zaB l w (k+1)=2 ^ k * (if (l.getD k 0#64).getLsbD w=true then 1 else 0)+zaB l w k:=by
   rw [zaB];split<;>omega
  rw [e,Nat.testBit_two_pow_mul_add _ hlt]
  by_cases h:i < k
  ·rw [if_pos h,ih]
   exact ⟨fun ⟨a,b⟩=>⟨by omega,b⟩,fun ⟨a,b⟩=>⟨h,b⟩⟩
  ·rw [if_neg h]
   by_cases h2:i=k
   ·subst h2
    rw [Nat.sub_self]
    split
    ·rename_i hb;exact ⟨fun _=>⟨by omega,hb⟩,fun _=>by decide⟩
    ·rename_i hb;exact ⟨fun h=>by simp at h,fun h=>absurd h.2 hb⟩
   ·constructor
    ·intro h3
     exfalso
     obtain ⟨m,hm⟩ : ∃ m,i - k=m+1:=⟨i - k - 1,by omega⟩
     rw [hm,Nat.testBit_succ] at h3
     split at h3<;>simp at h3
    ·rintro ⟨a,-⟩;omega
theorem zyY {x k:Nat} (h:x < 2 ^ k):x|||2 ^ k=x+2 ^ k:=by
 have:=Nat.two_pow_add_eq_or_of_lt (i:=k) h 1
 rw [Nat.or_comm,show 2 ^ k=2 ^ k * 1 by omega,← this];omega
theorem zw4 {l:List (BitVec 64)} {w k:Nat} {s:BitVec 64} (hs:l[k]? = some s) (hk:k < 8) :
  zdd .i64 (fun p q=>p|||q) (zaB l w k:Int) ((((s >>> w&&&1#64).toNat:Int)) * 2 ^ (min k IntKind.i64.bits))=(zaB l w (k+1):Int):=by
 have h1:=zmR l w k
 have hp:2 ^ k≤2 ^ 7:=Nat.pow_le_pow_right (by decide) (by omega)
 have hb:min k IntKind.i64.bits=k:=by show min k 64=k;omega
 rw [hb,zaB,show l.getD k 0#64=s by rw [List.getD,hs];rfl]
 by_cases h:s.getLsbD w=true
 ·have e:s >>> w&&&1#64=1#64:=(ze1 s w).2 h
  rw [e,if_pos h]
  have:=zs4 (a:=zaB l w k) (b:=2 ^ k) (by omega) (by omega)
  rw [show ((1#64).toNat:Int) * 2 ^ k=((2 ^ k:Nat):Int) by simp,this,zyY h1]
 ·have e:s >>> w&&&1#64=0#64:=(zmG s w).2 (by simpa using h)
  rw [e,if_neg h]
  have:=zs4 (a:=zaB l w k) (b:=0) (by omega) (by omega)
  rw [show ((0#64).toNat:Int) * 2 ^ k=((0:Nat):Int) by simp,this];simp
theorem zuW (s:BitVec 64) (w:Nat):(s >>> w&&&1#64).toNat≤1:=by
 cases h:s.getLsbD w with
 | true=>rw [(ze1 s w).2 h];decide
 | false=>rw [(zmG s w).2 h];decide
theorem zv9 {x k:Nat} (hx:x≤1) (hk:k < 8):0≤(x:Int) * 2 ^ (min (k:Int).toNat IntKind.i64.bits)∧(x:Int) * 2 ^ (min (k:Int).toNat IntKind.i64.bits)≤9223372036854775807:=by
 have hp:2 ^ k≤2 ^ 7:=Nat.pow_le_pow_right (by decide) (by omega)
 have hb:min (k:Int).toNat IntKind.i64.bits=k:=by show min k 64=k;omega
 rw [hb]
 match x,hx with
 | 0,_=>simp
 | 1,_ =>
  rw [show ((1:Nat):Int) * 2 ^ k=((2 ^ k:Nat):Int) by simp]
  have h7:(2:Nat) ^ 7=128:=rfl
  exact ⟨Int.natCast_nonneg _,Int.ofNat_le.2 (show 2 ^ k≤9223372036854775807 by omega)⟩
def ptL (n:Nat) (q:Nat→Nat):List Int:=(List.range n).map fun w=>((q w:Nat):Int)
theorem za0 {n:Nat} {q:Nat→Nat} {w:Nat} (hw:w < n):(ptL n q)[w]? = some ((q w:Nat):Int):=by simp [ptL,hw]
theorem zbq {n:Nat} {q:Nat→Nat} : (ptL n q).length=n:=by simp [ptL]
theorem zh2 {n:Nat} {q q':Nat→Nat} (h : ∀ w,w < n→q w=q' w):ptL n q=ptL n q':=List.map_congr_left fun w hw=>by rw [h w (List.mem_range.1 hw)]
theorem zyZ {n:Nat} {q q':Nat→Nat} (h:ptL n q=ptL n q') {w:Nat} (hw:w < n):q w=q' w:=by
 have:=za0 (q:=q) hw
 rw [h,za0 hw] at this
 have:=Option.some.inj this
 omega
end Go.Ab
namespace Go.Ab
def z8 {α:Type} (c:α→α→Int):List α→List α→Int
 | [],[]=>0
 | [],_::_ => -1
 | _::_,[]=>1
 | x::r,y::s=>if c x y=0 then z8 c r s else c x y
structure zln {α:Type} (c:α→α→Int):Prop where
 zero : ∀ {x y},c x y=0↔x=y
 anti : ∀ x y,c y x = - c x y
 tr : ∀ {x y z},c x y < 0→c y z < 0→c x z < 0
theorem zln.refl {α:Type} {c:α→α→Int} (h:zln c) (x:α):c x x=0:=h.zero.2 rfl
theorem zs7 {α:Type} {c:α→α→Int} (h:zln c):zln (z8 c) where
 zero:=by
  intro x
  induction x with
  | nil=>intro y;cases y<;>simp [z8]
  | cons a r ih =>
   intro y
   cases y with
   | nil=>simp [z8]
   | cons b s =>
    unfold z8
    by_cases e:c a b=0
    ·rw [if_pos e,ih,h.zero.1 e];simp
    ·rw [if_neg e]
     constructor
     ·intro h';exact absurd h' e
     ·intro h';cases h';exact absurd (h.refl _) e
 anti:=by
  intro x
  induction x with
  | nil=>intro y;cases y<;>simp [z8]
  | cons a r ih =>
   intro y
   cases y with
   | nil=>simp [z8]
   | cons b s =>
    unfold z8
    have:=h.anti a b
    by_cases e:c a b=0
    ·rw [if_pos e,if_pos (by omega),ih]
    ·rw [if_neg e,if_neg (by omega),this]
 tr:=by
  intro x
  induction x with
  | nil =>
   intro y z h1 h2
   cases y with
   | nil=>simp [z8] at h1
   | cons b s=>cases z with
    | nil=>simp [z8] at h2
    | cons d t=>simp [z8]
  | cons a r ih =>
   intro y z h1 h2
   cases y with
   | nil=>simp [z8] at h1
   | cons b s=>cases z with
    | nil=>simp [z8] at h2
    | cons d t =>
     unfold z8 at h1 h2 ⊢
     by_cases e1:c a b=0
     ·obtain rfl:=h.zero.1 e1
      rw [if_pos e1] at h1
      by_cases e2:c a d=0
      ·rw [if_pos e2] at h2 ⊢;exact ih h1 h2
      ·rw [if_neg e2] at h2 ⊢;exact h2
     ·rw [if_neg e1] at h1
      by_cases e2:c b d=0
      ·obtain rfl:=h.zero.1 e2
       rw [if_neg e1];exact h1
      ·rw [if_neg e2] at h2
       have h3:=h.tr h1 h2
       rw [if_neg (by omega)];exact h3
def za5 (x y:Int):Int:=if x < y then -1 else if y < x then 1 else 0
theorem zyv:zln za5 where
 zero:=by
  intro x y;unfold za5
  by_cases h1:x < y
  ·rw [if_pos h1];omega
  ·rw [if_neg h1]
   by_cases h2:y < x
   ·rw [if_pos h2];omega
   ·rw [if_neg h2];omega
 anti:=by
  intro x y;unfold za5
  by_cases h1:x < y
  ·rw [if_pos h1,if_neg (by omega),if_pos h1];rfl
  ·rw [if_neg h1]
   by_cases h2:y < x
   ·rw [if_pos h2,if_neg h1,if_pos h2]
   ·rw [if_neg h2,if_neg h1,if_neg h2];rfl
 tr:=by
  intro x y z;unfold za5
  by_cases h1:x < y
  ·rw [if_pos h1]
   by_cases h2:y < z
   ·rw [if_pos h2,if_pos (by omega)];simp
   ·rw [if_neg h2]
    by_cases h3:z < y
    ·rw [if_pos h3];intro _ h;omega
    ·rw [if_neg h3];intro _ h;omega
  ·rw [if_neg h1]
   by_cases h2:y < x
   ·rw [if_pos h2];intro h;omega
   ·rw [if_neg h2];intro h;omega
abbrev Tup:=List (List Int)
def zaU:Tup→Tup→Int:=z8 (z8 za5)
theorem zak:zln zaU:=zs7 (zs7 zyv)
def ddT {α:Type} [DecidableEq α]:List α→List α
 | []=>[]
 | x::r=>if x∈r then ddT r else x::ddT r
theorem zap {α:Type} [DecidableEq α] {x:α} : ∀ {l:List α},x∈ddT l↔x∈l
 | []=>Iff.rfl
 | y::r=>by
  unfold ddT
  have ih:=zap (x:=x) (l:=r)
  by_cases h:y∈r
  ·rw [if_pos h,ih,List.mem_cons]
   exact ⟨.inr,fun h'=>h'.elim (fun e=>e▸h) id⟩
  ·rw [if_neg h,List.mem_cons,List.mem_cons,ih]
theorem zcy {α:Type} [DecidableEq α] : ∀ l:List α,(ddT l).Nodup
 | []=>List.nodup_nil
 | y::r=>by
  unfold ddT
  by_cases h:y∈r
  ·rw [if_pos h];exact zcy r
  ·rw [if_neg h];exact List.nodup_cons.2 ⟨fun h'=>h (zap.1 h'),zcy r⟩
def rkN (ts:List Tup) (t:Tup):Nat:=((ddT ts).filter fun s=>decide (zaU s t < 0)).length
def cnN (ts:List Tup):Nat:=(ddT ts).length
theorem zfy {α:Type} [DecidableEq α] {l l':List α} (h:l.Nodup) (h':l'.Nodup) (hm : ∀ x,x∈l↔x∈l'):l.Perm l':=by
 rw [List.perm_iff_count]
 intro a
 have c : ∀ l:List α,l.Nodup→l.count a=if a∈l then 1 else 0:=fun l hl=>by
  by_cases ha:a∈l
  ·rw [if_pos ha]
   have h1:=List.nodup_iff_count.1 hl a
   have h2:=List.count_pos_iff.2 ha
   omega
  ·rw [if_neg ha];exact List.count_eq_zero.2 ha
 rw [c l h,c l' h']
 by_cases ha:a∈l
 ·rw [if_pos ha,if_pos ((hm a).1 ha)]
 ·rw [if_neg ha,if_neg (fun h=>ha ((hm a).2 h))]
theorem zyk {ts S:List Tup} (hn:S.Nodup) (hm : ∀ x,x∈S↔x∈ts) (t:Tup):(S.filter fun s=>decide (zaU s t < 0)).length=rkN ts t :=
 ((zfy hn (zcy _) fun x=>by rw [hm,zap]).filter _).length_eq
theorem zya {ts S:List Tup} (hn:S.Nodup) (hm : ∀ x,x∈S↔x∈ts):S.length=cnN ts :=
 (zfy hn (zcy _) fun x=>by rw [hm,zap]).length_eq
theorem zxG {ts ts':List Tup} (hm : ∀ x,x∈ts↔x∈ts') (t:Tup):rkN ts t=rkN ts' t :=
 zyk (zcy _) (fun x=>by rw [zap];exact hm x) t
theorem zwS {ts ts':List Tup} (hm : ∀ x,x∈ts↔x∈ts'):cnN ts=cnN ts' :=
 zya (zcy _) (fun x=>by rw [zap];exact hm x)
theorem zlb {ts:List Tup} {s t:Tup} (hs:s∈ts) (ht:t∈ts):rkN ts s < rkN ts t↔zaU s t < 0:=by
 have key : ∀ {s t:Tup},s∈ts→zaU s t < 0→rkN ts s < rkN ts t:=by
  intro s t hs h
  unfold rkN
  have h1 : ∀ x,decide (zaU x s < 0)=true→decide (zaU x t < 0)=true:=fun x hx=>decide_eq_true (zak.tr (of_decide_eq_true hx) h)
  have h2:s∈(ddT ts):=zap.2 hs
  generalize (ddT ts)=l at h2
  induction l with
  | nil=>cases h2
  | cons a r ih =>
   have hle:(r.filter fun x=>decide (zaU x s < 0)).length≤(r.filter fun x=>decide (zaU x t < 0)).length:=by
    clear ih h2
    induction r with
    | nil=>simp
    | cons b r ih =>
     simp only [List.filter_cons]
     by_cases hb:decide (zaU b s < 0)=true
     ·rw [if_pos hb,if_pos (h1 b hb)];simpa using ih
     ·rw [if_neg hb]
      split
      ·rw [List.length_cons];omega
      ·exact ih
   simp only [List.filter_cons]
   by_cases hb:decide (zaU a s < 0)=true
   ·rw [if_pos hb,if_pos (h1 a hb)]
    rcases List.mem_cons.1 h2 with rfl|h2
    ·have:=zak.refl s;have:=of_decide_eq_true hb;omega
    ·simpa using ih h2
   ·rw [if_neg hb]
    rcases List.mem_cons.1 h2 with rfl|h2
    ·rw [if_pos (decide_eq_true h)];simp;omega
    ·have:=ih h2
     split
     ·rw [List.length_cons];omega
     ·exact this
 refine ⟨fun h=>?_,key hs⟩
 have ha:=zak.anti s t
 rcases Int.lt_trichotomy (zaU s t) 0 with h'|h'|h'
 ·exact h'
 ·rw [zak.zero.1 h'] at h;omega
 ·have:=key (s:=t) (t:=s) ht (by omega);omega
theorem zr7 {ts:List Tup} {s t:Tup} (hs:s∈ts) (ht:t∈ts) (h:rkN ts s=rkN ts t):s=t:=by
 have h1:=zlb hs ht
 have h2:=zlb ht hs
 have h3:=zak.anti s t
 exact zak.zero.1 (by omega)
theorem zr8 {ts:List Tup} {t:Tup} (ht:t∈ts):rkN ts t < cnN ts:=by
 unfold rkN cnN
 have h2:t∈(ddT ts):=zap.2 ht
 refine Nat.lt_of_le_of_ne (List.length_filter_le _ _) fun h=>?_
 have:=List.length_filter_eq_length_iff.1 h t h2
 have h3:=zak.refl t
 have:=of_decide_eq_true this
 omega
end Go.Ab
namespace Go.Ab
theorem zbC {α:Type} [DecidableEq α] : ∀ {l l':List α},l.Nodup→(∀ x∈l,x∈l')→l.length≤l'.length
 | [],_,_,_=>Nat.zero_le _
 | x::t,l',h,hs=>by
  obtain ⟨h1,h2⟩:=List.nodup_cons.1 h
  have:=zbC (l:=t) (l':=l'.erase x) h2 fun y hy=>by
   have hne:y≠x:=fun e=>h1 (e▸hy)
   exact (List.mem_erase_of_ne hne).2 (hs y (List.mem_cons_of_mem _ hy))
  have hx:=hs x (by simp)
  rw [List.length_erase_of_mem hx] at this
  have:=List.length_pos_of_mem hx
  rw [List.length_cons];omega
def dcN (n:Nat) (q:Nat→Nat):Nat:=(ddT ((List.range n).map q)).length
theorem zhh (n:Nat) (q:Nat→Nat):dcN n q≤n:=by
 have:=zbC (zcy ((List.range n).map q)) (l':=(List.range n).map q) fun x hx=>zap.1 hx
 rwa [List.length_map,List.length_range] at this
theorem zlu {α β:Type} [DecidableEq α] [DecidableEq β] {n:Nat} {f:Nat→α} {g:Nat→β} (h : ∀ v w,v < n→w < n→f v=f w→g v=g w):(ddT ((List.range n).map g)).length≤(ddT ((List.range n).map f)).length:=by
 classical
 by_cases h0:n=0
 ·subst h0;exact Nat.le_refl _
 let pick:α→β:=fun a=>g (((List.range n).find? fun w=>decide (f w=a)).getD 0)
 have:=zbC (zcy ((List.range n).map g)) (l':=(ddT ((List.range n).map f)).map pick) fun x hx=>by
  obtain ⟨w,hw,rfl⟩:=List.mem_map.1 (zap.1 hx)
  have hw':=List.mem_range.1 hw
  refine List.mem_map.2 ⟨f w,zap.2 (List.mem_map.2 ⟨w,hw,rfl⟩),?_⟩
  show g (((List.range n).find? fun u=>decide (f u=f w)).getD 0)=g w
  cases hf:(List.range n).find? fun u=>decide (f u=f w) with
  | none =>
   have:=List.find?_eq_none.1 hf w hw
   simp at this
  | some u =>
   have h1:=List.find?_some hf
   have h2:=List.mem_range.1 (List.mem_of_find?_eq_some hf)
   exact h u w h2 hw' (of_decide_eq_true h1)
 rwa [List.length_map] at this
section
variable (n:Nat) (next:(Nat→Nat)→Nat→Tup)
def rfT (q:Nat→Nat):List Tup:=(List.range n).map (next q)
def zec (q:Nat→Nat):Nat→Nat:=fun w=>rkN (rfT n next q) (next q w)
def zbw (q:Nat→Nat):Nat:=cnN (rfT n next q)
def zbh:Nat→(Nat→Nat)→Nat→(Nat→Nat)×Nat
 | 0,q,k=>(q,k)
 | f+1,q,k=>if zbw n next q=k then (q,k) else zbh f (zec n next q) (zbw n next q)
end
section
variable {n:Nat} {next:(Nat→Nat)→Nat→Tup} (hF : ∀ q v w,v < n→w < n→next q v=next q w→q v=q w)
theorem zph {q:Nat→Nat} {w:Nat} (hw:w < n):next q w∈rfT n next q:=List.mem_map.2 ⟨w,List.mem_range.2 hw,rfl⟩
theorem zjO {q:Nat→Nat} {v w:Nat} (hv:v < n) (hw:w < n):zec n next q v=zec n next q w↔next q v=next q w :=
 ⟨fun h=>zr7 (zph hv) (zph hw) h,fun h=>by unfold zec;rw [h]⟩
theorem zeg (q:Nat→Nat):dcN n (zec n next q)=zbw n next q:=by
 have h1:=zlu (n:=n) (f:=next q) (g:=zec n next q) fun v w hv hw h=>(zjO hv hw).2 h
 have h2:=zlu (n:=n) (f:=zec n next q) (g:=next q) fun v w hv hw h=>(zjO hv hw).1 h
 exact Nat.le_antisymm h1 h2
theorem zu4 (q:Nat→Nat):zbw n next q≤n:=by rw [← zeg];exact zhh _ _
include hF
theorem zqY (q:Nat→Nat):dcN n q≤zbw n next q:=zlu fun v w hv hw h=>hF q v w hv hw h
theorem ztx : ∀ (f g:Nat) (q:Nat→Nat),n < f+dcN n q→n < g+dcN n q→zbh n next f q (dcN n q)=zbh n next g q (dcN n q)
 | 0,g,q,h,_=>by have:=zhh n q;omega
 | f+1,0,q,_,h=>by have:=zhh n q;omega
 | f+1,g+1,q,h1,h2=>by
  unfold zbh
  by_cases h:zbw n next q=dcN n q
  ·rw [if_pos h,if_pos h]
  ·rw [if_neg h,if_neg h]
   have h3:=zqY hF q
   have h4:=ztx f g (zec n next q) (by rw [zeg];omega) (by rw [zeg];omega)
   rwa [zeg] at h4
theorem zpY : ∀ (f:Nat) (q:Nat→Nat),n < f+dcN n q → ∃ q',zbh n next f q (dcN n q)=(q',dcN n q')∧zbw n next q'=dcN n q'∧(∀ v w,v < n→w < n→q' v=q' w→q v=q w)
 | 0,q,h=>by have:=zhh n q;omega
 | f+1,q,h=>by
  unfold zbh
  by_cases he:zbw n next q=dcN n q
  ·rw [if_pos he];exact ⟨q,rfl,he,fun v w _ _ h=>h⟩
  ·rw [if_neg he]
   have h3:=zqY hF q
   obtain ⟨q',h4,h5,h6⟩:=zpY f (zec n next q) (by rw [zeg];omega)
   rw [zeg] at h4
   exact ⟨q',h4,h5,fun v w hv hw e=>hF q v w hv hw ((zjO hv hw).1 (h6 v w hv hw e))⟩
end
theorem ztb {α β:Type} [DecidableEq α] [DecidableEq β] {n:Nat} {f:Nat→α} {g:Nat→β} (h : ∀ v w,v < n→w < n→f v=f w→g v=g w) (he:(ddT ((List.range n).map g)).length=(ddT ((List.range n).map f)).length) :
  ∀ v w,v < n→w < n→g v=g w→f v=f w:=by
 classical
 intro v w hv hw hg
 refine Classical.byContradiction fun hne=>?_
 have h1:=zlu (n:=n) (f:=f) (g:=fun u=>(g u,decide (f u=f v))) fun a b ha hb e=>by rw [h a b ha hb e,e]
 have h2:(ddT ((List.range n).map g)).length+1≤(ddT ((List.range n).map fun u=>(g u,decide (f u=f v)))).length:=by
  have:=zbC (l:=(g v,false)::(ddT ((List.range n).map g)).map fun y=>(y,decide (∃ u,u < n∧g u=y∧f u=f v) )) (l':=ddT ((List.range n).map fun u=>(g u,decide (f u=f v)))) ?_ ?_
  ·simpa using this
  ·refine List.nodup_cons.2 ⟨fun hm=>?_,?_⟩
   ·obtain ⟨y,hy,e⟩:=List.mem_map.1 hm
    simp only [Prod.mk.injEq] at e
    obtain ⟨rfl,e⟩:=e
    exact absurd (of_decide_eq_false e) (not_not_intro ⟨v,hv,rfl,rfl⟩)
   ·exact List.Pairwise.map _ (fun a b hab e=>hab (by simp only [Prod.mk.injEq] at e;exact e.1)) (zcy _)
  ·intro x hx
   refine zap.2 (List.mem_map.2 ?_)
   rcases List.mem_cons.1 hx with rfl|hx
   ·exact ⟨w,List.mem_range.2 hw,by simp only [Prod.mk.injEq];exact ⟨hg.symm,decide_eq_false fun e=>hne e.symm⟩⟩
   ·obtain ⟨y,hy,rfl⟩:=List.mem_map.1 hx
    obtain ⟨u,hu,rfl⟩:=List.mem_map.1 (zap.1 hy)
    by_cases hex : ∃ u',u' < n∧g u'=g u∧f u'=f v
    ·obtain ⟨u',h1,h2,h3⟩:=hex
     exact ⟨u',List.mem_range.2 h1,by simp only [Prod.mk.injEq];exact ⟨h2,by rw [decide_eq_true h3,decide_eq_true ⟨u',h1,h2,h3⟩]⟩⟩
    ·exact ⟨u,hu,by simp only [Prod.mk.injEq];exact ⟨trivial,by rw [decide_eq_false hex,decide_eq_false fun e=>hex ⟨u,List.mem_range.1 hu,rfl,e⟩]⟩⟩
 omega
end Go.Ab
namespace Go.Ab
structure Ren (n:Nat) (f:Nat→Nat):Prop where
 lt : ∀ w,w < n→f w < n
 inj : ∀ v w,v < n→w < n→f v=f w→v=w
theorem Ren.surj {n:Nat} {f:Nat→Nat} (h:Ren n f) {x:Nat} (hx:x < n) : ∃ w,w < n∧f w=x:=by
 refine Classical.byContradiction fun hn=>?_
 have:=zbC (l:=x::(List.range n).map f) (l':=List.range n) (List.nodup_cons.2 ⟨fun hm=>?_,?_⟩) fun y hy=>?_
 ·simp at this
  omega
 ·obtain ⟨w,hw,e⟩:=List.mem_map.1 hm
  exact hn ⟨w,List.mem_range.1 hw,e⟩
 ·rw [List.Nodup,List.pairwise_map]
  exact List.Pairwise.imp_of_mem (fun {a b} ha hb hab e=>hab (h.inj a b (List.mem_range.1 ha) (List.mem_range.1 hb) e)) List.nodup_range
 ·rcases List.mem_cons.1 hy with rfl|hy
  ·exact List.mem_range.2 hx
  ·obtain ⟨w,hw,rfl⟩:=List.mem_map.1 hy
   exact List.mem_range.2 (h.lt w (List.mem_range.1 hw))
section
variable {n:Nat} {f:Nat→Nat} (hf:Ren n f) {t t':Nat→Tup} (ht : ∀ w,w < n→t' (f w)=t w)
include hf ht
theorem ztu (x:Tup):x∈(List.range n).map t'↔x∈(List.range n).map t:=by
 constructor
 ·intro h
  obtain ⟨y,hy,rfl⟩:=List.mem_map.1 h
  obtain ⟨w,hw,rfl⟩:=hf.surj (List.mem_range.1 hy)
  exact List.mem_map.2 ⟨w,List.mem_range.2 hw,(ht w hw).symm⟩
 ·intro h
  obtain ⟨w,hw,rfl⟩:=List.mem_map.1 h
  exact List.mem_map.2 ⟨f w,List.mem_range.2 (hf.lt w (List.mem_range.1 hw)),ht w (List.mem_range.1 hw)⟩
theorem zvX {w:Nat} (hw:w < n):rkN ((List.range n).map t') (t' (f w))=rkN ((List.range n).map t) (t w):=by
 rw [ht w hw];exact zxG (ztu hf ht) _
theorem zvW:cnN ((List.range n).map t')=cnN ((List.range n).map t):=zwS (ztu hf ht)
end
theorem zr6 {n:Nat} {f:Nat→Nat} (hf:Ren n f) {next next':(Nat→Nat)→Nat→Tup} (hn : ∀ q q',(∀ w,w < n→q' (f w)=q w) → ∀ w,w < n→next' q' (f w)=next q w) :
  ∀ (k:Nat) (q q':Nat→Nat) (c:Nat),(∀ w,w < n→q' (f w)=q w)→(∀ w,w < n→(zbh n next' k q' c).1 (f w)=(zbh n next k q c).1 w)∧(zbh n next' k q' c).2=(zbh n next k q c).2
 | 0,q,q',c,h=>⟨h,rfl⟩
 | k+1,q,q',c,h=>by
  have ht:=hn q q' h
  have hc:zbw n next' q'=zbw n next q:=zvW hf ht
  unfold zbh
  rw [hc]
  by_cases he:zbw n next q=c
  ·rw [if_pos he,if_pos he];exact ⟨h,rfl⟩
  ·rw [if_neg he,if_neg he]
   exact zr6 hf hn k _ _ _ fun w hw=>zvX hf ht hw
def leI (x y:Int):Bool:=decide (x≤y)
theorem zzC (a b c:Int) (h1:leI a b=true) (h2:leI b c=true):leI a c=true:=by simp [leI] at *;omega
theorem zyP (a b:Int):(leI a b||leI b a)=true:=by simp [leI];omega
def zbs (l:List Int):List Int:=l.mergeSort leI
theorem zb7 (l:List Int):(zbs l).Perm l:=List.mergeSort_perm l leI
theorem zep (l:List Int):(zbs l).Pairwise (· ≤ ·):=(List.pairwise_mergeSort zzC zyP l).imp fun h=>by simpa [leI] using h
theorem zdB : ∀ {l l':List Int},l.Pairwise (· ≤ ·)→l'.Pairwise (· ≤ ·)→l.Perm l'→l=l'
 | [],l',_,_,h=>(List.nil_perm.1 h).symm
 | a::r,[],_,_,h=>by cases List.perm_nil.1 h
 | a::r,b::s,h1,h2,h=>by
  obtain ⟨h3,h4⟩:=List.pairwise_cons.1 h1
  obtain ⟨h5,h6⟩:=List.pairwise_cons.1 h2
  have e:a=b:=by
   have hb:b∈a::r:=h.mem_iff.2 (by simp)
   have ha:a∈b::s:=h.mem_iff.1 (by simp)
   rcases List.mem_cons.1 hb with e|hb
   ·exact e.symm
   ·rcases List.mem_cons.1 ha with e|ha
    ·exact e
    ·have:=h3 b hb;have:=h5 a ha;omega
  subst e
  rw [zdB h4 h6 ((List.perm_cons a).1 h)]
theorem zp7 {l l':List Int} (h:l.Perm l'):zbs l=zbs l':=zdB (zep l) (zep l') (((zb7 l).trans h).trans (zb7 l').symm)
theorem zzL {l s:List Int} (hs:s.Pairwise (· ≤ ·)) (hp:s.Perm l):s=zbs l:=zdB hs (zep l) (hp.trans (zb7 l).symm)
def zeX (l:List Int):List Int:=zbs (ddT l)
theorem zw0 {α:Type} [DecidableEq α] {l l':List α} (h : ∀ x,x∈l↔x∈l'):(ddT l).Perm (ddT l'):=by
 rw [List.perm_iff_count]
 intro a
 have c : ∀ l:List α,(ddT l).count a=if a∈l then 1 else 0:=fun l=>by
  by_cases ha:a∈l
  ·rw [if_pos ha]
   have h1:=List.nodup_iff_count.1 (zcy l) a
   have h2:=List.count_pos_iff.2 (zap.2 ha)
   omega
  ·rw [if_neg ha];exact List.count_eq_zero.2 (fun h=>ha (zap.1 h))
 rw [c,c]
 by_cases ha:a∈l
 ·rw [if_pos ha,if_pos ((h a).1 ha)]
 ·rw [if_neg ha,if_neg (fun h'=>ha ((h a).2 h'))]
theorem zoD {l l':List Int} (h : ∀ x,x∈l↔x∈l'):zeX l=zeX l':=zp7 (zw0 h)
abbrev zB:=List (Nat→Nat→Bool)
def zc5 (n:Nat) (r:Nat→Nat→Bool) (q:Nat→Nat) (w:Nat):List Int:=((List.range n).filter fun v=>r w v).map fun v=>(q v:Int)
def zh1 (n:Nat) (R:zB) (q:Nat→Nat) (w:Nat):Tup:=[(q w:Int)]::R.map fun r=>zbs (zc5 n r q w)
def zX (n:Nat) (R:zB) (q:Nat→Nat) (w:Nat):Tup:=[(q w:Int)]::R.map fun r=>zeX (zc5 n r q w)
theorem zfx {n:Nat} {R:zB} (q:Nat→Nat) (v w:Nat) (_:v < n) (_:w < n) (h:zX n R q v=zX n R q w):q v=q w:=by
 unfold zX at h
 have:=(List.cons.inj h).1
 simp at this;omega
structure zg7 (n:Nat) (f:Nat→Nat) (R R':zB):Prop where
 len:R'.length=R.length
 rel : ∀ (i:Nat) (r r':Nat→Nat→Bool),R[i]? = some r→R'[i]? = some r' → ∀ v w,v < n→w < n→r' (f v) (f w)=r v w
theorem zxN {n:Nat} {f:Nat→Nat} (hf:Ren n f) {r r':Nat→Nat→Bool} (h : ∀ v w,v < n→w < n→r' (f v) (f w)=r v w) {q q':Nat→Nat} (hq : ∀ w,w < n→q' (f w)=q w) {w:Nat} (hw:w < n):(zc5 n r' q' (f w)).Perm (zc5 n r q w):=by
 have h1:((List.range n).filter fun v=>r' (f w) v).Perm (((List.range n).filter fun v=>r w v).map f):=by
  refine zfy (List.Nodup.sublist List.filter_sublist List.nodup_range) ?_ fun x=>?_
  ·rw [List.Nodup,List.pairwise_map]
   refine List.Pairwise.imp_of_mem (fun {a b} ha hb hab e=>hab (hf.inj a b ?_ ?_ e)) (List.Nodup.sublist List.filter_sublist List.nodup_range)
   ·exact List.mem_range.1 (List.mem_filter.1 ha).1
   ·exact List.mem_range.1 (List.mem_filter.1 hb).1
  ·constructor
   ·intro hx
    obtain ⟨h1,h2⟩:=List.mem_filter.1 hx
    obtain ⟨v,hv,rfl⟩:=hf.surj (List.mem_range.1 h1)
    exact List.mem_map.2 ⟨v,List.mem_filter.2 ⟨List.mem_range.2 hv,by rw [← h w v hw hv];exact h2⟩,rfl⟩
   ·intro hx
    obtain ⟨v,hv,rfl⟩:=List.mem_map.1 hx
    obtain ⟨h1,h2⟩:=List.mem_filter.1 hv
    have h1:=List.mem_range.1 h1
    exact List.mem_filter.2 ⟨List.mem_range.2 (hf.lt v h1),by rw [h w v hw h1];exact h2⟩
 unfold zc5
 refine (h1.map _).trans ?_
 rw [List.map_map]
 refine List.Perm.of_eq (List.map_congr_left fun v hv=>?_)
 have:=List.mem_range.1 (List.mem_filter.1 hv).1
 show ((q' (f v):Nat):Int)=_
 rw [hq v this]
theorem zrP {n:Nat} {f:Nat→Nat} (hf:Ren n f) {R R':zB} (hR:zg7 n f R R') {q q':Nat→Nat} (hq : ∀ w,w < n→q' (f w)=q w) {w:Nat} (hw:w < n):zh1 n R' q' (f w)=zh1 n R q w∧zX n R' q' (f w)=zX n R q w:=by
 have key : ∀ (g:List Int→List Int),(∀ l l':List Int,l.Perm l'→g l=g l')→(R'.map fun r=>g (zc5 n r q' (f w)))=R.map fun r=>g (zc5 n r q w):=by
  intro g hg
  refine List.ext_getElem? fun i=>?_
  rw [List.getElem?_map,List.getElem?_map]
  by_cases hi:i < R.length
  ·obtain ⟨r,hr⟩ : ∃ r,R[i]? = some r:=⟨_,List.getElem?_eq_getElem hi⟩
   obtain ⟨r',hr'⟩ : ∃ r',R'[i]? = some r':=⟨_,List.getElem?_eq_getElem (by rw [hR.len];exact hi)⟩
   rw [hr,hr']
   exact congrArg some (hg _ _ (zxN hf (hR.rel i r r' hr hr') hq hw))
  ·rw [List.getElem?_eq_none (by rw [hR.len];omega),List.getElem?_eq_none (by omega)];rfl
 exact ⟨by unfold zh1;rw [hq w hw,key zbs fun l l' h=>zp7 h],by unfold zX;rw [hq w hw,key zeX fun l l' h=>zoD fun x=>h.mem_iff]⟩
def zr1 (n:Nat) (R:zB) (first:Nat→Tup):(Nat→Nat)×Nat:=zbh n (zh1 n R) (n+1) (fun w=>rkN ((List.range n).map first) (first w)) (cnN ((List.range n).map first))
def zcg (n:Nat) (R:zB) (first:Nat→Tup):(Nat→Nat)×Nat:=zbh n (zX n R) (n+1) (fun w=>rkN ((List.range n).map first) (first w)) (cnN ((List.range n).map first))
theorem zlF {n:Nat} {f:Nat→Nat} (hf:Ren n f) {R R':zB} (hR:zg7 n f R R') {first first':Nat→Tup} (h1 : ∀ w,w < n→first' (f w)=first w) :
  (∀ w,w < n→(zr1 n R' first').1 (f w)=(zr1 n R first).1 w)∧(zr1 n R' first').2=(zr1 n R first).2∧(∀ w,w < n→(zcg n R' first').1 (f w)=(zcg n R first).1 w)∧(zcg n R' first').2=(zcg n R first).2:=by
 have hc:=zvW hf h1
 have hr : ∀ w,w < n→(fun w=>rkN ((List.range n).map first') (first' w)) (f w)=(fun w=>rkN ((List.range n).map first) (first w)) w:=fun w hw=>zvX hf h1 hw
 have ha:=zr6 hf (next:=zh1 n R) (next':=zh1 n R') (fun q q' hq w hw=>(zrP hf hR hq hw).1) (n+1) (fun w=>rkN ((List.range n).map first) (first w)) (fun w=>rkN ((List.range n).map first') (first' w)) (cnN ((List.range n).map first)) hr
 have ho:=zr6 hf (next:=zX n R) (next':=zX n R') (fun q q' hq w hw=>(zrP hf hR hq hw).2) (n+1) (fun w=>rkN ((List.range n).map first) (first w)) (fun w=>rkN ((List.range n).map first') (first' w)) (cnN ((List.range n).map first)) hr
 unfold zr1 zcg
 rw [hc]
 exact ⟨ha.1,ha.2,ho.1,ho.2⟩
end Go.Ab
namespace Go.Ab
structure zcT (n:Nat) (fa fb:Nat→Int) (R R':zB) (f:Nat→Nat):Prop where
 ren:Ren n f
 fac : ∀ w,w < n→fb (f w)=fa w
 rel:zg7 n f R R'
def znw (R:zB):zB:=R.map fun r=>fun v w=>r w v
theorem zg7.back {n:Nat} {f:Nat→Nat} {R R':zB} (h:zg7 n f R R'):zg7 n f (R++znw R) (R'++znw R'):=by
 refine ⟨by simp [znw,h.len],fun i r r' h1 h2 v w hv hw=>?_⟩
 by_cases hi:i < R.length
 ·rw [List.getElem?_append_left hi] at h1
  rw [List.getElem?_append_left (by rw [h.len];exact hi)] at h2
  exact h.rel i r r' h1 h2 v w hv hw
 ·rw [List.getElem?_append_right (by omega),znw,List.getElem?_map,Option.map_eq_some_iff] at h1
  rw [List.getElem?_append_right (by rw [h.len];omega),znw,List.getElem?_map,Option.map_eq_some_iff] at h2
  obtain ⟨s,hs,rfl⟩:=h1
  obtain ⟨s',hs',rfl⟩:=h2
  exact h.rel _ s s' hs (by rw [← h.len];exact hs') w v hw hv
end Go.Ab
namespace Go.Ab
def zb4 (n:Nat) (f:Nat→Nat) (x:Nat):Nat:=((List.range n).find? fun w=>decide (f w=x)).getD 0
theorem zgT {n:Nat} {f:Nat→Nat} (hf:Ren n f) {w:Nat} (hw:w < n):zb4 n f (f w)=w:=by
 unfold zb4
 cases h:(List.range n).find? fun u=>decide (f u=f w) with
 | none=>have:=List.find?_eq_none.1 h w (List.mem_range.2 hw);simp at this
 | some u =>
  have h1:=List.find?_some h
  exact hf.inj u w (List.mem_range.1 (List.mem_of_find?_eq_some h)) hw (of_decide_eq_true h1)
theorem zdN {n:Nat} {f:Nat→Nat} (hf:Ren n f) {x:Nat} (hx:x < n):zb4 n f x < n∧f (zb4 n f x)=x:=by
 obtain ⟨w,hw,rfl⟩:=hf.surj hx
 rw [zgT hf hw];exact ⟨hw,rfl⟩
theorem Ren.inv {n:Nat} {f:Nat→Nat} (hf:Ren n f):Ren n (zb4 n f) :=
 ⟨fun x hx=>(zdN hf hx).1,fun x y hx hy e=>by rw [← (zdN hf hx).2,← (zdN hf hy).2,e]⟩
theorem zg7.inv {n:Nat} {f:Nat→Nat} {R R':zB} (hf:Ren n f) (h:zg7 n f R R'):zg7 n (zb4 n f) R' R :=
 ⟨h.len.symm,fun i r r' h1 h2 v w hv hw=>by
  have e:=h.rel i r' r h2 h1 (zb4 n f v) (zb4 n f w) (zdN hf hv).1 (zdN hf hw).1
  rw [(zdN hf hv).2,(zdN hf hw).2] at e
  exact e.symm⟩
theorem zcT.inv {n:Nat} {fa fb:Nat→Int} {R R':zB} {f:Nat→Nat} (h:zcT n fa fb R R' f):zcT n fb fa R' R (zb4 n f) :=
 ⟨h.ren.inv,fun x hx=>by rw [← h.fac _ (zdN h.ren hx).1,(zdN h.ren hx).2],h.rel.inv h.ren⟩
end Go.Ab
namespace Go.Ab
def zlp (n:Nat) (R:zB) (q:Nat→Nat):Prop := ∀ v w,v < n→w < n→q v=q w→zX n R q v=zX n R q w
theorem zjA {l:List Int} {x:Int} : x∈zeX l↔x∈l:=by
 unfold zeX;rw [(zb7 _).mem_iff];exact zap
theorem zpb {n:Nat} {r:Nat→Nat→Bool} {q:Nat→Nat} {w:Nat} {x:Int} : x∈zc5 n r q w ↔ ∃ v,v < n∧r w v=true∧(q v:Int)=x:=by
 unfold zc5
 rw [List.mem_map]
 constructor
 ·rintro ⟨v,hv,e⟩
  obtain ⟨h1,h2⟩:=List.mem_filter.1 hv
  exact ⟨v,List.mem_range.1 h1,h2,e⟩
 ·rintro ⟨v,h1,h2,e⟩
  exact ⟨v,List.mem_filter.2 ⟨List.mem_range.2 h1,h2⟩,e⟩
theorem zc8 {n:Nat} {R:zB} {q:Nat→Nat} {v w:Nat} : zX n R q v=zX n R q w↔q v=q w ∧ ∀ r∈R,∀ x:Nat,(∃ u,u < n∧r v u=true∧q u=x) ↔ ∃ u,u < n∧r w u=true∧q u=x:=by
 have cast : ∀ (r:Nat→Nat→Bool) (a:Nat) (x:Nat),((x:Int)∈zc5 n r q a) ↔ ∃ u,u < n∧r a u=true∧q u=x:=fun r a x=>by
  rw [zpb]
  exact ⟨fun ⟨u,h1,h2,h3⟩=>⟨u,h1,h2,by omega⟩,fun ⟨u,h1,h2,h3⟩=>⟨u,h1,h2,by omega⟩⟩
 constructor
 ·intro h
  obtain ⟨h1,h2⟩:=List.cons.inj h
  refine ⟨by simp at h1;omega,fun r hr x=>?_⟩
  rw [← cast,← cast,← zjA,← zjA (l:=zc5 n r q w)]
  have:=(List.map_inj_left.1 h2) r hr
  rw [this]
 ·rintro ⟨h1,h2⟩
  unfold zX
  rw [h1]
  congr 1
  refine List.map_congr_left fun r hr=>zoD fun x=>?_
  constructor
  ·intro hx
   obtain ⟨u,a,b,rfl⟩:=zpb.1 hx
   exact (cast r w (q u)).2 ((h2 r hr (q u)).1 ⟨u,a,b,rfl⟩)
  ·intro hx
   obtain ⟨u,a,b,rfl⟩:=zpb.1 hx
   exact (cast r v (q u)).2 ((h2 r hr (q u)).2 ⟨u,a,b,rfl⟩)
theorem zoE {n:Nat} {R:zB} {q:Nat→Nat} (hs:zlp n R q) {p:Nat→Nat} (hp : ∀ v w,v < n→w < n→q v=q w→p v=p w) : ∀ v w,v < n→w < n→q v=q w→zX n R p v=zX n R p w:=by
 intro v w hv hw h
 obtain ⟨-,h2⟩:=zc8.1 (hs v w hv hw h)
 refine zc8.2 ⟨hp v w hv hw h,fun r hr x=>?_⟩
 constructor
 ·rintro ⟨u,a,b,rfl⟩
  obtain ⟨u',a',b',e⟩:=(h2 r hr (q u)).1 ⟨u,a,b,rfl⟩
  exact ⟨u',a',b',hp u' u a' a e⟩
 ·rintro ⟨u,a,b,rfl⟩
  obtain ⟨u',a',b',e⟩:=(h2 r hr (q u)).2 ⟨u,a,b,rfl⟩
  exact ⟨u',a',b',hp u' u a' a e⟩
theorem zpl {n:Nat} {R:zB} {q:Nat→Nat} (hs:zlp n R q) : ∀ (k:Nat) (p:Nat→Nat) (c:Nat),(∀ v w,v < n→w < n→q v=q w→p v=p w) → ∀ v w,v < n→w < n→q v=q w→(zbh n (zX n R) k p c).1 v=(zbh n (zX n R) k p c).1 w
 | 0,p,c,hp=>hp
 | k+1,p,c,hp=>by
  unfold zbh
  by_cases h:zbw n (zX n R) p=c
  ·rw [if_pos h];exact hp
  ·rw [if_neg h]
   refine zpl hs k _ _ fun v w hv hw e=>?_
   exact (zjO hv hw).2 (zoE hs hp v w hv hw e)
theorem zk8 {n:Nat} {R:zB} {first:Nat→Tup} : ∃ q,zcg n R first=(q,dcN n q)∧zlp n R q∧(∀ v w,v < n→w < n→q v=q w→first v=first w):=by
 have hd:dcN n (fun w=>rkN ((List.range n).map first) (first w))=cnN ((List.range n).map first):=by
  have hm : ∀ w,w < n→first w∈(List.range n).map first:=fun w hw=>List.mem_map.2 ⟨w,List.mem_range.2 hw,rfl⟩
  exact Nat.le_antisymm (zlu (f:=first) fun v w _ _ h=>by rw [h]) (zlu (g:=first) fun v w hv hw h=>zr7 (hm v hv) (hm w hw) h)
 obtain ⟨q,h1,h2,h3⟩:=zpY (next:=zX n R) (fun q v w hv hw h=>zfx q v w hv hw h) (n+1) (fun w=>rkN ((List.range n).map first) (first w)) (by omega)
 rw [hd] at h1
 refine ⟨q,h1,ztb (fun v w hv hw h=>zfx q v w hv hw h) h2.symm,fun v w hv hw h=>?_⟩
 exact zr7 (List.mem_map.2 ⟨v,List.mem_range.2 hv,rfl⟩) (List.mem_map.2 ⟨w,List.mem_range.2 hw,rfl⟩) (h3 v w hv hw h)
theorem zoW {n:Nat} {q:Nat→Nat} : dcN n q=n ↔ ∀ v w,v < n→w < n→q v=q w→v=w:=by
 constructor
 ·intro h
  refine ztb (f:=fun w=>w) (g:=q) (fun v w _ _ e=>by rw [e]) ?_
  have:(ddT ((List.range n).map fun w=>w)).length=n:=by
   have h1:=zbC (l:=(List.range n).map fun w=>w) (l':=ddT ((List.range n).map fun w=>w)) (by simpa using List.nodup_range) fun x hx=>zap.2 hx
   have h2:=zhh n fun w=>w
   unfold dcN at h2
   rw [List.length_map,List.length_range] at h1
   omega
  rw [this];exact h
 ·intro h
  have h1:=zbC (l:=(List.range n).map q) (l':=ddT ((List.range n).map q)) (by
   rw [List.Nodup,List.pairwise_map]
   exact List.Pairwise.imp_of_mem (fun {a b} ha hb hab e=>hab (h a b (List.mem_range.1 ha) (List.mem_range.1 hb) e)) List.nodup_range) fun x hx=>zap.2 hx
  have h2:=zhh n q
  rw [List.length_map,List.length_range] at h1
  unfold dcN at h2 ⊢
  omega
theorem zux {n:Nat} {R:zB} {f g:Nat→Tup} (h : ∀ v w,v < n→w < n→f v=f w→g v=g w) : ∀ v w,v < n→w < n→(zcg n R f).1 v=(zcg n R f).1 w→(zcg n R g).1 v=(zcg n R g).1 w:=by
 obtain ⟨q,h1,h2,h3⟩:=zk8 (n:=n) (R:=R) (first:=f)
 rw [h1]
 intro v w hv hw e
 exact zpl h2 (n+1) _ _ (fun v w hv hw e=>by rw [h v w hv hw (h3 v w hv hw e)]) v w hv hw e
theorem zne {n:Nat} {R:zB} {first:Nat→Tup} : (zcg n R first).2=dcN n (zcg n R first).1:=by
 obtain ⟨q,h1,-⟩:=zk8 (n:=n) (R:=R) (first:=first)
 rw [h1]
theorem zpX {n:Nat} {R:zB} {f g:Nat→Tup} (h : ∀ v w,v < n→w < n→f v=f w→g v=g w) (hg:(zcg n R g).2=n):(zcg n R f).2=n∧Ren n (zcg n R f).1:=by
 have h1 : ∀ v w,v < n→w < n→(zcg n R f).1 v=(zcg n R f).1 w→v=w:=fun v w hv hw e=>by
  rw [zne] at hg
  exact zoW.1 hg v w hv hw (zux h v w hv hw e)
 refine ⟨by rw [zne];exact zoW.2 h1,⟨fun w hw=>?_,h1⟩⟩
 have key : ∀ (k:Nat) (q:Nat→Nat) (c:Nat),(∀ w,w < n→q w < n) → ∀ w,w < n→(zbh n (zX n R) k q c).1 w < n:=by
  intro k
  induction k with
  | zero=>intro q c hq;exact hq
  | succ k ih =>
   intro q c hq
   unfold zbh
   by_cases e:zbw n (zX n R) q=c
   ·rw [if_pos e];exact hq
   ·rw [if_neg e]
    refine ih _ _ fun w hw=>?_
    have:=zr8 (zph (next:=zX n R) (q:=q) hw)
    have h2:=zu4 (n:=n) (next:=zX n R) q
    exact Nat.lt_of_lt_of_le this h2
 refine key (n+1) _ _ (fun w hw=>?_) w hw
 have h2:=zr8 (ts:=(List.range n).map f) (t:=f w) (List.mem_map.2 ⟨w,List.mem_range.2 hw,rfl⟩)
 have h3:cnN ((List.range n).map f)≤n:=by
  have:=zbC (zcy ((List.range n).map f)) (l':=(List.range n).map f) fun x hx=>zap.1 hx
  rwa [List.length_map,List.length_range] at this
 exact Nat.lt_of_lt_of_le h2 h3
theorem zy4 {ts:List Tup} {t:Tup} (h : ∀ s∈ts,0≤zaU s t):rkN ts t=0:=by
 unfold rkN
 rw [List.length_eq_zero_iff,List.filter_eq_nil_iff]
 intro s hs
 have:=h s (zap.1 hs)
 simp;omega
theorem znQ {a b:Int} {x y:Tup} (h:a < b):zaU ([a]::x) ([b]::y) = -1:=by
 have e:z8 za5 [a] [b] = -1:=by simp [z8,za5,h]
 show (if z8 za5 [a] [b]=0 then _ else z8 za5 [a] [b]) = -1
 rw [e];rfl
theorem zv2 {n:Nat} {R:zB} {root:Nat} (hr:root < n) {x:Nat→Tup} : let q:=(zcg n R fun w=>[if w=root then (0:Int) else 1]::x w).1;q root=0 ∧ ∀ w,w < n→w≠root→0 < q w:=by
 have step : ∀ (t:Nat→Tup) (a:Nat→Int) (y:Nat→Tup),(∀ w,t w=[a w]::y w)→(∀ w,w < n→w≠root→a root < a w)→rkN ((List.range n).map t) (t root)=0 ∧ ∀ w,w < n→w≠root→0 < rkN ((List.range n).map t) (t w):=by
  intro t a y ht ha
  have hz:rkN ((List.range n).map t) (t root)=0:=zy4 fun s hs=>by
   obtain ⟨w,hw,rfl⟩:=List.mem_map.1 hs
   by_cases e:w=root
   ·rw [e,zak.refl];omega
   ·have:=zak.anti (t root) (t w)
    rw [this,ht,ht,znQ (ha w (List.mem_range.1 hw) e)];decide
  refine ⟨hz,fun w hw hne=>?_⟩
  have:=(zlb (ts:=(List.range n).map t) (s:=t root) (t:=t w) (List.mem_map.2 ⟨root,List.mem_range.2 hr,rfl⟩) (List.mem_map.2 ⟨w,List.mem_range.2 hw,rfl⟩)).2 (by
   rw [ht root,ht w,znQ (ha w hw hne)];decide)
  omega
 have key : ∀ (k:Nat) (q:Nat→Nat) (c:Nat),q root=0→(∀ w,w < n→w≠root→0 < q w)→(zbh n (zX n R) k q c).1 root=0 ∧ ∀ w,w < n→w≠root→0 < (zbh n (zX n R) k q c).1 w:=by
  intro k
  induction k with
  | zero=>intro q c h1 h2;exact ⟨h1,h2⟩
  | succ k ih =>
   intro q c h1 h2
   unfold zbh
   by_cases e:zbw n (zX n R) q=c
   ·rw [if_pos e];exact ⟨h1,h2⟩
   ·rw [if_neg e]
    have:=step (zX n R q) (fun w=>(q w:Int)) (fun w=>R.map fun r=>zeX (zc5 n r q w)) (fun w=>rfl) (fun w hw hne=>by have:=h2 w hw hne;omega)
    exact ih _ _ this.1 this.2
 have h0:=step (fun w=>[if w=root then (0:Int) else 1]::x w) (fun w=>if w=root then 0 else 1) x (fun w=>rfl) (fun w hw hne=>by simp [hne])
 exact key (n+1) _ _ h0.1 h0.2
end Go.Ab
namespace Go.Ab
def zdJ (n:Nat) (R:zB) (p:Nat→Nat):Nat→Nat:=zU (za9 (zX n R p))
theorem zfR {n:Nat} {R:zB} {p:Nat→Nat} {v w:Nat} : zdJ n R p v=zdJ n R p w↔zX n R p v=zX n R p w:=by
 unfold zdJ;rw [ziK (zbN _)];simp [za9]
theorem zfv (n:Nat) (R:zB) (p:Nat→Nat) (m:Nat):zaK m (zdJ n R p):=zd7 (zbN _) m
def zhZ (n:Nat) (R:zB):Nat→(Nat→Nat)→Nat→Nat
 | 0,p=>p
 | k+1,p=>if (List.range n).map (zdJ n R p)=(List.range n).map p then p else zhZ n R k (zdJ n R p)
theorem zj1 {n:Nat} {p q:Nat→Nat} : (List.range n).map p=(List.range n).map q ↔ ∀ w,w < n→p w=q w:=by
 rw [List.map_inj_left]
 exact ⟨fun h w hw=>h w (List.mem_range.2 hw),fun h w hw=>h w (List.mem_range.1 hw)⟩
theorem zvE {n:Nat} {R:zB} {p:Nat→Nat} (hp:zaK n p) (h : ∃ w,w < n∧zdJ n R p w≠p w):zx n p < zx n (zdJ n R p):=by
 have fine : ∀ v w,v < n→w < n→zdJ n R p v=zdJ n R p w→p v=p w:=fun v w hv hw e=>zfx p v w hv hw (zfR.1 e)
 have rep : ∀ w,w < n→p w=w→zdJ n R p w=w:=fun w hw e=>by
  have h1:=(zfv n R p n).le w hw
  have h2:=(zfv n R p n).idem w hw
  have h3:=fine (zdJ n R p w) w (by omega) hw h2
  have h4:=hp.le (zdJ n R p w) (by omega)
  omega
 unfold zx
 have e1 : ∀ f:Nat→Nat,(List.range n).filter (fun w=>decide (f w=w))=(List.range n).filter fun w=>decide (w < n∧f w=w):=fun f=>List.filter_congr fun w hw=>by
  have:=List.mem_range.1 hw
  simp [this]
 rw [e1,e1]
 refine (ze5 (fun w hw=>?_) _).2 ?_
 ·simp only [decide_eq_true_eq] at hw ⊢
  exact ⟨hw.1,rep w hw.1 hw.2⟩
 ·obtain ⟨w,hw,hne⟩:=h
  refine Classical.byContradiction fun hn=>hne ?_
  have hall : ∀ u,u < n→zdJ n R p u=u→p u=u:=fun u hu e=>Classical.byContradiction fun h=>hn ⟨u,List.mem_range.2 hu,by simp [h],by simp [hu,e]⟩
  have h1:=(zfv n R p n).le w hw
  have h2:=(zfv n R p n).idem w hw
  have h3:=hall _ (by omega) h2
  rw [← h3]
  exact fine _ w (by omega) hw h2
theorem zm7 {n:Nat} {R:zB} : ∀ (k:Nat) (p:Nat→Nat),zaK n p→n < k+zx n p → ∃ q,zhZ n R k p=q∧zaK n q∧(∀ w,w < n→zdJ n R q w=q w)∧(∀ v w,v < n→w < n→q v=q w→p v=p w) ∧
  ∀ Q:Nat→Nat,zlp n R Q→(∀ v w,v < n→w < n→Q v=Q w→p v=p w) → ∀ v w,v < n→w < n→Q v=Q w→q v=q w
 | 0,p,hp,h=>by have:=zcX n p;omega
 | k+1,p,hp,h=>by
  unfold zhZ
  by_cases he:(List.range n).map (zdJ n R p)=(List.range n).map p
  ·rw [if_pos he]
   exact ⟨p,rfl,hp,zj1.1 he,fun _ _ _ _ h=>h,fun Q _ h=>h⟩
  ·rw [if_neg he]
   have hne : ∃ w,w < n∧zdJ n R p w≠p w:=Classical.byContradiction fun hn=>he (zj1.2 fun w hw=>Classical.byContradiction fun h=>hn ⟨w,hw,h⟩)
   have hg:=zvE hp hne
   obtain ⟨q,h1,h2,h3,h4,h5⟩:=zm7 k (zdJ n R p) (zfv n R p n) (by omega)
   exact ⟨q,h1,h2,h3,fun v w hv hw e=>zfx p v w hv hw (zfR.1 (h4 v w hv hw e)),fun Q hQ hQp=>h5 Q hQ fun v w hv hw e=>zfR.2 (zoE hQ hQp v w hv hw e)⟩
theorem zrL {n:Nat} {R:zB} {fa:Nat→Int} {first:Nat→Tup} (hfst : ∀ v w,v < n→w < n→(first v=first w↔fa v=fa w)):zx n (zhZ n R (n+1) (zU (za9 fa)))=n↔(zcg n R first).2=n:=by
 obtain ⟨q,h1,h2,h3,h4,h5⟩:=zm7 (R:=R) (n+1) (zU (za9 fa)) (zd7 (zbN fa) n) (by omega)
 rw [h1]
 have hfa : ∀ v w,zU (za9 fa) v=zU (za9 fa) w↔fa v=fa w:=fun v w=>by rw [ziK (zbN fa)];simp [za9]
 have hq:zlp n R q:=fun v w hv hw e=>zfR.1 (by rw [h3 v hv,h3 w hw,e])
 obtain ⟨Q,g1,g2,g3⟩:=zk8 (n:=n) (R:=R) (first:=first)
 have hQq:=h5 Q g2 fun v w hv hw e=>(hfa v w).2 ((hfst v w hv hw).1 (g3 v w hv hw e))
 have hqQ : ∀ v w,v < n→w < n→q v=q w→Q v=Q w:=by
  have:=zpl hq (n+1) (fun w=>rkN ((List.range n).map first) (first w)) (cnN ((List.range n).map first)) fun v w hv hw e=>by
   rw [(hfst v w hv hw).2 ((hfa v w).1 (h4 v w hv hw e))]
  intro v w hv hw e
  have h:=this v w hv hw e
  have e1:(zbh n (zX n R) (n+1) (fun w=>rkN ((List.range n).map first) (first w)) (cnN ((List.range n).map first))).1=Q:=by
   have:=congrArg Prod.fst g1
   exact this
  rw [e1] at h
  exact h
 rw [g1]
 show zx n q=n↔dcN n Q=n
 rw [zoW]
 have hc:zx n q=n ↔ ∀ w,w < n→q w=w:=by
  unfold zx
  constructor
  ·intro h w hw
   have:=List.length_filter_eq_length_iff.1 (h.trans List.length_range.symm) w (List.mem_range.2 hw)
   exact of_decide_eq_true this
  ·intro h
   exact (List.length_filter_eq_length_iff.2 fun w hw=>decide_eq_true (h w (List.mem_range.1 hw))).trans List.length_range
 rw [hc]
 constructor
 ·intro h v w hv hw e
  have:=hQq v w hv hw e
  rw [h v hv,h w hw] at this
  exact this
 ·intro h w hw
  have h6:=h2.le w hw
  exact h _ w (by omega) hw (hqQ _ w (by omega) hw (h2.idem w hw))
end Go.Ab
namespace Go.Ab
structure zcc (n n':Nat) (R R':zB) (fa fb:Nat→Int) (Z:Nat→Nat→Prop):Prop where
 len:R'.length=R.length
 lt : ∀ {v v'},Z v v'→v < n∧v' < n'
 fac : ∀ {v v'},Z v v'→fa v=fb v'
 forth : ∀ {i:Nat} {r r':Nat→Nat→Bool},R[i]? = some r→R'[i]? = some r' → ∀ {v v' u},Z v v'→u < n→r v u=true → ∃ u',u' < n'∧r' v' u'=true∧Z u u'
 back : ∀ {i:Nat} {r r':Nat→Nat→Bool},R[i]? = some r→R'[i]? = some r' → ∀ {v v' u'},Z v v'→u' < n'→r' v' u'=true → ∃ u,u < n∧r v u=true∧Z u u'
theorem zcc.symm {n n':Nat} {R R':zB} {fa fb:Nat→Int} {Z:Nat→Nat→Prop} (B:zcc n n' R R' fa fb Z):zcc n' n R' R fb fa fun v' v=>Z v v' where
 len:=B.len.symm
 lt h:=⟨(B.lt h).2,(B.lt h).1⟩
 fac h:=(B.fac h).symm
 forth h1 h2:=fun {v v' u} hz hu hr=>by obtain ⟨u,a,b,c⟩:=B.back h2 h1 hz hu hr;exact ⟨u,a,b,c⟩
 back h1 h2:=fun {v v' u} hz hu hr=>by obtain ⟨u,a,b,c⟩:=B.forth h2 h1 hz hu hr;exact ⟨u,a,b,c⟩
theorem zdD {R R':zB} (h:R'.length=R.length) {i:Nat} {r:Nat→Nat→Bool} (hr:R[i]? = some r) : ∃ r',R'[i]? = some r' :=
 ⟨_,List.getElem?_eq_getElem (by have:=(List.getElem?_eq_some_iff.1 hr).1;omega)⟩
theorem zcc.trans {n n' n2:Nat} {R R' R2:zB} {fa fb fc:Nat→Int} {Z Z':Nat→Nat→Prop} (B:zcc n n' R R' fa fb Z) (B':zcc n' n2 R' R2 fb fc Z'):zcc n n2 R R2 fa fc fun v w => ∃ u,Z v u∧Z' u w where
 len:=B'.len.trans B.len
 lt:=fun ⟨u,h,h'⟩=>⟨(B.lt h).1,(B'.lt h').2⟩
 fac:=fun ⟨u,h,h'⟩=>(B.fac h).trans (B'.fac h')
 forth h1 h2:=fun ⟨x,h,h'⟩ hu hr=>by
  obtain ⟨r',hr'⟩:=zdD B.len h1
  obtain ⟨a,a1,a2,a3⟩:=B.forth h1 hr' h hu hr
  obtain ⟨b,b1,b2,b3⟩:=B'.forth hr' h2 h' a1 a2
  exact ⟨b,b1,b2,a,a3,b3⟩
 back h1 h2:=fun ⟨x,h,h'⟩ hu hr=>by
  obtain ⟨r',hr'⟩:=zdD B.len h1
  obtain ⟨a,a1,a2,a3⟩:=B'.back hr' h2 h' hu hr
  obtain ⟨b,b1,b2,b3⟩:=B.back h1 hr' h a1 a2
  exact ⟨b,b1,b2,a,b3,a3⟩
theorem ztm {n:Nat} {R:zB} {fa:Nat→Int} {Z:Nat→Nat→Prop} (B:zcc n n R R fa fa Z) : ∀ (k:Nat) (p:Nat→Nat),(∀ v w,Z v w→p v=p w) → ∀ v w,Z v w→zhZ n R k p v=zhZ n R k p w
 | 0,p,hp=>hp
 | k+1,p,hp=>by
  unfold zhZ
  split
  ·exact hp
  ·refine ztm B k _ fun v w hz=>zfR.2 (zc8.2 ⟨hp v w hz,fun r hr x=>?_⟩)
   obtain ⟨i,hi⟩:=List.mem_iff_getElem?.1 hr
   constructor
   ·rintro ⟨u,a,b,rfl⟩
    obtain ⟨u',c,d,e⟩:=B.forth hi hi hz a b
    exact ⟨u',c,d,(hp u u' e).symm⟩
   ·rintro ⟨u,a,b,rfl⟩
    obtain ⟨u',c,d,e⟩:=B.back hi hi hz a b
    exact ⟨u',c,d,hp u' u e⟩
def coa (n:Nat) (R:zB) (fa:Nat→Int):Nat→Nat:=zhZ n R (n+1) (zU (za9 fa))
theorem zo0 {fa:Nat→Int} {v w:Nat} : zU (za9 fa) v=zU (za9 fa) w↔fa v=fa w:=by rw [ziK (zbN fa)];simp [za9]
structure zi5 (n:Nat) (R:zB) (fa:Nat→Int) (q:Nat→Nat):Prop where
 canon:zaK n q
 stab:zlp n R q
 fac : ∀ v w,v < n→w < n→q v=q w→fa v=fa w
theorem zdg (n:Nat) (R:zB) (fa:Nat→Int):zi5 n R fa (coa n R fa):=by
 obtain ⟨q,h1,h2,h3,h4,h5⟩:=zm7 (R:=R) (n+1) (zU (za9 fa)) (zd7 (zbN fa) n) (by omega)
 unfold coa
 rw [h1]
 exact ⟨h2,fun v w hv hw e=>zfR.1 (by rw [h3 v hv,h3 w hw,e]),fun v w hv hw e=>zo0.1 (h4 v w hv hw e)⟩
theorem zil {n:Nat} {R:zB} {fa:Nat→Int} {Z:Nat→Nat→Prop} (B:zcc n n R R fa fa Z) {v w:Nat} (h:Z v w):coa n R fa v=coa n R fa w :=
 ztm B (n+1) _ (fun v w hz=>zo0.2 (B.fac hz)) v w h
theorem zi5.bis {n:Nat} {R:zB} {fa:Nat→Int} {q:Nat→Nat} (S:zi5 n R fa q):zcc n n R R fa fa fun v w=>v < n∧w < n∧q v=q w where
 len:=rfl
 lt h:=⟨h.1,h.2.1⟩
 fac h:=S.fac _ _ h.1 h.2.1 h.2.2
 forth h1 h2:=fun {v v' u} hz hu hr=>by
  rw [h1] at h2;cases h2
  obtain ⟨u',a,b,c⟩:=((zc8.1 (S.stab _ _ hz.1 hz.2.1 hz.2.2)).2 _ (List.mem_of_getElem? h1) (q u)).1 ⟨u,hu,hr,rfl⟩
  exact ⟨u',a,b,hu,a,c.symm⟩
 back h1 h2:=fun {v v' u} hz hu hr=>by
  rw [h1] at h2;cases h2
  obtain ⟨u',a,b,c⟩:=((zc8.1 (S.stab _ _ hz.1 hz.2.1 hz.2.2)).2 _ (List.mem_of_getElem? h1) (q u)).2 ⟨u,hu,hr,rfl⟩
  exact ⟨u',a,b,a,hu,c⟩
def zaV (n:Nat) (q:Nat→Nat):List Nat:=(List.range n).filter fun w=>decide (q w=w)
def zN (q:Nat→Nat) (w:Nat):Nat:=zx (q w) q
theorem zvZ {q:Nat→Nat} {u:Nat} (hu:q u=u) : ∀ n,u < n→(zaV n q)[zx u q]? = some u
 | 0,h=>by omega
 | n+1,h=>by
  unfold zaV
  rw [List.range_succ,List.filter_append]
  by_cases e:u=n
  ·subst e
   rw [List.getElem?_append_right (by show _≤zx u q;exact Nat.le_refl _)]
   show (List.filter _ [u])[zx u q - zx u q]? = _
   rw [Nat.sub_self]
   simp [hu]
  ·have ih:=zvZ hu n (by omega)
   have hlt:=(List.getElem?_eq_some_iff.1 ih).1
   rw [List.getElem?_append_left (by exact hlt)]
   exact ih
section
variable {n:Nat} {q:Nat→Nat} (hq:zaK n q)
include hq
theorem zfV {w:Nat} (hw:w < n):(zaV n q)[zN q w]? = some (q w):=zvZ (hq.idem w hw) n (by have:=hq.le w hw;omega)
theorem zfW {w:Nat} (hw:w < n):zN q w < zx n q:=(List.getElem?_eq_some_iff.1 (zfV hq hw)).1
theorem zm9 {v w:Nat} (hv:v < n) (hw:w < n):zN q v=zN q w↔q v=q w:=by
 constructor
 ·intro h
  have h1:=zfV hq hv
  rw [h,zfV hq hw] at h1
  exact (Option.some.inj h1).symm
 ·intro h;unfold zN;rw [h]
theorem zjD {i:Nat} (hi:i < zx n q) : ∃ u,(zaV n q)[i]? = some u∧u < n∧q u=u∧zN q u=i:=by
 obtain ⟨u,h⟩ : ∃ u,(zaV n q)[i]? = some u:=⟨_,List.getElem?_eq_getElem hi⟩
 have h0:=List.mem_filter.1 (List.mem_of_getElem? h)
 have h1:=List.mem_range.1 h0.1
 have h2:=of_decide_eq_true h0.2
 refine ⟨u,h,h1,h2,?_⟩
 have h3:=zfV hq h1
 rw [h2] at h3
 have hnd:(zaV n q).Pairwise (· ≠ ·):=List.Pairwise.filter _ List.nodup_range
 obtain ⟨hi,ei⟩:=List.getElem?_eq_some_iff.1 h
 obtain ⟨hj,ej⟩:=List.getElem?_eq_some_iff.1 h3
 rw [List.pairwise_iff_getElem] at hnd
 rcases Nat.lt_trichotomy (zN q u) i with hl|hl|hl
 ·exact absurd (ej.trans ei.symm) (hnd _ _ hj hi hl)
 ·exact hl
 ·exact absurd (ei.trans ej.symm) (hnd _ _ hi hj hl)
end
def zc4 (n:Nat) (q:Nat→Nat) (r:Nat→Nat→Bool) (i j:Nat):Bool:=(List.range n).any fun v=>(List.range n).any fun w=>zN q v==i&&(zN q w==j&&r v w)
theorem zhx {n:Nat} {q:Nat→Nat} {r:Nat→Nat→Bool} {i j:Nat} : zc4 n q r i j=true ↔ ∃ v w,v < n∧w < n∧zN q v=i∧zN q w=j∧r v w=true:=by
 unfold zc4
 simp only [List.any_eq_true,List.mem_range,Bool.and_eq_true,beq_iff_eq]
 exact ⟨fun ⟨v,hv,w,hw,a,b,c⟩=>⟨v,w,hv,hw,a,b,c⟩,fun ⟨v,w,hv,hw,a,b,c⟩=>⟨v,hv,w,hw,a,b,c⟩⟩
def zhw (n:Nat) (q:Nat→Nat) (fa:Nat→Int) (i:Nat):Int:=fa ((zaV n q).getD i 0)
theorem zi5.quo {n:Nat} {R:zB} {fa:Nat→Int} {q:Nat→Nat} (S:zi5 n R fa q):zcc n (zx n q) R (R.map (zc4 n q)) fa (zhw n q fa) fun w i=>w < n∧i=zN q w where
 len:=by simp
 lt:=fun {w i} h=>⟨h.1,by rw [h.2];exact zfW S.canon h.1⟩
 fac:=fun {w i} h=>by
  rw [h.2];unfold zhw
  rw [List.getD,zfV S.canon h.1]
  have h1:=S.canon.le w h.1
  exact S.fac _ _ h.1 (by simp;omega) (S.canon.idem w h.1).symm
 forth h1 h2:=fun {v v' u} hz hu hr=>by
  rw [List.getElem?_map,h1] at h2;cases h2
  exact ⟨zN q u,zfW S.canon hu,zhx.2 ⟨v,u,hz.1,hu,hz.2.symm,rfl,hr⟩,hu,rfl⟩
 back h1 h2:=fun {v v' u'} hz hu hr=>by
  rw [List.getElem?_map,h1] at h2;cases h2
  obtain ⟨a,b,ha,hb,e1,e2,e3⟩:=zhx.1 hr
  have e:=(zm9 S.canon ha hz.1).1 (e1.trans hz.2)
  obtain ⟨u,h3,h4,h5⟩:=((zc8.1 (S.stab a v ha hz.1 e)).2 _ (List.mem_of_getElem? h1) (q b)).1 ⟨b,hb,e3,rfl⟩
  exact ⟨u,h3,h4,h3,by rw [← e2];exact ((zm9 S.canon h3 hb).2 h5).symm⟩
theorem zvU {n:Nat} {R:zB} {fa:Nat→Int} : let q:=coa n R fa; ∀ i,i < zx n q→coa (zx n q) (R.map (zc4 n q)) (zhw n q fa) i=i:=by
 intro q
 have S:zi5 n R fa q:=zdg n R fa
 have S':=zdg (zx n q) (R.map (zc4 n q)) (zhw n q fa)
 have B:=(S.quo.trans S'.bis).trans S.quo.symm
 have key : ∀ i j,i < zx n q→j < zx n q→coa (zx n q) (R.map (zc4 n q)) (zhw n q fa) i=coa (zx n q) (R.map (zc4 n q)) (zhw n q fa) j→i=j:=by
  intro i j hi hj he
  obtain ⟨u,-,u1,u2,u3⟩:=zjD S.canon hi
  obtain ⟨w,-,w1,w2,w3⟩:=zjD S.canon hj
  have:=zil B (v:=u) (w:=w) ⟨j,⟨i,⟨u1,u3.symm⟩,hi,hj,he⟩,w1,w3.symm⟩
  rw [← u3,← w3]
  exact (zm9 S.canon u1 w1).2 this
 intro i hi
 have h1:=S'.canon.le i hi
 exact key _ _ (by omega) hi (S'.canon.idem i hi)
end Go.Ab
namespace Go.Ab
def zg6 (n:Nat) (R:zB) (fa:Nat→Int):Prop := ∀ i,i < n→coa n R fa i=i
theorem zg6.eq {n:Nat} {R:zB} {fa:Nat→Int} (h:zg6 n R fa) {Z:Nat→Nat→Prop} (B:zcc n n R R fa fa Z) {v w:Nat} (hz:Z v w):v=w:=by
 have:=zil B hz
 rwa [h v (B.lt hz).1,h w (B.lt hz).2] at this
theorem zw2 {n n':Nat} {R R':zB} {fa fb:Nat→Int} {Z:Nat→Nat→Prop} (hd:zg6 n R fa) (hd':zg6 n' R' fb) (B:zcc n n' R R' fa fb Z) (ht : ∀ v,v < n → ∃ v',Z v v') (hs : ∀ v',v' < n' → ∃ v,Z v v'):n'=n ∧ ∃ f,zcT n fa fb R R' f ∧ ∀ v,v < n→Z v (f v):=by
 classical
 have inj : ∀ {v w v'},Z v v'→Z w v'→v=w:=fun {v w v'} h1 h2=>hd.eq (B.trans B.symm) ⟨v',h1,h2⟩
 have fn : ∀ {v v' w'},Z v v'→Z v w'→v'=w':=fun {v v' w'} h1 h2=>hd'.eq (B.symm.trans B) ⟨v,h1,h2⟩
 let f:Nat→Nat:=fun v=>if h:v < n then Classical.choose (ht v h) else 0
 have hf : ∀ v,v < n→Z v (f v):=fun v hv=>by
  have:f v=Classical.choose (ht v hv):=dif_pos hv
  rw [this];exact Classical.choose_spec (ht v hv)
 have hinj : ∀ v w,v < n→w < n→f v=f w→v=w:=fun v w hv hw e=>inj (hf v hv) (e▸hf w hw)
 have hn:n'=n:=by
  refine Nat.le_antisymm ?_ ?_
  ·have:=zbC (l:=List.range n') (l':=(List.range n).map f) List.nodup_range fun x hx=>by
    obtain ⟨v,hv⟩:=hs x (List.mem_range.1 hx)
    have hvn:=(B.lt hv).1
    exact List.mem_map.2 ⟨v,List.mem_range.2 hvn,fn (hf v hvn) hv⟩
   simpa using this
  ·have:=zbC (l:=(List.range n).map f) (l':=List.range n') (by
    rw [List.Nodup,List.pairwise_map]
    exact List.Pairwise.imp_of_mem (fun {a b} ha hb hab e=>hab (hinj a b (List.mem_range.1 ha) (List.mem_range.1 hb) e)) List.nodup_range) fun x hx=>by
    obtain ⟨v,hv,rfl⟩:=List.mem_map.1 hx
    exact List.mem_range.2 (B.lt (hf v (List.mem_range.1 hv))).2
   simpa using this
 subst hn
 refine ⟨rfl,f,⟨⟨fun v hv=>(B.lt (hf v hv)).2,hinj⟩,fun v hv=>(B.fac (hf v hv)).symm,B.len,fun i r r' h1 h2 v w hv hw=>?_⟩,hf⟩
 rw [Bool.eq_iff_iff]
 constructor
 ·intro h
  obtain ⟨u,a,b,c⟩:=B.back h1 h2 (hf v hv) (B.lt (hf w hw)).2 h
  rwa [inj c (hf w hw)] at b
 ·intro h
  obtain ⟨u,a,b,c⟩:=B.forth h1 h2 (hf v hv) hw h
  rwa [fn c (hf w hw)] at b
theorem zcT.bis {n:Nat} {fa fb:Nat→Int} {R R':zB} {f:Nat→Nat} (h:zcT n fa fb R R' f):zcc n n R R' fa fb fun v v'=>v < n∧v'=f v where
 len:=h.rel.len
 lt:=fun {v v'} hz=>⟨hz.1,by rw [hz.2];exact h.ren.lt v hz.1⟩
 fac:=fun {v v'} hz=>by rw [hz.2];exact (h.fac v hz.1).symm
 forth h1 h2:=fun {v v' u} hz hu hr=>⟨f u,h.ren.lt u hu,by rw [hz.2,h.rel.rel _ _ _ h1 h2 v u hz.1 hu];exact hr,hu,rfl⟩
 back h1 h2:=fun {v v' u'} hz hu hr=>by
  obtain ⟨u,h3,rfl⟩:=h.ren.surj hu
  exact ⟨u,h3,by rw [← h.rel.rel _ _ _ h1 h2 v u hz.1 h3,← hz.2];exact hr,h3,rfl⟩
end Go.Ab
namespace Go.Ab
def zF (l:List Nat) (R:zB):zB:=R.map fun r=>fun i j=>r (l.getD i 0) (l.getD j 0)
def zae (l:List Nat) (fa:Nat→Int):Nat→Int:=fun i=>fa (l.getD i 0)
def zel (l:List Nat) (fa:Nat→Int) (root:Nat) (i:Nat):Tup:=[if l.getD i 0=root then (0:Int) else 1]::[[zae l fa i]]
def zbp (l:List Nat) (R:zB) (fa:Nat→Int) (root:Nat):(Nat→Nat)×Nat:=zcg l.length (zF l R) (zel l fa root)
def zS (l:List Nat) (R:zB) (fa:Nat→Int) (root:Nat):List Nat:=(List.range l.length).map fun k=>l.getD (zb4 l.length (zbp l R fa root).1 k) 0
theorem zac {l:List Nat} {i:Nat} (h:i < l.length):l.getD i 0∈l:=by
 rw [List.getD,List.getElem?_eq_getElem h];exact List.getElem_mem h
theorem zeR {l:List Nat} (hn:l.Nodup) {i j:Nat} (hi:i < l.length) (hj:j < l.length) (h:l.getD i 0=l.getD j 0):i=j:=by
 rw [List.getD,List.getD,List.getElem?_eq_getElem hi,List.getElem?_eq_getElem hj] at h
 have h:l[i]=l[j]:=by simpa using h
 rcases Nat.lt_trichotomy i j with hlt|e|hlt
 ·exact absurd h (List.pairwise_iff_getElem.1 hn i j hi hj hlt)
 ·exact e
 ·exact absurd h.symm (List.pairwise_iff_getElem.1 hn j i hj hi hlt)
theorem zfT {l:List Nat} {x:Nat} (h:x∈l) : ∃ i,i < l.length∧l.getD i 0=x:=by
 obtain ⟨i,hi,rfl⟩:=List.mem_iff_getElem.1 h
 exact ⟨i,hi,by simp [List.getD,hi]⟩
theorem zto {l l2:List Nat} {R R2:zB} {fa fb:Nat→Int} {root root2:Nat} {f:Nat→Nat} (hn:l.Nodup) (hn2:l2.Nodup) (hm : ∀ x,x∈l2 ↔ ∃ y,y∈l∧f y=x) (hinj : ∀ x y,x∈l→y∈l→f x=f y→x=y)
  (hfa : ∀ x,x∈l→fb (f x)=fa x) (hl:R2.length=R.length) (hR : ∀ (i:Nat) (r r':Nat→Nat→Bool),R[i]? = some r→R2[i]? = some r' → ∀ x y,x∈l→y∈l→r' (f x) (f y)=r x y) (hroot:root∈l) (hr2:f root=root2) :
  l2.length=l.length ∧ ∃ g,Ren l.length g∧(∀ i,i < l.length→l2.getD (g i) 0=f (l.getD i 0))∧(∀ i,i < l.length→(zbp l2 R2 fb root2).1 (g i)=(zbp l R fa root).1 i)∧(zbp l2 R2 fb root2).2=(zbp l R fa root).2:=by
 have hlen:l2.length=l.length:=by
  have h1:=zbC (l:=l2) (l':=l.map f) hn2 fun x hx=>by
   obtain ⟨y,hy,rfl⟩:=(hm x).1 hx
   exact List.mem_map.2 ⟨y,hy,rfl⟩
  have h2:=zbC (l:=l.map f) (l':=l2) (by
   rw [List.Nodup,List.pairwise_map]
   exact List.Pairwise.imp_of_mem (fun {a b} ha hb hab e=>hab (hinj a b ha hb e)) hn) fun x hx=>by
   obtain ⟨y,hy,rfl⟩:=List.mem_map.1 hx
   exact (hm _).2 ⟨y,hy,rfl⟩
  rw [List.length_map] at h1 h2
  omega
 have hex : ∀ i,i < l.length → ∃ j,j < l2.length∧l2.getD j 0=f (l.getD i 0):=fun i hi=>zfT ((hm _).2 ⟨_,zac hi,rfl⟩)
 let g:Nat→Nat:=fun i=>if h:i < l.length then Classical.choose (hex i h) else 0
 have hg : ∀ i,i < l.length→g i < l2.length∧l2.getD (g i) 0=f (l.getD i 0):=fun i hi=>by
  have:g i=Classical.choose (hex i hi):=dif_pos hi
  rw [this];exact Classical.choose_spec (hex i hi)
 have hren:Ren l.length g:=⟨fun i hi=>by have:=(hg i hi).1;omega,fun i j hi hj e=>by
  have h1:=(hg i hi).2
  rw [e,(hg j hj).2] at h1
  exact zeR hn hi hj (hinj _ _ (zac hj) (zac hi) h1).symm⟩
 refine ⟨hlen,g,hren,fun i hi=>(hg i hi).2,?_⟩
 have hRR:zg7 l.length g (zF l R) (zF l2 R2):=by
  refine ⟨by simp [zF,hl],fun i r r' h1 h2 v w hv hw=>?_⟩
  unfold zF at h1 h2
  rw [List.getElem?_map,Option.map_eq_some_iff] at h1 h2
  obtain ⟨s,hs,rfl⟩:=h1
  obtain ⟨s',hs',rfl⟩:=h2
  show s' (l2.getD (g v) 0) (l2.getD (g w) 0)=_
  rw [(hg v hv).2,(hg w hw).2]
  exact hR i s s' hs hs' _ _ (zac hv) (zac hw)
 have hfirst : ∀ i,i < l.length→zel l2 fb root2 (g i)=zel l fa root i:=fun i hi=>by
  unfold zel zae
  rw [(hg i hi).2,hfa _ (zac hi)]
  by_cases e:l.getD i 0=root
  ·rw [if_pos e,if_pos (by rw [e,hr2])]
  ·rw [if_neg e,if_neg (fun e'=>e (hinj _ _ (zac hi) hroot (by rw [e',hr2])))]
 have:=zlF hren hRR (first:=zel l fa root) (first':=zel l2 fb root2) hfirst
 unfold zbp
 rw [hlen]
 exact ⟨this.2.2.1,this.2.2.2⟩
theorem zs5 {l l2:List Nat} {R R2:zB} {fa fb:Nat→Int} {root root2:Nat} {f:Nat→Nat} (hn:l.Nodup) (hn2:l2.Nodup) (hm : ∀ x,x∈l2 ↔ ∃ y,y∈l∧f y=x) (hinj : ∀ x y,x∈l→y∈l→f x=f y→x=y)
  (hfa : ∀ x,x∈l→fb (f x)=fa x) (hl:R2.length=R.length) (hR : ∀ (i:Nat) (r r':Nat→Nat→Bool),R[i]? = some r→R2[i]? = some r' → ∀ x y,x∈l→y∈l→r' (f x) (f y)=r x y) (hroot:root∈l) (hr2:f root=root2)
  (hc:Ren l.length (zbp l R fa root).1):zS l2 R2 fb root2=(zS l R fa root).map f:=by
 obtain ⟨hlen,g,h1,h2,h3,-⟩:=zto hn hn2 hm hinj hfa hl hR hroot hr2
 have hc2:Ren l.length (zbp l2 R2 fb root2).1:=⟨fun i hi=>by
   obtain ⟨j,hj,rfl⟩:=h1.surj hi
   rw [h3 j hj];exact hc.lt j hj,fun i j hi hj e=>by
   obtain ⟨a,ha,rfl⟩:=h1.surj hi
   obtain ⟨b,hb,rfl⟩:=h1.surj hj
   rw [h3 a ha,h3 b hb] at e
   rw [hc.inj a b ha hb e]⟩
 unfold zS
 rw [hlen,List.map_map]
 refine List.map_congr_left fun k hk=>?_
 have hk:=List.mem_range.1 hk
 obtain ⟨a,ha,rfl⟩:=hc.surj hk
 show l2.getD (zb4 l.length (zbp l2 R2 fb root2).1 _) 0=f (l.getD (zb4 l.length (zbp l R fa root).1 _) 0)
 rw [zgT hc ha,← h3 a ha,zgT hc2 (h1.lt a ha),h2 a ha]
theorem zu0 {l:List Nat} {R:zB} {fa:Nat→Int} {root:Nat} (hn:l.Nodup) (hroot:root∈l) (hc:Ren l.length (zbp l R fa root).1) :
  (zS l R fa root).length=l.length∧(zS l R fa root).Nodup∧(∀ x,x∈zS l R fa root↔x∈l)∧(∀ i,i < l.length→(zbp (zS l R fa root) R fa root).1 i=i)∧zS (zS l R fa root) R fa root=zS l R fa root∧(zS l R fa root).getD 0 0=root:=by
 have hlen:(zS l R fa root).length=l.length:=by simp [zS]
 have hget : ∀ i,i < l.length→(zS l R fa root).getD ((zbp l R fa root).1 i) 0=l.getD i 0:=fun i hi=>by
  unfold zS
  rw [List.getD,List.getElem?_map,List.getElem?_range (hc.lt i hi)]
  show l.getD (zb4 l.length (zbp l R fa root).1 _) 0=_
  rw [zgT hc hi]
 have hmem : ∀ x,x∈zS l R fa root↔x∈l:=fun x=>by
  constructor
  ·intro h
   obtain ⟨k,hk,rfl⟩:=List.mem_map.1 h
   exact zac (zdN hc (List.mem_range.1 hk)).1
  ·intro h
   obtain ⟨i,hi,rfl⟩:=zfT h
   rw [← hget i hi]
   exact zac (by rw [hlen];exact hc.lt i hi)
 have hnd:(zS l R fa root).Nodup:=by
  unfold zS
  rw [List.Nodup,List.pairwise_map]
  refine List.Pairwise.imp_of_mem (fun {a b} ha hb hab e=>hab ?_) List.nodup_range
  have ha:=zdN hc (List.mem_range.1 ha)
  have hb:=zdN hc (List.mem_range.1 hb)
  rw [← ha.2,← hb.2,zeR hn ha.1 hb.1 e]
 obtain ⟨-,g,h1,h2,h3,-⟩:=zto (f:=fun x=>x) (R:=R) (R2:=R) (fa:=fa) (fb:=fa) (root:=root) (root2:=root) hn hnd (fun x=>by rw [hmem];exact ⟨fun h=>⟨x,h,rfl⟩,fun ⟨y,h,e⟩=>e▸h⟩) (fun x y _ _ e=>e) (fun x _=>rfl) rfl (fun i r r' h1 h2 x y _ _=>by rw [h1] at h2;cases h2;rfl) hroot rfl
 have hgc : ∀ i,i < l.length→g i=(zbp l R fa root).1 i:=fun i hi=>by
  refine zeR hnd (by rw [hlen];exact h1.lt i hi) (by rw [hlen];exact hc.lt i hi) ?_
  rw [h2 i hi,hget i hi]
 have hid : ∀ i,i < l.length→(zbp (zS l R fa root) R fa root).1 i=i:=fun i hi=>by
  obtain ⟨a,ha,rfl⟩:=h1.surj hi
  rw [h3 a ha,hgc a ha]
 refine ⟨hlen,hnd,hmem,hid,?_,?_⟩
 ·have e : ∀ k,k < l.length→zb4 l.length (zbp (zS l R fa root) R fa root).1 k=k:=fun k hk=>by
   have hr:Ren l.length (zbp (zS l R fa root) R fa root).1:=⟨fun i hi=>by rw [hid i hi];exact hi,fun i j hi hj e=>by rwa [hid i hi,hid j hj] at e⟩
   have:=zgT hr hk
   rwa [hid k hk] at this
  have h4:zS (zS l R fa root) R fa root=(List.range l.length).map fun k=>(zS l R fa root).getD k 0:=by
   show (List.range (zS l R fa root).length).map (fun k=>(zS l R fa root).getD (zb4 (zS l R fa root).length (zbp (zS l R fa root) R fa root).1 k) 0)=_
   rw [hlen]
   exact List.map_congr_left fun k hk=>by rw [e k (List.mem_range.1 hk)]
  rw [h4]
  refine List.ext_getElem? fun i=>?_
  rw [List.getElem?_map]
  by_cases hi:i < l.length
  ·rw [List.getElem?_range hi,List.getElem?_eq_getElem (by rw [hlen];exact hi)]
   simp [List.getD,show i < (zS l R fa root).length by rw [hlen];exact hi]
  ·rw [List.getElem?_eq_none (by simp;omega),List.getElem?_eq_none (by rw [hlen];omega)];rfl
 ·obtain ⟨i,hi,e⟩:=zfT hroot
  have hz:(zbp l R fa root).1 i=0:=by
   have hm : ∀ w,w < l.length→zel l fa root w=[if w=i then (0:Int) else 1]::[[zae l fa w]]:=fun w hw=>by
    unfold zel
    by_cases h:w=i
    ·rw [if_pos h,h,e,if_pos rfl]
    ·rw [if_neg h,if_neg fun h'=>h (zeR hn hw hi (h'.trans e.symm))]
   have h5:=zv2 (R:=zF l R) hi (x:=fun w=>[[zae l fa w]])
   have h6:=(zlF (n:=l.length) (f:=fun w=>w) ⟨fun _ h=>h,fun _ _ _ _ h=>h⟩ (R:=zF l R) (R':=zF l R) ⟨rfl,fun i r r' h1 h2 v w _ _=>by rw [h1] at h2;cases h2;rfl⟩ (first:=fun w=>[if w=i then (0:Int) else 1]::[[zae l fa w]]) (first':=zel l fa root) hm).2.2.1 i hi
   have h7:(zbp l R fa root).1 i=_:=h6
   rw [h7];exact h5.1
  have:=hget i hi
  rw [hz] at this
  rw [this,e]
end Go.Ab
namespace Go.Ab
inductive Rch (n:Nat) (R:zB) (S:Nat→Prop):Nat→Prop where
 | base {v:Nat} : v < n→S v→Rch n R S v
 | step {v u:Nat} : Rch n R S v→u < n→(∃ r,r∈R∧r v u=true)→Rch n R S u
theorem Rch.lt {n:Nat} {R:zB} {S:Nat→Prop} {v:Nat} (h:Rch n R S v):v < n:=by cases h<;>assumption
theorem Rch.iso {n:Nat} {fa fb:Nat→Int} {R R':zB} {f:Nat→Nat} (hi:zcT n fa fb R R' f) {S S':Nat→Prop} (hS : ∀ v,v < n→S v→S' (f v)) {v:Nat} (h:Rch n R S v):Rch n R' S' (f v):=by
 induction h with
 | base hv hs=>exact .base (hi.ren.lt _ hv) (hS _ hv hs)
 | step h1 hu hr ih =>
  obtain ⟨r,hr,he⟩:=hr
  obtain ⟨i,hir⟩:=List.mem_iff_getElem?.1 hr
  obtain ⟨r',hr'⟩:=zdD hi.rel.len hir
  exact .step ih (hi.ren.lt _ hu) ⟨r',List.mem_of_getElem? hr',by rw [hi.rel.rel _ _ _ hir hr' _ _ h1.lt hu];exact he⟩
noncomputable def zD (n:Nat) (R:zB) (root:Nat):List Nat:=(List.range n).filter fun w => @decide (Rch n R (· = root) w) (Classical.propDecidable _)
theorem ze6 {n:Nat} {R:zB} {root w:Nat} : w∈zD n R root↔Rch n R (· = root) w:=by
 unfold zD
 rw [List.mem_filter,List.mem_range,@decide_eq_true_eq _ (Classical.propDecidable _)]
 exact ⟨fun h=>h.2,fun h=>⟨h.lt,h⟩⟩
theorem zhW (n:Nat) (R:zB) (root:Nat):(zD n R root).Nodup:=List.Nodup.sublist List.filter_sublist List.nodup_range
theorem zeQ {n:Nat} {R:zB} {root:Nat} (h:root < n):root∈zD n R root:=ze6.2 (.base h rfl)
theorem zjF {n:Nat} {R:zB} {fa:Nat→Int} {l:List Nat} (hl : ∀ x,x∈l→x < n) (hc : ∀ r,r∈R → ∀ v u,v∈l→u < n→r v u=true→u∈l):zcc n l.length R (zF l R) fa (zae l fa) fun v i=>i < l.length∧l.getD i 0=v where
 len:=by simp [zF]
 lt:=fun {v i} h=>⟨by rw [← h.2];exact hl _ (zac h.1),h.1⟩
 fac:=fun {v i} h=>by unfold zae;rw [h.2]
 forth h1 h2:=fun {v v' u} hz hu hr=>by
  rw [zF,List.getElem?_map,h1] at h2;cases h2
  obtain ⟨hz1,rfl⟩:=hz
  obtain ⟨j,hj,rfl⟩:=zfT (hc _ (List.mem_of_getElem? h1) _ u (zac hz1) hu hr)
  exact ⟨j,hj,hr,hj,rfl⟩
 back h1 h2:=fun {v v' u'} hz hu hr=>by
  rw [zF,List.getElem?_map,h1] at h2;cases h2
  obtain ⟨hz1,rfl⟩:=hz
  exact ⟨l.getD u' 0,hl _ (zac hu),hr,hu,rfl⟩
theorem zn5 {n:Nat} {R:zB} {root:Nat} : ∀ r,r∈R → ∀ v u,v∈zD n R root→u < n→r v u=true→u∈zD n R root:=fun r hr v u hv hu h=>ze6.2 (.step (ze6.1 hv) hu ⟨r,hr,h⟩)
end Go.Ab
namespace Go.Ab
structure Ptd where
 n:Nat
 R:zB
 fa:Nat→Int
 root:Nat
noncomputable def Ptd.min (m:Ptd):Ptd :=
 let l:=zD m.n m.R m.root
 let q:=coa l.length (zF l m.R) (zae l m.fa)
 ⟨zx l.length q,(zF l m.R).map (zc4 l.length q),zhw l.length q (zae l m.fa),zN q (l.idxOf m.root)⟩
theorem zjs {l:List Nat} {x:Nat} (h:x∈l):l.idxOf x < l.length∧l.getD (l.idxOf x) 0=x:=by
 have h1:=List.idxOf_lt_length_of_mem h
 exact ⟨h1,by simp [List.getD,h1]⟩
def zbZ (m m':Ptd):Prop := ∃ Z,zcc m.n m'.n m.R m'.R m.fa m'.fa Z∧Z m.root m'.root
theorem zbZ.symm {m m':Ptd} (h:zbZ m m'):zbZ m' m:=let ⟨Z,B,hz⟩:=h; ⟨_,B.symm,hz⟩
theorem zbZ.trans {m m' m2:Ptd} (h:zbZ m m') (h':zbZ m' m2):zbZ m m2:=let ⟨Z,B,hz⟩:=h;let ⟨Z',B',hz'⟩:=h'; ⟨_,B.trans B',_,hz,hz'⟩
theorem zjB {m:Ptd} (h:m.root < m.n):zbZ m m.min:=by
 have S:=zdg (zD m.n m.R m.root).length (zF (zD m.n m.R m.root) m.R) (zae (zD m.n m.R m.root) m.fa)
 have B:=zjF (fa:=m.fa) (fun x hx=>(ze6.1 hx).lt) (zn5 (n:=m.n) (R:=m.R) (root:=m.root))
 obtain ⟨h1,h2⟩:=zjs (zeQ (R:=m.R) h)
 exact ⟨_,B.trans S.quo,_,⟨h1,h2⟩,h1,rfl⟩
theorem zdp (m:Ptd):zg6 m.min.n m.min.R m.min.fa:=fun i hi=>zvU i hi
theorem zpg {n n':Nat} {R R':zB} {fa fb:Nat→Int} {Z:Nat→Nat→Prop} (B:zcc n n' R R' fa fb Z) {S S':Nat→Prop} (hS : ∀ v,S v→v < n → ∃ v',Z v v'∧S' v') {v:Nat} (h:Rch n R S v) : ∃ v',Z v v'∧Rch n' R' S' v':=by
 induction h with
 | base hv hs=>obtain ⟨v',h1,h2⟩:=hS _ hs hv;exact ⟨v',h1,.base (B.lt h1).2 h2⟩
 | step h1 hu hr ih =>
  obtain ⟨v',h2,h3⟩:=ih
  obtain ⟨r,hr,he⟩:=hr
  obtain ⟨i,hir⟩:=List.mem_iff_getElem?.1 hr
  obtain ⟨r',hr'⟩:=zdD B.len hir
  obtain ⟨u',h4,h5,h6⟩:=B.forth hir hr' h2 hu he
  exact ⟨u',h6,.step h3 h4 ⟨r',List.mem_of_getElem? hr',h5⟩⟩
theorem zeT {m:Ptd} (h:m.root < m.n):m.min.root < m.min.n:=by
 obtain ⟨Z,B,hz⟩:=zjB h
 exact (B.lt hz).2
theorem zkZ {m:Ptd} (h:m.root < m.n) : ∀ i,i < m.min.n→Rch m.min.n m.min.R (· = m.min.root) i:=by
 intro i hi
 have S:=zdg (zD m.n m.R m.root).length (zF (zD m.n m.R m.root) m.R) (zae (zD m.n m.R m.root) m.fa)
 have B:=zjF (fa:=m.fa) (fun x hx=>(ze6.1 hx).lt) (zn5 (n:=m.n) (R:=m.R) (root:=m.root))
 obtain ⟨u,-,u1,-,u3⟩:=zjD S.canon hi
 have hr:=ze6.1 (zac u1)
 obtain ⟨j,⟨k,⟨hk1,hk2⟩,hk3,hk4⟩,h2⟩:=zpg (B.trans S.quo) (S:=(· = m.root)) (S':=(· = m.min.root)) (fun v e hv=>by
  subst e
  obtain ⟨h1,h2⟩:=zjs (zeQ (R:=m.R) h)
  exact ⟨_,⟨_,⟨h1,h2⟩,h1,rfl⟩,rfl⟩) hr
 have:k=u:=zeR (zhW m.n m.R m.root) hk1 u1 hk2
 rw [← u3,← this,← hk4]
 exact h2
theorem zyR {m m':Ptd} (h:m.root < m.n) (h':m'.root < m'.n) (hb:zbZ m m'):m'.min.n=m.min.n ∧ ∃ f,zcT m.min.n m.min.fa m'.min.fa m.min.R m'.min.R f∧f m.min.root=m'.min.root:=by
 obtain ⟨Z,B,hz⟩:=((zjB h).symm.trans hb).trans (zjB h')
 have tot : ∀ v,v < m.min.n → ∃ v',Z v v':=fun v hv=>by
  obtain ⟨v',h1,-⟩:=zpg B (S:=(· = m.min.root)) (S':=(· = m'.min.root)) (fun x e _=>by subst e;exact ⟨_,hz,rfl⟩) (zkZ h v hv)
  exact ⟨v',h1⟩
 have sur : ∀ v',v' < m'.min.n → ∃ v,Z v v':=fun v hv=>by
  obtain ⟨v',h1,-⟩:=zpg B.symm (S:=(· = m'.min.root)) (S':=(· = m.min.root)) (fun x e _=>by subst e;exact ⟨_,hz,rfl⟩) (zkZ h' v hv)
  exact ⟨v',h1⟩
 obtain ⟨h1,f,h2,h3⟩:=zw2 (zdp m) (zdp m') B tot sur
 refine ⟨h1,f,h2,?_⟩
 exact (zdp m').eq (B.symm.trans B) ⟨_,h3 _ (zeT h),hz⟩
noncomputable def Ptd.can (m:Ptd):Ptd:=⟨m.min.n,zF (zS (List.range m.min.n) m.min.R m.min.fa m.min.root) m.min.R,zae (zS (List.range m.min.n) m.min.R m.min.fa m.min.root) m.min.fa,0⟩
theorem zjl {n:Nat} {R:zB} {fa:Nat→Int} (hd:zg6 n R fa) (root:Nat):Ren (List.range n).length (zbp (List.range n) R fa root).1:=by
 have hpr:zF (List.range n) R=zF (List.range n) R:=rfl
 refine (zpX (g:=fun i=>[[zae (List.range n) fa i]]) (fun v w hv hw e=>?_) ?_).2
 ·unfold zel at e
  have:=(List.cons.inj e).2
  exact this
 ·rw [← zrL (fa:=zae (List.range n) fa) (fun v w _ _=>by simp)]
  show zx _ (coa (List.range n).length (zF (List.range n) R) (zae (List.range n) fa))=_
  have hB:zcc (List.range n).length n (zF (List.range n) R) R (zae (List.range n) fa) fa fun i v=>i < (List.range n).length∧(List.range n).getD i 0=v :=
   (zjF (R:=R) (fa:=fa) (l:=List.range n) (fun x hx=>List.mem_range.1 hx) (fun r _ v u _ hu _=>List.mem_range.2 hu)).symm
  have S:=zdg (List.range n).length (zF (List.range n) R) (zae (List.range n) fa)
  unfold zx
  refine (List.length_filter_eq_length_iff.2 fun w hw=>decide_eq_true ?_).trans List.length_range
  have hw:=List.mem_range.1 hw
  have hle:=S.canon.le w hw
  have:=hd.eq ((hB.symm.trans S.bis).trans hB) (v:=(List.range n).getD (coa (List.range n).length (zF (List.range n) R) (zae (List.range n) fa) w) 0) (w:=(List.range n).getD w 0) ⟨w,⟨_,⟨by omega,rfl⟩,by omega,hw,S.canon.idem w hw⟩,hw,rfl⟩
  exact zeR List.nodup_range (by omega) hw this
end Go.Ab
namespace Go.Ab
theorem zmN {n:Nat} {R:zB} {fa:Nat→Int} {root:Nat} (hr:root < n) (hd:zg6 n R fa):(zS (List.range n) R fa root).length=n∧(zS (List.range n) R fa root).Nodup∧(∀ x,x∈zS (List.range n) R fa root↔x < n)∧(zS (List.range n) R fa root).getD 0 0=root:=by
 obtain ⟨h1,h2,h3,-,-,h6⟩:=zu0 (R:=R) (fa:=fa) List.nodup_range (List.mem_range.2 hr) (zjl hd root)
 exact ⟨by rw [h1,List.length_range],h2,fun x=>by rw [h3,List.mem_range],h6⟩
theorem zqV {m:Ptd} (h:m.root < m.n):zbZ m m.can:=by
 obtain ⟨h1,h2,h3,h4⟩:=zmN (zeT h) (zdp m)
 have B:=zjF (R:=m.min.R) (fa:=m.min.fa) (l:=zS (List.range m.min.n) m.min.R m.min.fa m.min.root) (n:=m.min.n) (fun x hx=>(h3 x).1 hx) (fun r _ v u _ hu _=>(h3 u).2 hu)
 rw [h1] at B
 have hpos:=zeT h
 exact (zjB h).trans ⟨_,B,by show 0 < m.min.n;omega,h4⟩
structure ztG (m m':Ptd):Prop where
 n:m'.can.n=m.can.n
 fa : ∀ k,k < m.can.n→m'.can.fa k=m.can.fa k
 len:m'.can.R.length=m.can.R.length
 rel : ∀ (i:Nat) (r r':Nat→Nat→Bool),m.can.R[i]? = some r→m'.can.R[i]? = some r' → ∀ a b,a < m.can.n→b < m.can.n→r' a b=r a b
theorem ztG.pbis {m m':Ptd} (h:ztG m m') (hn:0 < m.can.n):zbZ m.can m'.can:=by
 refine ⟨fun v v'=>v < m.can.n∧v'=v,⟨h.len,fun {v v'} hz=>⟨hz.1,by rw [hz.2,h.n];exact hz.1⟩,fun {v v'} hz=>by rw [hz.2];exact (h.fa v hz.1).symm,fun {i r r'} h1 h2 {v v' u} hz hu hr=>?_,fun {i r r'} h1 h2 {v v' u'} hz hu hr=>?_⟩,hn,rfl⟩
 ·obtain ⟨hv,rfl⟩:=hz
  exact ⟨u,by rw [h.n];exact hu,by rw [h.rel i r r' h1 h2 _ _ hv hu];exact hr,hu,rfl⟩
 ·obtain ⟨hv,rfl⟩:=hz
  rw [h.n] at hu
  exact ⟨u',hu,by rw [← h.rel i r r' h1 h2 _ _ hv hu];exact hr,hu,rfl⟩
theorem zl9 {m m':Ptd} (h:m.root < m.n) (h':m'.root < m'.n):ztG m m'↔zbZ m m':=by
 constructor
 ·intro hc
  have:=zeT h
  exact ((zqV h).trans (hc.pbis (by show 0 < m.min.n;omega))).trans (zqV h').symm
 ·intro hb
  obtain ⟨hn,f,hi,hr⟩:=zyR h h' hb
  have hl:=zmN (zeT h) (zdp m)
  have hm : ∀ x,x∈List.range m'.min.n ↔ ∃ y,y∈List.range m.min.n∧f y=x:=fun x=>by
   rw [List.mem_range,hn]
   constructor
   ·intro hx
    obtain ⟨y,hy,e⟩:=hi.ren.surj hx
    exact ⟨y,List.mem_range.2 hy,e⟩
   ·rintro ⟨y,hy,rfl⟩
    exact hi.ren.lt y (List.mem_range.1 hy)
  have hw:zS (List.range m'.min.n) m'.min.R m'.min.fa m'.min.root=(zS (List.range m.min.n) m.min.R m.min.fa m.min.root).map f :=
   zs5 List.nodup_range List.nodup_range hm (fun x y hx hy e=>hi.ren.inj x y (List.mem_range.1 hx) (List.mem_range.1 hy) e) (fun x hx=>hi.fac x (List.mem_range.1 hx)) hi.rel.len
    (fun i r r' h1 h2 x y hx hy=>hi.rel.rel i r r' h1 h2 x y (List.mem_range.1 hx) (List.mem_range.1 hy)) (List.mem_range.2 (zeT h)) hr (zjl (zdp m) m.min.root)
  generalize hcw:zS (List.range m.min.n) m.min.R m.min.fa m.min.root=cw at hw hl
  have hget : ∀ k,k < m.min.n→(zS (List.range m'.min.n) m'.min.R m'.min.fa m'.min.root).getD k 0=f (cw.getD k 0)∧cw.getD k 0 < m.min.n:=fun k hk=>by
   rw [hw]
   have hk':k < cw.length:=by rw [hl.1];exact hk
   exact ⟨by simp [List.getD,hk'],(hl.2.2.1 _).1 (zac hk')⟩
  refine ⟨hn,fun k hk=>?_,?_,fun i r r' h1 h2 a b ha hb=>?_⟩
  ·show m'.min.fa ((zS (List.range m'.min.n) m'.min.R m'.min.fa m'.min.root).getD k 0)=m.min.fa ((zS (List.range m.min.n) m.min.R m.min.fa m.min.root).getD k 0)
   rw [hcw,(hget k hk).1,hi.fac _ (hget k hk).2]
  ·show (zF _ m'.min.R).length=(zF _ m.min.R).length
   unfold zF
   rw [List.length_map,List.length_map,hi.rel.len]
  ·have h1:(zF (zS (List.range m.min.n) m.min.R m.min.fa m.min.root) m.min.R)[i]? = some r:=h1
   have h2:(zF (zS (List.range m'.min.n) m'.min.R m'.min.fa m'.min.root) m'.min.R)[i]? = some r':=h2
   unfold zF at h1 h2
   rw [List.getElem?_map,Option.map_eq_some_iff] at h1 h2
   obtain ⟨s,hs,rfl⟩:=h1
   obtain ⟨s',hs',rfl⟩:=h2
   show s' ((zS (List.range m'.min.n) m'.min.R m'.min.fa m'.min.root).getD a 0) ((zS (List.range m'.min.n) m'.min.R m'.min.fa m'.min.root).getD b 0)=s ((zS (List.range m.min.n) m.min.R m.min.fa m.min.root).getD a 0) ((zS (List.range m.min.n) m.min.R m.min.fa m.min.root).getD b 0)
   rw [hcw,(hget a ha).1,(hget b hb).1,hi.rel.rel i s s' hs hs' _ _ (hget a ha).2 (hget b hb).2]
end Go.Ab
namespace Go.Ab
theorem zbU {n:Nat} (hn:n≤64) {f:Nat→Bool} {w:Nat} : (zaC f n).getLsbD w=true↔w < n∧f w=true:=by
 rw [zp1];simp only [Bool.and_eq_true,decide_eq_true_eq]
 exact ⟨fun h=>⟨h.1.2,h.2⟩,fun h=>⟨⟨by omega,h.1⟩,h.2⟩⟩
theorem zmv {f g:Nat→Bool} : ∀ {n:Nat},(∀ i,i < n→f i=g i)→zaC f n=zaC g n
 | 0,_=>rfl
 | n+1,h=>by rw [zaC,zaC,h n (by omega),zmv fun i hi=>h i (by omega)]
def zg (m:KM):zB:=m.rel.map fun r=>fun v w=>rb r v w
def zz (m:KM) (w:Nat):Int:=(zaB m.val w m.val.length:Int)
def zav (s:BitVec 64) (l:List Nat):BitVec 64:=zaC (fun i=>s.getLsbD (l.getD i 0)) l.length
def zJ (m:KM) (l:List Nat):KM:=⟨l.length,m.val.map fun s=>zav s l,m.rel.map fun r=>l.map fun w=>zav (r.getD w 0#64) l⟩
theorem zjH {s:BitVec 64} {l:List Nat} (hl:l.length≤64) {i:Nat} : (zav s l).getLsbD i=true↔i < l.length∧s.getLsbD (l.getD i 0)=true:=zbU hl
theorem ze0 {n:Int} {s:BitVec 64} (h:0≤n):bad n s=false ↔ ∀ i,s.getLsbD i=true→i < n.toNat:=by
 rw [zuS h]
 exact ⟨fun k i hi=>by have:=k i hi;omega,fun k i hi=>by have:=k i hi;omega⟩
theorem zn7 {m:KM} (h:zcm m):za m=0:=by
 obtain ⟨h1,h2,h3,h4,h5,h6,h7⟩:=h
 unfold za
 rw [if_neg (by omega),if_neg (by omega),if_neg,if_neg,if_neg]
 ·simp only [List.any_eq_true,not_exists,not_and]
  intro r hr s hs e
  rw [h7 r hr s hs] at e;cases e
 ·simp only [List.any_eq_true,not_exists,not_and]
  intro s hs e
  rw [h6 s hs] at e;cases e
 ·simp only [List.any_eq_true,not_exists,not_and,decide_eq_true_eq]
  intro r hr e
  exact e (h5 r hr)
theorem zwJ {m:KM} (hm:zcm m) {l:List Nat} (h1:1≤l.length) (h2:l.length≤64):zcm (zJ m l) where
 w1:=by show (1:Int)≤(l.length:Int);omega
 w2:=by show (l.length:Int)≤64;omega
 n4:=by have:=hm.n4;simpa [zJ] using this
 v8:=by have:=hm.v8;simpa [zJ] using this
 len:=fun r hr=>by
  obtain ⟨r',-,rfl⟩:=List.mem_map.1 hr
  simp [zJ]
 val:=fun s hs=>by
  obtain ⟨s',-,rfl⟩:=List.mem_map.1 hs
  rw [ze0 (by show (0:Int)≤(l.length:Int);omega)]
  intro i hi
  exact ((zjH h2).1 hi).1
 rel:=fun r hr s hs=>by
  obtain ⟨r',-,rfl⟩:=List.mem_map.1 hr
  obtain ⟨w,-,rfl⟩:=List.mem_map.1 hs
  rw [ze0 (by show (0:Int)≤(l.length:Int);omega)]
  intro i hi
  exact ((zjH h2).1 hi).1
theorem znv {m:KM} (hc:za m=0) {l:List Nat} (h1:1≤l.length) (h2:l.length≤64):za (zJ m l)=0:=zn7 (zwJ (zq hc) h1 h2)
theorem zjI (m:KM):(zg m).length=m.rel.length:=by simp [zg]
theorem zoM {m:KM} {l:List Nat} (h2:l.length≤64) {i:Nat} {r r':Nat→Nat→Bool} (h:(zg (zJ m l))[i]? = some r) (h':(zF l (zg m))[i]? = some r') {v w:Nat} (hv:v < l.length) (hw:w < l.length):r v w=r' v w:=by
 unfold zg zJ at h
 unfold zF zg at h'
 rw [List.map_map,List.getElem?_map,Option.map_eq_some_iff] at h
 rw [List.map_map,List.getElem?_map,Option.map_eq_some_iff] at h'
 obtain ⟨a,ha,rfl⟩:=h
 obtain ⟨b,hb,rfl⟩:=h'
 rw [ha] at hb;cases hb
 show rb (l.map fun w=>zav (a.getD w 0#64) l) v w=rb a (l.getD v 0) (l.getD w 0)
 unfold rb
 rw [show (l.map fun w=>zav (a.getD w 0#64) l).getD v 0#64=zav (a.getD (l.getD v 0) 0#64) l by
  simp [List.getD,List.getElem?_map,List.getElem?_eq_getElem hv]]
 rw [Bool.eq_iff_iff,zjH h2]
 exact ⟨fun h=>h.2,fun h=>⟨hw,h⟩⟩
theorem zqK {m:KM} {l:List Nat} (h2:l.length≤64):zg7 l.length (fun w=>w) (zF l (zg m)) (zg (zJ m l)) :=
 ⟨by simp [zF,zg,zJ],fun i r r' h1 h2' v w hv hw=>zoM h2 h2' h1 hv hw⟩
theorem znY (vl:List (BitVec 64)) {l:List Nat} (h2:l.length≤64) {i:Nat} (hi:i < l.length) : ∀ k,zaB (vl.map fun s=>zav s l) i k=zaB vl (l.getD i 0) k
 | 0=>rfl
 | k+1=>by
  rw [zaB,zaB,znY vl h2 hi k]
  have e:((vl.map fun s=>zav s l).getD k 0#64).getLsbD i=(vl.getD k 0#64).getLsbD (l.getD i 0):=by
   simp only [List.getD,List.getElem?_map]
   cases hk:vl[k]? with
   | none=>simp
   | some s =>
    show (zav s l).getLsbD i=s.getLsbD (l.getD i 0)
    rw [Bool.eq_iff_iff,zjH h2]
    exact ⟨fun h=>h.2,fun h=>⟨hi,h⟩⟩
  rw [e]
theorem zlr {m:KM} {l:List Nat} (h2:l.length≤64) {i:Nat} (hi:i < l.length):zz (zJ m l) i=zae l (zz m) i:=by
 unfold zz zae zJ
 rw [List.length_map,znY _ h2 hi]
theorem zvb {a b:List (BitVec 64)} {w:Nat} (hl:a.length=b.length) (h:zaB a w a.length=zaB b w b.length) (i:Nat):(a.getD i 0#64).getLsbD w=(b.getD i 0#64).getLsbD w:=by
 by_cases hi:i < a.length
 ·have h1:=zgn a w (i:=i) a.length
  have h2:=zgn b w (i:=i) b.length
  rw [h] at h1
  rw [Bool.eq_iff_iff]
  exact ⟨fun e=>(h2.1 (h1.2 ⟨hi,e⟩)).2,fun e=>(h1.1 (h2.2 ⟨by omega,e⟩)).2⟩
 ·rw [List.getD,List.getD,List.getElem?_eq_none (by omega),List.getElem?_eq_none (by omega)]
theorem zhn {l:List (BitVec 64)} {W:Int} (hW:0≤W) (h : ∀ s∈l,bad W s=false) (i w:Nat) (hw:(l.getD i 0#64).getLsbD w=true):w < W.toNat:=by
 cases hi:l[i]? with
 | none=>rw [List.getD,hi] at hw;simp at hw
 | some s =>
  rw [List.getD,hi] at hw
  exact (ze0 hW).1 (h s (List.mem_of_getElem? hi)) w hw
theorem ze7 {α:Type} {l:List α} {i:Nat} {d:α} (h:i < l.length):l[i]? = some (l.getD i d):=by simp [List.getD,h]
theorem zdA {α:Type} {a b:List α} {d:α} (hl:a.length=b.length) (h : ∀ i,i < a.length→a.getD i d=b.getD i d):a=b:=by
 refine List.ext_getElem hl fun i h1 h2=>?_
 have:=h i h1
 rw [List.getD,List.getD,List.getElem?_eq_getElem h1,List.getElem?_eq_getElem h2] at this
 exact this
theorem zzB {a b:KM} (ga:zcm a) (gb:zcm b) (hW:a.W=b.W) (hv:a.val.length=b.val.length) (hr:a.rel.length=b.rel.length)
  (hf : ∀ w,w < a.W.toNat→zz a w=zz b w)
  (hR : ∀ (i:Nat) r r',(zg a)[i]? = some r→(zg b)[i]? = some r' → ∀ v w,v < a.W.toNat→w < a.W.toNat→r v w=r' v w):a=b:=by
 have w1:=ga.w1
 have e1:a.val=b.val:=zdA (d:=0#64) hv fun i hi=>by
  refine BitVec.eq_of_getLsbD_eq fun w _=>?_
  by_cases hw:w < a.W.toNat
  ·exact zvb hv (Int.ofNat_inj.1 (hf w hw)) i
  ·have h1:=fun h=>hw (zhn (by omega) ga.val i w h)
   have h2:=fun h=>hw (by have:=zhn (by omega) gb.val i w h;omega)
   rw [Bool.eq_iff_iff]
   exact ⟨fun h=>absurd h h1,fun h=>absurd h h2⟩
 have e2:a.rel=b.rel:=zdA (d:=[]) hr fun i hi=>by
  have hi2:i < b.rel.length:=by omega
  have g1:=ga.len _ (List.getElem_mem hi)
  have g2:=gb.len _ (List.getElem_mem hi2)
  have f1:=ga.rel _ (List.getElem_mem hi)
  have f2:=gb.rel _ (List.getElem_mem hi2)
  have hR:=hR i (fun v w=>rb a.rel[i] v w) (fun v w=>rb b.rel[i] v w) (by simp [zg,hi]) (by simp [zg,hi2])
  rw [show a.rel.getD i []=a.rel[i] by simp [List.getD,hi],show b.rel.getD i []=b.rel[i] by simp [List.getD,hi2]]
  generalize a.rel[i]=x at g1 f1 hR
  generalize b.rel[i]=y at g2 f2 hR
  refine zdA (d:=0#64) (by omega) fun v hv=>BitVec.eq_of_getLsbD_eq fun w _=>?_
  by_cases hw:w < a.W.toNat
  ·exact hR v w (by omega) hw
  ·have h1:=fun h=>hw (zhn (by omega) f1 v w h)
   have h2:=fun h=>hw (by have:=zhn (by omega) f2 v w h;omega)
   rw [Bool.eq_iff_iff]
   exact ⟨fun h=>absurd h h1,fun h=>absurd h h2⟩
 cases a;cases b;simp only at hW e1 e2;subst hW e1 e2;rfl
def zdw (to:List Int) (n:Nat):Bool:=decide (to.length=n∧(∀ x∈to,0≤x∧x < n)∧to.Nodup)
def zd4 (to:List Int) (n:Nat):List Nat:=(List.range n).map fun (i:Nat)=>to.idxOf (i:Int)
def zbb:KM:=⟨0,[],[]⟩
def znf (m:KM) (to:List Int):KM×Int:=if za m≠0 then (zbb,za m) else if zdw to m.W.toNat=true then (zJ m (zd4 to m.W.toNat),0) else (zbb,1)
theorem zeV {to:List Int} {n:Nat} : zdw to n=true↔to.length=n∧(∀ x∈to,0≤x∧x < n)∧to.Nodup:=by simp only [zdw,decide_eq_true_eq]
theorem zxA {to:List Int} {n:Nat} (h:zdw to n=true) {i:Nat} (hi:i < n):(i:Int)∈to:=by
 obtain ⟨h1,h2,h3⟩:=zeV.1 h
 have key : ∀ x∈to,x∈(List.range n).map fun (i:Nat)=>(i:Int):=fun x hx=>List.mem_map.2 ⟨x.toNat,List.mem_range.2 (by have:=h2 x hx;omega),by have:=h2 x hx;omega⟩
 apply Classical.byContradiction
 intro hn
 have:=zbC (l:=(i:Int)::to) (l':=(List.range n).map fun (i:Nat)=>(i:Int)) (List.nodup_cons.2 ⟨hn,h3⟩) fun x hx=>by
  rcases List.mem_cons.1 hx with rfl|hx
  ·exact List.mem_map.2 ⟨i,List.mem_range.2 hi,rfl⟩
  ·exact key x hx
 simp at this;omega
abbrev toF (to:List Int) (w:Nat):Nat:=(at0 to w).toNat
theorem zrY {to:List Int} {n:Nat} (h:zdw to n=true):Ren n (toF to):=by
 obtain ⟨h1,h2,h3⟩:=zeV.1 h
 refine ⟨fun w hw=>?_,fun v w hv hw e=>?_⟩
 ·have:=h2 (at0 to w) (List.mem_of_getElem? (zdC (by omega)))
  unfold toF;omega
 ·have a1:=h2 (at0 to v) (List.mem_of_getElem? (zdC (by omega)))
  have a2:=h2 (at0 to w) (List.mem_of_getElem? (zdC (by omega)))
  have e':at0 to v=at0 to w:=by unfold toF at e;omega
  have g1:=zdC (l:=to) (i:=v) (by omega)
  have g2:=zdC (l:=to) (i:=w) (by omega)
  rw [e'] at g1
  obtain ⟨p1,q1⟩:=List.getElem?_eq_some_iff.1 g1
  obtain ⟨p2,q2⟩:=List.getElem?_eq_some_iff.1 g2
  exact (List.getElem_inj h3).1 (q1.trans q2.symm)
theorem zzy {to:List Int} {n:Nat} (h:zdw to n=true) {w:Nat} (hw:w < n):to.idxOf ((toF to w:Nat):Int)=w:=by
 obtain ⟨h1,h2,h3⟩:=zeV.1 h
 have g:=zdC (l:=to) (i:=w) (by omega)
 have a:=h2 (at0 to w) (List.mem_of_getElem? g)
 rw [show ((toF to w:Nat):Int)=at0 to w by unfold toF;omega]
 obtain ⟨p,q⟩:=List.getElem?_eq_some_iff.1 g
 rw [← q]
 exact h3.idxOf_getElem w p
theorem zo3 (to:List Int) (n:Nat):(zd4 to n).length=n:=by simp [zd4]
theorem zxg {to:List Int} {n i:Nat} (hi:i < n):(zd4 to n).getD i 0=to.idxOf (i:Int):=by simp [zd4,List.getD,hi]
theorem zvt {to:List Int} {n:Nat} (h:zdw to n=true) {w:Nat} (hw:w < n):(zd4 to n).getD (toF to w) 0=w:=by
 rw [zxg ((zrY h).lt w hw),zzy h hw]
theorem zvu {to:List Int} {n:Nat} (h:zdw to n=true) {i:Nat} (hi:i < n):(zd4 to n).getD i 0 < n:=by
 obtain ⟨w,hw,rfl⟩:=(zrY h).surj hi
 rw [zvt h hw];exact hw
end Go.Ab
namespace Go.Ab
noncomputable def zgy (m:KM) (s:BitVec 64):BitVec 64:=zaC (fun w => @decide (Rch m.W.toNat (zg m) (fun v=>s.getLsbD v=true) w) (Classical.propDecidable _)) 64
theorem zgZ {m:KM} (hc:za m=0) {s:BitVec 64} {w:Nat} : (zgy m s).getLsbD w=true↔Rch m.W.toNat (zg m) (fun v=>s.getLsbD v=true) w:=by
 have w2:=(zq hc).w2
 unfold zgy
 rw [zbU (Nat.le_refl _),@decide_eq_true_eq _ (Classical.propDecidable _)]
 exact ⟨fun h=>h.2,fun h=>⟨by have:=h.lt;omega,h⟩⟩
def Clo (m:KM) (s:BitVec 64):Prop := ∀ v,s.getLsbD v=true → ∀ r∈m.rel,∀ u,rb r v u=true→s.getLsbD u=true
structure zqD (m:KM) (f s:BitVec 64):Prop where
 sub : ∀ v,f.getLsbD v=true→s.getLsbD v=true
 inn : ∀ v,s.getLsbD v=true→Rch m.W.toNat (zg m) (fun v=>f.getLsbD v=true) v
theorem zyh {m:KM} (hc:za m=0) {r:List (BitVec 64)} (hr:r∈m.rel) {v u:Nat} (h:rb r v u=true):v < m.W.toNat∧u < m.W.toNat:=by
 have hg:=zq hc
 have w1:=hg.w1
 refine ⟨?_,zhn (by omega) (hg.rel r hr) v u h⟩
 apply Classical.byContradiction
 intro hn
 have:=hg.len r hr
 rw [zzF (by omega)] at h;cases h
theorem zr0 {m:KM} (hc:za m=0) {S:Nat→Prop} {v u:Nat} (h:Rch m.W.toNat (zg m) S v) {r:List (BitVec 64)} (hr:r∈m.rel) (e:rb r v u=true):Rch m.W.toNat (zg m) S u :=
 .step h (zyh hc hr e).2 ⟨fun v w=>rb r v w,List.mem_map.2 ⟨r,hr,rfl⟩,e⟩
theorem zqD.done {m:KM} (hc:za m=0) {f s:BitVec 64} (h:zqD m f s) (hcl:Clo m s):s=zgy m f:=by
 have hin : ∀ v,Rch m.W.toNat (zg m) (fun v=>f.getLsbD v=true) v→s.getLsbD v=true:=fun v hv=>by
  induction hv with
  | base _ h1=>exact h.sub _ h1
  | step _ hu hr ih =>
   obtain ⟨r',hr',e⟩:=hr
   obtain ⟨r,hr,rfl⟩:=List.mem_map.1 hr'
   exact hcl _ ih r hr _ e
 refine BitVec.eq_of_getLsbD_eq fun i _=>?_
 rw [Bool.eq_iff_iff,zgZ hc]
 exact ⟨h.inn i,hin i⟩
structure zoK (m:KM) (f out todo:BitVec 64):Prop where
 gs:zqD m f out
 tod : ∀ v,todo.getLsbD v=true→out.getLsbD v=true
 clo : ∀ v,out.getLsbD v=true→todo.getLsbD v=false → ∀ r∈m.rel,∀ u,rb r v u=true→out.getLsbD u=true
theorem zuj {m:KM} {f:BitVec 64} (hf : ∀ v,f.getLsbD v=true→v < m.W.toNat):zoK m f f f :=
 ⟨⟨fun _ h=>h,fun v h => .base (hf v h) h⟩,fun _ h=>h,fun v h h'=>by rw [h] at h';cases h'⟩
theorem zoK.done {m:KM} (hc:za m=0) {f out:BitVec 64} (h:zoK m f out 0#64):out=zgy m f :=
 h.gs.done hc fun v hv=>h.clo v hv (by simp)
def zko (a b:BitVec 64):Nat:=((List.range 64).filter fun v=>a.getLsbD v && !b.getLsbD v).length
theorem zyx (a b:BitVec 64):zko a b≤64:=by
 have:=List.length_filter_le (fun v=>a.getLsbD v && !b.getLsbD v) (List.range 64)
 simpa [zko] using this
theorem zzq {s:BitVec 64} {w:Nat} (h:s.getLsbD w=true):w < 64:=by
 apply Classical.byContradiction
 intro hn
 rw [BitVec.getLsbD_of_ge _ _ (by omega)] at h;cases h
structure zmA (m:KM) (out todo:BitVec 64) (w k:Nat) (o t:BitVec 64):Prop where
 o : ∀ v,o.getLsbD v=true↔out.getLsbD v=true ∨ ∃ r∈m.rel.take k,rb r w v=true
 t : ∀ v,t.getLsbD v=true↔(todo.getLsbD v=true∧v≠w)∨(out.getLsbD v=false ∧ ∃ r∈m.rel.take k,rb r w v=true)
theorem zuk {m:KM} {out todo t:BitVec 64} {w:Nat} (ht : ∀ v,t.getLsbD v=(todo.getLsbD v&&v != w)):zmA m out todo w 0 out t :=
 ⟨fun v=>by simp,fun v=>by rw [ht];simp⟩
theorem zgB {α:Type} {l:List α} {k:Nat} {x:α} (h:l[k]? = some x) (p:α→Prop):(∃ r∈l.take (k+1),p r)↔(∃ r∈l.take k,p r)∨p x:=by
 rw [List.take_add_one,h]
 simp only [Option.toList_some,List.mem_append,List.mem_singleton]
 constructor
 ·rintro ⟨r,h1|rfl,h2⟩
  ·exact .inl ⟨r,h1,h2⟩
  ·exact .inr h2
 ·rintro (⟨r,h1,h2⟩|h2)
  ·exact ⟨r,.inl h1,h2⟩
  ·exact ⟨x,.inr rfl,h2⟩
theorem zmA.next {m:KM} {out todo:BitVec 64} {w k:Nat} {o t:BitVec 64} (h:zmA m out todo w k o t) {r:List (BitVec 64)} {x:BitVec 64} (hr:m.rel[k]? = some r) (hx:r[w]? = some x):zmA m out todo w (k+1) (o|||x) (t|||(x &&& ~~~o)):=by
 have e : ∀ v,rb r w v=x.getLsbD v:=fun v=>zyi hx v
 refine ⟨fun v=>?_,fun v=>?_⟩
 ·rw [zgB hr,BitVec.getLsbD_or,Bool.or_eq_true,h.o v,e]
  simp only [or_assoc]
 ·rw [zgB hr,BitVec.getLsbD_or,Bool.or_eq_true,h.t v,BitVec.getLsbD_and,Bool.and_eq_true,BitVec.getLsbD_not,e]
  have ho:=h.o v
  by_cases hv:v < 64
  ·simp only [hv,decide_true,Bool.true_and,Bool.not_eq_true']
   by_cases h1:out.getLsbD v=true
   ·have:o.getLsbD v=true:=ho.2 (.inl h1)
    simp [h1,this]
   ·simp only [Bool.not_eq_true] at h1
    by_cases h2 : ∃ r∈m.rel.take k,rb r w v=true
    ·have:o.getLsbD v=true:=ho.2 (.inr h2)
     simp [h1,h2,this]
    ·have:o.getLsbD v=false:=by rw [← Bool.not_eq_true];intro h3;rcases ho.1 h3 with h3|h3; (rw [h1] at h3;cases h3);exact h2 h3
     simp [h1,h2,this]
  ·have:x.getLsbD v=false:=BitVec.getLsbD_of_ge _ _ (by omega)
   simp [hv,this]
theorem zmA.end' {m:KM} (hc:za m=0) {f out todo:BitVec 64} {w:Nat} {o t:BitVec 64} (h:zoK m f out todo) (hw:todo.getLsbD w=true) (hK:zmA m out todo w m.rel.length o t):zoK m f o t∧zko out todo < zko o t:=by
 have ho:=hK.o;have ht:=hK.t
 simp only [List.take_length] at ho ht
 have how:=h.tod w hw
 have hr : ∀ {r v},r∈m.rel→rb r w v=true→o.getLsbD v=true:=fun h1 h2=>(ho _).2 (.inr ⟨_,h1,h2⟩)
 refine ⟨⟨⟨fun v hv=>(ho v).2 (.inl (h.gs.sub v hv)),fun v hv=>?_⟩,fun v hv=>?_,fun v hv hv' r hr' u hu=>?_⟩,?_⟩
 ·rcases (ho v).1 hv with h1|⟨r,h1,h2⟩
  ·exact h.gs.inn v h1
  ·exact zr0 hc (h.gs.inn w how) h1 h2
 ·rcases (ht v).1 hv with ⟨h1,-⟩|⟨-,h2⟩
  ·exact (ho v).2 (.inl (h.tod v h1))
  ·exact (ho v).2 (.inr h2)
 ·by_cases e:v=w
  ·subst e;exact hr hr' hu
  ·have h1:out.getLsbD v=true:=by
    rcases (ho v).1 hv with h1|h1
    ·exact h1
    ·cases h2:out.getLsbD v with
     | true=>rfl
     | false=>rw [(ht v).2 (.inr ⟨h2,h1⟩)] at hv';cases hv'
   have h2:todo.getLsbD v=false:=by
    rw [← Bool.not_eq_true];intro h2
    rw [(ht v).2 (.inl ⟨h2,e⟩)] at hv';cases hv'
   exact (ho u).2 (.inl (h.clo v h1 h2 r hr' u hu))
 ·unfold zko
  refine (ze5 (fun v hv=>?_) _).2 ⟨w,List.mem_range.2 (zzq hw),by rw [hw];simp,?_⟩
  ·simp only [Bool.and_eq_true,Bool.not_eq_true'] at hv ⊢
   refine ⟨(ho v).2 (.inl hv.1),?_⟩
   rw [← Bool.not_eq_true];intro h1
   rcases (ht v).1 h1 with ⟨h2,-⟩|⟨h2,-⟩
   ·rw [h2] at hv;cases hv.2
   ·rw [h2] at hv;cases hv.1
  ·rw [(ho w).2 (.inl how)]
   simp only [Bool.true_and,Bool.not_eq_true']
   rw [← Bool.not_eq_true];intro h1
   rcases (ht w).1 h1 with ⟨-,h2⟩|⟨h2,-⟩
   ·exact h2 rfl
   ·rw [how] at h2;cases h2
def zoV (s:BitVec 64):Nat:=(zn s).length
theorem zs8 {n:Nat} {s:BitVec 64} (h : ∀ v,s.getLsbD v=true→v < n):zoV s≤n:=by
 have:=zbC (zk1 s) (l':=List.range n) fun v hv=>List.mem_range.2 (h v (zbR.1 hv))
 simpa [zoV] using this
theorem zyy {s t:BitVec 64} (h : ∀ v,s.getLsbD v=true→t.getLsbD v=true) (hne:t≠s):zoV s < zoV t:=by
 unfold zoV zn
 refine (ze5 (fun v hv=>h v hv) _).2 ?_
 apply Classical.byContradiction
 intro hn
 refine hne (BitVec.eq_of_getLsbD_eq fun i hi=>?_)
 rw [Bool.eq_iff_iff]
 refine ⟨fun h1=>?_,h i⟩
 rw [← Bool.not_eq_false];intro h2
 exact hn ⟨i,List.mem_range.2 hi,h2,h1⟩
structure zoL (m:KM) (f s0:BitVec 64) (w:Nat) (s:BitVec 64):Prop where
 gs:zqD m f s
 sub : ∀ v,s0.getLsbD v=true→s.getLsbD v=true
 clo : ∀ v,v < w→s0.getLsbD v=true → ∀ r∈m.rel,∀ u,rb r v u=true→s.getLsbD u=true
theorem zoL.skip {m:KM} {f s0 s:BitVec 64} {w:Nat} (h:zoL m f s0 w s) (hw:s.getLsbD w=false):zoL m f s0 (w+1) s :=
 ⟨h.gs,h.sub,fun v hv h1=>by
  by_cases e:v=w
  ·subst e;rw [h.sub _ h1] at hw;cases hw
  ·exact h.clo v (by omega) h1⟩
structure zqB (m:KM) (f s0:BitVec 64) (w k:Nat) (s:BitVec 64):Prop where
 gw:zoL m f s0 w s
 has:s.getLsbD w=true
 clo : ∀ r∈m.rel.take k,∀ u,rb r w u=true→s.getLsbD u=true
theorem zqB.next {m:KM} (hc:za m=0) {f s0 s:BitVec 64} {w k:Nat} (h:zqB m f s0 w k s) {r:List (BitVec 64)} {x:BitVec 64} (hr:m.rel[k]? = some r) (hx:r[w]? = some x):zqB m f s0 w (k+1) (s|||x):=by
 have e : ∀ v,rb r w v=x.getLsbD v:=fun v=>zyi hx v
 have up : ∀ v,s.getLsbD v=true→(s|||x).getLsbD v=true:=fun v hv=>by rw [BitVec.getLsbD_or,hv];rfl
 refine ⟨⟨⟨fun v hv=>up v (h.gw.gs.sub v hv),fun v hv=>?_⟩,fun v hv=>up v (h.gw.sub v hv),fun v h1 h2 r' h3 u h4=>up u (h.gw.clo v h1 h2 r' h3 u h4)⟩,up w h.has,fun r' hr' u hu=>?_⟩
 ·rw [BitVec.getLsbD_or,Bool.or_eq_true] at hv
  rcases hv with hv|hv
  ·exact h.gw.gs.inn v hv
  ·exact zr0 hc (h.gw.gs.inn w h.has) (List.mem_of_getElem? hr) (by rw [e];exact hv)
 ·rcases (zgB hr (· = r')).1 ⟨r',hr',rfl⟩ with ⟨q,h1,rfl⟩|rfl
  ·exact up u (h.clo q h1 u hu)
  ·rw [BitVec.getLsbD_or,← e,hu];simp
theorem zqB.end' {m:KM} {f s0 s:BitVec 64} {w:Nat} (h:zqB m f s0 w m.rel.length s):zoL m f s0 (w+1) s :=
 ⟨h.gw.gs,h.gw.sub,fun v hv h1 r hr u hu=>by
  by_cases e:v=w
  ·subst e;exact h.clo r (by rw [List.take_length];exact hr) u hu
  ·exact h.gw.clo v (by omega) h1 r hr u hu⟩
structure zqC (m:KM) (f:BitVec 64) (i:Nat) (s:BitVec 64):Prop where
 gs:zqD m f s
 more:Clo m s∨i < zoV s
theorem zqC.next {m:KM} (hc:za m=0) {f s0 s:BitVec 64} {i:Nat} (h:zqC m f i s0) (hW:zoL m f s0 m.W.toNat s):zqC m f (i+1) s:=by
 refine ⟨hW.gs,?_⟩
 have hlt : ∀ v,s0.getLsbD v=true→v < m.W.toNat:=fun v hv=>(h.gs.inn v hv).lt
 by_cases e:s=s0
 ·subst e
  exact .inl fun v hv r hr u hu=>hW.clo v (hlt v hv) hv r hr u hu
 ·have hl:=zyy hW.sub e
  rcases h.more with h1|h1
  ·refine absurd ?_ e
   have a:=h.gs.done hc h1
   refine BitVec.eq_of_getLsbD_eq fun v _=>?_
   rw [Bool.eq_iff_iff]
   refine ⟨fun hv=>?_,hW.sub v⟩
   rw [a];exact (zgZ hc).2 (hW.gs.inn v hv)
  ·exact .inr (by omega)
theorem zqC.done {m:KM} (hc:za m=0) {f s:BitVec 64} (h:zqC m f m.W.toNat s):s=zgy m f:=by
 refine h.gs.done hc ?_
 rcases h.more with h1|h1
 ·exact h1
 ·have:=zs8 (n:=m.W.toNat) fun v hv=>(h.gs.inn v hv).lt
  omega
theorem zlD {w v:Nat} (hw:w < 64):(1#64 <<< w).getLsbD v=true↔v=w:=by
 rw [zoO];simp only [Bool.and_eq_true,decide_eq_true_eq];omega
theorem zpW {n:Nat} {R:zB} {S S':Nat→Prop} (h : ∀ v,S v→S' v) {v:Nat} (hv:Rch n R S v):Rch n R S' v:=by
 induction hv with
 | base h1 h2=>exact .base h1 (h _ h2)
 | step _ h2 h3 ih=>exact .step ih h2 h3
theorem zfp {p:Nat→Bool} {n:Nat} (h : ∀ v,p v=true→v < n) : ∀ k,n≤k→(List.range k).filter p=(List.range n).filter p
 | 0,hk=>by rw [show n=0 by omega]
 | k+1,hk=>by
  by_cases e:n=k+1
  ·rw [e]
  ·rw [List.range_succ,List.filter_append,zfp h k (by omega)]
   have:p k=false:=by rw [← Bool.not_eq_true];intro hp;have:=h k hp;omega
   simp [this]
theorem zrt {m:KM} (hc:za m=0) {w:Nat} (hw:w < m.W.toNat):zn (zgy m (1#64 <<< w))=zD m.W.toNat (zg m) w:=by
 have w2:=(zq hc).w2
 unfold zn zD
 have key : ∀ v,(zgy m (1#64 <<< w)).getLsbD v = @decide (Rch m.W.toNat (zg m) (· = w) v) (Classical.propDecidable _):=fun v=>by
  rw [Bool.eq_iff_iff,zgZ hc,@decide_eq_true_eq _ (Classical.propDecidable _)]
  exact ⟨fun h=>zpW (fun v hv=>(zlD (by omega)).1 hv) h,fun h=>zpW (fun v hv=>(zlD (by omega)).2 hv) h⟩
 rw [zfp (n:=m.W.toNat) (fun v hv=>((zgZ hc).1 hv).lt) 64 (by omega)]
 exact List.filter_congr fun v _=>key v
end Go.Ab
namespace Go.Ab
open Go Go.Proofs
set_option maxRecDepth 10000
set_option maxHeartbeats 4000000
variable {T:Nat→Obj→Prop}
theorem zo2 (n:Int) (h:0≤n):Fn Tryz.prog T zmc [.d (.int .i64 n)] [] (.d (.u64 (zi7 n))) []:=by
 refine zj zy zsM (by show 1≤8;decide) ?_
 (repeat' ((conv=>whnf);first|refine vA ?_|(refine vF ?_ ?_<;>intro hc<;>try simp only [vL] at hc)|refine vT ?_|(refine vP ?_ ?_;·omega)|refine vY ?_));all_goals try conv=>whnf
 ·simp [zi7, *]
 ·rw [zi7,if_neg (by omega)];rfl
theorem zyH (l:List (BitVec 64)) (g:Nat) (y:D) (p:BitVec 64→Bool) (hF : ∀ x,Fn Tryz.prog T g [.d (.u64 x),.d y] [] (.d (.bool (p x))) []):Fn Tryz.prog T zbO [.d (dU l),.d (.fn g [y])] [] (.d (.int .i64 (zeM p l))) []:=by
 refine zj zy zeA (by show 2≤19;decide) ?_
 (repeat' ((conv=>whnf);first|refine vA ?_|refine vJ fun hg=>?_|refine vT ?_));all_goals try conv=>whnf
 refine zaH (fun (k:Nat)=>[(0,.d (dU l)),(1,.d (.fn g [y])),(7,.d (.int .i64 ((l.map D.u64).length:Int))),(8,.d (.int .i64 ((k:Int))))]) (fun (k:Nat)=>k≤l.length ∧ ∀ (i:Nat) x,i < k→l[i]? = some x→p x=false) (fun (k:Nat)=>l.length - k) (0) (⟨by simp,fun i x h=>by omega⟩) (by (repeat' first|exact trivial|exact rfl|refine And.intro ?_ ?_)) ?_
 rintro k ⟨hk,hI⟩
 (repeat' ((conv=>whnf);first|refine vA ?_|((first|refine vF ?_ ?_|refine vI ?_ ?_)<;>intro hc<;>try simp only [vL] at hc)|refine vT ?_|(refine vQ ?_ fun x hx=>?_;·omega)|(refine vO ?_ ?_;·omega)|refine vX ?_|refine yD (hF _) (by (repeat refine ⟨⟨rfl,rfl⟩,?_⟩);rfl) rfl ?_));all_goals try conv=>whnf
 ·rw [zgo hx ‹_› hI]
 ·exact ⟨k+1,[],[],⟨by (omega),fun i z hi hz=>by
   by_cases e:i=k
   ·subst e;rw [hx] at hz;cases hz;assumption
   ·exact hI i z (by omega) hz⟩,by (omega),by (refine ⟨rfl,rfl,rfl,?_,?_⟩;repeat' first|exact trivial|exact rfl|refine And.intro ?_ ?_)⟩
 ·rw [zjo fun i x hi hx=>hI i x (by omega) hx]
theorem zw6 (l:List (List (BitVec 64))) (g:Nat) (y:D) (p:List (BitVec 64)→Bool) (hF : ∀ x,Fn Tryz.prog T g [.d (dU x),.d y] [] (.d (.bool (p x))) []):Fn Tryz.prog T zbA [.d (dUU l),.d (.fn g [y])] [] (.d (.int .i64 (zeM p l))) []:=by
 refine zj zy zd5 (by show 2≤19;decide) ?_
 (repeat' ((conv=>whnf);first|refine vA ?_|refine vJ fun hg=>?_|refine vT ?_));all_goals try conv=>whnf
 refine zaH (fun (k:Nat)=>[(0,.d (dUU l)),(1,.d (.fn g [y])),(7,.d (.int .i64 ((l.map dU).length:Int))),(8,.d (.int .i64 ((k:Int))))]) (fun (k:Nat)=>k≤l.length ∧ ∀ (i:Nat) x,i < k→l[i]? = some x→p x=false) (fun (k:Nat)=>l.length - k) (0) (⟨by simp,fun i x h=>by omega⟩) (by (repeat' first|exact trivial|exact rfl|refine And.intro ?_ ?_)) ?_
 rintro k ⟨hk,hI⟩
 (repeat' ((conv=>whnf);first|refine vA ?_|((first|refine vF ?_ ?_|refine vI ?_ ?_)<;>intro hc<;>try simp only [vL] at hc)|refine vT ?_|(refine vQ ?_ fun x hx=>?_;·omega)|(refine vO ?_ ?_;·omega)|refine vX ?_|refine yD (hF _) (by (repeat refine ⟨⟨rfl,rfl⟩,?_⟩);rfl) rfl ?_));all_goals try conv=>whnf
 ·rw [zgo hx ‹_› hI]
 ·exact ⟨k+1,[],[],⟨by (omega),fun i z hi hz=>by
   by_cases e:i=k
   ·subst e;rw [hx] at hz;cases hz;assumption
   ·exact hI i z (by omega) hz⟩,by (omega),by (refine ⟨rfl,rfl,rfl,?_,?_⟩;repeat' first|exact trivial|exact rfl|refine And.intro ?_ ?_)⟩
 ·rw [zjo fun i x hi hx=>hI i x (by omega) hx]
theorem zpB {α:Type} {p:α→Bool} {l:List α} : decide (0≤zeM p l)=l.any p:=by
 rw [Bool.eq_iff_iff,decide_eq_true_eq,zrd,List.any_eq_true]
theorem zsK (n:Int) (h:0≤n) (s:BitVec 64):Fn Tryz.prog T zcO [.d (.u64 s),.d (.box [.int .i64 n])] [] (.d (.bool (bad n s))) []:=by
 refine zj zy zl0 (by show 2≤9;decide) ?_
 (repeat' ((conv=>whnf);first|refine vT ?_|refine vZ ?_|refine yD (zo2 n h) ⟨⟨rfl,rfl⟩,rfl⟩ rfl ?_));all_goals try conv=>whnf
 rfl
theorem zmj (l:List (BitVec 64)) (n:Int) (h:0≤n):Fn Tryz.prog T zhS [.d (dU l),.d (.int .i64 n)] [] (.d (.bool (l.any (bad n)))) []:=by
 have c1:Fn Tryz.prog T zbt [.d (dU l),.d (.fn zcO [.box [.int .i64 n]])] [] (.d (.bool (l.any (bad n)))) []:=by
  refine zj zy zdS (by show 2≤9;decide) ?_
  (repeat' ((conv=>whnf);first|refine vT ?_|refine vZ ?_|refine yD (zyH l _ _ (bad n) (zsK n h)) ⟨⟨rfl,rfl⟩,⟨rfl,rfl⟩,rfl⟩ rfl ?_));all_goals try conv=>whnf
  exact zpB
 refine zj zy zok (by show 2≤8;decide) ?_
 (repeat' ((conv=>whnf);first|refine vT ?_|refine vZ ?_|refine yD c1 (by (repeat refine ⟨⟨rfl,rfl⟩,?_⟩);rfl) rfl ?_));all_goals try conv=>whnf
abbrev bKM (m:KM):D := .box [.int .i64 m.W,dU m.val,dUU m.rel]
theorem zar (m:KM):Fn Tryz.prog T zeK [.d (dKM m)] [] (.d (.int .i64 (za m))) []:=by
 have c1:0≤m.W → ∀ x:List (BitVec 64),Fn Tryz.prog T zdP [.d (dU x),.d (bKM m)] [] (.d (.bool (x.any (bad m.W)))) []:=fun h x=>by
  refine zj zy zoh (by show 2≤8;decide) ?_
  (repeat' ((conv=>whnf);first|refine vT ?_|refine vZ ?_|refine yD (zmj x m.W h) ⟨⟨rfl,rfl⟩,⟨rfl,rfl⟩,rfl⟩ rfl ?_));all_goals try conv=>whnf
 have c2:0≤m.W→Fn Tryz.prog T zbe [.d (dUU m.rel),.d (.fn zdP [bKM m])] [] (.d (.bool (m.rel.any fun x=>x.any (bad m.W)))) []:=fun h=>by
  refine zj zy zdy (by show 2≤9;decide) ?_
  (repeat' ((conv=>whnf);first|refine vT ?_|refine vZ ?_|refine yD (zw6 m.rel _ _ (fun x=>x.any (bad m.W)) (c1 h)) ⟨⟨rfl,rfl⟩,⟨rfl,rfl⟩,rfl⟩ rfl ?_));all_goals try conv=>whnf
  exact zpB
 refine zj zy zqi (by show 1≤47;decide) ?_
 (repeat' ((conv=>whnf);first|refine vA ?_|(refine vF ?_ ?_<;>intro hc<;>try simp only [vL] at hc)|refine vJ fun hg=>?_|refine vT ?_|refine vX ?_));all_goals try conv=>whnf
 ·rw [za,if_pos (by omega)]
 ·rw [za,if_pos (by omega)]
 ·rw [za,if_neg (by omega),if_pos (by omega)]
 ·rw [za,if_neg (by omega),if_pos (by omega)]
 ·have e0:za m=if m.rel.any (fun r=>decide ((r.length:Int)≠m.W)) then 3 else if m.val.any (bad m.W) then 2 else if m.rel.any (fun r=>r.any (bad m.W)) then 2 else 0:=by rw [za,if_neg (by omega),if_neg (by omega)]
  refine zu (fun (k:Nat)=>[(1,.ptr 0 0),(24,.d (dUU m.rel)),(25,.d (.int .i64 ((m.rel.map dU).length:Int))),(26,.d (.int .i64 ((k:Int))))]) (fun (k:Nat)=>[(0,some (zao m))]) 1 (fun (k:Nat)=>k≤m.rel.length∧m.rel.any (fun r=>decide ((r.length:Int)≠m.W))=(m.rel.drop k).any (fun r=>decide ((r.length:Int)≠m.W))) (fun (k:Nat)=>m.rel.length - k) (0) [(0,0)] [] (⟨by simp,rfl⟩) (by (refine ⟨rfl,rfl,rfl,?_,?_⟩;repeat' first|exact trivial|exact rfl|refine And.intro ?_ ?_|refine ⟨_,rfl,?_⟩|decide)) ?_
  rintro k ⟨hk,hI⟩
  (repeat' ((conv=>whnf);first|refine vA ?_|((first|refine vD ?_ ?_|refine vF ?_ ?_)<;>intro hc<;>try simp only [vL] at hc)|refine vJ fun hg=>?_|refine vT ?_|(refine vQ ?_ fun x hx=>?_;·omega)|(refine vO ?_ ?_;·omega)|refine vX ?_));all_goals try conv=>whnf
  ·rw [e0,if_pos (by rw [hI,zW hx,List.any_cons,decide_eq_true (by simpa using ‹_›)];rfl)]
  ·exact ⟨k+1,[(0,0)],[],⟨by (omega),by rw [hI,zW hx,List.any_cons,decide_eq_false (by simpa using ‹_›)];rfl⟩,by (omega),by (refine ⟨rfl,rfl,rfl,?_,?_⟩;repeat' first|exact trivial|exact rfl|refine And.intro ?_ ?_|refine ⟨_,rfl,?_⟩|decide)⟩
  ·have h1:m.rel.any (fun r=>decide ((r.length:Int)≠m.W))=false:=by rw [hI,List.drop_eq_nil_of_le (by omega)];rfl
   rw [h1,if_neg (by decide)] at e0
   have co:=zmj (T:=T) m.val m.W (by omega)
   have c2:=c2 (by omega)
   (repeat' ((conv=>whnf);first|(refine vI ?_ ?_<;>intro hc)|refine vT ?_|refine vX ?_|refine yD co ⟨⟨rfl,rfl⟩,⟨rfl,rfl⟩,rfl⟩ rfl ?_|refine yD c2 (by (repeat refine ⟨⟨rfl,rfl⟩,?_⟩);rfl) rfl ?_));all_goals try conv=>whnf
   ·rw [e0,if_pos ‹_›]
   ·rw [e0,if_neg (by simp [‹m.val.any (bad m.W)=false›]),if_pos ‹_›]
   ·rw [e0,if_neg (by simp [‹m.val.any (bad m.W)=false›]),if_neg (by simp [‹(m.rel.any fun x=>x.any (bad m.W))=false›])]
def zkB (m:KM) (w:Int):Int:=if za m≠0∨w < 0∨m.W≤w then -1 else zz m w.toNat
theorem ziw {m:KM} (hc:za m=0) {w:Nat} (hw:w < m.W.toNat):zkB m (w:Int)=zz m w:=by
 unfold zkB;rw [if_neg (by omega)];rfl
theorem zd2 (m:KM) (w:Int):Fn Tryz.prog T zeL [.d (dKM m),.d (.int .i64 w)] [] (.d (.int .i64 (zkB m w))) []:=by
 refine zj zy zqj (by show 2≤40;decide) ?_
 (repeat' ((conv=>whnf);first|refine vA ?_|((first|refine vD ?_ ?_|refine vF ?_ ?_)<;>intro hc<;>try simp only [vL] at hc)|refine vJ fun hg=>?_|refine vT ?_|refine vX ?_|refine yD (zar m) ⟨⟨rfl,rfl⟩,rfl⟩ rfl ?_));all_goals try conv=>whnf
 ·rw [zkB,if_pos (by omega)]
 ·rw [zkB,if_pos (by omega)]
 ·rw [zkB,if_pos (by omega)]
 ·have hc0:za m=0:=by omega
  have hg0:=zq hc0
  have w2:=hg0.w2
  have v8:=hg0.v8
  refine zu (fun ((k,f):Nat×Int)=>[(1,.d (.int .i64 (w))),(5,.d (.int .i64 (f))),(22,.d (dU m.val)),(23,.d (.int .i64 ((m.val.map D.u64).length:Int))),(24,.d (.int .i64 ((k:Int))))]) (fun ((k,f):Nat×Int)=>[(0,some (zao m))]) 1 (fun ((k,f):Nat×Int)=>k≤m.val.length∧f=(zaB m.val w.toNat k:Int)) (fun ((k,f):Nat×Int)=>m.val.length - k) ((0,0)) [(0,0)] [] (⟨by simp,rfl⟩) (by (refine ⟨rfl,rfl,rfl,?_,?_⟩;repeat' first|exact trivial|exact rfl|refine And.intro ?_ ?_|refine ⟨_,rfl,?_⟩|decide)) ?_
  rintro ⟨k,f⟩ ⟨hk,hI⟩
  subst hI
  by_cases hkl:k < m.val.length
  ·obtain ⟨s,hs⟩ : ∃ s,m.val[k]? = some s:=⟨_,List.getElem?_eq_getElem hkl⟩
   have hw:w=((w.toNat:Nat):Int):=by omega
   have bs:(s >>> w.toNat&&&(1:BitVec 64)).toNat≤1:=zuW s _
   have hor:=zw4 (w:=w.toNat) hs (by omega)
   have hsh:0≤(((s >>> w.toNat&&&(1:BitVec 64)).toNat:Int)) * 2 ^ (min (k:Int).toNat IntKind.i64.bits)∧(((s >>> w.toNat&&&(1:BitVec 64)).toNat:Int)) * 2 ^ (min (k:Int).toNat IntKind.i64.bits)≤9223372036854775807:=zv9 bs (by omega)
   (repeat' ((conv=>whnf);first|refine vA ?_|(refine vF ?_ ?_<;>intro hc<;>try simp only [vL] at hc)|refine vT ?_|refine vN ‹_› ?_|((first|refine vO ?_ ?_|refine vP ?_ ?_);·omega)|refine vX ?_));all_goals try conv=>whnf
   ·refine ⟨(k+1,_),[(0,0)],[],?_,?_,by (refine ⟨rfl,rfl,rfl,?_,?_⟩;repeat' first|exact trivial|exact rfl|refine And.intro ?_ ?_|refine ⟨_,rfl,?_⟩|decide)⟩
    ·exact ⟨by (omega),hor⟩
    ·((simp only [vM] at *;omega))
   all_goals omega
  ·(repeat' ((conv=>whnf);first|refine vA ?_|(refine vF ?_ ?_<;>intro hc<;>try simp only [vL] at hc)|refine vT ?_|(refine vQ ?_ fun x hx=>?_;·omega)|((first|refine vO ?_ ?_|refine vP ?_ ?_);·omega)|refine vX ?_));all_goals try conv=>whnf
   ·omega
   ·unfold zkB
    rw [if_neg (by omega),show k=m.val.length by omega];rfl
abbrev dN (l:List Nat):D:=dI (l.map fun (x:Nat)=>(x:Int))
theorem zsJ (hT:zbP T) (s:BitVec 64):Fn Tryz.prog T zhR [.d (.u64 s)] [] (.d (dN (zn s))) []:=by
 refine zj zy zoj (by show 1≤16;decide) ?_
 (repeat' ((conv=>whnf);first|refine vA ?_|refine vT ?_));all_goals try conv=>whnf
 refine zu (fun ((r,zs):BitVec 64×List D)=>[(0,.d (.u64 (r))),(3,.own 0)]) (fun ((r,zs):BitVec 64×List D)=>[(0,some (.row 1 zs))]) 1 (fun ((r,zs):BitVec 64×List D) => ∃ l:List Nat,zs=l.map (fun (x:Nat)=>D.int .i64 (x:Int))∧zn s=l++zn r) (fun ((r,zs):BitVec 64×List D)=>(zn r).length) ((s,[])) []   [0] (⟨[],rfl,rfl⟩) (by (refine ⟨rfl,rfl,rfl,?_,?_⟩;repeat' first|exact trivial|exact rfl|exact ⟨_,rfl⟩|refine And.intro ?_ ?_|decide)) ?_
 rintro ⟨r,zs⟩ ⟨l,rfl,hI⟩
 by_cases hr:r=0#64
 ·subst hr
  (repeat' ((conv=>whnf);first|refine vA ?_|refine vH ?_|refine vT ?_));all_goals try conv=>whnf
  rw [hI,zeF,List.append_nil]
  show some (D.arr 1 _)=some (D.arr 1 _)
  rw [List.map_map];rfl
 ·have hb:=zf4 r hr
  have hl:=congrArg List.length hI
  have hlen:(zn s).length≤64:=by unfold zn;have:=List.length_filter_le (fun i=>s.getLsbD i) (List.range 64);simpa using this
  rw [List.length_append] at hl
  (repeat' ((conv=>whnf);first|refine vA ?_|(refine vD ?_ ?_<;>intro hc)|refine vT ?_|(refine vP ?_ ?_;·(simp only [vM] at *;omega))|refine yD (hT r) (by (repeat refine ⟨⟨rfl,rfl⟩,?_⟩);rfl) rfl ?_));all_goals try conv=>whnf
  ·refine ⟨(r&&&(r - 1#64),_),[(0,2)],[],?_,?_,by (refine ⟨rfl,rfl,rfl,?_,?_⟩;repeat' first|exact trivial|exact rfl|refine And.intro ?_ ?_|refine ⟨_,rfl,?_⟩|decide)⟩
   ·exact ⟨l++[Lib.ctz 64 r.toNat],by simp,by rw [hI,hb];simp⟩
   ·show (zn (r&&&(r - 1#64))).length < (zn r).length
    rw [hb];simp
  ·exact absurd ‹r=0› hr
theorem zrq (s:BitVec 64) (l:List Nat) (hl:l.length≤64):Fn Tryz.prog T zkA [.d (.u64 s),.d (dN l)] [] (.d (.u64 (zav s l))) []:=by
 refine zj zy zrz (by show 2≤25;decide) ?_
 (repeat' ((conv=>whnf);first|refine vA ?_|refine vJ fun hg=>?_|refine vT ?_));all_goals try conv=>whnf
 refine zaH (fun ((k,o):Nat×BitVec 64)=>[(0,.d (.u64 (s))),(5,.d (.u64 (o))),(8,.d (dN l)),(9,.d (.int .i64 (((l.map fun (x:Nat)=>(x:Int)).map (D.int .i64)).length:Int))),(10,.d (.int .i64 ((k:Int))))]) (fun ((k,o):Nat×BitVec 64)=>k≤l.length∧o=zaC (fun i=>s.getLsbD (l.getD i 0)) k) (fun ((k,o):Nat×BitVec 64)=>l.length - k) ((0,0#64)) (⟨by simp,rfl⟩) (by (repeat' first|exact trivial|exact rfl|refine And.intro ?_ ?_)) ?_
 rintro ⟨k,o⟩ ⟨hk,hI⟩
 by_cases hkl:k < l.length
 ·have e1:(l.map fun (x:Nat)=>(x:Int))[k]? = some ((l.getD k 0:Nat):Int):=by simp [hkl]
  (repeat' ((conv=>whnf);first|refine vA ?_|(refine vF ?_ ?_<;>intro hc<;>try simp only [vL] at hc)|refine vT ?_|refine vN ‹_› ?_|((first|refine vO ?_ ?_|refine vP ?_ ?_);·omega)|refine vY ?_));all_goals try conv=>whnf
  ·refine ⟨(k+1,_),[],[],?_,?_,by (refine ⟨rfl,rfl,rfl,?_,?_⟩;repeat' first|exact trivial|exact rfl|refine And.intro ?_ ?_)⟩
   ·refine ⟨by omega,?_⟩
    rw [zaC,hI]
    show _|||(s >>> (l.getD k 0)&&&1#64) <<< k=_
    by_cases hb:s.getLsbD (l.getD k 0)=true
    ·rw [(ze1 _ _).2 hb,if_pos hb]
    ·rw [(zmG _ _).2 (by simpa using hb),if_neg hb,BitVec.zero_shiftLeft,BitVec.or_zero]
   ·((simp only [vM] at *;omega))
  ·omega
 ·(repeat' ((conv=>whnf);first|refine vA ?_|(refine vF ?_ ?_<;>intro hc<;>try simp only [vL] at hc)|refine vT ?_|(refine vQ ?_ fun x hx=>?_;·omega)|((first|refine vO ?_ ?_|refine vP ?_ ?_);·omega)|refine vY ?_));all_goals try conv=>whnf
  ·omega
  ·rw [hI,show k=l.length by omega];rfl
theorem zlE {l:List Nat} {k:Nat} (h:k < l.length):(l.map fun (x:Nat)=>(x:Int))[k]? = some ((l.getD k 0:Nat):Int):=by simp [h]
abbrev zfQ (l:List Nat):Nat:=((l.map fun (x:Nat)=>(x:Int)).map (D.int .i64)).length
theorem zo8 (l:List Nat):zfQ l=l.length:=by simp [zfQ]
theorem zua (m:KM) (l:List Nat) (hl:l.length≤64) (hr : ∀ r∈m.rel,∀ w∈l,w < r.length) (hv:m.val.length≤8) (hrl:m.rel.length≤4):Fn Tryz.prog T zfn [.d (dKM m),.d (dN l)] [] (.d (dKM (zJ m l))) []:=by
 refine zj zy zoi (by show 2≤63;decide) ?_
 (repeat' ((conv=>whnf);first|refine vA ?_|refine vJ fun hg=>?_|refine vT ?_));all_goals try conv=>whnf
 refine zu (fun ((k,zs):Nat×List D)=>[(1,.d (dN l)),(2,.ptr 0 0),(4,.ptr 1 0),(5,.ptr 2 0),(17,.d (dU m.val)),(18,.d (.int .i64 ((m.val.map D.u64).length:Int))),(19,.d (.int .i64 ((k:Int))))]) (fun ((k,zs):Nat×List D)=>[(0,some (zao m)),(1,some (.box [.d (.int .i64 0),.nils 1,.nils 1])),(2,some (.box [.d (.int .i64 (zfQ l:Int)),.own 3,.nils 1])),(3,some (.row 1 zs))]) 4 (fun ((k,zs):Nat×List D)=>k≤m.val.length∧zs=(m.val.take k).map fun s=>D.u64 (zav s l)) (fun ((k,zs):Nat×List D)=>m.val.length - k) ((0,[])) [(0,0),(1,1),(2,2)]   [3] (⟨by simp,by simp⟩) (by (refine ⟨rfl,rfl,rfl,?_,?_⟩;repeat' first|exact trivial|exact rfl|exact ⟨_,rfl⟩|refine And.intro ?_ ?_|refine ⟨_,rfl,?_⟩|decide)) ?_
 rintro ⟨k,zs⟩ ⟨hk,hz⟩
 have hzl:zs.length≤8:=by rw [hz];simp;omega
 by_cases hkl:k < m.val.length
 ·obtain ⟨s,hs⟩ : ∃ s,m.val[k]? = some s:=⟨_,List.getElem?_eq_getElem hkl⟩
  (repeat' ((conv=>whnf);first|refine vA ?_|(refine vF ?_ ?_<;>intro hc<;>try simp only [vL] at hc)|refine vJ fun hg=>?_|refine vT ?_|refine vN ‹_› ?_|((first|refine vO ?_ ?_|refine vP ?_ ?_);·first|omega|(simp only [vM] at *;omega))|(refine vU ?_ ?_;·kernel_rfl)|refine yD (zrq s l hl) ⟨⟨rfl,rfl⟩,⟨rfl,rfl⟩,rfl⟩ rfl ?_));all_goals try conv=>whnf
  ·refine ⟨(k+1,_),[(0,0),(1,1),(2,2),(3,5)],[],?_,?_,by (refine ⟨rfl,rfl,rfl,?_,?_⟩;repeat' first|exact trivial|exact rfl|refine And.intro ?_ ?_|refine ⟨_,rfl,?_⟩|decide)⟩
   ·exact ⟨by omega,by rw [List.take_add_one,hs,hz];simp⟩
   ·((simp only [vM] at *;omega))
  all_goals omega
 ·have hzz:zs=m.val.map fun s=>D.u64 (zav s l):=by rw [hz,List.take_of_length_le (by omega)]
  clear hz
  subst hzz
  (repeat' ((conv=>whnf);first|refine vA ?_|(refine vF ?_ ?_<;>intro hc<;>try simp only [vL] at hc)|refine vJ fun hg=>?_|refine vT ?_|(refine vQ ?_ fun x hx=>?_;·omega)|fail));all_goals try conv=>whnf
  ·omega
  refine zu (fun ((k,zs):Nat×List D)=>[(1,.d (dN l)),(4,.ptr 1 0),(5,.ptr 2 0),(33,.d (dUU m.rel)),(34,.d (.int .i64 ((m.rel.map dU).length:Int))),(35,.d (.int .i64 ((k:Int))))]) (fun ((k,zs):Nat×List D)=>[(1,some (.box [.d (.int .i64 0),.nils 1,.nils 1])),(2,some (.box [.d (.int .i64 (zfQ l:Int)),.own 3,.own 4])),(3,some (.row 1 (m.val.map fun s=>D.u64 (zav s l)))),(4,some (.row 1 zs))]) 5 (fun ((k,zs):Nat×List D)=>k≤m.rel.length∧zs=(m.rel.take k).map fun r=>dU (l.map fun w=>zav (r.getD w 0#64) l)) (fun ((k,zs):Nat×List D)=>m.rel.length - k) ((0,[])) [(1,1),(2,2),(3,3)]   [4] (⟨by simp,by simp⟩) (by (refine ⟨rfl,rfl,rfl,?_,?_⟩;repeat' first|exact trivial|exact rfl|exact ⟨_,rfl⟩|refine And.intro ?_ ?_|refine ⟨_,rfl,?_⟩|decide)) ?_
  rintro ⟨k,zs⟩ ⟨hk,hz⟩
  have hzl:zs.length≤4:=by rw [hz];simp;omega
  by_cases hkl:k < m.rel.length
  ·obtain ⟨r,hrr⟩ : ∃ r,m.rel[k]? = some r:=⟨_,List.getElem?_eq_getElem hkl⟩
   have hrw:=hr r (List.mem_of_getElem? hrr)
   (repeat' ((conv=>whnf);first|refine vA ?_|(refine vF ?_ ?_<;>intro hc<;>try simp only [vL] at hc)|refine vJ fun hg=>?_|refine vT ?_|refine vN ‹_› ?_));all_goals try conv=>whnf
   ·refine zu (fun ((j,ys):Nat×List D)=>[(1,.d (dN l)),(4,.ptr 1 0),(5,.ptr 2 0),(9,.d (dU r)),(10,.own 5),(33,.d (dUU m.rel)),(34,.d (.int .i64 ((m.rel.map dU).length:Int))),(35,.d (.int .i64 ((k:Int)))),(39,.d (dN l)),(40,.d (.int .i64 (((l.map fun (x:Nat)=>(x:Int)).map (D.int .i64)).length:Int))),(41,.d (.int .i64 ((j:Int))))]) (fun ((j,ys):Nat×List D)=>[(1,some (.box [.d (.int .i64 0),.nils 1,.nils 1])),(2,some (.box [.d (.int .i64 (zfQ l:Int)),.own 3,.own 4])),(3,some (.row 1 (m.val.map fun s=>D.u64 (zav s l)))),(4,some (.row 1 zs)),(5,some (.row 1 ys))]) 6 (fun ((j,ys):Nat×List D)=>j≤l.length∧ys=(l.take j).map fun w=>D.u64 (zav (r.getD w 0#64) l)) (fun ((j,ys):Nat×List D)=>l.length - j) ((0,[])) [(1,1),(2,2),(3,3),(4,4)]   [5] (⟨by simp,by simp⟩) (by (refine ⟨rfl,rfl,rfl,?_,?_⟩;repeat' first|exact trivial|exact rfl|exact ⟨_,rfl⟩|refine And.intro ?_ ?_|refine ⟨_,rfl,?_⟩|decide)) ?_
    rintro ⟨j,ys⟩ ⟨hj,hy⟩
    have hyl:ys.length≤64:=by rw [hy];simp;omega
    by_cases hjl:j < l.length
    ·have e1:=zlE hjl
     have e2:=hrw _ (zac hjl)
     have e3:r[l.getD j 0]? = some (r.getD (l.getD j 0) 0#64):=ze7 e2
     (repeat' ((conv=>whnf);first|refine vA ?_|(refine vF ?_ ?_<;>intro hc<;>try simp only [vL] at hc)|refine vT ?_|refine vN ‹_› ?_|((first|refine vO ?_ ?_|refine vP ?_ ?_);·first|omega|(simp only [vM] at *;omega))|refine yD (zrq (r.getD (l.getD j 0) 0#64) l hl) ⟨⟨rfl,rfl⟩,⟨rfl,rfl⟩,rfl⟩ rfl ?_));all_goals try conv=>whnf
     ·refine ⟨(j+1,_),[(1,1),(2,2),(3,3),(4,4),(5,7)],[],?_,?_,by (refine ⟨rfl,rfl,rfl,?_,?_⟩;repeat' first|exact trivial|exact rfl|refine And.intro ?_ ?_|refine ⟨_,rfl,?_⟩|decide)⟩
      ·exact ⟨by omega,by rw [List.take_add_one,hy,ze7 (d:=0) hjl];simp⟩
      ·((simp only [vM] at *;omega))
     ·omega
    ·(repeat' ((conv=>whnf);first|refine vA ?_|(refine vF ?_ ?_<;>intro hc<;>try simp only [vL] at hc)|refine vT ?_|(refine vQ ?_ fun x hx=>?_;·omega)|((first|refine vO ?_ ?_|refine vS ?_ fun x hx=>?_|refine vP ?_ ?_);·first|omega|(simp only [vM] at *;omega))|fail));all_goals try conv=>whnf
     ·omega
     ·have hyy:ys=l.map fun w=>D.u64 (zav (r.getD w 0#64) l):=by rw [hy,List.take_of_length_le (by omega)]
      refine ⟨(k+1,_),[(1,1),(2,2),(3,3),(4,7)],[],?_,?_,by (refine ⟨rfl,rfl,rfl,?_,?_⟩;repeat' first|exact trivial|exact rfl|refine And.intro ?_ ?_|refine ⟨_,rfl,?_⟩|decide)⟩
      ·refine ⟨by omega,?_⟩
       rw [List.take_add_one,hrr,hz,hyy];simp
      ·((simp only [vM] at *;omega))
   all_goals omega
  ·(repeat' ((conv=>whnf);first|refine vA ?_|(refine vF ?_ ?_<;>intro hc<;>try simp only [vL] at hc)|refine vJ fun hg=>?_|refine vT ?_|(refine vQ ?_ fun x hx=>?_;·omega)|fail));all_goals try conv=>whnf
   ·omega
   ·have hzz:zs=m.rel.map fun r=>dU (l.map fun w=>zav (r.getD w 0#64) l):=by rw [hz,List.take_of_length_le (by omega)]
    subst hzz
    refine congrArg some (show D.agg [.int .i64 (zfQ l:Int),.arr 1 (m.val.map fun s=>D.u64 (zav s l)),.arr 1 (m.rel.map fun r=>dU (l.map fun w=>zav (r.getD w 0#64) l))]=dKM (zJ m l) from ?_)
    rw [zo8]
    simp [zJ,Function.comp_def]
theorem zxd {m:KM} (hc:za m=0) {l:List Nat} (h : ∀ w∈l,w < m.W.toNat) : ∀ r∈m.rel,∀ w∈l,w < r.length:=fun r hr w hw=>by
 have hg:=zq hc
 have:=hg.len r hr
 have:=h w hw
 have:=hg.w1
 omega
theorem zmi {m:KM} (hc:za m=0) {l:List Nat} (hl:l.length≤64) (h : ∀ w∈l,w < m.W.toNat):Fn Tryz.prog T zfn [.d (dKM m),.d (dN l)] [] (.d (dKM (zJ m l))) [] :=
 zua m l hl (zxd hc h) (zq hc).v8 (zq hc).n4
theorem znz (s:BitVec 64):(zn s).length≤64:=by
 unfold zn;have:=List.length_filter_le (fun i=>s.getLsbD i) (List.range 64);simpa using this
theorem zvs {m:KM} (hc:za m=0) {s:BitVec 64} (hs : ∀ v,s.getLsbD v=true→v < m.W.toNat):s &&& ~~~(zi7 m.W)=0#64:=by
 have w1:=(zq hc).w1
 have:=(ze0 (n:=m.W) (s:=s) (by omega)).2 hs
 simpa [bad] using this
theorem zkK (hT:zbP T) {m:KM} (hk0:za m=0) {s:BitVec 64} (h0:s≠0#64) (hs : ∀ v,s.getLsbD v=true→v < m.W.toNat):Fn Tryz.prog T zhk [.d (dKM m),.d (.u64 s)] [] (.d (.tup [dKM (zJ m (zn s)),dN (zn s),.int .i64 0])) []:=by
 have w1:=(zq hk0).w1
 have h1:=zvs hk0 hs
 have cc:=zar (T:=T) m
 rw [hk0] at cc
 refine zj zy zm4 (by show 2≤31;decide) ?_
 (repeat' ((conv=>whnf);first|refine vA ?_|refine vH ?_|((first|refine vD ?_ ?_|refine vF ?_ ?_)<;>intro hc)|refine vT ?_|refine yD cc ⟨⟨rfl,rfl⟩,rfl⟩ rfl ?_|refine yD (zo2 m.W (by omega)) ⟨⟨rfl,rfl⟩,rfl⟩ rfl ?_|refine yN (zsJ hT s) ⟨⟨rfl,rfl⟩,rfl⟩ ?_|refine yN (zmi hk0 (znz s) (fun w hw=>hs w (zbR.1 hw))) (by (repeat refine ⟨⟨rfl,rfl⟩,?_⟩);rfl) ?_));all_goals try conv=>whnf
 ·exact absurd h1 ‹_›
 ·exact absurd ‹s=0› h0
 ·rfl
theorem zjW (hT:zbP T) {m:KM} (hk0:za m=0) {f:BitVec 64} (hf : ∀ v,f.getLsbD v=true→v < m.W.toNat):Fn Tryz.prog T zgJ [.d (dKM m),.d (.u64 f)] [] (.d (.tup [.u64 (zgy m f),.int .i64 0])) []:=by
 have hg0:=zq hk0
 have w1:=hg0.w1
 have w2:=hg0.w2
 have n4:=hg0.n4
 have h1:=zvs hk0 hf
 have cc:=zar (T:=T) m
 rw [hk0] at cc
 refine zj zy zlZ (by show 2≤56;decide) ?_
 (repeat' ((conv=>whnf);first|refine vA ?_|refine vH ?_|(refine vD ?_ ?_<;>intro hc)|refine vT ?_|refine yD cc ⟨⟨rfl,rfl⟩,rfl⟩ rfl ?_|refine yD (zo2 m.W (by omega)) ⟨⟨rfl,rfl⟩,rfl⟩ rfl ?_));all_goals try conv=>whnf
 ·exact absurd h1 ‹_›
 refine zu (fun ((o,t):BitVec 64×BitVec 64)=>[(2,.ptr 0 0),(7,.d (.u64 (o))),(8,.d (.u64 (t)))]) (fun ((o,t):BitVec 64×BitVec 64)=>[(0,some (zao m))]) 1 (fun ((o,t):BitVec 64×BitVec 64)=>zoK m f o t) (fun ((o,t):BitVec 64×BitVec 64)=>64 - zko o t) ((f,f)) [(0,0)] [] (zuj hf) (by (refine ⟨rfl,rfl,rfl,?_,?_⟩;repeat' first|exact trivial|exact rfl|refine And.intro ?_ ?_|refine ⟨_,rfl,?_⟩|decide)) ?_
 rintro ⟨o,t⟩ hI
 by_cases ht:t=0#64
 ·subst ht
  (repeat' ((conv=>whnf);first|refine vA ?_|refine vH ?_|refine vT ?_));all_goals try conv=>whnf
  rw [hI.done hk0];rfl
 ·obtain ⟨l1,l2,l3,l4⟩:=ztl t ht
  have hwo:=hI.tod _ l2
  have hwn:=(hI.gs.inn _ hwo).lt
  have cz:=hT t
  generalize Lib.ctz 64 t.toNat=w at l1 l2 l3 l4 hwo hwn cz
  (repeat' ((conv=>whnf);first|refine vA ?_|(refine vD ?_ ?_<;>intro hc)|refine vJ fun hg=>?_|refine vT ?_|refine yD cz (by (repeat refine ⟨⟨rfl,rfl⟩,?_⟩);rfl) rfl ?_));all_goals try conv=>whnf
  ·refine zu (fun ((k,o2,t2):Nat×BitVec 64×BitVec 64)=>[(2,.ptr 0 0),(7,.d (.u64 (o2))),(8,.d (.u64 (t2))),(9,.d (.int .i64 ((w:Int)))),(34,.d (dUU m.rel)),(35,.d (.int .i64 ((m.rel.map dU).length:Int))),(36,.d (.int .i64 ((k:Int))))]) (fun ((k,o2,t2):Nat×BitVec 64×BitVec 64)=>[(0,some (zao m))]) 1 (fun ((k,o2,t2):Nat×BitVec 64×BitVec 64)=>k≤m.rel.length∧zmA m o t w k o2 t2) (fun ((k,o2,t2):Nat×BitVec 64×BitVec 64)=>m.rel.length - k) ((0,o,t&&&t - 1#64)) [(0,0)] [] (⟨by simp,zuk l4⟩) (by (refine ⟨rfl,rfl,rfl,?_,?_⟩;repeat' first|exact trivial|exact rfl|refine And.intro ?_ ?_|refine ⟨_,rfl,?_⟩|decide)) ?_
   rintro ⟨k,o2,t2⟩ ⟨hk,hK⟩
   by_cases hkl:k < m.rel.length
   ·obtain ⟨r,hr⟩ : ∃ r,m.rel[k]? = some r:=⟨_,List.getElem?_eq_getElem hkl⟩
    have hrl:=hg0.len r (List.mem_of_getElem? hr)
    obtain ⟨x,hx⟩ : ∃ x,r[w]? = some x:=⟨_,List.getElem?_eq_getElem (by omega)⟩
    (repeat' ((conv=>whnf);first|refine vA ?_|(refine vF ?_ ?_<;>intro hc<;>try simp only [vL] at hc)|refine vT ?_|refine vN ‹_› ?_|(refine vO ?_ ?_;·omega)|fail));all_goals try conv=>whnf
    ·refine ⟨(k+1,_,_),[(0,0)],[],?_,?_,by (refine ⟨rfl,rfl,rfl,?_,?_⟩;repeat' first|exact trivial|exact rfl|refine And.intro ?_ ?_|refine ⟨_,rfl,?_⟩|decide)⟩
     ·exact ⟨by omega,hK.next hr hx⟩
     ·((simp only [vM] at *;omega))
    ·omega
   ·(repeat' ((conv=>whnf);first|refine vA ?_|(refine vF ?_ ?_<;>intro hc<;>try simp only [vL] at hc)|refine vT ?_|refine vN ‹_› ?_|(refine vQ ?_ fun x hx=>?_;·omega)|(refine vO ?_ ?_;·omega)|fail));all_goals try conv=>whnf
    ·omega
    ·have e0:k=m.rel.length:=by omega
     subst e0
     have hE:=hK.end' hk0 hI l2
     have hb:=zyx o2 t2
     refine ⟨(_,_),[(0,0)],[],?_,?_,by (refine ⟨rfl,rfl,rfl,?_,?_⟩;repeat' first|exact trivial|exact rfl|refine And.intro ?_ ?_|refine ⟨_,rfl,?_⟩|decide)⟩
     ·exact hE.1
     ·have:=hE.2
      show 64 - zko o2 t2 < 64 - zko o t
      omega
  ·exact absurd ‹t=0› ht
theorem zul {to:List Int} {k:Nat} (hk:k < to.length) (hn:at0 to k ∉ to.take k):to.idxOf (at0 to k)=k:=by
 have e:to=to.take k++at0 to k::to.drop (k+1):=by
  rw [← zW (zdC hk),List.take_append_drop]
 have hl:(to.take k).length=k:=by simp;omega
 generalize at0 to k=x at e hn
 generalize to.take k=a at e hn hl
 rw [e,List.idxOf_append,if_neg hn,List.idxOf_cons_self,hl];simp
structure zkb (to:List Int) (k:Nat) (s:BitVec 64) (zs:List D):Prop where
 le:k≤to.length
 rng : ∀ x∈to.take k,0≤x∧x < to.length
 nd:(to.take k).Nodup
 bit : ∀ x:Nat,x < 64→(s.getLsbD x=true↔(x:Int)∈to.take k)
 row:zs=(List.range to.length).map fun (x:Nat)=>D.int .i64 (if (x:Int)∈to.take k then (to.idxOf (x:Int):Int) else 0)
theorem zkb.next {to:List Int} (h64:to.length≤64) {k:Nat} {s:BitVec 64} {zs:List D} (h:zkb to k s zs) (hk:k < to.length) {x:Nat} (hx:to[k]? = some (x:Int)) (hx1:x < to.length) (hx2:s.getLsbD x=false) :
  zkb to (k+1) (s|||1#64 <<< x) (zs.set x (.int .i64 (k:Int))):=by
 have e0:at0 to k=(x:Int):=zcV hx
 have hn:(x:Int) ∉ to.take k:=fun hm=>by rw [(h.bit x (by omega)).2 hm] at hx2;cases hx2
 have hi:to.idxOf (x:Int)=k:=by rw [← e0];exact zul hk (by rw [e0];exact hn)
 have ht:to.take (k+1)=to.take k++[(x:Int)]:=by rw [List.take_add_one,hx];rfl
 refine ⟨by omega,fun y hy=>?_,?_,fun y hy=>?_,?_⟩
 ·rw [ht] at hy
  rcases List.mem_append.1 hy with hy|hy
  ·exact h.rng y hy
  ·simp only [List.mem_singleton] at hy;omega
 ·rw [ht]
  refine List.nodup_append.2 ⟨h.nd,by simp,fun a ha b hb e=>?_⟩
  simp only [List.mem_singleton] at hb
  subst hb;subst e;exact hn ha
 ·rw [ht,zop (by omega),h.bit y hy,List.mem_append,List.mem_singleton]
  exact ⟨fun h=>h.elim .inl fun e => .inr (by omega),fun h=>h.elim .inl fun e => .inr (by omega)⟩
 ·rw [h.row]
  refine (zef _).trans (zL fun u hu=>?_)
  rw [ht]
  by_cases e:u=x
  ·subst e;rw [if_pos rfl,if_pos (by simp),hi]
  ·rw [if_neg e]
   have:((u:Int)∈to.take k++[(x:Int)])↔(u:Int)∈to.take k:=by
    rw [List.mem_append,List.mem_singleton]
    exact ⟨fun h=>h.elim id fun e'=>absurd (by omega) e,.inl⟩
   by_cases h2:(u:Int)∈to.take k
   ·rw [if_pos h2,if_pos (this.2 h2)]
   ·rw [if_neg h2,if_neg (fun h=>h2 (this.1 h))]
theorem zkb.done {to:List Int} {s:BitVec 64} {zs:List D} (h:zkb to to.length s zs):zdw to to.length=true∧zs=(zd4 to to.length).map fun (x:Nat)=>D.int .i64 (x:Int):=by
 have h1:=h.rng;have h2:=h.nd;have h3:=h.row
 rw [List.take_length] at h1 h2 h3
 have hp:zdw to to.length=true:=zeV.2 ⟨rfl,h1,h2⟩
 refine ⟨hp,?_⟩
 rw [h3]
 unfold zd4
 rw [List.map_map]
 exact zL fun u hu=>by rw [if_pos (zxA hp hu)];rfl
theorem zkb.bad {to:List Int} {k:Nat} {s:BitVec 64} {zs:List D} (h:zkb to k s zs) (h64:to.length≤64) {x:Int} (hx:to[k]? = some x) (hb:x < 0∨(to.length:Int)≤x∨s.getLsbD x.toNat=true):zdw to to.length=false:=by
 rw [← Bool.not_eq_true]
 intro hp
 obtain ⟨h1,h2,h3⟩:=zeV.1 hp
 have hr:=h2 x (List.mem_of_getElem? hx)
 rcases hb with hb|hb|hb
 ·omega
 ·omega
 ·have hm:=(h.bit x.toNat (by omega)).1 hb
  rw [show ((x.toNat:Nat):Int)=x by omega] at hm
  obtain ⟨j,hj⟩:=List.getElem?_of_mem hm
  rw [List.getElem?_take] at hj
  split at hj
  ·rename_i hlt
   obtain ⟨a,a'⟩:=List.getElem?_eq_some_iff.1 hj
   obtain ⟨c,c'⟩:=List.getElem?_eq_some_iff.1 hx
   have:=(List.getElem_inj h3).1 (a'.trans c'.symm)
   omega
  ·cases hj
theorem zue (m:KM) (to:List Int):Fn Tryz.prog T ziu [.d (dKM m),.d (dI to)] [] (.d (dKI (znf m to))) []:=by
 have cc:=zar (T:=T) m
 refine zj zy zo6 (by show 2≤61;decide) ?_
 (repeat' ((conv=>whnf);first|refine vA ?_|(refine vD ?_ ?_<;>intro hc<;>try simp only [vL] at hc)|refine vJ fun hg=>?_|refine vT ?_|(refine vP ?_ ?_;·omega)|refine yD cc ⟨⟨rfl,rfl⟩,rfl⟩ rfl ?_));all_goals try conv=>whnf
 ·rw [znf,if_pos (by omega)];rfl
 ·have hk0:za m=0:=by omega
  have w1:=(zq hk0).w1
  rw [znf,if_neg (by omega),if_neg (fun h=>by have:=(zeV.1 h).1;omega)];rfl
 ·have hk0:za m=0:=by omega
  have hg0:=zq hk0
  have w1:=hg0.w1
  have w2:=hg0.w2
  have h64:to.length≤64:=by omega
  have hW:m.W.toNat=to.length:=by omega
  (repeat' ((conv=>whnf);first|refine vA ?_|refine vJ fun hg=>?_|refine vT ?_|(refine vP ?_ ?_;·(simp only [vM] at *;omega))|fail));all_goals try conv=>whnf
  refine zu (fun ((k,s,zs):Nat×BitVec 64×List D)=>[(1,.d (dI to)),(2,.ptr 0 0),(4,.ptr 1 0),(7,.own 2),(8,.d (.u64 (s))),(26,.d (dI to)),(27,.d (.int .i64 ((to.map (D.int .i64)).length:Int))),(28,.d (.int .i64 ((k:Int))))]) (fun ((k,s,zs):Nat×BitVec 64×List D)=>[(0,some (zao m)),(1,some (.box [.d (.int .i64 0),.nils 1,.nils 1])),(2,some (.row 1 zs))]) 3 (fun ((k,s,zs):Nat×BitVec 64×List D)=>zkb to k s zs) (fun ((k,s,zs):Nat×BitVec 64×List D)=>to.length - k) ((0,0#64,List.replicate (((to.map (D.int .i64)).length:Int)).toNat (D.int .i64 0))) [(0,0),(1,1),(2,2)] [] (⟨by simp,by simp,by simp,by simp,by rw [List.length_map,Int.toNat_natCast,zaa];simp⟩) (by (refine ⟨rfl,rfl,rfl,?_,?_⟩;repeat' first|exact trivial|exact rfl|refine And.intro ?_ ?_|refine ⟨_,rfl,?_⟩|decide)) ?_
  rintro ⟨k,s,zs⟩ hI
  have hle:=hI.le
  have hzl:zs.length=to.length:=by rw [hI.row];simp
  by_cases hkl:k < to.length
  ·obtain ⟨x,hx⟩ : ∃ x,to[k]? = some x:=⟨_,List.getElem?_eq_getElem hkl⟩
   have hb:(x < 0∨(to.length:Int)≤x∨s.getLsbD x.toNat=true)→(zbb,(1:Int))=znf m to:=fun h=>by
    have:=hI.bad h64 hx h
    rw [znf,if_neg (by omega),if_neg (by rw [hW,this];decide)]
   (repeat' ((conv=>whnf);first|refine vA ?_|(refine vF ?_ ?_<;>intro hc<;>try simp only [vL] at hc)|refine vJ fun hg=>?_|refine vT ?_|refine vN ‹_› ?_|((first|refine vO ?_ ?_|refine vP ?_ ?_);·omega)|fail));all_goals try conv=>whnf
   ·rw [← hb (.inl ‹_›)];rfl
   ·rw [← hb (.inr (.inl ‹_›))];rfl
   ·rw [← hb (.inr (.inr ((ze1 _ _).1 ‹_›)))];rfl
   ·obtain ⟨y,rfl⟩ : ∃ y:Nat,x=(y:Int):=⟨x.toNat,by omega⟩
    refine ⟨(k+1,_,_),[(0,0),(1,1),(2,2)],[],?_,?_,by (refine ⟨rfl,rfl,rfl,?_,?_⟩;repeat' first|exact trivial|exact rfl|refine And.intro ?_ ?_|refine ⟨_,rfl,?_⟩|decide)⟩
    ·exact hI.next h64 hkl hx (by omega) (by rw [← Bool.not_eq_true];exact fun h=>absurd ((ze1 _ _).2 h) ‹¬_=(1:BitVec 64)›)
    ·((simp only [vM] at *;omega))
   ·omega
  ·have e0:k=to.length:=by omega
   subst e0
   obtain ⟨d1,d2⟩:=hI.done
   have ca:=zmi (T:=T) hk0 (l:=zd4 to to.length) (by rw [zo3];omega) (fun w hw=>by
    obtain ⟨i,hi,rfl⟩:=zfT hw
    rw [zo3] at hi
    have:=zvu d1 hi;omega)
   have hz:zs=((zd4 to to.length).map fun (x:Nat)=>(x:Int)).map (D.int .i64):=by rw [d2,List.map_map];rfl
   clear d2 hI
   subst hz
   (repeat' ((conv=>whnf);first|refine vA ?_|(refine vF ?_ ?_<;>intro hc<;>try simp only [vL] at hc)|refine vJ fun hg=>?_|refine vT ?_|(refine vQ ?_ fun x hx=>?_;·omega)|((first|refine vO ?_ ?_|refine vP ?_ ?_);·omega)|refine yN ca ⟨⟨rfl,rfl⟩,⟨rfl,rfl⟩,rfl⟩ ?_));all_goals try conv=>whnf
   all_goals try (exfalso;omega)
   rw [znf,if_neg (by omega),if_pos (by rw [hW];exact d1),hW];rfl
theorem zt8 (a b:List (List (BitVec 64))):Fn Tryz.prog T zal [.d (dUU a),.d (dUU b),.d (.fn zcZ [])] [] (.d (.bool (a==b))) []:=by
 have c1 : ∀ x y:List (BitVec 64),Fn Tryz.prog T zcZ [.d (dU x),.d (dU y)] [] (.d (.bool (x==y))) []:=fun x y=>by
  refine zj zy zo7 (by show 2≤8;decide) ?_
  (repeat' ((conv=>whnf);first|refine vT ?_|refine vZ ?_|refine yD (zkI _ _) ⟨⟨rfl,rfl⟩,⟨rfl,rfl⟩,rfl⟩ rfl ?_));all_goals try conv=>whnf
 refine zj zy zbF (by show 3≤32;decide) ?_
 (repeat' ((conv=>whnf);first|refine vA ?_|(refine vD ?_ ?_<;>intro hc<;>try simp only [vL] at hc)|refine vJ fun hg=>?_|refine vT ?_|refine vZ ?_));all_goals try conv=>whnf
 ·have:a≠b:=fun e=>hc (by rw [e])
  simp [this]
 ·refine zaH (fun (k:Nat)=>[(1,.d (dUU b)),(2,.d (.fn zcZ [])),(15,.d (dUU a)),(16,.d (.int .i64 ((a.map dU).length:Int))),(17,.d (.int .i64 ((k:Int))))]) (fun (k:Nat)=>k≤a.length∧(a==b)=(a.drop k==b.drop k)) (fun (k:Nat)=>a.length - k) (0) (⟨by simp,by simp⟩) (by (repeat' first|exact trivial|exact rfl|refine And.intro ?_ ?_)) ?_
  rintro k ⟨hk,hI⟩
  (repeat' ((conv=>whnf);first|refine vA ?_|refine vE ?_|((first|refine vF ?_ ?_|refine vI ?_ ?_)<;>intro hc<;>try simp only [vL] at hc)|refine vT ?_|(refine vQ ?_ fun x hx=>?_;·omega)|(refine vO ?_ ?_;·omega)|refine vZ ?_|refine yD (c1 _ _) (by (repeat refine ⟨⟨rfl,rfl⟩,?_⟩);rfl) rfl ?_));all_goals try conv=>whnf
  ·exact ⟨k+1,[],[],⟨by (omega),by rw [hI,zW ‹a[k]? = some _›,zW ‹b[k]? = some _›];simp_all⟩,by (omega),by (refine ⟨rfl,rfl,rfl,?_,?_⟩;repeat' first|exact trivial|exact rfl|refine And.intro ?_ ?_)⟩
  ·rw [hI,zW ‹a[k]? = some _›,zW ‹b[k]? = some _›];simp_all
  ·rw [hI,List.drop_eq_nil_of_le (by omega),List.drop_eq_nil_of_le (by omega)];rfl
theorem zw9 (a b:KM):Fn Tryz.prog T zkz [.d (dKM a),.d (dKM b)] [] (.d (.bool (decide (a=b)))) []:=by
 have key:(decide (a.W=b.W)&&((a.val==b.val)&&(a.rel==b.rel)))=decide (a=b):=by
  rw [Bool.eq_iff_iff]
  simp only [Bool.and_eq_true,decide_eq_true_eq,beq_iff_eq]
  exact ⟨fun ⟨h1,h2,h3⟩=>by cases a;cases b;simp only at h1 h2 h3;subst h1 h2 h3;rfl,fun h=>by subst h;exact ⟨rfl,rfl,rfl⟩⟩
 refine zj zy zry (by show 2≤24;decide) ?_
 (repeat' ((conv=>whnf);first|refine vA ?_|((first|refine vF ?_ ?_|refine vI ?_ ?_)<;>intro hc)|refine vT ?_|refine vZ ?_|refine yD (zkI _ _) ⟨⟨rfl,rfl⟩,⟨rfl,rfl⟩,rfl⟩ rfl ?_|refine yD (zt8 _ _) ⟨⟨rfl,rfl⟩,⟨rfl,rfl⟩,⟨rfl,rfl⟩,rfl⟩ rfl ?_));all_goals try conv=>whnf
 all_goals rw [← key];simp_all
end Go.Ab
namespace Go.Ab
open Go Go.Proofs
set_option maxRecDepth 10000
set_option maxHeartbeats 4000000
variable {T:Nat→Obj→Prop}
def zrb (m:KM) (n:Int):Bool:=decide (¬(n < m.W∧m.W≤64)∧m.val.length≤20∧m.rel.length≤10 ∧ ∀ r∈m.rel,r.length≤70)
theorem zAk (m:KM) (n:Int):Fn Tryz.prog T zgm [.d (dKM m),.d (.int .i64 n)] [] (.d (.bool (zrb m n))) []:=by
 have no:(n < m.W∧m.W≤64∨20 < m.val.length∨10 < m.rel.length)→false=zrb m n:=fun h=>by
  rw [zrb,decide_eq_false];rintro ⟨a,b,c,-⟩;omega
 refine zj zy zkX (by show 2≤41;decide) ?_
 (repeat' ((conv=>whnf);first|refine vA ?_|(refine vF ?_ ?_<;>intro hc<;>try simp only [vL] at hc)|refine vJ fun hg=>?_|refine vT ?_|refine vZ ?_));all_goals try conv=>whnf
 iterate 3 exact no (by omega)
 rotate_left
 iterate 2 exact no (by omega)
 all_goals
  have h1 : ¬(n < m.W∧m.W≤64):=by omega
  refine zu (fun (k:Nat)=>[(2,.ptr 0 0),(5,.d (.int .i64 ((k:Int))))]) (fun (k:Nat)=>[(0,some (zao m))]) 1 (fun (k:Nat)=>k≤m.rel.length ∧ ∀ (i:Nat) r,i < k→m.rel[i]? = some r→r.length≤70) (fun (k:Nat)=>m.rel.length - k) (0) [(0,0)] [] (⟨by simp,fun i r hi=>by omega⟩) (by (refine ⟨rfl,rfl,rfl,?_,?_⟩;repeat' first|exact trivial|exact rfl|refine And.intro ?_ ?_|refine ⟨_,rfl,?_⟩|decide)) ?_
  rintro k ⟨hk,hI⟩
  (repeat' ((conv=>whnf);first|refine vA ?_|(refine vF ?_ ?_<;>intro hc<;>try simp only [vL] at hc)|refine vJ fun hg=>?_|refine vT ?_|(refine vQ ?_ fun x hx=>?_;·omega)|(refine vO ?_ ?_;·omega)|refine vZ ?_));all_goals try conv=>whnf
  ·rw [zrb,decide_eq_false]
   rintro ⟨-,-,-,h⟩
   have:=h _ (List.mem_of_getElem? hx);omega
  ·exact ⟨k+1,[(0,0)],[],⟨by (omega),fun i r hi hr=>by
    by_cases e:i=k
    ·subst e;rw [hx] at hr;cases hr;omega
    ·exact hI i r (by omega) hr⟩,by (omega),by (refine ⟨rfl,rfl,rfl,?_,?_⟩;repeat' first|exact trivial|exact rfl|refine And.intro ?_ ?_|refine ⟨_,rfl,?_⟩|decide)⟩
  ·rw [zrb,decide_eq_true]
   refine ⟨h1,by omega,by omega,fun r hr=>?_⟩
   obtain ⟨i,hi⟩:=List.getElem?_of_mem hr
   have:=(List.getElem?_eq_some_iff.1 hi).1
   exact hI i r (by omega) hi
end Go.Ab
namespace Go.Ab
def mkT (p:KM) (root:Int) (i:Nat):Tup:=[[if (i:Int)=root then (0:Int) else 1],[zz p i]]
def zea (p:KM) (root:Int):(Nat→Nat)×Nat:=zcg p.W.toNat (zg p) (mkT p root)
theorem zyq {m:KM} {l k:List Nat} (hl:l.length≤64) (hk:k.length≤64) (h : ∀ x∈k,x < l.length):zJ (zJ m l) k=zJ m (k.map fun i=>l.getD i 0):=by
 have key : ∀ s,zav (zav s l) k=zav s (k.map fun i=>l.getD i 0):=fun s=>by
  unfold zav
  rw [List.length_map]
  refine zmv fun i hi=>?_
  have hm:k.getD i 0∈k:=zac hi
  rw [show (k.map fun i=>l.getD i 0).getD i 0=l.getD (k.getD i 0) 0 by simp [List.getD,List.getElem?_map,List.getElem?_eq_getElem hi]]
  rw [Bool.eq_iff_iff,zbU hl]
  exact ⟨fun h=>h.2,fun h'=>⟨h _ hm,h'⟩⟩
 unfold zJ
 simp only [List.length_map,List.map_map]
 congr 1
 ·exact List.map_congr_left fun s _=>key s
 ·refine List.map_congr_left fun r _=>?_
  show List.map _ k=List.map _ k
  refine List.map_congr_left fun w hw=>?_
  have hw:=h w hw
  show zav ((l.map fun w=>zav (r.getD w 0#64) l).getD w 0#64) k=zav (r.getD (l.getD w 0) 0#64) (k.map fun i=>l.getD i 0)
  rw [← key,show (l.map fun w=>zav (r.getD w 0#64) l).getD w 0#64=zav (r.getD (l.getD w 0) 0#64) l by
   simp [List.getD,List.getElem?_map,List.getElem?_eq_getElem hw]]
theorem zyT {m:KM} {l:List Nat} (hn:l.Nodup) (h2:l.length≤64) {w:Nat} (hw:w∈l) {i:Nat} (hi:i < l.length):mkT (zJ m l) (l.idxOf w:Int) i=zel l (zz m) w i:=by
 unfold mkT zel
 rw [zlr h2 hi]
 have h1:=zjs hw
 by_cases e:i=l.idxOf w
 ·rw [if_pos (by omega),if_pos (by rw [e];exact h1.2)]
 ·rw [if_neg (by omega),if_neg (fun e'=>e (zeR hn hi h1.1 (by rw [h1.2,e'])))]
theorem zxt {m:KM} {l:List Nat} (hn:l.Nodup) (h2:l.length≤64) {w:Nat} (hw:w∈l):(∀ i,i < l.length→(zea (zJ m l) (l.idxOf w:Int)).1 i=(zbp l (zg m) (zz m) w).1 i)∧(zea (zJ m l) (l.idxOf w:Int)).2=(zbp l (zg m) (zz m) w).2:=by
 have hid:Ren l.length fun w=>w:=⟨fun _ h=>h,fun _ _ _ _ h=>h⟩
 have:=zlF hid (zqK h2 (m:=m)) (first:=zel l (zz m) w) (first':=mkT (zJ m l) (l.idxOf w:Int)) fun i hi=>zyT hn h2 hw hi
 unfold zea zbp
 rw [show (zJ m l).W.toNat=l.length from Int.toNat_natCast _]
 exact this.2.2
def zib (p:KM):Bool:=decide ((zea p (-1)).2=p.W.toNat)
theorem zzD {p:KM} (root:Int):(zea p root).2≤p.W.toNat:=by
 unfold zea;rw [zne];exact zhh _ _
theorem zyS {p:KM} (h:zib p=true) (root:Int):Ren p.W.toNat (zea p root).1:=by
 refine (zpX (g:=mkT p (-1)) (fun v w _ _ e=>?_) (of_decide_eq_true h)).2
 unfold mkT at e ⊢
 have e2:zz p v=zz p w:=by
  simp only [List.cons.injEq,and_true] at e;exact e.2
 rw [e2,if_neg (by omega),if_neg (by omega)]
noncomputable def zdf (m:KM) (w:Nat):List Nat:=zS (zD m.W.toNat (zg m) w) (zg m) (zz m) w
noncomputable def zfJ (m:KM) (w:Int):KM×List Int×Int :=
 if za m≠0 then (zbb,[],za m) else if w < 0∨m.W≤w then (zbb,[],2) else
 if zib (zJ m (zD m.W.toNat (zg m) w.toNat))=false then (zbb,[],16) else (zJ m (zdf m w.toNat),(zdf m w.toNat).map fun (x:Nat)=>(x:Int),0)
theorem ziB {n:Nat} {R:zB} {w:Nat} : (zD n R w).length≤n:=by
 have:=zbC (zhW n R w) (l':=List.range n) fun x hx=>List.mem_range.2 (ze6.1 hx).lt
 simpa using this
theorem zpf {n:Nat} {q:Nat→Nat} (h:Ren n q):zdw (ptL n q) n=true:=by
 rw [zeV]
 refine ⟨zbq,fun x hx=>?_,?_⟩
 ·obtain ⟨w,hw,rfl⟩:=List.mem_map.1 hx
  have:=h.lt w (List.mem_range.1 hw);omega
 ·unfold ptL
  rw [List.Nodup,List.pairwise_map]
  exact List.Pairwise.imp_of_mem (fun {a b} ha hb hab e=>hab (h.inj a b (List.mem_range.1 ha) (List.mem_range.1 hb) (by omega))) List.nodup_range
theorem zzN {n:Nat} {q:Nat→Nat} {w:Nat} (hw:w < n):toF (ptL n q) w=q w:=by
 have:at0 (ptL n q) w=((q w:Nat):Int):=zcV (za0 hw)
 unfold toF;omega
theorem zzz {n:Nat} {q:Nat→Nat} (h:Ren n q) {i:Nat} (hi:i < n):(zd4 (ptL n q) n).getD i 0=zb4 n q i:=by
 obtain ⟨w,hw,rfl⟩:=h.surj hi
 have:=zvt (zpf h) hw
 rw [zzN hw] at this
 rw [this,zgT h hw]
theorem zwQ {m:KM} (hc:za m=0) {w:Nat} (hw:w < m.W.toNat) (hmin:zib (zJ m (zD m.W.toNat (zg m) w))=true) :
  let l:=zD m.W.toNat (zg m) w
  let q:=(zea (zJ m l) (l.idxOf w:Int)).1
  Ren l.length q∧zJ (zJ m l) (zd4 (ptL l.length q) l.length)=zJ m (zdf m w)∧zdf m w=(List.range l.length).map fun k=>l.getD (zb4 l.length q k) 0:=by
 intro l q
 have hg:=zq hc
 have w2:=hg.w2
 have hl:l.length≤64:=by have:=ziB (n:=m.W.toNat) (R:=zg m) (w:=w);show (zD m.W.toNat (zg m) w).length≤64;omega
 have hwl:w∈l:=zeQ hw
 have hp:=zxt (m:=m) (zhW m.W.toNat (zg m) w) hl hwl
 have hq:Ren l.length q:=by
  have:=zyS hmin (l.idxOf w:Int)
  rw [show (zJ m (zD m.W.toNat (zg m) w)).W.toNat=l.length from Int.toNat_natCast _] at this
  exact this
 have e:zdf m w=(List.range l.length).map fun k=>l.getD (zb4 l.length q k) 0:=by
  unfold zdf zS
  refine zL fun k hk=>?_
  show l.getD (zb4 l.length _ k) 0=_
  congr 1
  obtain ⟨v,hv,rfl⟩:=hq.surj hk
  have hq':Ren l.length (zbp l (zg m) (zz m) w).1:=⟨fun i hi=>(hp.1 i hi)▸hq.lt i hi,fun i j hi hj e=>hq.inj i j hi hj (((hp.1 i hi).trans e).trans (hp.1 j hj).symm)⟩
  rw [zgT hq hv,show q v=(zbp l (zg m) (zz m) w).1 v from hp.1 v hv,zgT hq' hv]
 refine ⟨hq,?_,e⟩
 have hk:(zd4 (ptL l.length q) l.length).length=l.length:=zo3 _ _
 rw [zyq hl (by omega) (fun x hx=>?_),e]
 ·congr 1
  refine zdA (d:=0) (by simp [hk]) fun i hi=>?_
  rw [List.length_map,hk] at hi
  have h1:((zd4 (ptL l.length q) l.length).map fun i=>l.getD i 0).getD i 0=l.getD ((zd4 (ptL l.length q) l.length).getD i 0) 0:=by
   simp [List.getD,List.getElem?_map,List.getElem?_eq_getElem (show i < (zd4 (ptL l.length q) l.length).length by omega)]
  rw [h1,zzz hq hi]
  simp [List.getD,hi]
 ·obtain ⟨i,hi,rfl⟩:=zfT hx
  exact zvu (zpf hq) (by omega)
end Go.Ab
namespace Go.Proofs
def Tryz.lays129_ren:Go.Shelf.Ren:=⟨fun|129=>65|n=>n,fun|53=>43|3=>3|4=>4|46=>44|5=>5|9=>9|n=>n,fun|n=>n⟩
theorem Tryz.lays129:Go.Proofs.Lays.n129 Tryz.prog Tryz.lays129_ren := {
 mixed:=by kernel_rfl
 f129:=Tryz.func65.trans (congrArg some (by kernel_rfl))
 t3:=Tryz.underlying3
 a3:=Tryz.isAgg3
 z3:=Tryz.sizeOf3
 v3:=Tryz.zeroValue3
 t4:=Tryz.underlying4
 a4:=Tryz.isAgg4
 z4:=Tryz.sizeOf4
 v4:=Tryz.zeroValue4
 t5:=Tryz.underlying5
 a5:=Tryz.isAgg5
 z5:=Tryz.sizeOf5
 v5:=Tryz.zeroValue5
 t9:=Tryz.underlying9
 a9:=Tryz.isAgg9
 z9:=Tryz.sizeOf9
 v9:=Tryz.zeroValue9
 t46:=Tryz.underlying44
 a46:=Tryz.isAgg44
 z46:=Tryz.sizeOf44
 v46:=Tryz.zeroValue44
 t53:=Tryz.underlying43
 a53:=Tryz.isAgg43
 z53:=Tryz.sizeOf43
 v53:=Tryz.zeroValue43 }
end Go.Proofs
namespace Go.Ab
open Go Go.Proofs
set_option maxRecDepth 10000
set_option maxHeartbeats 4000000
variable {T:Nat→Obj→Prop}
theorem ztV:zcF Tryz.prog zgI:=⟨_,Tryz.func65,by kernel_rfl,by kernel_rfl⟩
theorem zw7 (x:BitVec 64):Fn Tryz.prog T zgI [.d (.u64 x)] [] (.d (.int .i64 (Sort.bitsLen x.toNat:Int))) []:=by
 refine ztf (ds:=[.u64 x]) ztV fun w args hw hsz hargs=>?_
 obtain ⟨X,hX⟩:=hargs 0 (by simp)
 have ha:args = #[.int .u64 (x.toNat:Int)]:=by
  have h0:args.getD 0 undef = .int .u64 (x.toNat:Int):=by
   generalize args.getD 0 undef=y at hX
   cases hX;rfl
  obtain ⟨l⟩:=args
  match l,hsz with
  | [y],_=>rw [← h0];rfl
 rw [ha]
 have:=Any.bits_Len64 Tryz.lays129 (x.toNat:Int) w (by omega) (by have:=x.isLt;omega)
 refine this.mono fun e w' he=>⟨_,he.1,he.2,fun X=>?_⟩
 rw [Int.toNat_natCast,Go.Proofs.bitLen_eq _ x.isLt]
 exact .int _ _ (by decide)
theorem zrk (x:BitVec 64):Fn Tryz.prog T zdO [.d (.u64 x)] [] (.d (.int .i64 (Sort.bitsLen x.toNat:Int))) []:=by
 refine zj zy zog (by show 1≤8;decide) ?_
 (repeat' ((conv=>whnf);first|refine vT ?_|refine vX ?_|refine yD (zw7 _) ⟨⟨rfl,rfl⟩,rfl⟩ rfl ?_));all_goals try conv=>whnf
end Go.Ab
namespace Go.Ab
open Go Go.Proofs
set_option maxRecDepth 10000
set_option maxHeartbeats 4000000
section
variable {α:Type} [Inhabited α] [DecidableEq α]
def ddA (d:Array α):Nat→List α
 | 0=>[]
 | n+1=>if 0 < n∧d[n]! = d[n - 1]! then ddA d n else ddA d n++[d[n]!]
def Steps (d:Array α):Prop := ∀ j,0 < j→j < d.size→d[j]! ≠ d[j - 1]!
theorem zwt {d:Array α} {n:Nat} (h:n < d.size):d.toList.take (n+1)=d.toList.take n++[d[n]!]:=by
 rw [List.take_add_one,zbI h];rfl
theorem zlv {d:Array α} : ∀ {n:Nat},n≤d.size→(∀ j,0 < j→j < n→d[j]! ≠ d[j - 1]!)→ddA d n=d.toList.take n
 | 0,_,_=>rfl
 | n+1,h,hs=>by
  rw [ddA,if_neg (fun hh=>hs n hh.1 (by omega) hh.2),zlv (by omega) (fun j h0 h1=>hs j h0 (by omega)),zwt (by omega)]
theorem zq1 {d:Array α} {k:Nat} (h0:0 < k) (h1:k < d.size) (hk : ∀ j,0 < j→j < k→d[j]! ≠ d[j - 1]!) (he:d[k]! = d[k - 1]!):d.toList.take k=ddA d (k+1):=by
 rw [ddA,if_pos ⟨h0,he⟩,zlv (by omega) hk]
theorem zsh {e:Array α} {a:Nat} {x:α} (h:a < e.size):(e.setIfInBounds a x).toList.take (a+1)=e.toList.take a++[x]:=by
 have hl:a < e.toList.length:=by simpa using h
 rw [Array.toList_setIfInBounds,List.take_add_one,List.getElem?_set_self hl,List.take_set_of_le (Nat.le_refl a)];rfl
theorem zty {e:Array α} {a j:Nat} {x:α} (h:a≠j):(e.setIfInBounds a x)[j]! = e[j]! := by
 simp [getElem!_def,Array.getElem?_setIfInBounds_ne h]
theorem ztc {d:Array α} {n:Nat} (h:0 < n) (he:d[n]! = d[n - 1]!):ddA d (n+1)=ddA d n:=by rw [ddA,if_pos ⟨h,he⟩]
theorem zu6 {d:Array α} {n:Nat} (he:d[n]! ≠ d[n - 1]!):ddA d (n+1)=ddA d n++[d[n]!]:=by rw [ddA,if_neg (fun h=>he h.2)]
theorem zta {enc:α→D} {e:Array α} {z:D} {a n:Nat} (h:a≤e.size):((List.take a (e.toList.map enc))++(List.replicate n z++List.drop (a+n) (e.toList.map enc))).take a=(e.toList.take a).map enc:=by
 rw [List.take_append_of_le_length (by simp;omega),List.take_take,Nat.min_self,List.map_take]
end
end Go.Ab
namespace Go.Ab
section
variable {α:Type} [Inhabited α] [DecidableEq α]
theorem ze3 {d:Array α} {x:α} : ∀ {n:Nat},x∈ddA d n ↔ ∃ i,i < n∧d[i]! = x
 | 0=>by simp [ddA]
 | n+1=>by
  rw [ddA]
  constructor
  ·intro h
   split at h
   ·obtain ⟨i,h1,h2⟩:=ze3.1 h
    exact ⟨i,by omega,h2⟩
   ·rcases List.mem_append.1 h with h|h
    ·obtain ⟨i,h1,h2⟩:=ze3.1 h
     exact ⟨i,by omega,h2⟩
    ·exact ⟨n,by omega,by simp at h;exact h.symm⟩
  ·rintro ⟨i,h1,h2⟩
   split
   ·rename_i hc
    by_cases e:i=n
    ·subst e
     exact ze3.2 ⟨i - 1,by omega,by rw [← hc.2];exact h2⟩
    ·exact ze3.2 ⟨i,by omega,h2⟩
   ·by_cases e:i=n
    ·subst e;exact List.mem_append.2 (.inr (by simp [h2]))
    ·exact List.mem_append.2 (.inl (ze3.2 ⟨i,by omega,h2⟩))
theorem zjk {lt:α→α→Bool} {d:Array α} (hs : ∀ i j,i < j→j < d.size→lt d[j]! d[i]! = false) (tri : ∀ x y,lt x y=false→lt y x=false→x=y) : ∀ {n:Nat},n≤d.size→(ddA d n).Pairwise fun x y=>lt x y=true
 | 0,_=>List.Pairwise.nil
 | n+1,h=>by
  rw [ddA]
  split
  ·exact zjk hs tri (by omega)
  ·rename_i hc
   refine List.pairwise_append.2 ⟨zjk hs tri (by omega),List.pairwise_singleton _ _,fun x hx y hy=>?_⟩
   obtain ⟨i,hi,rfl⟩:=ze3.1 hx
   have hy:y=d[n]! := by simpa using hy
   subst hy
   cases hb:lt d[i]! d[n]! with
   | true=>rfl
   | false =>
    have e1:=tri _ _ hb (hs i n hi (by omega))
    refine absurd ⟨by omega,?_⟩ hc
    by_cases e:i=n - 1
    ·rw [← e];exact e1.symm
    ·refine (tri _ _ ?_ ?_)
     ·exact hs (n - 1) n (by omega) (by omega)
     ·rw [← e1];exact hs i (n - 1) (by omega) (by omega)
end
def ltT (x y:Tup):Bool:=decide (zaU x y < 0)
theorem zg0 {x y:Tup} : ltT x y=true↔zaU x y < 0:=by simp [ltT]
theorem zrG {x y:Tup} : ltT x y=false↔0≤zaU x y:=by simp [ltT]
theorem zzM:Sort.SWO ltT:=by
 refine ⟨fun x=>zrG.2 (by rw [zak.refl];omega),fun x y z h1 h2=>zg0.2 (zak.tr (zg0.1 h1) (zg0.1 h2)),fun x y z h1 h2=>?_⟩
 rw [zrG] at *
 have a1:=zak.anti x y
 have a2:=zak.anti y z
 have a3:=zak.anti x z
 by_cases e1:zaU x y=0
 ·rw [zak.zero.1 e1];exact h2
 ·by_cases e2:zaU y z=0
  ·rw [← zak.zero.1 e2];exact h1
  ·have:=zak.tr (x:=z) (y:=y) (z:=x) (by omega) (by omega)
   omega
theorem zkE {α:Type} {p:α→Bool} : ∀ {S:List α} {i:Nat},i≤S.length→(∀ (k:Nat) x,k < i→S[k]? = some x→p x=true)→(∀ (k:Nat) x,i≤k→S[k]? = some x→p x=false)→(S.filter p).length=i
 | [],i,hi,_,_=>by simp at hi;simp [hi]
 | a::S,0,hi,h1,h2=>by
  have:(a::S).filter p=[]:=by
   rw [List.filter_eq_nil_iff]
   intro x hx
   obtain ⟨k,hk⟩:=List.getElem?_of_mem hx
   rw [h2 k x (by omega) hk];simp
  rw [this];rfl
 | a::S,i+1,hi,h1,h2=>by
  rw [List.filter_cons_of_pos (h1 0 a (by omega) rfl),List.length_cons,zkE (i:=i) (by simpa using hi) (fun k x hk hx=>h1 (k+1) x (by omega) (by simpa using hx)) fun k x hk hx=>h2 (k+1) x (by omega) (by simpa using hx)]
structure zci (ts S:List Tup):Prop where
 pw:S.Pairwise fun x y=>zaU x y < 0
 mem : ∀ x,x∈S↔x∈ts
theorem zci.nodup {ts S:List Tup} (h:zci ts S):S.Nodup:=h.pw.imp fun {a b} h e=>by subst e;rw [zak.refl] at h;omega
theorem zci.cnt {ts S:List Tup} (h:zci ts S):S.length=cnN ts:=zya h.nodup h.mem
theorem zci.le {ts S:List Tup} (h:zci ts S):S.length≤ts.length:=zbC h.nodup fun x hx=>(h.mem x).1 hx
theorem zci.rk {ts S:List Tup} (h:zci ts S) {t:Tup} {i:Nat} (hi:i≤S.length) (h1 : ∀ (k:Nat) x,k < i→S[k]? = some x→zaU x t < 0) (h2 : ∀ (k:Nat) x,i≤k→S[k]? = some x → ¬zaU x t < 0):i=rkN ts t:=by
 rw [← zyk h.nodup h.mem]
 exact (zkE hi (fun k x hk hx=>decide_eq_true (h1 k x hk hx)) fun k x hk hx=>decide_eq_false (h2 k x hk hx)).symm
theorem zci.lt_of {ts S:List Tup} (h:zci ts S) {t:Tup} {i k:Nat} {x y:Tup} (hx:S[i]? = some x) (hy:S[k]? = some y) (hik:k≤i) (hl:zaU x t < 0):zaU y t < 0:=by
 by_cases e:k=i
 ·subst e;rw [hx] at hy;cases hy;exact hl
 ·obtain ⟨a,b⟩:=List.getElem?_eq_some_iff.1 hx
  obtain ⟨c,d⟩:=List.getElem?_eq_some_iff.1 hy
  have:=List.pairwise_iff_getElem.1 h.pw k i c a (by omega)
  rw [b,d] at this
  exact zak.tr this hl
theorem zp6 (d:Array Tup):(Sort.sort ltT d).toList.Perm d.toList:=by
 obtain ⟨⟨h1,-,h2⟩,-⟩:=Sort.sort_sorts ltT zzM d
 have e1:(Sort.sort ltT d).extract 0 d.size=Sort.sort ltT d:=by rw [← h1];simp
 have e2:d.extract 0 d.size=d:=by simp
 rwa [e1,e2] at h2
theorem zuH {ts:List Tup} {S:Array Tup} (hS:S=Sort.sort ltT ts.toArray):zci ts (ddA S S.size):=by
 subst hS
 obtain ⟨⟨h1,-,-⟩,h3⟩:=Sort.sort_sorts _ zzM ts.toArray
 have hp:=zp6 ts.toArray
 generalize Sort.sort ltT ts.toArray=S at h1 h3 hp
 refine ⟨?_,fun x=>?_⟩
 ·refine (zjk (fun i j hij hj=>h3 i j (Nat.zero_le _) hij (by rw [← h1];exact hj)) (fun x y h1 h2=>zak.zero.1 (by rw [zrG] at h1 h2;have:=zak.anti x y;omega)) (Nat.le_refl _)).imp fun h=>zg0.1 h
 ·rw [ze3]
  have:=hp.mem_iff (a:=x)
  rw [show ts.toArray.toList=ts from rfl] at this
  rw [← this]
  constructor
  ·rintro ⟨i,hi,rfl⟩;exact List.mem_of_getElem? (zbI hi)
  ·intro hx
   obtain ⟨i,hi⟩:=List.getElem?_of_mem hx
   exact ⟨i,(zaZ hi).2,(zaZ hi).1⟩
end Go.Ab
namespace Go.Ab
open Go Go.Proofs
set_option maxRecDepth 10000
set_option maxHeartbeats 4000000
variable {T:Nat→Obj→Prop}
theorem zei (a b:Int):Fn Tryz.prog T zby [.d (.int .i64 a),.d (.int .i64 b)] [] (.d (.int .i64 (za5 a b))) []:=by
 have hn : ∀ z:Int,Fn Tryz.prog T zeO [.d (.int .i64 z)] [] (.d (.bool false)) []:=fun z=>by
  refine zj zy zho (by show 1≤6;decide) ?_
  (repeat' ((conv=>whnf);first|refine vT ?_|refine vZ ?_));all_goals try conv=>whnf
  simp
 refine zj zy zkR (by show 2≤20;decide) ?_
 (repeat' ((conv=>whnf);first|refine vA ?_|refine vH ?_|(refine vF ?_ ?_<;>intro hc<;>try simp only [vL] at hc)|refine vT ?_|refine vX ?_|refine yD (hn _) (by (repeat refine ⟨⟨rfl,rfl⟩,?_⟩);rfl) rfl ?_));all_goals try conv=>whnf
 all_goals (unfold za5;first|rw [if_pos ‹_›]|(rw [if_neg (by omega)];first|rw [if_pos ‹_›]|rw [if_neg (by omega)])|skip)
theorem zqW {α:Type} {c:α→α→Int} {a b:List α} {k:Nat} (h:k=min a.length b.length):z8 c (a.drop k) (b.drop k)=za5 (a.length:Int) (b.length:Int):=by
 rcases Nat.lt_trichotomy a.length b.length with h1|h1|h1
 ·rw [List.drop_eq_nil_of_le (show a.length≤k by omega)]
  obtain ⟨x,hx⟩ : ∃ x,b[k]? = some x:=⟨_,List.getElem?_eq_getElem (by omega)⟩
  rw [zW hx,z8,za5,if_pos (by omega)]
 ·rw [List.drop_eq_nil_of_le (show a.length≤k by omega),List.drop_eq_nil_of_le (show b.length≤k by omega),z8,za5,if_neg (by omega),if_neg (by omega)]
 ·rw [List.drop_eq_nil_of_le (show b.length≤k by omega)]
  obtain ⟨x,hx⟩ : ∃ x,a[k]? = some x:=⟨_,List.getElem?_eq_getElem (by omega)⟩
  rw [zW hx,z8,za5,if_neg (by omega),if_pos (by omega)]
theorem zo1 (a b:List Int) (ha:a.length≤1000000):Fn Tryz.prog T zer [.d (dI a),.d (dI b),.d (.fn zby [])] [] (.d (.int .i64 (z8 za5 a b))) []:=by
 refine zj zy zhI (by show 3≤36;decide) ?_
 (repeat' ((conv=>whnf);first|refine vA ?_|refine vJ fun hg=>?_|refine vT ?_));all_goals try conv=>whnf
 refine zaH (fun (k:Nat)=>[(0,.d (dI a)),(1,.d (dI b)),(2,.d (.fn zby [])),(13,.d (.int .i64 ((min ((a.map (D.int .i64)).length:Int) ((b.map (D.int .i64)).length:Int))))),(14,.d (.int .i64 ((k:Int))))]) (fun (k:Nat)=>k≤a.length∧k≤b.length∧z8 za5 a b=z8 za5 (a.drop k) (b.drop k)) (fun (k:Nat)=>a.length - k) (0) (⟨by simp,by simp,rfl⟩) (by (repeat' first|exact trivial|exact rfl|refine And.intro ?_ ?_)) ?_
 rintro k ⟨hk,hk2,hI⟩
 by_cases hkl:k < a.length∧k < b.length
 ·obtain ⟨x,hx⟩ : ∃ x,a[k]? = some x:=⟨_,List.getElem?_eq_getElem hkl.1⟩
  obtain ⟨y,hy⟩ : ∃ y,b[k]? = some y:=⟨_,List.getElem?_eq_getElem hkl.2⟩
  have hs:z8 za5 a b=if za5 x y=0 then z8 za5 (a.drop (k+1)) (b.drop (k+1)) else za5 x y:=by rw [hI,zW hx,zW hy,z8]
  (repeat' ((conv=>whnf);first|refine vA ?_|((first|refine vD ?_ ?_|refine vF ?_ ?_)<;>intro hc<;>try simp only [vL] at hc)|refine vJ fun hg=>?_|refine vT ?_|refine vN ‹_› ?_|(refine vO ?_ ?_;·omega)|(refine vU ?_ ?_;·kernel_rfl)|refine vX ?_|refine yD (zei _ _) ⟨⟨rfl,rfl⟩,⟨rfl,rfl⟩,rfl⟩ rfl ?_));all_goals try conv=>whnf
  ·rw [hs,if_neg hc]
  ·exact ⟨k+1,[],[],⟨by omega,by omega,by rw [hs,if_pos hc]⟩,by (omega),by (refine ⟨rfl,rfl,rfl,?_,?_⟩;repeat' first|exact trivial|exact rfl|refine And.intro ?_ ?_)⟩
  ·omega
 ·(repeat' ((conv=>whnf);first|refine vA ?_|((first|refine vD ?_ ?_|refine vF ?_ ?_)<;>intro hc<;>try simp only [vL] at hc)|refine vJ fun hg=>?_|refine vT ?_|(refine vQ ?_ fun x hx=>?_;·omega)|(refine vO ?_ ?_;·omega)|(refine vU ?_ ?_;·kernel_rfl)|refine vX ?_|refine yD (zei _ _) ⟨⟨rfl,rfl⟩,⟨rfl,rfl⟩,rfl⟩ rfl ?_));all_goals try conv=>whnf
  iterate 2 (exfalso;omega)
  ·rw [hI,zqW (by omega),List.length_map,List.length_map]
def Sml (t:Tup):Prop:=t.length≤1000 ∧ ∀ r∈t,r.length≤1000
theorem zvi (x y:List Int) (h:x.length≤1000000):Fn Tryz.prog T zbz [.d (dI x),.d (dI y)] [] (.d (.int .i64 (z8 za5 x y))) []:=by
 refine zj zy zkT (by show 2≤8;decide) ?_
 (repeat' ((conv=>whnf);first|refine vT ?_|refine vX ?_|refine yD (zo1 x y h) ⟨⟨rfl,rfl⟩,⟨rfl,rfl⟩,⟨rfl,rfl⟩,rfl⟩ rfl ?_));all_goals try conv=>whnf
theorem zro (a b:Tup) (ha:a.length≤1000000) (hb : ∀ r∈a,r.length≤1000000):Fn Tryz.prog T zdZ [.d (dII a),.d (dII b),.d (.fn zbz [])] [] (.d (.int .i64 (z8 (z8 za5) a b))) []:=by
 refine zj zy zhp (by show 3≤36;decide) ?_
 (repeat' ((conv=>whnf);first|refine vA ?_|refine vJ fun hg=>?_|refine vT ?_));all_goals try conv=>whnf
 refine zaH (fun (k:Nat)=>[(0,.d (dII a)),(1,.d (dII b)),(2,.d (.fn zbz [])),(13,.d (.int .i64 ((min ((a.map dI).length:Int) ((b.map dI).length:Int))))),(14,.d (.int .i64 ((k:Int))))]) (fun (k:Nat)=>k≤a.length∧k≤b.length∧z8 (z8 za5) a b=z8 (z8 za5) (a.drop k) (b.drop k)) (fun (k:Nat)=>a.length - k) (0) (⟨by simp,by simp,rfl⟩) (by (repeat' first|exact trivial|exact rfl|refine And.intro ?_ ?_)) ?_
 rintro k ⟨hk,hk2,hI⟩
 by_cases hkl:k < a.length∧k < b.length
 ·obtain ⟨x,hx⟩ : ∃ x,a[k]? = some x:=⟨_,List.getElem?_eq_getElem hkl.1⟩
  obtain ⟨y,hy⟩ : ∃ y,b[k]? = some y:=⟨_,List.getElem?_eq_getElem hkl.2⟩
  have hs:z8 (z8 za5) a b=if (z8 za5) x y=0 then z8 (z8 za5) (a.drop (k+1)) (b.drop (k+1)) else (z8 za5) x y:=by rw [hI,zW hx,zW hy,z8]
  have cA:=zvi (T:=T) x y (hb x (List.mem_of_getElem? hx))
  (repeat' ((conv=>whnf);first|refine vA ?_|((first|refine vD ?_ ?_|refine vF ?_ ?_)<;>intro hc<;>try simp only [vL] at hc)|refine vJ fun hg=>?_|refine vT ?_|refine vN ‹_› ?_|(refine vO ?_ ?_;·omega)|(refine vU ?_ ?_;·kernel_rfl)|refine vX ?_|refine yD cA ⟨⟨rfl,rfl⟩,⟨rfl,rfl⟩,rfl⟩ rfl ?_|refine yD (zei _ _) ⟨⟨rfl,rfl⟩,⟨rfl,rfl⟩,rfl⟩ rfl ?_));all_goals try conv=>whnf
  ·rw [hs,if_neg hc]
  ·exact ⟨k+1,[],[],⟨by omega,by omega,by rw [hs,if_pos hc]⟩,by (omega),by (refine ⟨rfl,rfl,rfl,?_,?_⟩;repeat' first|exact trivial|exact rfl|refine And.intro ?_ ?_)⟩
  ·omega
 ·(repeat' ((conv=>whnf);first|refine vA ?_|(refine vF ?_ ?_<;>intro hc<;>try simp only [vL] at hc)|refine vJ fun hg=>?_|refine vT ?_|(refine vQ ?_ fun x hx=>?_;·omega)|refine vX ?_|refine yD (zei _ _) ⟨⟨rfl,rfl⟩,⟨rfl,rfl⟩,rfl⟩ rfl ?_));all_goals try conv=>whnf
  ·exfalso;omega
  ·rw [hI,zqW (by omega),List.length_map,List.length_map]
theorem zhm (x y:Tup) (h:Sml x):Fn Tryz.prog T zM [.d (dII x),.d (dII y)] [] (.d (.int .i64 (zaU x y))) []:=by
 have cB:=zro (T:=T) x y (by have:=h.1;omega) (fun r hr=>by have:=h.2 r hr;omega)
 refine zj zy zm2 (by show 2≤8;decide) ?_
 (repeat' ((conv=>whnf);first|refine vT ?_|refine vX ?_|refine yD cB ⟨⟨rfl,rfl⟩,⟨rfl,rfl⟩,⟨rfl,rfl⟩,rfl⟩ rfl ?_));all_goals try conv=>whnf
 rfl
theorem zzg {α:Type} [Inhabited α] {d:Array α} {i j:Nat} (hi:i < d.size) (hj:j < d.size) {x:α} (h:x∈(Sort.swp d i j).toList):x∈d.toList:=by
 have a1:=List.mem_of_getElem? (zbI hi)
 have a2:=List.mem_of_getElem? (zbI hj)
 unfold Sort.swp at h
 simp only [Array.set!_eq_setIfInBounds,Array.toList_setIfInBounds] at h
 rcases List.mem_or_eq_of_mem_set h with h|rfl
 ·rcases List.mem_or_eq_of_mem_set h with h|rfl
  ·exact h
  ·exact a2
 ·exact a1
abbrev zfY (d:Array Tup):Ob := .row 1 (d.toList.map dII)
theorem zyJ (d:Array Tup) (b:Nat) (hd : ∀ x∈d.toList,Sml x) (hb:b≤d.size) (hs:d.size≤1000) :
  Fn Tryz.prog T zaQ [.own 0,.d (.int .i64 0),.d (.int .i64 (b:Int)),.d (.fn zM [])] [zfY d] (.tup []) [some (zfY (Sort.insertionSort ltT d 0 b))]:=by
 refine zaq zy zcv (by show 4≤53;decide) _ (fun e env mem n h=>h) ?_
 (repeat' ((conv=>whnf);first|refine vT ?_|(refine vO ?_ ?_;·omega)|fail));all_goals try conv=>whnf
 refine zu (fun ((ii,xs):Int×List D)=>[(0,.own 0),(1,.d (.int .i64 (0))),(2,.d (.int .i64 ((b:Int)))),(3,.d (.fn zM [])),(8,.d (.int .i64 (ii))),(zc,.own 0)]) (fun ((ii,xs):Int×List D)=>[(0,some (.row 1 xs))]) 1 (fun ((ii,xs):Int×List D) => ∃ (i:Nat) (e:Array Tup),ii=i∧xs=e.toList.map dII∧0 < i∧i≤b+1∧e.size=d.size∧(∀ x∈e.toList,Sml x)∧Sort.insOuter ltT 0 b i e=Sort.insertionSort ltT d 0 b) (fun ((ii,xs):Int×List D)=>(b - ii).toNat) (((0:Int)+1,d.toList.map dII)) [(0,0)] [] (⟨1,d,by omega,rfl,by omega,by omega,rfl,hd,rfl⟩) (by (refine ⟨rfl,rfl,rfl,?_,?_⟩;repeat' first|exact trivial|exact rfl|refine And.intro ?_ ?_|refine ⟨_,rfl,?_⟩|decide)) ?_
 rintro ⟨_,_⟩ ⟨i,e,rfl,rfl,hi,hi2,he,hsm,hI⟩
 (repeat' ((conv=>whnf);first|refine vA ?_|(refine vF ?_ ?_<;>intro hc<;>try simp only [vL] at hc)|refine vT ?_));all_goals try conv=>whnf
 ·refine zu (fun ((jj,xs):Int×List D)=>[(0,.own 0),(1,.d (.int .i64 (0))),(2,.d (.int .i64 ((b:Int)))),(3,.d (.fn zM [])),(8,.d (.int .i64 ((i:Int)))),(9,.d (.int .i64 (jj))),(zc,.own 0)]) (fun ((jj,xs):Int×List D)=>[(0,some (.row 1 xs))]) 1 (fun ((jj,xs):Int×List D) => ∃ (j:Nat) (g:Array Tup),jj=j∧xs=g.toList.map dII∧j≤i∧g.size=d.size∧(∀ x∈g.toList,Sml x)∧Sort.insInner ltT 0 j g=Sort.insInner ltT 0 i e) (fun ((jj,xs):Int×List D)=>jj.toNat) (((i:Int),e.toList.map dII)) [(0,0)] [] (⟨i,e,rfl,rfl,by omega,he,hsm,rfl⟩) (by (refine ⟨rfl,rfl,rfl,?_,?_⟩;repeat' first|exact trivial|exact rfl|refine And.intro ?_ ?_|refine ⟨_,rfl,?_⟩|decide)) ?_
  rintro ⟨_,_⟩ ⟨j,g,rfl,rfl,hj,hg,hgm,hJ⟩
  have hgl:g.toList.length=d.size:=by rw [Array.length_toList];exact hg
  have stop : ¬(0 < j∧ltT g[j]! g[j - 1]! = true)→Sort.insOuter ltT 0 b (i+1) g=Sort.insertionSort ltT d 0 b:=fun h=>by
   rw [← hI,Sort.insOuter.eq_def ltT 0 b i,if_pos (by omega),← hJ,zjZ h]
  by_cases hj0:0 < j
  ·have hx1:g.toList[j]? = some g[j]! := zbI (by omega)
   have hx2:g.toList[((j:Int) - 1).toNat]? = some g[j - 1]! := by rw [show ((j:Int) - 1).toNat=j - 1 by omega];exact zbI (by omega)
   have co:=zhm (T:=T) g[j]! g[j - 1]! (hgm _ (List.mem_of_getElem? hx1))
   (repeat' ((conv=>whnf);first|refine vA ?_|(refine vF ?_ ?_<;>intro hc<;>try simp only [vL] at hc)|refine vT ?_|refine vN ‹_› ?_|((first|refine vO ?_ ?_|refine vP ?_ ?_);·first|omega|(simp only [vM] at *;omega))|(refine vU ?_ ?_;·kernel_rfl)|refine yD co ⟨⟨rfl,rfl⟩,⟨rfl,rfl⟩,rfl⟩ rfl ?_));all_goals try conv=>whnf
   ·refine ⟨(_,_),[(0,0)],[],?_,?_,by (refine ⟨rfl,rfl,rfl,?_,?_⟩;repeat' first|exact trivial|exact rfl|refine And.intro ?_ ?_|refine ⟨_,rfl,?_⟩|decide)⟩
    ·refine ⟨j - 1,Sort.swp g j (j - 1),by omega,?_,by omega,by rw [zsk,hg],fun x hx=>hgm x (zzg (by omega) (by omega) hx),?_⟩
     ·rw [show ((j:Int) - 1).toNat=j - 1 by omega] at hx2 ⊢
      exact ztF hx1 hx2
     ·exact (zjY (d:=g) (j:=j) (by omega) (zg0.2 ‹_›)).symm.trans hJ
    ·((simp only [vM] at *;omega))
   ·refine ⟨(_,_),[(0,0)],[],?_,?_,by (refine ⟨rfl,rfl,rfl,?_,?_⟩;repeat' first|exact trivial|exact rfl|refine And.intro ?_ ?_|refine ⟨_,rfl,?_⟩|decide)⟩
    ·exact ⟨i+1,g,by omega,rfl,by omega,by omega,hg,hgm,stop fun h=>by
      have:=zg0.1 h.2;omega⟩
    ·((simp only [vM] at *;omega))
   ·exfalso;omega
  ·(repeat' ((conv=>whnf);first|refine vA ?_|(refine vF ?_ ?_<;>intro hc<;>try simp only [vL] at hc)|refine vT ?_|(refine vQ ?_ fun x hx=>?_;·omega)|((first|refine vO ?_ ?_|refine vP ?_ ?_);·omega)|(refine vU ?_ ?_;·kernel_rfl)|fail));all_goals try conv=>whnf
   ·exfalso;omega
   ·refine ⟨(_,_),[(0,0)],[],?_,?_,by (refine ⟨rfl,rfl,rfl,?_,?_⟩;repeat' first|exact trivial|exact rfl|refine And.intro ?_ ?_|refine ⟨_,rfl,?_⟩|decide)⟩
    ·exact ⟨i+1,g,by omega,rfl,by omega,by omega,hg,hgm,stop fun h=>by omega⟩
    ·((simp only [vM] at *;omega))
 ·have e0:Sort.insertionSort ltT d 0 b=e:=by
   rw [← hI,Sort.insOuter,if_neg (by omega)]
  rw [e0]
  refine ⟨trivial,_,[(0,0)],[],rfl,.inl (by (repeat' first|exact rfl|refine ⟨_,rfl,?_⟩)),⟨by rfl,by rfl,by rfl,trivial,by (repeat' first|exact trivial|exact rfl|refine And.intro ?_ ?_|refine ⟨_,rfl,?_⟩|exact of_decide_eq_true rfl)⟩,by (repeat' first|exact trivial|exact rfl|refine And.intro ?_ ?_)⟩
theorem zyK (d:Array Tup) (hd : ∀ x∈d.toList,Sml x) (h12:d.size≤12) (l:Nat) :
  Fn Tryz.prog T zbf [.own 0,.d (.int .i64 0),.d (.int .i64 (d.size:Int)),.d (.int .i64 (l:Int)),.d (.fn zM [])] [zfY d] (.tup []) [some (zfY (Sort.pdq ltT d 0 d.size l true true))]:=by
 have hR:Sort.pdq ltT d 0 d.size l true true=Sort.insertionSort ltT d 0 d.size:=by rw [Sort.pdq,if_pos (by omega)]
 rw [hR]
 refine zaq zy zdz (by show 5≤148;decide) _ (fun e env mem n h=>h) ?_
 (repeat' ((conv=>whnf);refine vT ?_));all_goals try conv=>whnf
 refine zu (fun (u:Unit)=>[(0,.own 0),(1,.d (.int .i64 (0))),(2,.d (.int .i64 ((d.size:Int)))),(3,.d (.int .i64 ((l:Int)))),(4,.d (.fn zM [])),(10,.d (.bool (true))),(11,.d (.bool (true))),(zc,.own 0)]) (fun (u:Unit)=>[(0,some (zfY d))]) 1 (fun (u:Unit)=>True) (fun (u:Unit)=>0) (()) [(0,0)] [] (trivial) (by (refine ⟨rfl,rfl,rfl,?_,?_⟩;repeat' first|exact trivial|exact rfl|exact .inr (.inl ⟨rfl,rfl⟩)|refine And.intro ?_ ?_|refine ⟨_,rfl,?_⟩|decide)) ?_
 rintro u -
 (repeat' ((conv=>whnf);first|refine zg9.but 39 rfl ?_|(refine vF ?_ ?_<;>intro hc<;>try simp only [vL] at hc)|refine vT ?_|(refine vO ?_ ?_;·omega)|fail));all_goals try conv=>whnf
 ·refine zan.objs [0] (zyJ d d.size hd (Nat.le_refl _) (by omega)) (by (repeat' first|exact rfl|refine And.intro ?_ ?_|refine ⟨_,rfl,?_⟩)) (by (repeat' first|exact rfl|refine And.intro ?_ ?_)) (by rfl) (by rfl) (by simp) ?_
  (repeat' ((conv=>whnf);refine vT ?_));all_goals try conv=>whnf
  refine ⟨trivial,_,[(0,0)],[],rfl,.inl (by (repeat' first|exact rfl|refine ⟨_,rfl,?_⟩)),⟨by rfl,by rfl,by rfl,trivial,by (repeat' first|exact trivial|exact rfl|refine And.intro ?_ ?_|refine ⟨_,rfl,?_⟩|exact of_decide_eq_true rfl)⟩,by (repeat' first|exact trivial|exact rfl|refine And.intro ?_ ?_)⟩
 all_goals (exfalso;omega)
theorem zrl (d:Array Tup) (hd : ∀ x∈d.toList,Sml x) (h12:d.size≤12):Fn Tryz.prog T zaz [.own 0,.d (.fn zM [])] [zfY d] (.tup []) [some (zfY (Sort.sort ltT d))]:=by
 have hn:((BitVec.ofInt 64 (d.size:Int)).toNat)=d.size:=by simp;omega
 have hl:(d.toList.map dII).length=d.size:=by simp
 have hp:=zyK (T:=T) d hd h12 (Sort.bitsLen d.size)
 refine zaq zy zbX (by show 2≤14;decide) _ (fun e env mem n h=>h) ?_
 (repeat' ((conv=>whnf);first|refine vJ fun hg=>?_|refine vT ?_|refine yD (zrk _) ⟨⟨rfl,rfl⟩,rfl⟩ rfl ?_));all_goals try conv=>whnf
 have e1:((d.toList.map dII).length:Int)=(d.size:Int):=by rw [hl]
 have e2:(Sort.bitsLen (BitVec.ofInt 64 ((d.toList.map dII).length:Int)).toNat:Int)=(Sort.bitsLen d.size:Int):=by rw [hl,hn]
 rw [← e1,← e2] at hp
 refine zan.objs [0] (hp) (by (repeat' first|exact rfl|refine And.intro ?_ ?_|refine ⟨_,rfl,?_⟩)) (by (repeat' first|exact rfl|refine And.intro ?_ ?_)) (by rfl) (by rfl) (by simp) ?_
 (repeat' ((conv=>whnf);refine vT ?_));all_goals try conv=>whnf
 refine ⟨trivial,_,[(0,0)],[],rfl,.inl (by (repeat' first|exact rfl|refine ⟨_,rfl,?_⟩)),⟨by rfl,by rfl,by rfl,trivial,by (repeat' first|exact trivial|exact rfl|refine And.intro ?_ ?_|refine ⟨_,rfl,?_⟩|exact of_decide_eq_true rfl)⟩,by (repeat' first|exact trivial|exact rfl|refine And.intro ?_ ?_)⟩
end Go.Ab
