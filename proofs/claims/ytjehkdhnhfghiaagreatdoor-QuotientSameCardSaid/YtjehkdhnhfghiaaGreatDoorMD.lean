/- A part of the proofs of this seat: functions and their contracts. -/
import Derived.Test.YtjehkdhnhfghiaaGreatDoorMC
import Derived.Test.YtjehkdhnhfghiaaGreatDoorProg
import Derived.Lib.TrailingZeros
import Derived.Sort.AssemblyPlain
set_option linter.unusedVariables false
set_option linter.unusedSimpArgs false
set_option linter.unusedSectionVars false
namespace Go.Ab.K
open Go
abbrev t:=Arg.t
abbrev c:=Arg.c
abbrev n (x:Int):V := .d (.int .i64 x)
abbrev u (x:BitVec 64):V := .d (.u64 x)
abbrev m (x:Nat):CO := .mv (.t x)
abbrev pf (x y:Nat):CO := .pick (.t x) (.t y) (.c .bf)
abbrev pt (x y:Nat):CO := .pick (.t x) (.c .bt) (.t y)
abbrev b (o:BinOp) (x y:Nat):CO := .bin o (.t x) (.t y)
abbrev bc (o:BinOp) (x:Nat) (y:V):CO := .bin o (.t x) (.c y)
abbrev l (x:Nat):CO := .load none (.t x)
abbrev la (k x:Nat):CO := .load (some k) (.t x)
abbrev f (o x:Nat):CO := .faddr o (.t x)
abbrev ia (s x i:Nat):CO := .iaddr s (.t x) (.t i)
abbrev e (x k:Nat):CO := .ext (.t x) k
abbrev ln (x:Nat):CO := .len (.t x)
abbrev o (d:Nat) (x:CO):COp:=⟨some d,none,x⟩
abbrev w (x:CO):COp:=⟨none,none,x⟩
abbrev g (d k:Nat) (v:Bool) (x:CO):COp:=⟨some d,some (k,v),x⟩
abbrev gw (k:Nat) (v:Bool) (x:CO):COp:=⟨none,some (k,v),x⟩
abbrev i (x:Nat) (p r:CC):CC := .cond (.t x) p r
def q:List CC→CC
 | [] => .skip
 | [x]=>x
 | x::y::r => .seq x (q (y::r))
end Go.Ab.K
namespace Go.Ab
open Go K
def zg4:Nat:=13
def zfl:Nat:=14
def zj1:Nat:=15
def zj0:Nat:=16
def zgk:Nat:=18
def zdA:Nat:=21
def zdQ:Nat:=22
def ze2:Nat:=23
def zgl:Nat:=24
def zdX:Nat:=25
def zeT:Nat:=26
def zg1:Nat:=27
def zf1:Nat:=30
def zg2:Nat:=31
def zfe:Nat:=32
def zem:Nat:=33
def zfd:Nat:=34
def zi1:Nat:=35
def zgp:Nat:=36
def zi0:Nat:=41
def zbn:Nat:=42
def zd5:Nat:=43
def zf0:Nat:=44
def zdx:Nat:=46
def zjo:Nat:=51
def ze1:Nat:=53
def zfm:Nat:=54
def zhr:Nat:=55
def zei:Nat:=56
def zhs:Nat:=57
def zf4:Nat:=58
def zdC:Nat:=59
def zf5:Nat:=60
def zeU:Nat:=61
def zeR:Nat:=62
def zeS:Nat:=63
def zhp:Nat:=65
def ziW:Nat:=66
def zfZ:Nat:=71
def zhq:Nat:=72
def zid:Nat:=73
def zek:Nat:=74
def zeQ:Nat:=75
def zel:Nat:=76
def zmM:Nat:=77
def zbC:Nat:=82
def zc3:Nat:=83
def zor:Nat:=84
def zbI:Nat:=85
def zmN:Nat:=86
def zjZ:Nat:=87
def zb9:Nat:=90
def zeP:Nat:=92
def za2:Nat:=93
def zfG:Nat:=94
def zg5:Nat:=95
def zht:Nat:=96
def zfK:Nat:=97
def zf6:Nat:=98
def zc2:Nat:=99
def zaW:Nat:=100
def zhn:Nat:=105
def ziZ:Nat:=106
def zg3:Nat:=107
def ze9:Nat:=108
def zgm:Nat:=109
def zfb:Nat:=110
def zfI:Nat:=111
def zfF:Nat:=112
def zcC:Nat:=113
def zav:Nat:=114
def zda:Nat:=115
def zbX:Nat:=120
def zjY:Nat:=121
def zeh:Nat:=122
def zho:Nat:=124
def ze0:Nat:=126
def zdb:Nat:=127
def zd4:Nat:=128
def zdc:Nat:=129
def ze7:Nat:=130
def zf3:Nat:=131
def zch:Nat:=138
def zfa:Nat:=139
def zgo:Nat:=140
def zdD:Nat:=141
def zf2:Nat:=142
def ze8:Nat:=143
def zdy:Nat:=152
def zc4:Nat:=153
def zdz:Nat:=154
def ziX:Nat:=155
def zgZ:Nat:=156
def zfs:Nat:=157
def zaT:Nat:=158
def ziY:Nat:=164
def zfc:Nat:=168
def zej:Nat:=169
def zfJ:Nat:=172
def zfH:Nat:=173
def zfE:Nat:=174
def zg0:Nat:=183
def zc0:Nat:=184
def zae:Nat:=185
def zaH:Nat:=186
def zS:Nat:=187
def zE:Nat:=188
def zcB:Nat:=189
def zZ:Nat:=190
def zfr:Nat:=196
def zgn:Nat:=197
def zdB:Nat:=198
def zbo:Nat:=208
def zeg:Nat:=209
def zbH:Nat:=210
def zeO:Nat:=211
def zbG:Nat:=212
def zaX:Nat:=218
def zmz:CFn:=⟨41,[.tmp 4],(q [(.reg [o 2 (.box 3 (t 0)),o 4 (.mv (c .bf))]),
 (q [(.reg [o 6 (f 0 2),o 7 (l 6),o 8 (m 1),o 9 (b .gtr 7 8),o 10 (m 9),g 11 10 true (f 0 2),g 12 10 true (l 11),g 13 10 true (bc .leq 12 (n 64)),o 14 (pf 10 13),o 15 (m 14),g 16 15 false (f 1 2),g 17 15 false (l 16),g 18 15 false (ln 17),g 19 15 false (bc .gtr 18 (n 20)),o 20 (pt 15 19),o 21 (m 20),g 22 21 false (f 2 2),g 23 21 false (l 22),g 24 21 false (ln 23),g 25 21 false (bc .gtr 24 (n 10)),o 26 (pt 21 25)]),
 (i 26 (q [(.reg [o 4 (.mv (c .bf))]),
 .ret]) .skip)]),
 (q [(.reg [o 5 (.mv (c (n 0)))]),
 (.block 0 (.loop (q [(q [(.reg [o 27 (m 5),o 28 (f 2 2),o 29 (l 28),o 30 (ln 29),o 31 (b .lss 27 30)]),
 (i 31 .skip (.exit 0))]),
 (.block 1 (q [(.reg [o 34 (f 2 2),o 35 (l 34),o 36 (m 5),o 37 (ia 1 35 36),o 38 (l 37),o 39 (ln 38),o 40 (bc .gtr 39 (n 70))]),
 (i 40 (q [(.reg [o 4 (.mv (c .bf))]),
 .ret]) .skip)])),
 (.reg [o 32 (m 5),o 33 (bc .add 32 (n 1)),o 5 (m 33)])])))]),
 (.reg [o 4 (.mv (c .bt))]),
 .ret])⟩
def zsO:CFn:=⟨47,[.tmp 2],(q [(.reg [o 1 (.box 3 (t 0)),o 2 (.mv (c (n 0)))]),
 (q [(.reg [o 5 (f 0 1),o 6 (l 5),o 7 (bc .lss 6 (n 1)),o 8 (m 7),g 9 8 false (f 0 1),g 10 8 false (l 9),g 11 8 false (bc .gtr 10 (n 64)),o 12 (pt 8 11)]),
 (i 12 (q [(.reg [o 2 (.mv (c (n 2)))]),
 .ret]) .skip)]),
 (q [(.reg [o 13 (f 2 1),o 14 (l 13),o 15 (ln 14),o 16 (bc .gtr 15 (n 4)),o 17 (m 16),g 18 17 false (f 1 1),g 19 17 false (l 18),g 20 17 false (ln 19),g 21 17 false (bc .gtr 20 (n 8)),o 22 (pt 17 21)]),
 (i 22 (q [(.reg [o 2 (.mv (c (n 8)))]),
 .ret]) .skip)]),
 (q [(.reg [o 23 (f 2 1),o 24 (l 23),o 25 (ln 24),o 26 (.mv (c (n 0)))]),
 (.block 0 (.loop (q [(.reg [o 27 (b .lss 26 25)]),
 (i 27 .skip (.exit 0)),
 (.block 1 (q [(.reg [o 28 (ia 1 24 26),o 29 (l 28),o 4 (m 29)]),
 (.reg [o 30 (m 4),o 31 (ln 30),o 32 (f 0 1),o 33 (l 32),o 34 (b .neq 31 33)]),
 (i 34 (q [(.reg [o 2 (.mv (c (n 3)))]),
 .ret]) .skip)])),
 (.reg [o 35 (bc .add 26 (n 1)),o 26 (m 35)])])))]),
 (q [(.reg [o 36 (f 1 1),o 37 (l 36),o 38 (f 0 1),o 39 (l 38),o 40 (.call 41 [(t 37),(t 39)]),o 41 (m 40),g 42 41 false (f 2 1),g 43 41 false (l 42),g 44 41 false (.fnew zd5 [(t 1)]),g 45 41 false (.call 42 [(t 43),(t 44)]),o 46 (pt 41 45)]),
 (i 46 (q [(.reg [o 2 (.mv (c (n 2)))]),
 .ret]) .skip)]),
 (.reg [o 2 (.mv (c (n 0)))]),
 .ret])⟩
def zrg:CFn:=⟨61,[.cell 4 (some 3),.tmp 5],(q [(.reg [o 2 (.box 3 (t 0)),o 4 (.alloc [(n 0),(.nils 1),(.nils 1)]),o 5 (.mv (c (n 0)))]),
 (q [(.reg [o 11 (la 3 2),o 12 (.call 14 [(t 11)]),o 6 (m 12)]),
 (.reg [o 13 (m 6),o 14 (bc .neq 13 (n 0))]),
 (i 14 (q [(.reg [o 15 (.build [(n 0),(.nils 1),(.nils 1)] []),o 16 (m 6),w (.store 3 (t 4) (t 15)),o 5 (m 16)]),
 .ret]) .skip)]),
 (q [(.reg [o 17 (m 1),o 18 (ln 17),o 19 (f 0 2),o 20 (l 19),o 21 (b .neq 18 20)]),
 (i 21 (q [(.reg [o 22 (.build [(n 0),(.nils 1),(.nils 1)] []),w (.store 3 (t 4) (t 22)),o 5 (.mv (c (n 1)))]),
 .ret]) .skip)]),
 (.reg [o 23 (m 1),o 24 (ln 23),o 25 (.mkslice 1 8 [(n 0)] (t 24) (t 24)),o 7 (m 25)]),
 (.reg [o 8 (.mv (c (u 0)))]),
 (q [(.reg [o 26 (m 1),o 27 (ln 26),o 28 (.mv (c (n 0)))]),
 (.block 0 (.loop (q [(.reg [o 29 (b .lss 28 27)]),
 (i 29 .skip (.exit 0)),
 (.block 1 (q [(.reg [o 30 (m 28),o 31 (ia 1 26 28),o 32 (l 31),o 9 (m 30),o 10 (m 32)]),
 (q [(.reg [o 33 (m 10),o 34 (bc .lss 33 (n 0)),o 35 (m 34),g 36 35 false (m 10),g 37 35 false (m 1),g 38 35 false (ln 37),g 39 35 false (b .geq 36 38),o 40 (pt 35 39),o 41 (m 40),g 42 41 false (m 8),g 43 41 false (m 10),g 44 41 false (b .shr 42 43),g 45 41 false (bc .and 44 (u 1)),g 46 41 false (bc .eql 45 (u 1)),o 47 (pt 41 46)]),
 (i 47 (q [(.reg [o 48 (.build [(n 0),(.nils 1),(.nils 1)] []),w (.store 3 (t 4) (t 48)),o 5 (.mv (c (n 1)))]),
 .ret]) .skip)]),
 (.reg [o 49 (m 8),o 50 (m 10),o 51 (.bin .shl (c (u 1)) (t 50)),o 52 (b .or 49 51),o 8 (m 52)]),
 (.reg [o 53 (m 7),o 54 (m 10),o 55 (m 9),o 56 (ia 1 53 54),w (.store 1 (t 56) (t 55))])])),
 (.reg [o 57 (bc .add 28 (n 1)),o 28 (m 57)])])))]),
 (.reg [o 58 (la 3 2),o 59 (m 7),o 60 (.call 44 [(t 58),(t 59)]),w (.store 3 (t 4) (t 60)),o 5 (.mv (c (n 0)))]),
 .ret])⟩
def zl4:CFn:=⟨22,[.cell 2 (some 3),.tmp 3,.tmp 4],(q [(.reg [o 1 (.box 3 (t 0)),o 2 (.alloc [(n 0),(.nils 1),(.nils 1)]),o 3 (.mv (c (.nils 1))),o 4 (.mv (c (n 0)))]),
 (.reg [o 8 (la 3 1),o 9 (.call 46 [(t 8)]),o 7 (m 9),o 10 (e 7 0),o 11 (e 7 1),o 5 (m 10),o 6 (m 11)]),
 (q [(.reg [o 12 (m 6),o 13 (bc .neq 12 (n 0))]),
 (i 13 (q [(.reg [o 14 (.build [(n 0),(.nils 1),(.nils 1)] []),o 15 (m 6),w (.store 3 (t 2) (t 14)),o 3 (.mv (c (.nils 1))),o 4 (m 15)]),
 .ret]) .skip)]),
 (.reg [o 16 (la 3 1),o 17 (m 5),o 18 (.call 22 [(t 16),(t 17)]),o 19 (e 18 0),o 20 (e 18 1),o 21 (e 18 2),w (.store 3 (t 2) (t 19)),o 3 (m 20),o 4 (m 21)]),
 .ret])⟩
def zsQ:CFn:=⟨134,[.cell 4 (some 3),.tmp 5,.tmp 6],(q [(.reg [o 2 (.box 3 (t 0)),o 4 (.alloc [(n 0),(.nils 1),(.nils 1)]),o 5 (.mv (c (.nils 1))),o 6 (.mv (c (n 0)))]),
 (q [(.reg [o 23 (la 3 2),o 24 (.call 14 [(t 23)]),o 7 (m 24)]),
 (.reg [o 25 (m 7),o 26 (bc .neq 25 (n 0))]),
 (i 26 (q [(.reg [o 27 (.build [(n 0),(.nils 1),(.nils 1)] []),o 28 (m 7),w (.store 3 (t 4) (t 27)),o 5 (.mv (c (.nils 1))),o 6 (m 28)]),
 .ret]) .skip)]),
 (q [(.reg [o 29 (m 1),o 30 (.call 53 [(t 29)]),o 8 (m 30)]),
 (.reg [o 31 (m 8),o 32 (bc .neq 31 (n 0))]),
 (i 32 (q [(.reg [o 33 (.build [(n 0),(.nils 1),(.nils 1)] []),o 34 (m 8),w (.store 3 (t 4) (t 33)),o 5 (.mv (c (.nils 1))),o 6 (m 34)]),
 .ret]) .skip)]),
 (q [(.reg [o 35 (m 1),o 36 (ln 35),o 37 (f 0 2),o 38 (l 37),o 39 (b .neq 36 38)]),
 (i 39 (q [(.reg [o 40 (.build [(n 0),(.nils 1),(.nils 1)] []),w (.store 3 (t 4) (t 40)),o 5 (.mv (c (.nils 1))),o 6 (.mv (c (n 3)))]),
 .ret]) .skip)]),
 (q [(.reg [o 41 (m 1),o 42 (ln 41),o 43 (.mv (c (n 0)))]),
 (.block 0 (.loop (q [(.reg [o 44 (b .lss 43 42)]),
 (i 44 .skip (.exit 0)),
 (.block 1 (q [(.reg [o 45 (m 43),o 46 (ia 1 41 43),o 47 (l 46),o 9 (m 45),o 10 (m 47)]),
 (.regd [o 48 (la 3 2),o 49 (m 9),o 50 (.call 54 [(t 48),(t 49)]),o 51 (la 3 2),o 52 (m 10),o 53 (.call 54 [(t 51),(t 52)]),o 54 (b .neq 50 53)] [0,0,3,0,0,31,63]),
 (i 54 (q [(.reg [o 55 (.build [(n 0),(.nils 1),(.nils 1)] []),w (.store 3 (t 4) (t 55)),o 5 (.mv (c (.nils 1))),o 6 (.mv (c (n 1)))]),
 .ret]) .skip)])),
 (.reg [o 56 (bc .add 43 (n 1)),o 43 (m 56)])])))]),
 (.reg [o 57 (m 1),o 58 (.call 55 [(t 57)]),o 11 (m 58)]),
 (.reg [o 59 (m 1),o 60 (ln 59),o 61 (.mkslice 1 8 [(n 0)] (t 60) (t 60)),o 12 (m 61)]),
 (q [(.reg [o 62 (m 1),o 63 (ln 62),o 64 (.mv (c (n 0)))]),
 (.block 2 (.loop (q [(.reg [o 65 (b .lss 64 63)]),
 (i 65 .skip (.exit 2)),
 (.block 3 (q [(.reg [o 66 (m 64),o 67 (ia 1 62 64),o 68 (l 67),o 13 (m 66),o 14 (m 68)]),
 (.reg [o 69 (m 12),o 70 (m 13),o 71 (m 11),o 72 (m 14),o 73 (.call 56 [(t 71),(t 72)]),o 74 (ia 1 69 70),w (.store 1 (t 74) (t 73))])])),
 (.reg [o 75 (bc .add 64 (n 1)),o 64 (m 75)])])))]),
 (.reg [o 76 (m 11),o 77 (ln 76),o 78 (.build [(n 0),(.nils 1),(.nils 1)] [(0,1,(t 77))]),o 15 (.alloc [(n 0),(.nils 1),(.nils 1)]),w (.store 3 (t 15) (t 78))]),
 (q [(.reg [o 79 (f 1 2),o 80 (l 79),o 81 (ln 80),o 82 (.mv (c (n 0)))]),
 (.block 4 (.loop (q [(.reg [o 83 (b .lss 82 81)]),
 (i 83 .skip (.exit 4)),
 (.block 5 (q [(.reg [o 84 (ia 1 80 82),o 85 (l 84),o 17 (m 85)]),
 (.regd [o 86 (f 1 15),o 87 (l 86),o 88 (m 17),o 89 (m 12),o 90 (.call 57 [(t 88),(t 89)]),o 91 (.bslice 1 1 [(u 0)] [(0,(t 90))]),o 92 (.app 1 8 (t 87) (t 91)),o 93 (f 1 15),w (.store 1 (t 93) (t 92))] [0,1,0,0,12,28,63,127,255])])),
 (.reg [o 94 (bc .add 82 (n 1)),o 82 (m 94)])])))]),
 (q [(.reg [o 95 (f 2 2),o 96 (l 95),o 97 (ln 96),o 98 (.mv (c (n 0)))]),
 (.block 6 (.loop (q [(.reg [o 99 (b .lss 98 97)]),
 (i 99 .skip (.exit 6)),
 (.block 7 (q [(.reg [o 100 (ia 1 96 98),o 101 (l 100),o 19 (m 101)]),
 (.reg [o 102 (m 11),o 103 (ln 102),o 104 (.mkslice 1 8 [(u 0)] (t 103) (t 103)),o 20 (m 104)]),
 (q [(.reg [o 105 (m 19),o 106 (ln 105),o 107 (.mv (c (n 0)))]),
 (.block 8 (.loop (q [(.reg [o 108 (b .lss 107 106)]),
 (i 108 .skip (.exit 8)),
 (.block 9 (q [(.reg [o 109 (m 107),o 110 (ia 1 105 107),o 111 (l 110),o 21 (m 109),o 22 (m 111)]),
 (.regd [o 112 (m 20),o 113 (m 12),o 114 (m 21),o 115 (ia 1 113 114),o 116 (l 115),o 117 (ia 1 112 116),o 118 (l 117),o 119 (m 22),o 120 (m 12),o 121 (.call 57 [(t 119),(t 120)]),o 122 (b .or 118 121),o 123 (ia 1 112 116),w (.store 1 (t 123) (t 122))] [0,0,0,6,14,31,63,0,0,384,1023,2047,4095])])),
 (.reg [o 124 (bc .add 107 (n 1)),o 107 (m 124)])])))]),
 (.reg [o 125 (f 2 15),o 126 (l 125),o 127 (m 20),o 128 (.bslice 1 1 [(.nils 1)] [(0,(t 127))]),o 129 (.app 1 24 (t 126) (t 128)),o 130 (f 2 15),w (.store 1 (t 130) (t 129))])])),
 (.reg [o 131 (bc .add 98 (n 1)),o 98 (m 131)])])))]),
 (.reg [o 132 (la 3 15),o 133 (m 12),w (.store 3 (t 4) (t 132)),o 5 (m 133),o 6 (.mv (c (n 0)))]),
 .ret])⟩
def zn9:CFn:=⟨55,[.cell 4 (some 3),.tmp 5,.tmp 6],(q [(.reg [o 2 (.box 3 (t 0)),o 4 (.alloc [(n 0),(.nils 1),(.nils 1)]),o 5 (.mv (c (.nils 1))),o 6 (.mv (c (n 0)))]),
 (q [(.reg [o 12 (la 3 2),o 13 (.call 58 [(t 12)]),o 7 (m 13)]),
 (.reg [o 14 (m 7),o 15 (bc .neq 14 (n 0))]),
 (i 15 (q [(.reg [o 16 (.build [(n 0),(.nils 1),(.nils 1)] []),o 17 (m 7),w (.store 3 (t 4) (t 16)),o 5 (.mv (c (.nils 1))),o 6 (m 17)]),
 .ret]) .skip)]),
 (q [(.reg [o 18 (m 1),o 19 (.call 59 [(t 18)]),o 8 (m 19)]),
 (.reg [o 20 (m 8),o 21 (bc .neq 20 (n 0))]),
 (i 21 (q [(.reg [o 22 (.build [(n 0),(.nils 1),(.nils 1)] []),o 23 (m 8),w (.store 3 (t 4) (t 22)),o 5 (.mv (c (.nils 1))),o 6 (m 23)]),
 .ret]) .skip)]),
 (q [(.reg [o 24 (m 1),o 25 (ln 24),o 26 (f 0 2),o 27 (l 26),o 28 (b .neq 25 27)]),
 (i 28 (q [(.reg [o 29 (.build [(n 0),(.nils 1),(.nils 1)] []),w (.store 3 (t 4) (t 29)),o 5 (.mv (c (.nils 1))),o 6 (.mv (c (n 3)))]),
 .ret]) .skip)]),
 (q [(.reg [o 9 (.mv (c (n 0)))]),
 (.block 0 (.loop (q [(q [(.reg [o 30 (m 9),o 31 (f 0 2),o 32 (l 31),o 33 (b .lss 30 32)]),
 (i 33 .skip (.exit 0))]),
 (.block 1 (q [(.regd [o 36 (la 3 2),o 37 (m 9),o 38 (.call 60 [(t 36),(t 37)]),o 39 (la 3 2),o 40 (m 1),o 41 (m 9),o 42 (ia 1 40 41),o 43 (l 42),o 44 (.call 60 [(t 39),(t 43)]),o 45 (b .neq 38 44)] [0,0,3,0,0,0,48,112,255,511]),
 (i 45 (q [(.reg [o 46 (.build [(n 0),(.nils 1),(.nils 1)] []),w (.store 3 (t 4) (t 46)),o 5 (.mv (c (.nils 1))),o 6 (.mv (c (n 1)))]),
 .ret]) .skip)])),
 (.reg [o 34 (m 9),o 35 (bc .add 34 (n 1)),o 9 (m 35)])])))]),
 (.reg [o 48 (la 3 2),o 49 (m 1),o 50 (.call 61 [(t 48),(t 49)]),o 47 (m 50),o 51 (e 47 0),o 52 (e 47 1),o 10 (.alloc [(n 0),(.nils 1),(.nils 1)]),w (.store 3 (t 10) (t 51)),o 11 (m 52)]),
 (.reg [o 53 (la 3 10),o 54 (m 11),w (.store 3 (t 4) (t 53)),o 5 (m 54),o 6 (.mv (c (n 0)))]),
 .ret])⟩
def zl6:CFn:=⟨47,[.tmp 4],(q [(.reg [o 2 (.box 3 (t 0)),o 3 (.box 3 (t 1)),o 4 (.mv (c .bf))]),
 (q [(.reg [o 6 (f 0 2),o 7 (l 6),o 8 (f 0 3),o 9 (l 8),o 10 (b .neq 7 9),o 11 (m 10),g 12 11 false (f 1 2),g 13 11 false (l 12),g 14 11 false (f 1 3),g 15 11 false (l 14),g 16 11 false (.call 62 [(t 13),(t 15)]),g 17 11 false (.un .not (t 16)),o 18 (pt 11 17),o 19 (m 18),g 20 19 false (f 2 2),g 21 19 false (l 20),g 22 19 false (ln 21),g 23 19 false (f 2 3),g 24 19 false (l 23),g 25 19 false (ln 24),g 26 19 false (b .neq 22 25),o 27 (pt 19 26)]),
 (i 27 (q [(.reg [o 4 (.mv (c .bf))]),
 .ret]) .skip)]),
 (q [(.reg [o 5 (.mv (c (n 0)))]),
 (.block 0 (.loop (q [(q [(.reg [o 28 (m 5),o 29 (f 2 2),o 30 (l 29),o 31 (ln 30),o 32 (b .lss 28 31)]),
 (i 32 .skip (.exit 0))]),
 (.block 1 (q [(.regd [o 35 (f 2 2),o 36 (l 35),o 37 (m 5),o 38 (ia 1 36 37),o 39 (l 38),o 40 (f 2 3),o 41 (l 40),o 42 (m 5),o 43 (ia 1 41 42),o 44 (l 43),o 45 (.call 62 [(t 39),(t 44)]),o 46 (.un .not (t 45))] [0,1,0,7,15,0,32,0,224,480,1023,2047]),
 (i 46 (q [(.reg [o 4 (.mv (c .bf))]),
 .ret]) .skip)])),
 (.reg [o 33 (m 5),o 34 (bc .add 33 (n 1)),o 5 (m 34)])])))]),
 (.reg [o 4 (.mv (c .bt))]),
 .ret])⟩
def zl5:CFn:=⟨26,[.tmp 4],(q [(.reg [o 4 (.mv (c .bf))]),
 (q [(.reg [o 6 (m 0),o 7 (ln 6),o 8 (m 1),o 9 (ln 8),o 10 (b .neq 7 9)]),
 (i 10 (q [(.reg [o 4 (.mv (c .bf))]),
 .ret]) .skip)]),
 (q [(.reg [o 11 (m 0),o 12 (ln 11),o 13 (.mv (c (n 0)))]),
 (.block 0 (.loop (q [(.reg [o 14 (b .lss 13 12)]),
 (i 14 .skip (.exit 0)),
 (.block 1 (q [(.reg [o 15 (m 13),o 5 (m 15)]),
 (.regd [o 16 (m 0),o 17 (m 5),o 18 (ia 1 16 17),o 19 (l 18),o 20 (m 1),o 21 (m 5),o 22 (ia 1 20 21),o 23 (l 22),o 24 (b .neq 19 23)] [0,0,3,7,0,0,48,112,255]),
 (i 24 (q [(.reg [o 4 (.mv (c .bf))]),
 .ret]) .skip)])),
 (.reg [o 25 (bc .add 13 (n 1)),o 13 (m 25)])])))]),
 (.reg [o 4 (.mv (c .bt))]),
 .ret])⟩
def ziL:CFn:=⟨26,[.cell 2 (some 3),.tmp 3,.tmp 4],(q [(.reg [o 1 (.box 3 (t 0)),o 2 (.alloc [(n 0),(.nils 1),(.nils 1)]),o 3 (.mv (c (.nils 1))),o 4 (.mv (c (n 0)))]),
 (.reg [o 10 (la 3 1),o 11 (.call 63 [(t 10)]),o 9 (m 11),o 12 (e 9 0),o 13 (e 9 1),o 5 (m 12),o 6 (m 13)]),
 (q [(.reg [o 14 (m 6),o 15 (bc .neq 14 (n 0))]),
 (i 15 (q [(.reg [o 16 (.build [(n 0),(.nils 1),(.nils 1)] []),o 17 (m 6),w (.store 3 (t 2) (t 16)),o 3 (.mv (c (.nils 1))),o 4 (m 17)]),
 .ret]) .skip)]),
 (.reg [o 19 (la 3 1),o 20 (m 5),o 21 (.call 61 [(t 19),(t 20)]),o 18 (m 21),o 22 (e 18 0),o 23 (e 18 1),o 7 (.alloc [(n 0),(.nils 1),(.nils 1)]),w (.store 3 (t 7) (t 22)),o 8 (m 23)]),
 (.reg [o 24 (la 3 7),o 25 (m 8),w (.store 3 (t 2) (t 24)),o 3 (m 25),o 4 (.mv (c (n 0)))]),
 .ret])⟩
def zmw:CFn:=⟨20,[.tmp 2],(q [(.reg [o 1 (.box 3 (t 0)),o 2 (.mv (c .bf))]),
 (.reg [o 6 (la 3 1),o 7 (.call 46 [(t 6)]),o 5 (m 7),o 8 (e 5 0),o 9 (e 5 1),o 3 (m 8),o 4 (m 9)]),
 (.regd [o 10 (m 4),o 11 (bc .eql 10 (n 0)),o 12 (m 11),g 13 12 true (m 3),g 14 12 true (.call 55 [(t 13)]),g 15 12 true (ln 14),g 16 12 true (f 0 1),g 17 12 true (l 16),g 18 12 true (b .eql 15 17),o 19 (pf 12 18),o 2 (m 19)] [0,1,3,7,15,31,7,71,255,511,1023]),
 .ret])⟩
def zkW:CFn:=⟨31,[.cell 4 (some 3),.tmp 5],(q [(.reg [o 2 (.box 3 (t 0)),o 4 (.alloc [(n 0),(.nils 1),(.nils 1)]),o 5 (.mv (c (n 0)))]),
 (.reg [o 12 (la 3 2),o 13 (m 1),o 14 (.call 31 [(t 12),(t 13)]),o 11 (m 14),o 15 (e 11 0),o 16 (e 11 1),o 17 (e 11 2),o 6 (.alloc [(n 0),(.nils 1),(.nils 1)]),w (.store 3 (t 6) (t 15)),o 7 (m 16),o 8 (m 17)]),
 (q [(.reg [o 18 (m 8),o 19 (bc .neq 18 (n 0))]),
 (i 19 (q [(.reg [o 20 (.build [(n 0),(.nils 1),(.nils 1)] []),o 21 (m 8),w (.store 3 (t 4) (t 20)),o 5 (m 21)]),
 .ret]) .skip)]),
 (.reg [o 23 (la 3 6),o 24 (m 7),o 25 (.call 71 [(t 23),(t 24)]),o 22 (m 25),o 26 (e 22 0),o 27 (e 22 1),o 28 (e 22 2),o 9 (.alloc [(n 0),(.nils 1),(.nils 1)]),w (.store 3 (t 9) (t 26)),o 10 (m 27),o 8 (m 28)]),
 (.reg [o 29 (la 3 9),o 30 (m 8),w (.store 3 (t 4) (t 29)),o 5 (m 30)]),
 .ret])⟩
def zmx:CFn:=⟨62,[.cell 4 (some 3),.tmp 5,.tmp 6],(q [(.reg [o 2 (.box 3 (t 0)),o 4 (.alloc [(n 0),(.nils 1),(.nils 1)]),o 5 (.mv (c (n 0))),o 6 (.mv (c (n 0)))]),
 (q [(.reg [o 16 (la 3 2),o 17 (.call 14 [(t 16)]),o 7 (m 17)]),
 (.reg [o 18 (m 7),o 19 (bc .neq 18 (n 0))]),
 (i 19 (q [(.reg [o 20 (.build [(n 0),(.nils 1),(.nils 1)] []),o 21 (m 7),w (.store 3 (t 4) (t 20)),o 5 (.mv (c (n 0))),o 6 (m 21)]),
 .ret]) .skip)]),
 (q [(.reg [o 22 (m 1),o 23 (bc .lss 22 (n 0)),o 24 (m 23),g 25 24 false (m 1),g 26 24 false (f 0 2),g 27 24 false (l 26),g 28 24 false (b .geq 25 27),o 29 (pt 24 28)]),
 (i 29 (q [(.reg [o 30 (.build [(n 0),(.nils 1),(.nils 1)] []),w (.store 3 (t 4) (t 30)),o 5 (.mv (c (n 0))),o 6 (.mv (c (n 2)))]),
 .ret]) .skip)]),
 (.regd [o 32 (la 3 2),o 33 (m 1),o 34 (.bin .shl (c (u 1)) (t 33)),o 35 (.call 72 [(t 32),(t 34)]),o 31 (m 35),o 36 (e 31 0),o 37 (e 31 1),o 8 (m 36),o 9 (m 37)] [0,0,2,7,15,31,31,63,255]),
 (.reg [o 39 (la 3 2),o 40 (m 8),o 41 (.call 73 [(t 39),(t 40)]),o 38 (m 41),o 42 (e 38 0),o 43 (e 38 1),o 44 (e 38 2),o 10 (.alloc [(n 0),(.nils 1),(.nils 1)]),w (.store 3 (t 10) (t 42)),o 11 (m 43),o 12 (m 44)]),
 (.reg [o 46 (la 3 10),o 47 (.call 18 [(t 46)]),o 45 (m 47),o 48 (e 45 0),o 49 (e 45 1),o 50 (e 45 2),o 13 (.alloc [(n 0),(.nils 1),(.nils 1)]),w (.store 3 (t 13) (t 48)),o 14 (m 49),o 15 (m 50)]),
 (q [(.reg [o 51 (m 15),o 52 (bc .neq 51 (n 0))]),
 (i 52 (q [(.reg [o 53 (.build [(n 0),(.nils 1),(.nils 1)] []),o 54 (m 15),w (.store 3 (t 4) (t 53)),o 5 (.mv (c (n 0))),o 6 (m 54)]),
 .ret]) .skip)]),
 (.regd [o 55 (la 3 13),o 56 (m 14),o 57 (m 11),o 58 (m 1),o 59 (.call 56 [(t 57),(t 58)]),o 60 (ia 1 56 59),o 61 (l 60),w (.store 3 (t 4) (t 55)),o 5 (m 61),o 6 (.mv (c (n 0)))] [0,0,0,0,12,30,62,29,255,511]),
 .ret])⟩
def zjm:CFn:=⟨71,[.cell 4 (some 3),.tmp 5,.tmp 6],(q [(.reg [o 2 (.box 3 (t 0)),o 4 (.alloc [(n 0),(.nils 1),(.nils 1)]),o 5 (.mv (c (n 0))),o 6 (.mv (c (n 0)))]),
 (q [(.reg [o 17 (la 3 2),o 18 (.call 58 [(t 17)]),o 7 (m 18)]),
 (.reg [o 19 (m 7),o 20 (bc .neq 19 (n 0))]),
 (i 20 (q [(.reg [o 21 (.build [(n 0),(.nils 1),(.nils 1)] []),o 22 (m 7),w (.store 3 (t 4) (t 21)),o 5 (.mv (c (n 0))),o 6 (m 22)]),
 .ret]) .skip)]),
 (q [(.reg [o 23 (m 1),o 24 (bc .lss 23 (n 0)),o 25 (m 24),g 26 25 false (m 1),g 27 25 false (f 0 2),g 28 25 false (l 27),g 29 25 false (b .geq 26 28),o 30 (pt 25 29)]),
 (i 30 (q [(.reg [o 31 (.build [(n 0),(.nils 1),(.nils 1)] []),w (.store 3 (t 4) (t 31)),o 5 (.mv (c (n 0))),o 6 (.mv (c (n 2)))]),
 .ret]) .skip)]),
 (.reg [o 33 (la 3 2),o 34 (m 1),o 35 (.conv .u64 (t 34)),o 36 (.bin .shl (c (u 1)) (t 35)),o 37 (.call 74 [(t 33),(t 36)]),o 32 (m 37),o 38 (e 32 0),o 39 (e 32 1),o 8 (m 38),o 9 (m 39)]),
 (.reg [o 41 (la 3 2),o 42 (m 8),o 43 (.call 75 [(t 41),(t 42)]),o 40 (m 43),o 44 (e 40 0),o 45 (e 40 1),o 46 (e 40 2),o 10 (.alloc [(n 0),(.nils 1),(.nils 1)]),w (.store 3 (t 10) (t 44)),o 11 (m 45),o 12 (m 46)]),
 (.reg [o 48 (la 3 10),o 49 (.call 26 [(t 48)]),o 47 (m 49),o 50 (e 47 0),o 51 (e 47 1),o 52 (e 47 2),o 13 (.alloc [(n 0),(.nils 1),(.nils 1)]),w (.store 3 (t 13) (t 50)),o 14 (m 51),o 15 (m 52)]),
 (q [(.reg [o 16 (.mv (c (n 0)))]),
 (.block 0 (.loop (q [(q [(.reg [o 53 (m 16),o 54 (m 11),o 55 (ln 54),o 56 (b .lss 53 55)]),
 (i 56 .skip (.exit 0))]),
 (.block 1 (q [(.reg [o 59 (m 11),o 60 (m 16),o 61 (ia 1 59 60),o 62 (l 61),o 63 (m 1),o 64 (b .eql 62 63)]),
 (i 64 (q [(.regd [o 65 (la 3 13),o 66 (m 14),o 67 (m 16),o 68 (ia 1 66 67),o 69 (l 68),w (.store 3 (t 4) (t 65)),o 5 (m 69),o 6 (.mv (c (n 0)))] [0,0,0,6,14,1,63,127]),
 .ret]) .skip)])),
 (.reg [o 57 (m 16),o 58 (bc .add 57 (n 1)),o 16 (m 58)])])))]),
 (.reg [o 70 (.build [(n 0),(.nils 1),(.nils 1)] []),w (.store 3 (t 4) (t 70)),o 5 (.mv (c (n 0))),o 6 (.mv (c (n 6)))]),
 .ret])⟩
def zh7:CFn:=⟨31,[.cell 4 (some 3),.tmp 5],(q [(.reg [o 2 (.box 3 (t 0)),o 4 (.alloc [(n 0),(.nils 1),(.nils 1)]),o 5 (.mv (c (n 0)))]),
 (.reg [o 12 (la 3 2),o 13 (m 1),o 14 (.call 32 [(t 12),(t 13)]),o 11 (m 14),o 15 (e 11 0),o 16 (e 11 1),o 17 (e 11 2),o 6 (.alloc [(n 0),(.nils 1),(.nils 1)]),w (.store 3 (t 6) (t 15)),o 7 (m 16),o 8 (m 17)]),
 (q [(.reg [o 18 (m 8),o 19 (bc .neq 18 (n 0))]),
 (i 19 (q [(.reg [o 20 (.build [(n 0),(.nils 1),(.nils 1)] []),o 21 (m 8),w (.store 3 (t 4) (t 20)),o 5 (m 21)]),
 .ret]) .skip)]),
 (.reg [o 23 (la 3 6),o 24 (m 7),o 25 (.call 76 [(t 23),(t 24)]),o 22 (m 25),o 26 (e 22 0),o 27 (e 22 1),o 28 (e 22 2),o 9 (.alloc [(n 0),(.nils 1),(.nils 1)]),w (.store 3 (t 9) (t 26)),o 10 (m 27),o 8 (m 28)]),
 (.reg [o 29 (la 3 9),o 30 (m 8),w (.store 3 (t 4) (t 29)),o 5 (m 30)]),
 .ret])⟩
def zjl:CFn:=⟨25,[.tmp 2],(q [(.reg [o 1 (.box 3 (t 0)),o 2 (.mv (c .bf))]),
 (.reg [o 7 (la 3 1),o 8 (.call 63 [(t 7)]),o 6 (m 8),o 9 (e 6 0),o 10 (e 6 1),o 3 (m 9),o 4 (m 10)]),
 (q [(.reg [o 11 (m 4),o 12 (bc .neq 11 (n 0))]),
 (i 12 (q [(.reg [o 2 (.mv (c .bf))]),
 .ret]) .skip)]),
 (q [(.reg [o 5 (.mv (c (n 0)))]),
 (.block 0 (.loop (q [(q [(.reg [o 13 (m 5),o 14 (m 3),o 15 (ln 14),o 16 (b .lss 13 15)]),
 (i 16 .skip (.exit 0))]),
 (.block 1 (q [(.reg [o 19 (m 3),o 20 (m 5),o 21 (ia 1 19 20),o 22 (l 21),o 23 (m 5),o 24 (b .neq 22 23)]),
 (i 24 (q [(.reg [o 2 (.mv (c .bf))]),
 .ret]) .skip)])),
 (.reg [o 17 (m 5),o 18 (bc .add 17 (n 1)),o 5 (m 18)])])))]),
 (.reg [o 2 (.mv (c .bt))]),
 .ret])⟩
def zp7:CFn:=⟨62,[.tmp 8,.tmp 9],(q [(.reg [o 4 (.box 3 (t 0)),o 6 (.box 3 (t 2)),o 8 (.mv (c .bf)),o 9 (.mv (c (n 0)))]),
 (q [(.reg [o 15 (la 3 4),o 16 (.call 14 [(t 15)]),o 10 (m 16)]),
 (.reg [o 17 (m 10),o 18 (bc .neq 17 (n 0))]),
 (i 18 (q [(.reg [o 19 (m 10),o 8 (.mv (c .bf)),o 9 (m 19)]),
 .ret]) .skip)]),
 (q [(.reg [o 20 (la 3 6),o 21 (.call 14 [(t 20)]),o 11 (m 21)]),
 (.reg [o 22 (m 11),o 23 (bc .neq 22 (n 0))]),
 (i 23 (q [(.reg [o 24 (m 11),o 8 (.mv (c .bf)),o 9 (m 24)]),
 .ret]) .skip)]),
 (q [(.reg [o 25 (f 2 4),o 26 (l 25),o 27 (ln 26),o 28 (f 2 6),o 29 (l 28),o 30 (ln 29),o 31 (b .neq 27 30),o 32 (m 31),g 33 32 false (f 1 4),g 34 32 false (l 33),g 35 32 false (ln 34),g 36 32 false (f 1 6),g 37 32 false (l 36),g 38 32 false (ln 37),g 39 32 false (b .neq 35 38),o 40 (pt 32 39)]),
 (i 40 (q [(.reg [o 8 (.mv (c .bf)),o 9 (.mv (c (n 1)))]),
 .ret]) .skip)]),
 (.reg [o 42 (la 3 4),o 43 (m 1),o 44 (.call 30 [(t 42),(t 43)]),o 41 (m 44),o 45 (e 41 0),o 46 (e 41 1),o 12 (.alloc [(n 0),(.nils 1),(.nils 1)]),w (.store 3 (t 12) (t 45)),o 13 (m 46)]),
 (q [(.reg [o 47 (m 13),o 48 (bc .neq 47 (n 0))]),
 (i 48 (q [(.reg [o 49 (m 13),o 8 (.mv (c .bf)),o 9 (m 49)]),
 .ret]) .skip)]),
 (.reg [o 51 (la 3 6),o 52 (m 3),o 53 (.call 30 [(t 51),(t 52)]),o 50 (m 53),o 54 (e 50 0),o 55 (e 50 1),o 14 (.alloc [(n 0),(.nils 1),(.nils 1)]),w (.store 3 (t 14) (t 54)),o 13 (m 55)]),
 (q [(.reg [o 56 (m 13),o 57 (bc .neq 56 (n 0))]),
 (i 57 (q [(.reg [o 58 (m 13),o 8 (.mv (c .bf)),o 9 (m 58)]),
 .ret]) .skip)]),
 (.reg [o 59 (la 3 12),o 60 (la 3 14),o 61 (.call 77 [(t 59),(t 60)]),o 8 (m 61),o 9 (.mv (c (n 0)))]),
 .ret])⟩
def zma:CFn:=⟨75,[.tmp 8,.tmp 9],(q [(.reg [o 4 (.box 3 (t 0)),o 6 (.box 3 (t 2)),o 8 (.mv (c .bf)),o 9 (.mv (c (n 0)))]),
 (q [(.reg [o 16 (la 3 4),o 17 (.call 58 [(t 16)]),o 10 (m 17)]),
 (.reg [o 18 (m 10),o 19 (bc .neq 18 (n 0))]),
 (i 19 (q [(.reg [o 20 (m 10),o 8 (.mv (c .bf)),o 9 (m 20)]),
 .ret]) .skip)]),
 (q [(.reg [o 21 (la 3 6),o 22 (.call 58 [(t 21)]),o 11 (m 22)]),
 (.reg [o 23 (m 11),o 24 (bc .neq 23 (n 0))]),
 (i 24 (q [(.reg [o 25 (m 11),o 8 (.mv (c .bf)),o 9 (m 25)]),
 .ret]) .skip)]),
 (q [(.reg [o 26 (f 2 4),o 27 (l 26),o 28 (ln 27),o 29 (f 2 6),o 30 (l 29),o 31 (ln 30),o 32 (b .neq 28 31),o 33 (m 32),g 34 33 false (f 1 4),g 35 33 false (l 34),g 36 33 false (ln 35),g 37 33 false (f 1 6),g 38 33 false (l 37),g 39 33 false (ln 38),g 40 33 false (b .neq 36 39),o 41 (pt 33 40)]),
 (i 41 (q [(.reg [o 8 (.mv (c .bf)),o 9 (.mv (c (n 1)))]),
 .ret]) .skip)]),
 (q [(.reg [o 42 (m 1),o 43 (bc .lss 42 (n 0)),o 44 (m 43),g 45 44 false (m 1),g 46 44 false (f 0 4),g 47 44 false (l 46),g 48 44 false (b .geq 45 47),o 49 (pt 44 48),o 50 (m 49),g 51 50 false (m 3),g 52 50 false (bc .lss 51 (n 0)),o 53 (pt 50 52),o 54 (m 53),g 55 54 false (m 3),g 56 54 false (f 0 6),g 57 54 false (l 56),g 58 54 false (b .geq 55 57),o 59 (pt 54 58)]),
 (i 59 (q [(.reg [o 8 (.mv (c .bf)),o 9 (.mv (c (n 2)))]),
 .ret]) .skip)]),
 (.reg [o 61 (la 3 4),o 62 (m 1),o 63 (.call 33 [(t 61),(t 62)]),o 60 (m 63),o 64 (e 60 0),o 65 (e 60 1),o 12 (.alloc [(n 0),(.nils 1),(.nils 1)]),w (.store 3 (t 12) (t 64)),o 13 (m 65)]),
 (.reg [o 67 (la 3 6),o 68 (m 3),o 69 (.call 33 [(t 67),(t 68)]),o 66 (m 69),o 70 (e 66 0),o 71 (e 66 1),o 14 (.alloc [(n 0),(.nils 1),(.nils 1)]),w (.store 3 (t 14) (t 70)),o 15 (m 71)]),
 (.reg [o 72 (la 3 12),o 73 (la 3 14),o 74 (.call 24 [(t 72),(t 73)]),o 8 (m 74),o 9 (.mv (c (n 0)))]),
 .ret])⟩
def zp6:CFn:=⟨8,[.tmp 4],(q [(.reg [o 3 (.box 1 (t 1)),o 4 (.mv (c .bf))]),
 (.reg [o 5 (m 0),o 6 (.fnew zc3 [(t 3)]),o 7 (.call 82 [(t 5),(t 6)]),o 4 (m 7)]),
 .ret])⟩
def zdO:CFn:=⟨9,[.tmp 4],(q [(.reg [o 4 (.mv (c .bf))]),
 (.reg [o 5 (m 0),o 6 (m 1),o 7 (.call 85 [(t 5),(t 6)]),o 8 (bc .geq 7 (n 0)),o 4 (m 8)]),
 .ret])⟩
def zp3:CFn:=⟨8,[.tmp 3],(q [(.reg [o 3 (.mv (c .bf))]),
 (.reg [o 4 (m 0),o 5 (f 0 1),o 6 (l 5),o 7 (.call 41 [(t 4),(t 6)]),o 3 (m 7)]),
 .ret])⟩
def zp4:CFn:=⟨63,[.cell 4 (some 3)],(q [(.reg [o 2 (.box 3 (t 0)),o 4 (.alloc [(n 0),(.nils 1),(.nils 1)])]),
 (.reg [o 13 (m 1),o 14 (ln 13),o 15 (.build [(n 0),(.nils 1),(.nils 1)] [(0,1,(t 14))]),o 5 (.alloc [(n 0),(.nils 1),(.nils 1)]),w (.store 3 (t 5) (t 15))]),
 (q [(.reg [o 16 (f 1 2),o 17 (l 16),o 18 (ln 17),o 19 (.mv (c (n 0)))]),
 (.block 0 (.loop (q [(.reg [o 20 (b .lss 19 18)]),
 (i 20 .skip (.exit 0)),
 (.block 1 (q [(.reg [o 21 (ia 1 17 19),o 22 (l 21),o 7 (m 22)]),
 (.regd [o 23 (f 1 5),o 24 (l 23),o 25 (m 7),o 26 (m 1),o 27 (.call 86 [(t 25),(t 26)]),o 28 (.bslice 1 1 [(u 0)] [(0,(t 27))]),o 29 (.app 1 8 (t 24) (t 28)),o 30 (f 1 5),w (.store 1 (t 30) (t 29))] [0,1,0,0,12,28,63,127,255])])),
 (.reg [o 31 (bc .add 19 (n 1)),o 19 (m 31)])])))]),
 (q [(.reg [o 32 (f 2 2),o 33 (l 32),o 34 (ln 33),o 35 (.mv (c (n 0)))]),
 (.block 2 (.loop (q [(.reg [o 36 (b .lss 35 34)]),
 (i 36 .skip (.exit 2)),
 (.block 3 (q [(.reg [o 37 (ia 1 33 35),o 38 (l 37),o 9 (m 38)]),
 (.reg [o 10 (.mv (c (.nils 1)))]),
 (q [(.reg [o 39 (m 1),o 40 (ln 39),o 41 (.mv (c (n 0)))]),
 (.block 4 (.loop (q [(.reg [o 42 (b .lss 41 40)]),
 (i 42 .skip (.exit 4)),
 (.block 5 (q [(.reg [o 43 (ia 1 39 41),o 44 (l 43),o 12 (m 44)]),
 (.reg [o 45 (m 10),o 46 (m 9),o 47 (m 12),o 48 (ia 1 46 47),o 49 (l 48),o 50 (m 1),o 51 (.call 86 [(t 49),(t 50)]),o 52 (.bslice 1 1 [(u 0)] [(0,(t 51))]),o 53 (.app 1 8 (t 45) (t 52)),o 10 (m 53)])])),
 (.reg [o 54 (bc .add 41 (n 1)),o 41 (m 54)])])))]),
 (.reg [o 55 (f 2 5),o 56 (l 55),o 57 (m 10),o 58 (.bslice 1 1 [(.nils 1)] [(0,(t 57))]),o 59 (.app 1 24 (t 56) (t 58)),o 60 (f 2 5),w (.store 1 (t 60) (t 59))])])),
 (.reg [o 61 (bc .add 35 (n 1)),o 35 (m 61)])])))]),
 (.reg [o 62 (la 3 5),w (.store 3 (t 4) (t 62))]),
 .ret])⟩
def zoY:CFn:=⟨20,[.tmp 2,.tmp 3],(q [(.reg [o 1 (.box 3 (t 0)),o 2 (.mv (c (.nils 1))),o 3 (.mv (c (n 0)))]),
 (q [(.reg [o 7 (la 3 1),o 8 (.call 14 [(t 7)]),o 4 (m 8)]),
 (.reg [o 9 (m 4),o 10 (bc .neq 9 (n 0))]),
 (i 10 (q [(.reg [o 11 (m 4),o 2 (.mv (c (.nils 1))),o 3 (m 11)]),
 .ret]) .skip)]),
 (.reg [o 13 (la 3 1),o 14 (f 2 1),o 15 (l 14),o 16 (.call 87 [(t 13),(t 15)]),o 12 (m 16),o 17 (e 12 0),o 18 (e 12 1),o 5 (m 17),o 6 (m 18)]),
 (.reg [o 19 (m 5),o 2 (m 19),o 3 (.mv (c (n 0)))]),
 .ret])⟩
def zn4:CFn:=⟨31,[.tmp 2],(q [(.reg [o 2 (.mv (c (n 0)))]),
 (q [(.reg [o 5 (m 0),o 6 (ln 5),o 7 (bc .gtr 6 (n 64))]),
 (i 7 (q [(.reg [o 2 (.mv (c (n 8)))]),
 .ret]) .skip)]),
 (q [(.reg [o 8 (m 0),o 9 (ln 8),o 10 (.mv (c (n 0)))]),
 (.block 0 (.loop (q [(.reg [o 11 (b .lss 10 9)]),
 (i 11 .skip (.exit 0)),
 (.block 1 (q [(.reg [o 12 (m 10),o 13 (ia 1 8 10),o 14 (l 13),o 3 (m 12),o 4 (m 14)]),
 (.reg [o 15 (m 4),o 16 (bc .lss 15 (n 0)),o 17 (m 16),g 18 17 false (m 4),g 19 17 false (m 3),g 20 17 false (b .gtr 18 19),o 21 (pt 17 20),o 22 (m 21),g 23 22 false (m 0),g 24 22 false (m 4),g 25 22 false (ia 1 23 24),g 26 22 false (l 25),g 27 22 false (m 4),g 28 22 false (b .neq 26 27),o 29 (pt 22 28)]),
 (i 29 (q [(.reg [o 2 (.mv (c (n 3)))]),
 .ret]) .skip)])),
 (.reg [o 30 (bc .add 10 (n 1)),o 10 (m 30)])])))]),
 (.reg [o 2 (.mv (c (n 0)))]),
 .ret])⟩
def zsP:CFn:=⟨40,[.tmp 4],(q [(.reg [o 2 (.box 3 (t 0)),o 4 (.mv (c (n 0)))]),
 (q [(.reg [o 8 (la 3 2),o 9 (.call 14 [(t 8)]),o 10 (bc .neq 9 (n 0)),o 11 (m 10),g 12 11 false (m 1),g 13 11 false (bc .lss 12 (n 0)),o 14 (pt 11 13),o 15 (m 14),g 16 15 false (m 1),g 17 15 false (f 0 2),g 18 15 false (l 17),g 19 15 false (b .geq 16 18),o 20 (pt 15 19)]),
 (i 20 (q [(.reg [o 4 (.mv (c (n (-1))))]),
 .ret]) .skip)]),
 (.reg [o 5 (.mv (c (n 0)))]),
 (q [(.reg [o 21 (f 1 2),o 22 (l 21),o 23 (ln 22),o 24 (.mv (c (n 0)))]),
 (.block 0 (.loop (q [(.reg [o 25 (b .lss 24 23)]),
 (i 25 .skip (.exit 0)),
 (.block 1 (q [(.reg [o 26 (m 24),o 27 (ia 1 22 24),o 28 (l 27),o 6 (m 26),o 7 (m 28)]),
 (.reg [o 29 (m 5),o 30 (m 7),o 31 (m 1),o 32 (b .shr 30 31),o 33 (bc .and 32 (u 1)),o 34 (.conv .i64 (t 33)),o 35 (m 6),o 36 (b .shl 34 35),o 37 (b .or 29 36),o 5 (m 37)])])),
 (.reg [o 38 (bc .add 24 (n 1)),o 24 (m 38)])])))]),
 (.reg [o 39 (m 5),o 4 (m 39)]),
 .ret])⟩
def zn6:CFn:=⟨10,[.tmp 2],(q [(.reg [o 2 (.mv (c (.nils 1)))]),
 (.reg [o 4 (m 0),o 5 (.call 90 [(t 4)]),o 3 (m 5)]),
 (.reg [o 6 (m 3),o 7 (.call 92 [(t 6)])]),
 (.reg [o 8 (m 3),o 9 (.call 93 [(t 8)]),o 2 (m 9)]),
 .ret])⟩
def zh3:CFn:=⟨19,[.tmp 4],(q [(.reg [o 4 (.mv (c (n 0)))]),
 (q [(.reg [o 6 (m 0),o 7 (ln 6),o 8 (.mv (c (n 0)))]),
 (.block 0 (.loop (q [(.reg [o 9 (b .lss 8 7)]),
 (i 9 .skip (.exit 0)),
 (.block 1 (q [(.reg [o 10 (m 8),o 5 (m 10)]),
 (.reg [o 11 (m 1),o 12 (m 0),o 13 (m 5),o 14 (ia 1 12 13),o 15 (l 14),o 16 (b .eql 11 15)]),
 (i 16 (q [(.reg [o 17 (m 5),o 4 (m 17)]),
 .ret]) .skip)])),
 (.reg [o 18 (bc .add 8 (n 1)),o 8 (m 18)])])))]),
 (.reg [o 4 (.mv (c (n (-1))))]),
 .ret])⟩
def zn7:CFn:=⟨26,[.tmp 4],(q [(.reg [o 4 (.mv (c (u 0)))]),
 (.reg [o 5 (.mv (c (u 0)))]),
 (q [(.reg [o 8 (m 1),o 9 (ln 8),o 10 (.mv (c (n 0)))]),
 (.block 0 (.loop (q [(.reg [o 11 (b .lss 10 9)]),
 (i 11 .skip (.exit 0)),
 (.block 1 (q [(.reg [o 12 (m 10),o 13 (ia 1 8 10),o 14 (l 13),o 6 (m 12),o 7 (m 14)]),
 (.reg [o 15 (m 0),o 16 (m 6),o 17 (b .shr 15 16),o 18 (bc .and 17 (u 1)),o 19 (bc .eql 18 (u 1))]),
 (i 19 (.reg [o 20 (m 5),o 21 (m 7),o 22 (.bin .shl (c (u 1)) (t 21)),o 23 (b .or 20 22),o 5 (m 23)]) .skip)])),
 (.reg [o 24 (bc .add 10 (n 1)),o 10 (m 24)])])))]),
 (.reg [o 25 (m 5),o 4 (m 25)]),
 .ret])⟩
def zk2:CFn:=⟨59,[.tmp 2],(q [(.reg [o 1 (.box 3 (t 0)),o 2 (.mv (c (n 0)))]),
 (q [(.reg [o 5 (f 0 1),o 6 (l 5),o 7 (bc .lss 6 (n 1)),o 8 (m 7),g 9 8 false (f 0 1),g 10 8 false (l 9),g 11 8 false (bc .gtr 10 (n 64)),o 12 (pt 8 11)]),
 (i 12 (q [(.reg [o 2 (.mv (c (n 2)))]),
 .ret]) .skip)]),
 (q [(.reg [o 13 (f 2 1),o 14 (l 13),o 15 (ln 14),o 16 (bc .gtr 15 (n 4)),o 17 (m 16),g 18 17 false (f 1 1),g 19 17 false (l 18),g 20 17 false (ln 19),g 21 17 false (bc .gtr 20 (n 8)),o 22 (pt 17 21)]),
 (i 22 (q [(.reg [o 2 (.mv (c (n 8)))]),
 .ret]) .skip)]),
 (q [(.reg [o 3 (.mv (c (n 0)))]),
 (.block 0 (.loop (q [(q [(.reg [o 23 (m 3),o 24 (f 2 1),o 25 (l 24),o 26 (ln 25),o 27 (b .lss 23 26)]),
 (i 27 .skip (.exit 0))]),
 (.block 1 (q [(.regd [o 30 (f 2 1),o 31 (l 30),o 32 (m 3),o 33 (ia 1 31 32),o 34 (l 33),o 35 (ln 34),o 36 (f 0 1),o 37 (l 36),o 38 (b .neq 35 37)] [0,1,0,7,15,31,0,64,255]),
 (i 38 (q [(.reg [o 2 (.mv (c (n 3)))]),
 .ret]) .skip)])),
 (.reg [o 28 (m 3),o 29 (bc .add 28 (n 1)),o 3 (m 29)])])))]),
 (q [(.reg [o 39 (f 1 1),o 40 (l 39),o 41 (f 0 1),o 42 (l 41),o 43 (.call 94 [(t 40),(t 42)])]),
 (i 43 (q [(.reg [o 2 (.mv (c (n 2)))]),
 .ret]) .skip)]),
 (q [(.reg [o 4 (.mv (c (n 0)))]),
 (.block 2 (.loop (q [(q [(.reg [o 44 (m 4),o 45 (f 2 1),o 46 (l 45),o 47 (ln 46),o 48 (b .lss 44 47)]),
 (i 48 .skip (.exit 2))]),
 (.block 3 (q [(.regd [o 51 (f 2 1),o 52 (l 51),o 53 (m 4),o 54 (ia 1 52 53),o 55 (l 54),o 56 (f 0 1),o 57 (l 56),o 58 (.call 94 [(t 55),(t 57)])] [0,1,0,7,15,0,32,127]),
 (i 58 (q [(.reg [o 2 (.mv (c (n 2)))]),
 .ret]) .skip)])),
 (.reg [o 49 (m 4),o 50 (bc .add 49 (n 1)),o 4 (m 50)])])))]),
 (.reg [o 2 (.mv (c (n 0)))]),
 .ret])⟩
def zkZ:CFn:=⟨31,[.tmp 2],(q [(.reg [o 2 (.mv (c (n 0)))]),
 (q [(.reg [o 5 (m 0),o 6 (ln 5),o 7 (bc .gtr 6 (n 64))]),
 (i 7 (q [(.reg [o 2 (.mv (c (n 8)))]),
 .ret]) .skip)]),
 (q [(.reg [o 8 (m 0),o 9 (ln 8),o 10 (.mv (c (n 0)))]),
 (.block 0 (.loop (q [(.reg [o 11 (b .lss 10 9)]),
 (i 11 .skip (.exit 0)),
 (.block 1 (q [(.reg [o 12 (m 10),o 13 (ia 1 8 10),o 14 (l 13),o 3 (m 12),o 4 (m 14)]),
 (.reg [o 15 (m 4),o 16 (bc .lss 15 (n 0)),o 17 (m 16),g 18 17 false (m 4),g 19 17 false (m 3),g 20 17 false (b .gtr 18 19),o 21 (pt 17 20),o 22 (m 21),g 23 22 false (m 0),g 24 22 false (m 4),g 25 22 false (ia 1 23 24),g 26 22 false (l 25),g 27 22 false (m 4),g 28 22 false (b .neq 26 27),o 29 (pt 22 28)]),
 (i 29 (q [(.reg [o 2 (.mv (c (n 3)))]),
 .ret]) .skip)])),
 (.reg [o 30 (bc .add 10 (n 1)),o 10 (m 30)])])))]),
 (.reg [o 2 (.mv (c (n 0)))]),
 .ret])⟩
def zk3:CFn:=⟨39,[.tmp 4],(q [(.reg [o 2 (.box 3 (t 0)),o 4 (.mv (c (n 0)))]),
 (q [(.reg [o 7 (la 3 2),o 8 (.call 58 [(t 7)]),o 9 (bc .neq 8 (n 0)),o 10 (m 9),g 11 10 false (m 1),g 12 10 false (bc .lss 11 (n 0)),o 13 (pt 10 12),o 14 (m 13),g 15 14 false (m 1),g 16 14 false (f 0 2),g 17 14 false (l 16),g 18 14 false (b .geq 15 17),o 19 (pt 14 18)]),
 (i 19 (q [(.reg [o 4 (.mv (c (n (-1))))]),
 .ret]) .skip)]),
 (.reg [o 5 (.mv (c (n 0)))]),
 (q [(.reg [o 6 (.mv (c (n 0)))]),
 (.block 0 (.loop (q [(q [(.reg [o 20 (m 6),o 21 (f 1 2),o 22 (l 21),o 23 (ln 22),o 24 (b .lss 20 23)]),
 (i 24 .skip (.exit 0))]),
 (.block 1 (q [(.reg [o 27 (f 1 2),o 28 (l 27),o 29 (m 6),o 30 (ia 1 28 29),o 31 (l 30),o 32 (m 1),o 33 (.call 95 [(t 31),(t 32)])]),
 (i 33 (.reg [o 34 (m 5),o 35 (m 6),o 36 (.bin .shl (c (n 1)) (t 35)),o 37 (b .add 34 36),o 5 (m 37)]) .skip)])),
 (.reg [o 25 (m 6),o 26 (bc .add 25 (n 1)),o 6 (m 26)])])))]),
 (.reg [o 38 (m 5),o 4 (m 38)]),
 .ret])⟩
def ziM:CFn:=⟨140,[.cell 4 (some 3),.tmp 5],(q [(.reg [o 2 (.box 3 (t 0)),o 4 (.alloc [(n 0),(.nils 1),(.nils 1)]),o 5 (.mv (c (.nils 1)))]),
 (.reg [o 6 (.mv (c (.nils 1))),o 7 (.mv (c (.nils 1)))]),
 (q [(.reg [o 8 (.mv (c (n 0)))]),
 (.block 0 (.loop (q [(q [(.reg [o 17 (m 8),o 18 (f 0 2),o 19 (l 18),o 20 (b .lss 17 19)]),
 (i 20 .skip (.exit 0))]),
 (.block 1 (q [(.reg [o 23 (m 1),o 24 (m 8),o 25 (ia 1 23 24),o 26 (l 25),o 27 (m 8),o 28 (b .eql 26 27)]),
 (i 28 (q [(.reg [o 29 (m 7),o 30 (m 6),o 31 (ln 30),o 32 (.bslice 1 1 [(n 0)] [(0,(t 31))]),o 33 (.app 1 8 (t 29) (t 32)),o 7 (m 33)]),
 (.reg [o 34 (m 6),o 35 (m 8),o 36 (.bslice 1 1 [(n 0)] [(0,(t 35))]),o 37 (.app 1 8 (t 34) (t 36)),o 6 (m 37)])]) (.reg [o 38 (m 7),o 39 (m 7),o 40 (m 1),o 41 (m 8),o 42 (ia 1 40 41),o 43 (l 42),o 44 (ia 1 39 43),o 45 (l 44),o 46 (.bslice 1 1 [(n 0)] [(0,(t 45))]),o 47 (.app 1 8 (t 38) (t 46)),o 7 (m 47)]))])),
 (.reg [o 21 (m 8),o 22 (bc .add 21 (n 1)),o 8 (m 22)])])))]),
 (.reg [o 48 (m 6),o 49 (ln 48),o 50 (.build [(n 0),(.nils 1),(.nils 1)] [(0,1,(t 49))]),o 9 (.alloc [(n 0),(.nils 1),(.nils 1)]),w (.store 3 (t 9) (t 50))]),
 (q [(.reg [o 10 (.mv (c (n 0)))]),
 (.block 2 (.loop (q [(q [(.reg [o 51 (m 10),o 52 (f 1 2),o 53 (l 52),o 54 (ln 53),o 55 (b .lss 51 54)]),
 (i 55 .skip (.exit 2))]),
 (.block 3 (q [(.reg [o 11 (.mv (c (u 0)))]),
 (q [(.reg [o 12 (.mv (c (n 0)))]),
 (.block 4 (.loop (q [(q [(.reg [o 58 (m 12),o 59 (m 6),o 60 (ln 59),o 61 (b .lss 58 60)]),
 (i 61 .skip (.exit 4))]),
 (.block 5 (q [(.regd [o 64 (f 1 2),o 65 (l 64),o 66 (m 10),o 67 (ia 1 65 66),o 68 (l 67),o 69 (m 6),o 70 (m 12),o 71 (ia 1 69 70),o 72 (l 71),o 73 (.call 96 [(t 68),(t 72)])] [0,1,0,7,15,0,0,96,224,511]),
 (i 73 (.reg [o 74 (m 11),o 75 (m 12),o 76 (.conv .u64 (t 75)),o 77 (.bin .shl (c (u 1)) (t 76)),o 78 (b .or 74 77),o 11 (m 78)]) .skip)])),
 (.reg [o 62 (m 12),o 63 (bc .add 62 (n 1)),o 12 (m 63)])])))]),
 (.reg [o 79 (f 1 9),o 80 (l 79),o 81 (m 11),o 82 (.bslice 1 1 [(u 0)] [(0,(t 81))]),o 83 (.app 1 8 (t 80) (t 82)),o 84 (f 1 9),w (.store 1 (t 84) (t 83))])])),
 (.reg [o 56 (m 10),o 57 (bc .add 56 (n 1)),o 10 (m 57)])])))]),
 (q [(.reg [o 13 (.mv (c (n 0)))]),
 (.block 6 (.loop (q [(q [(.reg [o 85 (m 13),o 86 (f 2 2),o 87 (l 86),o 88 (ln 87),o 89 (b .lss 85 88)]),
 (i 89 .skip (.exit 6))]),
 (.block 7 (q [(.reg [o 92 (m 6),o 93 (ln 92),o 94 (.mkslice 1 8 [(u 0)] (t 93) (t 93)),o 14 (m 94)]),
 (q [(.reg [o 15 (.mv (c (n 0)))]),
 (.block 8 (.loop (q [(q [(.reg [o 95 (m 15),o 96 (f 0 2),o 97 (l 96),o 98 (b .lss 95 97)]),
 (i 98 .skip (.exit 8))]),
 (.block 9 (q [(.reg [o 16 (.mv (c (n 0)))]),
 (.block 10 (.loop (q [(q [(.reg [o 101 (m 16),o 102 (f 0 2),o 103 (l 102),o 104 (b .lss 101 103)]),
 (i 104 .skip (.exit 10))]),
 (.block 11 (q [(.reg [o 107 (f 2 2),o 108 (l 107),o 109 (m 13),o 110 (ia 1 108 109),o 111 (l 110),o 112 (m 15),o 113 (ia 1 111 112),o 114 (l 113),o 115 (m 16),o 116 (.call 96 [(t 114),(t 115)])]),
 (i 116 (.regd [o 117 (m 14),o 118 (m 7),o 119 (m 15),o 120 (ia 1 118 119),o 121 (l 120),o 122 (ia 1 117 121),o 123 (l 122),o 124 (m 7),o 125 (m 16),o 126 (ia 1 124 125),o 127 (l 126),o 128 (.conv .u64 (t 127)),o 129 (.bin .shl (c (u 1)) (t 128)),o 130 (b .or 123 129),o 131 (ia 1 117 121),w (.store 1 (t 131) (t 130))] [0,0,0,6,14,31,63,0,0,384,896,1920,3968,8191,16383,32767]) .skip)])),
 (.reg [o 105 (m 16),o 106 (bc .add 105 (n 1)),o 16 (m 106)])])))])),
 (.reg [o 99 (m 15),o 100 (bc .add 99 (n 1)),o 15 (m 100)])])))]),
 (.reg [o 132 (f 2 9),o 133 (l 132),o 134 (m 14),o 135 (.bslice 1 1 [(.nils 1)] [(0,(t 134))]),o 136 (.app 1 24 (t 133) (t 135)),o 137 (f 2 9),w (.store 1 (t 137) (t 136))])])),
 (.reg [o 90 (m 13),o 91 (bc .add 90 (n 1)),o 13 (m 91)])])))]),
 (.reg [o 138 (la 3 9),o 139 (m 7),w (.store 3 (t 4) (t 138)),o 5 (m 139)]),
 .ret])⟩
def ziJ:CFn:=⟨26,[.tmp 4],(q [(.reg [o 4 (.mv (c .bf))]),
 (q [(.reg [o 6 (m 0),o 7 (ln 6),o 8 (m 1),o 9 (ln 8),o 10 (b .neq 7 9)]),
 (i 10 (q [(.reg [o 4 (.mv (c .bf))]),
 .ret]) .skip)]),
 (q [(.reg [o 5 (.mv (c (n 0)))]),
 (.block 0 (.loop (q [(q [(.reg [o 11 (m 5),o 12 (m 0),o 13 (ln 12),o 14 (b .lss 11 13)]),
 (i 14 .skip (.exit 0))]),
 (.block 1 (q [(.regd [o 17 (m 0),o 18 (m 5),o 19 (ia 1 17 18),o 20 (l 19),o 21 (m 1),o 22 (m 5),o 23 (ia 1 21 22),o 24 (l 23),o 25 (b .neq 20 24)] [0,0,3,7,0,0,48,112,255]),
 (i 25 (q [(.reg [o 4 (.mv (c .bf))]),
 .ret]) .skip)])),
 (.reg [o 15 (m 5),o 16 (bc .add 15 (n 1)),o 5 (m 16)])])))]),
 (.reg [o 4 (.mv (c .bt))]),
 .ret])⟩
def ziK:CFn:=⟨21,[.tmp 2,.tmp 3],(q [(.reg [o 1 (.box 3 (t 0)),o 2 (.mv (c (.nils 1))),o 3 (.mv (c (n 0)))]),
 (q [(.reg [o 7 (la 3 1),o 8 (.call 58 [(t 7)]),o 4 (m 8)]),
 (.reg [o 9 (m 4),o 10 (bc .neq 9 (n 0))]),
 (i 10 (q [(.reg [o 11 (m 4),o 2 (.mv (c (.nils 1))),o 3 (m 11)]),
 .ret]) .skip)]),
 (.regd [o 13 (la 3 1),o 14 (.call 98 [(t 13)]),o 15 (f 2 1),o 16 (l 15),o 17 (.call 97 [(t 14),(t 16)]),o 12 (m 17),o 18 (e 12 0),o 19 (e 12 1),o 5 (m 18),o 6 (m 19)] [0,1,0,4,15,31,63,63,127,511]),
 (.reg [o 20 (m 5),o 2 (m 20),o 3 (.mv (c (n 0)))]),
 .ret])⟩
def zpZ:CFn:=⟨4,[.tmp 2],(q [(.reg [o 1 (.box 1 (t 0)),o 2 (.mv (c (.d .nil)))]),
 (.reg [o 3 (.fnew zc2 [(t 1)]),o 2 (m 3)]),
 .ret])⟩
def zkV:CFn:=⟨95,[.cell 4 (some 3),.tmp 5,.tmp 6],(q [(.reg [o 2 (.box 3 (t 0)),o 4 (.alloc [(n 0),(.nils 1),(.nils 1)]),o 5 (.mv (c (.nils 1))),o 6 (.mv (c (n 0)))]),
 (q [(.reg [o 22 (la 3 2),o 23 (.call 14 [(t 22)]),o 7 (m 23)]),
 (.reg [o 24 (m 7),o 25 (bc .neq 24 (n 0))]),
 (i 25 (q [(.reg [o 26 (.build [(n 0),(.nils 1),(.nils 1)] []),o 27 (m 7),w (.store 3 (t 4) (t 26)),o 5 (.mv (c (.nils 1))),o 6 (m 27)]),
 .ret]) .skip)]),
 (q [(.reg [o 28 (m 1),o 29 (bc .lss 28 (n 0)),o 30 (m 29),g 31 30 false (m 1),g 32 30 false (f 0 2),g 33 30 false (l 32),g 34 30 false (b .geq 31 33),o 35 (pt 30 34)]),
 (i 35 (q [(.reg [o 36 (.build [(n 0),(.nils 1),(.nils 1)] []),w (.store 3 (t 4) (t 36)),o 5 (.mv (c (.nils 1))),o 6 (.mv (c (n 2)))]),
 .ret]) .skip)]),
 (.regd [o 38 (la 3 2),o 39 (m 1),o 40 (.bin .shl (c (u 1)) (t 39)),o 41 (.call 72 [(t 38),(t 40)]),o 37 (m 41),o 42 (e 37 0),o 43 (e 37 1),o 8 (m 42),o 9 (m 43)] [0,0,2,7,15,31,31,63,255]),
 (.reg [o 45 (la 3 2),o 46 (m 8),o 47 (.call 73 [(t 45),(t 46)]),o 44 (m 47),o 48 (e 44 0),o 49 (e 44 1),o 50 (e 44 2),o 10 (.alloc [(n 0),(.nils 1),(.nils 1)]),w (.store 3 (t 10) (t 48)),o 11 (m 49),o 12 (m 50)]),
 (q [(.reg [o 52 (la 3 10),o 53 (.call 105 [(t 52),(c (n (-1)))]),o 51 (m 53),o 54 (e 51 0),o 55 (e 51 1),o 13 (m 54),o 14 (m 55)]),
 (.reg [o 56 (m 14),o 57 (f 0 10),o 58 (l 57),o 59 (b .lss 56 58)]),
 (i 59 (q [(.reg [o 60 (.build [(n 0),(.nils 1),(.nils 1)] []),w (.store 3 (t 4) (t 60)),o 5 (.mv (c (.nils 1))),o 6 (.mv (c (n 16)))]),
 .ret]) .skip)]),
 (.regd [o 62 (la 3 10),o 63 (m 11),o 64 (m 1),o 65 (.call 56 [(t 63),(t 64)]),o 66 (.call 105 [(t 62),(t 65)]),o 61 (m 66),o 67 (e 61 0),o 68 (e 61 1),o 15 (m 67),o 16 (m 68)] [0,0,0,6,15,31,63,63,127,511]),
 (.reg [o 70 (la 3 10),o 71 (m 15),o 72 (.call 16 [(t 70),(t 71)]),o 69 (m 72),o 73 (e 69 0),o 74 (e 69 1),o 17 (.alloc [(n 0),(.nils 1),(.nils 1)]),w (.store 3 (t 17) (t 73)),o 18 (m 74)]),
 (.reg [o 75 (m 15),o 76 (ln 75),o 77 (.mkslice 1 8 [(n 0)] (t 76) (t 76)),o 19 (m 77)]),
 (q [(.reg [o 78 (m 15),o 79 (ln 78),o 80 (.mv (c (n 0)))]),
 (.block 0 (.loop (q [(.reg [o 81 (b .lss 80 79)]),
 (i 81 .skip (.exit 0)),
 (.block 1 (q [(.reg [o 82 (m 80),o 83 (ia 1 78 80),o 84 (l 83),o 20 (m 82),o 21 (m 84)]),
 (.reg [o 85 (m 19),o 86 (m 21),o 87 (m 11),o 88 (m 20),o 89 (ia 1 87 88),o 90 (l 89),o 91 (ia 1 85 86),w (.store 1 (t 91) (t 90))])])),
 (.reg [o 92 (bc .add 80 (n 1)),o 80 (m 92)])])))]),
 (.reg [o 93 (la 3 17),o 94 (m 19),w (.store 3 (t 4) (t 93)),o 5 (m 94),o 6 (.mv (c (n 0)))]),
 .ret])⟩
def zn2:CFn:=⟨56,[.tmp 4,.tmp 5],(q [(.reg [o 2 (.box 3 (t 0)),o 4 (.mv (c (u 0))),o 5 (.mv (c (n 0)))]),
 (q [(.reg [o 12 (la 3 2),o 13 (.call 14 [(t 12)]),o 6 (m 13)]),
 (.reg [o 14 (m 6),o 15 (bc .neq 14 (n 0))]),
 (i 15 (q [(.reg [o 16 (m 6),o 4 (.mv (c (u 0))),o 5 (m 16)]),
 .ret]) .skip)]),
 (q [(.reg [o 17 (m 1),o 18 (f 0 2),o 19 (l 18),o 20 (.call 84 [(t 19)]),o 21 (b .andNot 17 20),o 22 (bc .neq 21 (u 0))]),
 (i 22 (q [(.reg [o 4 (.mv (c (u 0))),o 5 (.mv (c (n 2)))]),
 .ret]) .skip)]),
 (.reg [o 23 (m 1),o 7 (m 23)]),
 (q [(.reg [o 24 (m 1),o 8 (m 24)]),
 (.block 0 (.loop (q [(q [(.reg [o 25 (m 8),o 26 (bc .neq 25 (u 0))]),
 (i 26 .skip (.exit 0))]),
 (.block 1 (q [(.reg [o 27 (m 8),o 28 (.call 100 [(t 27)]),o 9 (m 28)]),
 (.reg [o 29 (m 8),o 30 (m 8),o 31 (bc .sub 30 (u 1)),o 32 (b .and 29 31),o 8 (m 32)]),
 (.reg [o 33 (f 2 2),o 34 (l 33),o 35 (ln 34),o 36 (.mv (c (n 0)))]),
 (.block 2 (.loop (q [(.reg [o 37 (b .lss 36 35)]),
 (i 37 .skip (.exit 2)),
 (.block 3 (q [(.reg [o 38 (ia 1 34 36),o 39 (l 38),o 11 (m 39)]),
 (.reg [o 40 (m 8),o 41 (m 11),o 42 (m 9),o 43 (ia 1 41 42),o 44 (l 43),o 45 (m 7),o 46 (b .andNot 44 45),o 47 (b .or 40 46),o 8 (m 47)]),
 (.reg [o 48 (m 7),o 49 (m 11),o 50 (m 9),o 51 (ia 1 49 50),o 52 (l 51),o 53 (b .or 48 52),o 7 (m 53)])])),
 (.reg [o 54 (bc .add 36 (n 1)),o 36 (m 54)])])))]))])))]),
 (.reg [o 55 (m 7),o 4 (m 55),o 5 (.mv (c (n 0)))]),
 .ret])⟩
def zo3:CFn:=⟨31,[.cell 4 (some 3),.tmp 5,.tmp 6],(q [(.reg [o 2 (.box 3 (t 0)),o 4 (.alloc [(n 0),(.nils 1),(.nils 1)]),o 5 (.mv (c (.nils 1))),o 6 (.mv (c (n 0)))]),
 (q [(.reg [o 9 (la 3 2),o 10 (.call 14 [(t 9)]),o 7 (m 10)]),
 (.reg [o 11 (m 7),o 12 (bc .neq 11 (n 0))]),
 (i 12 (q [(.reg [o 13 (.build [(n 0),(.nils 1),(.nils 1)] []),o 14 (m 7),w (.store 3 (t 4) (t 13)),o 5 (.mv (c (.nils 1))),o 6 (m 14)]),
 .ret]) .skip)]),
 (q [(.reg [o 15 (m 1),o 16 (f 0 2),o 17 (l 16),o 18 (.call 84 [(t 17)]),o 19 (b .andNot 15 18),o 20 (bc .neq 19 (u 0))]),
 (i 20 (q [(.reg [o 21 (.build [(n 0),(.nils 1),(.nils 1)] []),w (.store 3 (t 4) (t 21)),o 5 (.mv (c (.nils 1))),o 6 (.mv (c (n 2)))]),
 .ret]) .skip)]),
 (q [(.reg [o 22 (m 1),o 23 (bc .eql 22 (u 0))]),
 (i 23 (q [(.reg [o 24 (.build [(n 0),(.nils 1),(.nils 1)] []),w (.store 3 (t 4) (t 24)),o 5 (.mv (c (.nils 1))),o 6 (.mv (c (n 6)))]),
 .ret]) .skip)]),
 (.reg [o 25 (m 1),o 26 (.call 106 [(t 25)]),o 8 (m 26)]),
 (.reg [o 27 (la 3 2),o 28 (m 8),o 29 (.call 44 [(t 27),(t 28)]),o 30 (m 8),w (.store 3 (t 4) (t 29)),o 5 (m 30),o 6 (.mv (c (n 0)))]),
 .ret])⟩
def zh5:CFn:=⟨58,[.tmp 4,.tmp 5],(q [(.reg [o 2 (.box 3 (t 0)),o 4 (.mv (c (u 0))),o 5 (.mv (c (n 0)))]),
 (.reg [o 11 (la 3 2),o 12 (.call 58 [(t 11)]),o 6 (m 12)]),
 (q [(.reg [o 13 (m 6),o 14 (bc .neq 13 (n 0))]),
 (i 14 (q [(.reg [o 15 (m 6),o 4 (.mv (c (u 0))),o 5 (m 15)]),
 .ret]) .skip)]),
 (q [(.reg [o 16 (m 1),o 17 (f 0 2),o 18 (l 17),o 19 (.call 107 [(t 18)]),o 20 (b .andNot 16 19),o 21 (bc .neq 20 (u 0))]),
 (i 21 (q [(.reg [o 4 (.mv (c (u 0))),o 5 (.mv (c (n 2)))]),
 .ret]) .skip)]),
 (.reg [o 22 (m 1),o 7 (m 22)]),
 (q [(.reg [o 8 (.mv (c (n 0)))]),
 (.block 0 (.loop (q [(q [(.reg [o 23 (m 8),o 24 (f 0 2),o 25 (l 24),o 26 (b .lss 23 25)]),
 (i 26 .skip (.exit 0))]),
 (.block 1 (q [(.reg [o 9 (.mv (c (n 0)))]),
 (.block 2 (.loop (q [(q [(.reg [o 29 (m 9),o 30 (f 0 2),o 31 (l 30),o 32 (b .lss 29 31)]),
 (i 32 .skip (.exit 2))]),
 (.block 3 (q [(.reg [o 10 (.mv (c (n 0)))]),
 (.block 4 (.loop (q [(q [(.reg [o 35 (m 10),o 36 (f 2 2),o 37 (l 36),o 38 (ln 37),o 39 (b .lss 35 38),o 40 (m 39),g 41 40 true (m 7),g 42 40 true (m 9),g 43 40 true (.call 95 [(t 41),(t 42)]),o 44 (pf 40 43)]),
 (i 44 .skip (.exit 4))]),
 (.block 5 (.reg [o 47 (m 7),o 48 (f 2 2),o 49 (l 48),o 50 (m 10),o 51 (ia 1 49 50),o 52 (l 51),o 53 (m 9),o 54 (ia 1 52 53),o 55 (l 54),o 56 (b .or 47 55),o 7 (m 56)])),
 (.reg [o 45 (m 10),o 46 (bc .add 45 (n 1)),o 10 (m 46)])])))])),
 (.reg [o 33 (m 9),o 34 (bc .add 33 (n 1)),o 9 (m 34)])])))])),
 (.reg [o 27 (m 8),o 28 (bc .add 27 (n 1)),o 8 (m 28)])])))]),
 (.reg [o 57 (m 7),o 4 (m 57),o 5 (.mv (c (n 0)))]),
 .ret])⟩
def ziI:CFn:=⟨31,[.cell 4 (some 3),.tmp 5,.tmp 6],(q [(.reg [o 2 (.box 3 (t 0)),o 4 (.alloc [(n 0),(.nils 1),(.nils 1)]),o 5 (.mv (c (.nils 1))),o 6 (.mv (c (n 0)))]),
 (.reg [o 9 (la 3 2),o 10 (.call 58 [(t 9)]),o 7 (m 10)]),
 (q [(.reg [o 11 (m 7),o 12 (bc .neq 11 (n 0))]),
 (i 12 (q [(.reg [o 13 (.build [(n 0),(.nils 1),(.nils 1)] []),o 14 (m 7),w (.store 3 (t 4) (t 13)),o 5 (.mv (c (.nils 1))),o 6 (m 14)]),
 .ret]) .skip)]),
 (q [(.reg [o 15 (m 1),o 16 (f 0 2),o 17 (l 16),o 18 (.call 107 [(t 17)]),o 19 (b .andNot 15 18),o 20 (bc .neq 19 (u 0))]),
 (i 20 (q [(.reg [o 21 (.build [(n 0),(.nils 1),(.nils 1)] []),w (.store 3 (t 4) (t 21)),o 5 (.mv (c (.nils 1))),o 6 (.mv (c (n 2)))]),
 .ret]) .skip)]),
 (q [(.reg [o 22 (m 1),o 23 (bc .eql 22 (u 0))]),
 (i 23 (q [(.reg [o 24 (.build [(n 0),(.nils 1),(.nils 1)] []),w (.store 3 (t 4) (t 24)),o 5 (.mv (c (.nils 1))),o 6 (.mv (c (n 6)))]),
 .ret]) .skip)]),
 (.reg [o 25 (m 1),o 26 (.call 108 [(t 25)]),o 8 (m 26)]),
 (.reg [o 27 (la 3 2),o 28 (m 8),o 29 (.call 109 [(t 27),(t 28)]),o 30 (m 8),w (.store 3 (t 4) (t 29)),o 5 (m 30),o 6 (.mv (c (n 0)))]),
 .ret])⟩
def zh6:CFn:=⟨82,[.cell 4 (some 3),.tmp 5,.tmp 6],(q [(.reg [o 2 (.box 3 (t 0)),o 4 (.alloc [(n 0),(.nils 1),(.nils 1)]),o 5 (.mv (c (.nils 1))),o 6 (.mv (c (n 0)))]),
 (q [(.reg [o 19 (la 3 2),o 20 (.call 58 [(t 19)]),o 7 (m 20)]),
 (.reg [o 21 (m 7),o 22 (bc .neq 21 (n 0))]),
 (i 22 (q [(.reg [o 23 (.build [(n 0),(.nils 1),(.nils 1)] []),o 24 (m 7),w (.store 3 (t 4) (t 23)),o 5 (.mv (c (.nils 1))),o 6 (m 24)]),
 .ret]) .skip)]),
 (q [(.reg [o 25 (m 1),o 26 (bc .lss 25 (n 0)),o 27 (m 26),g 28 27 false (m 1),g 29 27 false (f 0 2),g 30 27 false (l 29),g 31 27 false (b .geq 28 30),o 32 (pt 27 31)]),
 (i 32 (q [(.reg [o 33 (.build [(n 0),(.nils 1),(.nils 1)] []),w (.store 3 (t 4) (t 33)),o 5 (.mv (c (.nils 1))),o 6 (.mv (c (n 2)))]),
 .ret]) .skip)]),
 (.regd [o 35 (la 3 2),o 36 (m 1),o 37 (.bin .shl (c (u 1)) (t 36)),o 38 (.call 74 [(t 35),(t 37)]),o 34 (m 38),o 39 (e 34 0),o 40 (e 34 1),o 8 (m 39),o 9 (m 40)] [0,0,2,7,15,31,31,63,255]),
 (.reg [o 42 (la 3 2),o 43 (m 8),o 44 (.call 75 [(t 42),(t 43)]),o 41 (m 44),o 45 (e 41 0),o 46 (e 41 1),o 47 (e 41 2),o 10 (.alloc [(n 0),(.nils 1),(.nils 1)]),w (.store 3 (t 10) (t 45)),o 11 (m 46),o 12 (m 47)]),
 (q [(.reg [o 48 (la 3 10),o 49 (.call 110 [(t 48)]),o 50 (.un .not (t 49))]),
 (i 50 (q [(.reg [o 51 (.build [(n 0),(.nils 1),(.nils 1)] []),w (.store 3 (t 4) (t 51)),o 5 (.mv (c (.nils 1))),o 6 (.mv (c (n 16)))]),
 .ret]) .skip)]),
 (.reg [o 52 (la 3 10),o 53 (m 11),o 54 (m 1),o 55 (.call 111 [(t 52),(t 53),(t 54)]),o 13 (m 55)]),
 (.reg [o 57 (la 3 10),o 58 (m 13),o 59 (.call 112 [(t 57),(t 58)]),o 56 (m 59),o 60 (e 56 0),o 61 (e 56 1),o 14 (.alloc [(n 0),(.nils 1),(.nils 1)]),w (.store 3 (t 14) (t 60)),o 15 (m 61)]),
 (.reg [o 62 (m 11),o 63 (ln 62),o 64 (.mkslice 1 8 [(n 0)] (t 63) (t 63)),o 16 (m 64)]),
 (q [(.reg [o 65 (m 11),o 66 (ln 65),o 67 (.mv (c (n 0)))]),
 (.block 0 (.loop (q [(.reg [o 68 (b .lss 67 66)]),
 (i 68 .skip (.exit 0)),
 (.block 1 (q [(.reg [o 69 (m 67),o 70 (ia 1 65 67),o 71 (l 70),o 17 (m 69),o 18 (m 71)]),
 (.reg [o 72 (m 16),o 73 (m 13),o 74 (m 17),o 75 (ia 1 73 74),o 76 (l 75),o 77 (m 18),o 78 (ia 1 72 76),w (.store 1 (t 78) (t 77))])])),
 (.reg [o 79 (bc .add 67 (n 1)),o 67 (m 79)])])))]),
 (.reg [o 80 (la 3 14),o 81 (m 16),w (.store 3 (t 4) (t 80)),o 5 (m 81),o 6 (.mv (c (n 0)))]),
 .ret])⟩
def ztq:CFn:=⟨24,[.tmp 4],(q [(.reg [o 2 (.box 3 (t 0)),o 3 (.box 3 (t 1)),o 4 (.mv (c .bf))]),
 (.reg [o 5 (f 0 2),o 6 (l 5),o 7 (f 0 3),o 8 (l 7),o 9 (b .eql 6 8),o 10 (m 9),g 11 10 true (f 1 2),g 12 10 true (l 11),g 13 10 true (f 1 3),g 14 10 true (l 13),g 15 10 true (.call 113 [(t 12),(t 14)]),o 16 (pf 10 15),o 17 (m 16),g 18 17 true (f 2 2),g 19 17 true (l 18),g 20 17 true (f 2 3),g 21 17 true (l 20),g 22 17 true (.call 114 [(t 19),(t 21),(c (.fn zda []))]),o 23 (pf 17 22),o 4 (m 23)]),
 .ret])⟩
def zd8:CFn:=⟨9,[.tmp 4],(q [(.reg [o 4 (.mv (c .bf))]),
 (.reg [o 5 (m 0),o 6 (m 1),o 7 (.call 120 [(t 5),(t 6)]),o 8 (bc .geq 7 (n 0)),o 4 (m 8)]),
 .ret])⟩
def zn3:CFn:=⟨9,[.tmp 3],(q [(.reg [o 3 (.mv (c .bf))]),
 (.reg [o 4 (m 0),o 5 (l 1),o 6 (.call 84 [(t 5)]),o 7 (b .andNot 4 6),o 8 (bc .neq 7 (u 0)),o 3 (m 8)]),
 .ret])⟩
def zuX:CFn:=⟨8,[.tmp 2],(q [(.reg [o 2 (.mv (c (u 0)))]),
 (q [(.reg [o 3 (m 0),o 4 (bc .geq 3 (n 64))]),
 (i 4 (q [(.reg [o 2 (.mv (c (u 18446744073709551615)))]),
 .ret]) .skip)]),
 (.reg [o 5 (m 0),o 6 (.bin .shl (c (u 1)) (t 5)),o 7 (bc .sub 6 (u 1)),o 2 (m 7)]),
 .ret])⟩
def zec:CFn:=⟨19,[.tmp 4],(q [(.reg [o 4 (.mv (c (n 0)))]),
 (q [(.reg [o 6 (m 0),o 7 (ln 6),o 8 (.mv (c (n 0)))]),
 (.block 0 (.loop (q [(.reg [o 9 (b .lss 8 7)]),
 (i 9 .skip (.exit 0)),
 (.block 1 (q [(.reg [o 10 (m 8),o 5 (m 10)]),
 (.reg [o 11 (m 1),o 12 (m 0),o 13 (m 5),o 14 (ia 1 12 13),o 15 (l 14),o 16 (.callv (t 11) [(t 15)])]),
 (i 16 (q [(.reg [o 17 (m 5),o 4 (m 17)]),
 .ret]) .skip)])),
 (.reg [o 18 (bc .add 8 (n 1)),o 8 (m 18)])])))]),
 (.reg [o 4 (.mv (c (n (-1))))]),
 .ret])⟩
def ztr:CFn:=⟨25,[.tmp 4],(q [(.reg [o 4 (.mv (c (u 0)))]),
 (.reg [o 5 (.mv (c (u 0)))]),
 (q [(.reg [o 8 (m 1),o 9 (ln 8),o 10 (.mv (c (n 0)))]),
 (.block 0 (.loop (q [(.reg [o 11 (b .lss 10 9)]),
 (i 11 .skip (.exit 0)),
 (.block 1 (q [(.reg [o 12 (m 10),o 13 (ia 1 8 10),o 14 (l 13),o 6 (m 12),o 7 (m 14)]),
 (.reg [o 15 (m 5),o 16 (m 0),o 17 (m 7),o 18 (b .shr 16 17),o 19 (bc .and 18 (u 1)),o 20 (m 6),o 21 (b .shl 19 20),o 22 (b .or 15 21),o 5 (m 22)])])),
 (.reg [o 23 (bc .add 10 (n 1)),o 10 (m 23)])])))]),
 (.reg [o 24 (m 5),o 4 (m 24)]),
 .ret])⟩
def zrf:CFn:=⟨21,[.tmp 4,.tmp 5],(q [(.reg [o 2 (.box 3 (t 0)),o 4 (.mv (c (.nils 1))),o 5 (.mv (c (n 0)))]),
 (.reg [o 6 (.alloc [(.nils 1)])]),
 (.reg [o 7 (.alloc [(n 0)]),w (.store 1 (t 7) (c (n (-1))))]),
 (q [(.reg [o 9 (la 3 2),o 10 (m 1),o 11 (.call 121 [(t 9),(t 10)])]),
 (.block 0 (.rng (t 11) [12] (.reg [o 8 (m 12)]) (.block 1 (q [(q [(.reg [o 13 (m 8),o 14 (l 6),o 15 (.call 122 [(t 13),(t 14)])]),
 (i 15 (.exit 0) .skip)]),
 (.reg [o 16 (m 8),w (.store 1 (t 6) (t 16))]),
 (.reg [o 17 (l 7),o 18 (bc .add 17 (n 1)),w (.store 1 (t 7) (t 18))])]))))]),
 (.regd [o 19 (l 6),o 20 (l 7),o 4 (m 19),o 5 (m 20)] [0,0,1,7]),
 .ret])⟩
def zh1:CFn:=⟨8,[.tmp 2],(q [(.reg [o 2 (.mv (c (.nils 1)))]),
 (q [(.reg [o 3 (m 0),o 4 (.eqN false (t 3) (c (.nils 1)))]),
 (i 4 (q [(.reg [o 2 (.mv (c (.nils 1)))]),
 .ret]) .skip)]),
 (.reg [o 5 (.bslice 1 0 [(n 0)] []),o 6 (m 0),o 7 (.app 1 8 (t 5) (t 6)),o 2 (m 7)]),
 .ret])⟩
def ziH:CFn:=⟨11,[],(q [(.reg [o 3 (m 0),o 4 (ln 3),o 2 (m 4)]),
 (.reg [o 5 (m 0),o 6 (m 2),o 7 (m 2),o 8 (.conv .u64 (t 7)),o 9 (.call 128 [(t 8)]),o 10 (.call 127 [(t 5),(c (n 0)),(t 6),(t 9)])])])⟩
def zhf:CFn:=⟨61,[.tmp 2],(q [(.reg [o 2 (.mv (c (.nils 1)))]),
 (q [(.reg [o 6 (m 0),o 7 (ln 6),o 8 (bc .lss 7 (n 2))]),
 (i 8 (q [(.reg [o 9 (m 0),o 2 (m 9)]),
 .ret]) .skip)]),
 (q [(.reg [o 3 (.mv (c (n 1)))]),
 (.block 0 (.loop (q [(q [(.reg [o 10 (m 3),o 11 (m 0),o 12 (ln 11),o 13 (b .lss 10 12)]),
 (i 13 .skip (.exit 0))]),
 (.block 1 (q [(.regd [o 16 (m 0),o 17 (m 3),o 18 (ia 1 16 17),o 19 (l 18),o 20 (m 0),o 21 (m 3),o 22 (bc .sub 21 (n 1)),o 23 (ia 1 20 22),o 24 (l 23),o 25 (b .eql 19 24)] [0,0,3,7,0,0,32,112,240,511]),
 (i 25 (q [(.reg [o 26 (m 0),o 27 (m 3),o 28 (.slice 1 (t 26) (some (t 27)) none),o 4 (m 28)]),
 (q [(.reg [o 5 (.mv (c (n 1)))]),
 (.block 2 (.loop (q [(q [(.reg [o 29 (m 5),o 30 (m 4),o 31 (ln 30),o 32 (b .lss 29 31)]),
 (i 32 .skip (.exit 2))]),
 (.block 3 (q [(.regd [o 35 (m 4),o 36 (m 5),o 37 (ia 1 35 36),o 38 (l 37),o 39 (m 4),o 40 (m 5),o 41 (bc .sub 40 (n 1)),o 42 (ia 1 39 41),o 43 (l 42),o 44 (b .neq 38 43)] [0,0,3,7,0,0,32,112,240,511]),
 (i 44 (q [(.reg [o 45 (m 0),o 46 (m 3),o 47 (m 4),o 48 (m 5),o 49 (ia 1 47 48),o 50 (l 49),o 51 (ia 1 45 46),w (.store 1 (t 51) (t 50))]),
 (.reg [o 52 (m 3),o 53 (bc .add 52 (n 1)),o 3 (m 53)])]) .skip)])),
 (.reg [o 33 (m 5),o 34 (bc .add 33 (n 1)),o 5 (m 34)])])))]),
 (.reg [o 54 (m 0),o 55 (m 3),o 56 (.slice 1 (t 54) (some (t 55)) none),w (.clear 1 [(n 0)] (t 56))]),
 (.reg [o 57 (m 0),o 58 (m 3),o 59 (.slice 1 (t 57) none (some (t 58))),o 2 (m 59)]),
 .ret]) .skip)])),
 (.reg [o 14 (m 3),o 15 (bc .add 14 (n 1)),o 3 (m 15)])])))]),
 (.reg [o 60 (m 0),o 2 (m 60)]),
 .ret])⟩
def zjL:CFn:=⟨20,[.tmp 4],(q [(.reg [o 4 (.mv (c .bf))]),
 (q [(.reg [o 5 (.mv (c (n 0)))]),
 (.block 0 (.loop (q [(q [(.reg [o 6 (m 5),o 7 (m 0),o 8 (ln 7),o 9 (b .lss 6 8)]),
 (i 9 .skip (.exit 0))]),
 (.block 1 (q [(.regd [o 12 (m 0),o 13 (m 5),o 14 (ia 1 12 13),o 15 (l 14),o 16 (m 1),o 17 (.call 107 [(t 16)]),o 18 (b .andNot 15 17),o 19 (bc .neq 18 (u 0))] [0,0,3,7,0,16,63,127]),
 (i 19 (q [(.reg [o 4 (.mv (c .bt))]),
 .ret]) .skip)])),
 (.reg [o 10 (m 5),o 11 (bc .add 10 (n 1)),o 5 (m 11)])])))]),
 (.reg [o 4 (.mv (c .bf))]),
 .ret])⟩
def zmA:CFn:=⟨18,[.tmp 4],(q [(.reg [o 4 (.mv (c .bf))]),
 (.reg [o 5 (m 1),o 6 (bc .geq 5 (n 0)),o 7 (m 6),g 8 7 true (m 1),g 9 7 true (bc .lss 8 (n 64)),o 10 (pf 7 9),o 11 (m 10),g 12 11 true (m 0),g 13 11 true (m 1),g 14 11 true (b .shr 12 13),g 15 11 true (bc .rem 14 (u 2)),g 16 11 true (bc .eql 15 (u 1)),o 17 (pf 11 16),o 4 (m 17)]),
 .ret])⟩
def zn8:CFn:=⟨11,[.tmp 4],(q [(.reg [o 4 (.mv (c .bf))]),
 (.reg [o 5 (m 0),o 6 (m 1),o 7 (.conv .u64 (t 6)),o 8 (b .shr 5 7),o 9 (bc .and 8 (u 1)),o 10 (bc .eql 9 (u 1)),o 4 (m 10)]),
 .ret])⟩
def zjQ:CFn:=⟨19,[.tmp 4,.tmp 5],(q [(.reg [o 4 (.mv (c (.nils 1))),o 5 (.mv (c (n 0)))]),
 (.reg [o 6 (.mv (c (n 0)))]),
 (.block 0 (.loop (.block 1 (q [(.reg [o 8 (m 0),o 9 (m 1),o 10 (.call 129 [(t 8),(t 9)]),o 7 (m 10)]),
 (q [(.reg [o 11 (m 0),o 12 (m 7),o 13 (.call 25 [(t 11),(t 12)])]),
 (i 13 (q [(.reg [o 14 (m 0),o 15 (m 6),o 4 (m 14),o 5 (m 15)]),
 .ret]) .skip)]),
 (.reg [o 16 (m 7),o 0 (m 16)]),
 (.reg [o 17 (m 6),o 18 (bc .add 17 (n 1)),o 6 (m 18)])]))))])⟩
def zk5:CFn:=⟨34,[.tmp 2],(q [(.reg [o 1 (.box 3 (t 0)),o 2 (.mv (c (.nils 1)))]),
 (.reg [o 3 (.mv (c (.nils 1)))]),
 (q [(.reg [o 4 (.mv (c (n 0)))]),
 (.block 0 (.loop (q [(q [(.reg [o 9 (m 4),o 10 (f 0 1),o 11 (l 10),o 12 (b .lss 9 11)]),
 (i 12 .skip (.exit 0))]),
 (.block 1 (.reg [o 15 (m 3),o 16 (la 3 1),o 17 (m 4),o 18 (.call 60 [(t 16),(t 17)]),o 19 (.bslice 1 1 [(n 0)] [(0,(t 18))]),o 20 (.app 1 8 (t 15) (t 19)),o 3 (m 20)])),
 (.reg [o 13 (m 4),o 14 (bc .add 13 (n 1)),o 4 (m 14)])])))]),
 (.reg [o 22 (f 0 1),o 23 (l 22),o 24 (.call 130 [(t 23)]),o 21 (m 24),o 25 (e 21 0),o 26 (e 21 1),o 5 (m 25),o 6 (m 26)]),
 (.reg [o 28 (m 5),o 29 (m 3),o 30 (.call 131 [(t 28),(t 29)]),o 27 (m 30),o 31 (e 27 0),o 32 (e 27 1),o 7 (m 31),o 8 (m 32)]),
 (.reg [o 33 (m 7),o 2 (m 33)]),
 .ret])⟩
def znY:CFn:=⟨14,[],(.block 0 (.loop (q [(q [(.reg [o 3 (l 1),o 4 (bc .neq 3 (u 0))]),
 (i 4 .skip (.exit 0))]),
 (.block 1 (q [(.reg [o 9 (m 0),o 10 (l 1),o 11 (.call 100 [(t 10)]),o 12 (.callv (t 9) [(t 11)]),o 13 (.un .not (t 12))]),
 (i 13 .ret .skip)])),
 (.reg [o 5 (l 1),o 6 (l 1),o 7 (bc .sub 6 (u 1)),o 8 (b .and 5 7),w (.store 1 (t 1) (t 8))])])))⟩
def znZ:CFn:=⟨33,[.tmp 4,.tmp 5],(q [(.reg [o 2 (.box 3 (t 0)),o 4 (.mv (c (.nils 1))),o 5 (.mv (c (n 0)))]),
 (.reg [o 6 (.mv (c (.nils 1)))]),
 (q [(.reg [o 9 (f 0 2),o 10 (l 9),o 11 (.mv (c (n 0)))]),
 (.block 0 (.loop (q [(.reg [o 12 (b .lss 11 10)]),
 (i 12 .skip (.exit 0)),
 (.block 1 (q [(.reg [o 13 (m 11),o 7 (m 13)]),
 (.reg [o 8 (.mv (c (n 1)))]),
 (q [(.reg [o 14 (m 7),o 15 (m 1),o 16 (b .eql 14 15)]),
 (i 16 (.reg [o 8 (.mv (c (n 0)))]) .skip)]),
 (.reg [o 17 (m 6),o 18 (m 8),o 19 (.bslice 1 1 [(n 0)] [(0,(t 18))]),o 20 (la 3 2),o 21 (m 7),o 22 (.call 54 [(t 20),(t 21)]),o 23 (.bslice 1 1 [(n 0)] [(0,(t 22))]),o 24 (.bslice 1 2 [(.nils 1)] [(0,(t 19)),(1,(t 23))]),o 25 (.bslice 1 1 [(.nils 1)] [(0,(t 24))]),o 26 (.app 1 24 (t 17) (t 25)),o 6 (m 26)])])),
 (.reg [o 27 (bc .add 11 (n 1)),o 11 (m 27)])])))]),
 (.reg [o 28 (m 6),o 29 (.fnew zch [(t 2)]),o 30 (.call 124 [(t 28),(t 29)]),o 31 (e 30 0),o 32 (e 30 1),o 4 (m 31),o 5 (m 32)]),
 .ret])⟩
def zp5:CFn:=⟨16,[.tmp 2],(q [(.reg [o 2 (.mv (c (.nils 1)))]),
 (.reg [o 3 (.mv (c (.nils 1)))]),
 (.block 0 (.loop (q [(q [(.reg [o 4 (m 0),o 5 (bc .neq 4 (u 0))]),
 (i 5 .skip (.exit 0))]),
 (.block 1 (.reg [o 10 (m 3),o 11 (m 0),o 12 (.call 100 [(t 11)]),o 13 (.bslice 1 1 [(n 0)] [(0,(t 12))]),o 14 (.app 1 8 (t 10) (t 13)),o 3 (m 14)])),
 (.reg [o 6 (m 0),o 7 (m 0),o 8 (bc .sub 7 (u 1)),o 9 (b .and 6 8),o 0 (m 9)])]))),
 (.reg [o 15 (m 3),o 2 (m 15)]),
 .ret])⟩
def zmy:CFn:=⟨8,[.tmp 2],(q [(.reg [o 2 (.mv (c (u 0)))]),
 (q [(.reg [o 3 (m 0),o 4 (bc .geq 3 (n 64))]),
 (i 4 (q [(.reg [o 2 (.mv (c (u 18446744073709551615)))]),
 .ret]) .skip)]),
 (.reg [o 5 (m 0),o 6 (.bin .shl (c (u 1)) (t 5)),o 7 (bc .sub 6 (u 1)),o 2 (m 7)]),
 .ret])⟩
def zjh:CFn:=⟨17,[.tmp 2],(q [(.reg [o 2 (.mv (c (.nils 1)))]),
 (.reg [o 3 (.mv (c (.nils 1)))]),
 (q [(.reg [o 4 (.mv (c (n 0)))]),
 (.block 0 (.loop (q [(q [(.reg [o 5 (m 4),o 6 (bc .lss 5 (n 64))]),
 (i 6 .skip (.exit 0))]),
 (.block 1 (q [(.reg [o 9 (m 0),o 10 (m 4),o 11 (.call 95 [(t 9),(t 10)])]),
 (i 11 (.reg [o 12 (m 3),o 13 (m 4),o 14 (.bslice 1 1 [(n 0)] [(0,(t 13))]),o 15 (.app 1 8 (t 12) (t 14)),o 3 (m 15)]) .skip)])),
 (.reg [o 7 (m 4),o 8 (bc .add 7 (n 1)),o 4 (m 8)])])))]),
 (.reg [o 16 (m 3),o 2 (m 16)]),
 .ret])⟩
def zl7:CFn:=⟨68,[.cell 4 (some 3)],(q [(.reg [o 2 (.box 3 (t 0)),o 4 (.alloc [(n 0),(.nils 1),(.nils 1)])]),
 (.reg [o 10 (m 1),o 11 (ln 10),o 12 (.build [(n 0),(.nils 1),(.nils 1)] [(0,1,(t 11))]),o 5 (.alloc [(n 0),(.nils 1),(.nils 1)]),w (.store 3 (t 5) (t 12))]),
 (q [(.reg [o 6 (.mv (c (n 0)))]),
 (.block 0 (.loop (q [(q [(.reg [o 13 (m 6),o 14 (f 1 2),o 15 (l 14),o 16 (ln 15),o 17 (b .lss 13 16)]),
 (i 17 .skip (.exit 0))]),
 (.block 1 (.regd [o 20 (f 1 5),o 21 (l 20),o 22 (f 1 2),o 23 (l 22),o 24 (m 6),o 25 (ia 1 23 24),o 26 (l 25),o 27 (m 1),o 28 (.call 139 [(t 26),(t 27)]),o 29 (.bslice 1 1 [(u 0)] [(0,(t 28))]),o 30 (.app 1 8 (t 21) (t 29)),o 31 (f 1 5),w (.store 1 (t 31) (t 30))] [0,1,0,4,0,28,60,0,252,508,1023,2047,4095])),
 (.reg [o 18 (m 6),o 19 (bc .add 18 (n 1)),o 6 (m 19)])])))]),
 (q [(.reg [o 7 (.mv (c (n 0)))]),
 (.block 2 (.loop (q [(q [(.reg [o 32 (m 7),o 33 (f 2 2),o 34 (l 33),o 35 (ln 34),o 36 (b .lss 32 35)]),
 (i 36 .skip (.exit 2))]),
 (.block 3 (q [(.reg [o 8 (.mv (c (.nils 1)))]),
 (q [(.reg [o 9 (.mv (c (n 0)))]),
 (.block 4 (.loop (q [(q [(.reg [o 39 (m 9),o 40 (m 1),o 41 (ln 40),o 42 (b .lss 39 41)]),
 (i 42 .skip (.exit 4))]),
 (.block 5 (.regd [o 45 (m 8),o 46 (f 2 2),o 47 (l 46),o 48 (m 7),o 49 (ia 1 47 48),o 50 (l 49),o 51 (m 1),o 52 (m 9),o 53 (ia 1 51 52),o 54 (l 53),o 55 (ia 1 50 54),o 56 (l 55),o 57 (m 1),o 58 (.call 139 [(t 56),(t 57)]),o 59 (.bslice 1 1 [(u 0)] [(0,(t 58))]),o 60 (.app 1 8 (t 45) (t 59)),o 8 (m 60)] [0,0,2,0,14,30,0,0,192,448,1022,2046,0,8190,16382,32767,65535])),
 (.reg [o 43 (m 9),o 44 (bc .add 43 (n 1)),o 9 (m 44)])])))]),
 (.reg [o 61 (f 2 5),o 62 (l 61),o 63 (m 8),o 64 (.bslice 1 1 [(.nils 1)] [(0,(t 63))]),o 65 (.app 1 24 (t 62) (t 64)),o 66 (f 2 5),w (.store 1 (t 66) (t 65))])])),
 (.reg [o 37 (m 7),o 38 (bc .add 37 (n 1)),o 7 (m 38)])])))]),
 (.reg [o 67 (la 3 5),w (.store 3 (t 4) (t 67))]),
 .ret])⟩
def zjj:CFn:=⟨97,[.tmp 2],(q [(.reg [o 1 (.box 3 (t 0)),o 2 (.mv (c .bf))]),
 (.reg [o 18 (f 0 1),o 19 (l 18),o 20 (.call 130 [(t 19)]),o 17 (m 20),o 21 (e 17 0),o 22 (e 17 1),o 3 (m 21),o 4 (m 22)]),
 (.reg [o 5 (.mv (c (.nils 1)))]),
 (q [(.reg [o 6 (.mv (c (n 0)))]),
 (.block 0 (.loop (q [(q [(.reg [o 23 (m 6),o 24 (f 0 1),o 25 (l 24),o 26 (b .lss 23 25)]),
 (i 26 .skip (.exit 0))]),
 (.block 1 (.reg [o 29 (m 5),o 30 (la 3 1),o 31 (m 6),o 32 (.call 60 [(t 30),(t 31)]),o 33 (.bslice 1 1 [(n 0)] [(0,(t 32))]),o 34 (.app 1 8 (t 29) (t 33)),o 5 (m 34)])),
 (.reg [o 27 (m 6),o 28 (bc .add 27 (n 1)),o 6 (m 28)])])))]),
 (.reg [o 36 (m 3),o 37 (m 5),o 38 (.call 131 [(t 36),(t 37)]),o 35 (m 38),o 39 (e 35 0),o 40 (e 35 1),o 7 (m 39),o 8 (m 40)]),
 (.block 2 (.loop (.block 3 (q [(.reg [o 9 (.mv (c (.nils 1)))]),
 (q [(.reg [o 10 (.mv (c (n 0)))]),
 (.block 4 (.loop (q [(q [(.reg [o 41 (m 10),o 42 (f 0 1),o 43 (l 42),o 44 (b .lss 41 43)]),
 (i 44 .skip (.exit 4))]),
 (.block 5 (q [(.reg [o 47 (m 7),o 48 (m 10),o 49 (ia 1 47 48),o 50 (l 49),o 51 (.bslice 1 1 [(n 0)] [(0,(t 50))]),o 52 (.bslice 1 1 [(.nils 1)] [(0,(t 51))]),o 11 (m 52)]),
 (q [(.reg [o 53 (f 2 1),o 54 (l 53),o 55 (ln 54),o 56 (.mv (c (n 0)))]),
 (.block 6 (.loop (q [(.reg [o 57 (b .lss 56 55)]),
 (i 57 .skip (.exit 6)),
 (.block 7 (q [(.reg [o 58 (m 56),o 12 (m 58)]),
 (.reg [o 59 (m 11),o 60 (m 7),o 61 (f 2 1),o 62 (l 61),o 63 (m 12),o 64 (ia 1 62 63),o 65 (l 64),o 66 (m 10),o 67 (ia 1 65 66),o 68 (l 67),o 69 (.call 140 [(t 60),(t 68),(c .bt)]),o 70 (.bslice 1 1 [(.nils 1)] [(0,(t 69))]),o 71 (.app 1 24 (t 59) (t 70)),o 11 (m 71)])])),
 (.reg [o 72 (bc .add 56 (n 1)),o 56 (m 72)])])))]),
 (.reg [o 73 (m 9),o 74 (m 11),o 75 (.bslice 1 1 [(.nils 1)] [(0,(t 74))]),o 76 (.app 1 24 (t 73) (t 75)),o 9 (m 76)])])),
 (.reg [o 45 (m 10),o 46 (bc .add 45 (n 1)),o 10 (m 46)])])))]),
 (.reg [o 78 (m 9),o 79 (.call 141 [(t 78)]),o 77 (m 79),o 80 (e 77 0),o 81 (e 77 1),o 13 (m 80),o 14 (m 81)]),
 (.reg [o 83 (m 7),o 84 (m 13),o 85 (.call 131 [(t 83),(t 84)]),o 82 (m 85),o 86 (e 82 0),o 87 (e 82 1),o 15 (m 86),o 16 (m 87)]),
 (q [(.reg [o 88 (m 7),o 89 (m 15),o 90 (.call 25 [(t 88),(t 89)])]),
 (i 90 (q [(.regd [o 91 (m 7),o 92 (.call 142 [(t 91)]),o 93 (f 0 1),o 94 (l 93),o 95 (b .eql 92 94),o 2 (m 95)] [0,1,0,4,15,31]),
 .ret]) .skip)]),
 (.reg [o 96 (m 15),o 7 (m 96)])]))))])⟩
def zjN:CFn:=⟨92,[.tmp 6],(q [(.reg [o 3 (.box 3 (t 0)),o 6 (.mv (c (.nils 1)))]),
 (.reg [o 7 (.mv (c (.nils 1)))]),
 (q [(.reg [o 8 (.mv (c (n 0)))]),
 (.block 0 (.loop (q [(q [(.reg [o 18 (m 8),o 19 (f 0 3),o 20 (l 19),o 21 (b .lss 18 20)]),
 (i 21 .skip (.exit 0))]),
 (.block 1 (q [(.reg [o 9 (.mv (c (n 1)))]),
 (q [(.reg [o 24 (m 1),o 25 (m 8),o 26 (ia 1 24 25),o 27 (l 26),o 28 (m 2),o 29 (b .eql 27 28)]),
 (i 29 (.reg [o 9 (.mv (c (n 0)))]) .skip)]),
 (.reg [o 30 (m 7),o 31 (m 9),o 32 (.bslice 1 1 [(n 0)] [(0,(t 31))]),o 33 (la 3 3),o 34 (m 8),o 35 (.call 60 [(t 33),(t 34)]),o 36 (.bslice 1 1 [(n 0)] [(0,(t 35))]),o 37 (.bslice 1 2 [(.nils 1)] [(0,(t 32)),(1,(t 36))]),o 38 (.bslice 1 1 [(.nils 1)] [(0,(t 37))]),o 39 (.app 1 24 (t 30) (t 38)),o 7 (m 39)])])),
 (.reg [o 22 (m 8),o 23 (bc .add 22 (n 1)),o 8 (m 23)])])))]),
 (.reg [o 41 (m 7),o 42 (.call 141 [(t 41)]),o 40 (m 42),o 43 (e 40 0),o 44 (e 40 1),o 10 (m 43),o 11 (m 44)]),
 (.block 2 (.loop (.block 3 (q [(.reg [o 12 (.mv (c (.nils 1)))]),
 (q [(.reg [o 13 (.mv (c (n 0)))]),
 (.block 4 (.loop (q [(q [(.reg [o 45 (m 13),o 46 (f 0 3),o 47 (l 46),o 48 (b .lss 45 47)]),
 (i 48 .skip (.exit 4))]),
 (.block 5 (q [(.reg [o 51 (m 10),o 52 (m 13),o 53 (ia 1 51 52),o 54 (l 53),o 55 (.bslice 1 1 [(n 0)] [(0,(t 54))]),o 56 (.bslice 1 1 [(.nils 1)] [(0,(t 55))]),o 14 (m 56)]),
 (q [(.reg [o 57 (f 2 3),o 58 (l 57),o 59 (ln 58),o 60 (.mv (c (n 0)))]),
 (.block 6 (.loop (q [(.reg [o 61 (b .lss 60 59)]),
 (i 61 .skip (.exit 6)),
 (.block 7 (q [(.reg [o 62 (m 60),o 15 (m 62)]),
 (.reg [o 63 (m 14),o 64 (m 10),o 65 (f 2 3),o 66 (l 65),o 67 (m 15),o 68 (ia 1 66 67),o 69 (l 68),o 70 (m 13),o 71 (ia 1 69 70),o 72 (l 71),o 73 (.call 140 [(t 64),(t 72),(c .bt)]),o 74 (.bslice 1 1 [(.nils 1)] [(0,(t 73))]),o 75 (.app 1 24 (t 63) (t 74)),o 14 (m 75)])])),
 (.reg [o 76 (bc .add 60 (n 1)),o 60 (m 76)])])))]),
 (.reg [o 77 (m 12),o 78 (m 14),o 79 (.bslice 1 1 [(.nils 1)] [(0,(t 78))]),o 80 (.app 1 24 (t 77) (t 79)),o 12 (m 80)])])),
 (.reg [o 49 (m 13),o 50 (bc .add 49 (n 1)),o 13 (m 50)])])))]),
 (.reg [o 82 (m 12),o 83 (.call 141 [(t 82)]),o 81 (m 83),o 84 (e 81 0),o 85 (e 81 1),o 16 (m 84),o 17 (m 85)]),
 (q [(.reg [o 86 (m 17),o 87 (m 11),o 88 (b .eql 86 87)]),
 (i 88 (q [(.reg [o 89 (m 10),o 6 (m 89)]),
 .ret]) .skip)]),
 (.reg [o 90 (m 16),o 91 (m 17),o 10 (m 90),o 11 (m 91)])]))))])⟩
def zjK:CFn:=⟨28,[.cell 4 (some 3),.tmp 5],(q [(.reg [o 2 (.box 3 (t 0)),o 4 (.alloc [(n 0),(.nils 1),(.nils 1)]),o 5 (.mv (c (n 0)))]),
 (.reg [o 9 (la 3 2),o 10 (.call 58 [(t 9)]),o 6 (m 10)]),
 (q [(.reg [o 11 (m 6),o 12 (bc .neq 11 (n 0))]),
 (i 12 (q [(.reg [o 13 (.build [(n 0),(.nils 1),(.nils 1)] []),o 14 (m 6),w (.store 3 (t 4) (t 13)),o 5 (m 14)]),
 .ret]) .skip)]),
 (.reg [o 16 (m 1),o 17 (f 0 2),o 18 (l 17),o 19 (.call 143 [(t 16),(t 18)]),o 15 (m 19),o 20 (e 15 0),o 21 (e 15 1),o 7 (m 20),o 8 (m 21)]),
 (q [(.reg [o 22 (m 8),o 23 (.un .not (t 22))]),
 (i 23 (q [(.reg [o 24 (.build [(n 0),(.nils 1),(.nils 1)] []),w (.store 3 (t 4) (t 24)),o 5 (.mv (c (n 1)))]),
 .ret]) .skip)]),
 (.reg [o 25 (la 3 2),o 26 (m 7),o 27 (.call 109 [(t 25),(t 26)]),w (.store 3 (t 4) (t 27)),o 5 (.mv (c (n 0)))]),
 .ret])⟩
def zfV:CFn:=⟨26,[.tmp 4],(q [(.reg [o 4 (.mv (c .bf))]),
 (q [(.reg [o 6 (m 0),o 7 (ln 6),o 8 (m 1),o 9 (ln 8),o 10 (b .neq 7 9)]),
 (i 10 (q [(.reg [o 4 (.mv (c .bf))]),
 .ret]) .skip)]),
 (q [(.reg [o 11 (m 0),o 12 (ln 11),o 13 (.mv (c (n 0)))]),
 (.block 0 (.loop (q [(.reg [o 14 (b .lss 13 12)]),
 (i 14 .skip (.exit 0)),
 (.block 1 (q [(.reg [o 15 (m 13),o 5 (m 15)]),
 (.regd [o 16 (m 0),o 17 (m 5),o 18 (ia 1 16 17),o 19 (l 18),o 20 (m 1),o 21 (m 5),o 22 (ia 1 20 21),o 23 (l 22),o 24 (b .neq 19 23)] [0,0,3,7,0,0,48,112,255]),
 (i 24 (q [(.reg [o 4 (.mv (c .bf))]),
 .ret]) .skip)])),
 (.reg [o 25 (bc .add 13 (n 1)),o 13 (m 25)])])))]),
 (.reg [o 4 (.mv (c .bt))]),
 .ret])⟩
def zbM:CFn:=⟨32,[.tmp 6],(q [(.reg [o 6 (.mv (c .bf))]),
 (q [(.reg [o 10 (m 0),o 11 (ln 10),o 12 (m 1),o 13 (ln 12),o 14 (b .neq 11 13)]),
 (i 14 (q [(.reg [o 6 (.mv (c .bf))]),
 .ret]) .skip)]),
 (q [(.reg [o 15 (m 0),o 16 (ln 15),o 17 (.mv (c (n 0)))]),
 (.block 0 (.loop (q [(.reg [o 18 (b .lss 17 16)]),
 (i 18 .skip (.exit 0)),
 (.block 1 (q [(.reg [o 19 (m 17),o 20 (ia 1 15 17),o 21 (l 20),o 7 (m 19),o 8 (m 21)]),
 (.reg [o 22 (m 1),o 23 (m 7),o 24 (ia 1 22 23),o 25 (l 24),o 9 (m 25)]),
 (.reg [o 26 (m 2),o 27 (m 8),o 28 (m 9),o 29 (.callv (t 26) [(t 27),(t 28)]),o 30 (.un .not (t 29))]),
 (i 30 (q [(.reg [o 6 (.mv (c .bf))]),
 .ret]) .skip)])),
 (.reg [o 31 (bc .add 17 (n 1)),o 17 (m 31)])])))]),
 (.reg [o 6 (.mv (c .bt))]),
 .ret])⟩
def zrh:CFn:=⟨8,[.tmp 4],(q [(.reg [o 4 (.mv (c .bf))]),
 (.reg [o 5 (m 0),o 6 (m 1),o 7 (.call 113 [(t 5),(t 6)]),o 4 (m 7)]),
 .ret])⟩
def zeY:CFn:=⟨19,[.tmp 4],(q [(.reg [o 4 (.mv (c (n 0)))]),
 (q [(.reg [o 6 (m 0),o 7 (ln 6),o 8 (.mv (c (n 0)))]),
 (.block 0 (.loop (q [(.reg [o 9 (b .lss 8 7)]),
 (i 9 .skip (.exit 0)),
 (.block 1 (q [(.reg [o 10 (m 8),o 5 (m 10)]),
 (.reg [o 11 (m 1),o 12 (m 0),o 13 (m 5),o 14 (ia 1 12 13),o 15 (l 14),o 16 (.callv (t 11) [(t 15)])]),
 (i 16 (q [(.reg [o 17 (m 5),o 4 (m 17)]),
 .ret]) .skip)])),
 (.reg [o 18 (bc .add 8 (n 1)),o 8 (m 18)])])))]),
 (.reg [o 4 (.mv (c (n (-1))))]),
 .ret])⟩
def zre:CFn:=⟨6,[.tmp 4],(q [(.reg [o 2 (.box 3 (t 0)),o 3 (.box 1 (t 1)),o 4 (.mv (c (.d .nil)))]),
 (.reg [o 5 (.fnew zdy [(t 2),(t 3)]),o 4 (m 5)]),
 .ret])⟩
def zh2:CFn:=⟨26,[.tmp 4],(q [(.reg [o 4 (.mv (c .bf))]),
 (q [(.reg [o 6 (m 0),o 7 (ln 6),o 8 (m 1),o 9 (ln 8),o 10 (b .neq 7 9)]),
 (i 10 (q [(.reg [o 4 (.mv (c .bf))]),
 .ret]) .skip)]),
 (q [(.reg [o 11 (m 0),o 12 (ln 11),o 13 (.mv (c (n 0)))]),
 (.block 0 (.loop (q [(.reg [o 14 (b .lss 13 12)]),
 (i 14 .skip (.exit 0)),
 (.block 1 (q [(.reg [o 15 (m 13),o 5 (m 15)]),
 (.regd [o 16 (m 0),o 17 (m 5),o 18 (ia 1 16 17),o 19 (l 18),o 20 (m 1),o 21 (m 5),o 22 (ia 1 20 21),o 23 (l 22),o 24 (b .neq 19 23)] [0,0,3,7,0,0,48,112,255]),
 (i 24 (q [(.reg [o 4 (.mv (c .bf))]),
 .ret]) .skip)])),
 (.reg [o 25 (bc .add 13 (n 1)),o 13 (m 25)])])))]),
 (.reg [o 4 (.mv (c .bt))]),
 .ret])⟩
def zn0:CFn:=⟨45,[.tmp 4,.tmp 5],(q [(.reg [o 4 (.mv (c (.nils 1))),o 5 (.mv (c (n 0)))]),
 (.reg [o 13 (m 0),o 14 (.call 157 [(t 13)]),o 12 (m 14),o 15 (e 12 0),o 16 (e 12 1),o 6 (m 15),o 7 (m 16)]),
 (.block 0 (.loop (.block 1 (q [(.reg [o 17 (m 6),o 18 (ln 17),o 19 (.mkslice 1 24 [(.nils 1)] (t 18) (t 18)),o 8 (m 19)]),
 (q [(.reg [o 20 (m 8),o 21 (ln 20),o 22 (.mv (c (n 0)))]),
 (.block 2 (.loop (q [(.reg [o 23 (b .lss 22 21)]),
 (i 23 .skip (.exit 2)),
 (.block 3 (q [(.reg [o 24 (m 22),o 9 (m 24)]),
 (.reg [o 25 (m 8),o 26 (m 9),o 27 (m 1),o 28 (m 6),o 29 (m 9),o 30 (.callv (t 27) [(t 28),(t 29)]),o 31 (ia 1 25 26),w (.store 1 (t 31) (t 30))])])),
 (.reg [o 32 (bc .add 22 (n 1)),o 22 (m 32)])])))]),
 (.reg [o 34 (m 8),o 35 (.call 157 [(t 34)]),o 33 (m 35),o 36 (e 33 0),o 37 (e 33 1),o 10 (m 36),o 11 (m 37)]),
 (q [(.reg [o 38 (m 11),o 39 (m 7),o 40 (b .eql 38 39)]),
 (i 40 (q [(.reg [o 41 (m 6),o 42 (m 7),o 4 (m 41),o 5 (m 42)]),
 .ret]) .skip)]),
 (.reg [o 43 (m 10),o 44 (m 11),o 6 (m 43),o 7 (m 44)])]))))])⟩
def zn1:CFn:=⟨26,[.tmp 4],(q [(.reg [o 4 (.mv (c (.nils 1)))]),
 (.reg [o 5 (.mv (c (.nils 1)))]),
 (q [(.reg [o 8 (m 1),o 9 (.call 156 [(t 8)]),o 10 (ln 9),o 11 (.mv (c (n 0)))]),
 (.block 0 (.loop (q [(.reg [o 12 (b .lss 11 10)]),
 (i 12 .skip (.exit 0)),
 (.block 1 (q [(.reg [o 13 (ia 1 9 11),o 14 (l 13),o 7 (m 14)]),
 (.reg [o 15 (m 5),o 16 (m 0),o 17 (m 7),o 18 (ia 1 16 17),o 19 (l 18),o 20 (.bslice 1 1 [(n 0)] [(0,(t 19))]),o 21 (.app 1 8 (t 15) (t 20)),o 5 (m 21)])])),
 (.reg [o 22 (bc .add 11 (n 1)),o 11 (m 22)])])))]),
 (.reg [o 23 (m 5),o 24 (.call 92 [(t 23)])]),
 (.reg [o 25 (m 5),o 4 (m 25)]),
 .ret])⟩
def zgu:CFn:=⟨134,[],(q [(.reg [o 8 (.mv (c .bt))]),
 (.reg [o 9 (.mv (c .bt))]),
 (.block 0 (.loop (.block 1 (q [(.reg [o 19 (m 2),o 20 (m 1),o 21 (b .sub 19 20),o 10 (m 21)]),
 (q [(.reg [o 22 (m 10),o 23 (bc .leq 22 (n 12))]),
 (i 23 (q [(.reg [o 24 (m 0),o 25 (m 1),o 26 (m 2),o 27 (.call 158 [(t 24),(t 25),(t 26)])]),
 .ret]) .skip)]),
 (q [(.reg [o 28 (m 3),o 29 (bc .eql 28 (n 0))]),
 (i 29 (q [(.reg [o 30 (m 0),o 31 (m 1),o 32 (m 2),o 33 (.call 159 [(t 30),(t 31),(t 32)])]),
 .ret]) .skip)]),
 (q [(.reg [o 34 (m 8),o 35 (.un .not (t 34))]),
 (i 35 (q [(.reg [o 36 (m 0),o 37 (m 1),o 38 (m 2),o 39 (.call 160 [(t 36),(t 37),(t 38)])]),
 (.reg [o 40 (m 3),o 41 (bc .sub 40 (n 1)),o 3 (m 41)])]) .skip)]),
 (.reg [o 43 (m 0),o 44 (m 1),o 45 (m 2),o 46 (.call 161 [(t 43),(t 44),(t 45)]),o 42 (m 46),o 47 (e 42 0),o 48 (e 42 1),o 11 (m 47),o 12 (m 48)]),
 (q [(.reg [o 49 (m 12),o 50 (bc .eql 49 (n 2))]),
 (i 50 (q [(.reg [o 51 (m 0),o 52 (m 1),o 53 (m 2),o 54 (.call 162 [(t 51),(t 52),(t 53)])]),
 (.reg [o 55 (m 2),o 56 (bc .sub 55 (n 1)),o 57 (m 11),o 58 (m 1),o 59 (b .sub 57 58),o 60 (b .sub 56 59),o 11 (m 60)]),
 (.reg [o 12 (.mv (c (n 1)))])]) .skip)]),
 (q [(.reg [o 61 (m 8),o 62 (m 61),g 63 62 true (m 9),o 64 (pf 62 63),o 65 (m 64),g 66 65 true (m 12),g 67 65 true (bc .eql 66 (n 1)),o 68 (pf 65 67)]),
 (i 68 (q [(.reg [o 69 (m 0),o 70 (m 1),o 71 (m 2),o 72 (.call 163 [(t 69),(t 70),(t 71)])]),
 (i 72 .ret .skip)]) .skip)]),
 (q [(.regd [o 73 (m 1),o 74 (bc .gtr 73 (n 0)),o 75 (m 74),g 76 75 true (m 0),g 77 75 true (m 1),g 78 75 true (bc .sub 77 (n 1)),g 79 75 true (ia 1 76 78),g 80 75 true (l 79),g 81 75 true (m 0),g 82 75 true (m 11),g 83 75 true (ia 1 81 82),g 84 75 true (l 83),g 85 75 true (.call 164 [(t 80),(t 84)]),g 86 75 true (.un .not (t 85)),o 87 (pf 75 86)] [0,1,3,7,7,23,63,127,7,7,775,1799,4095,8191,16383]),
 (i 87 (q [(.reg [o 88 (m 0),o 89 (m 1),o 90 (m 2),o 91 (m 11),o 92 (.call 165 [(t 88),(t 89),(t 90),(t 91)]),o 13 (m 92)]),
 (.reg [o 93 (m 13),o 1 (m 93)]),
 (.exit 1)]) .skip)]),
 (.reg [o 95 (m 0),o 96 (m 1),o 97 (m 2),o 98 (m 11),o 99 (.call 166 [(t 95),(t 96),(t 97),(t 98)]),o 94 (m 99),o 100 (e 94 0),o 101 (e 94 1),o 14 (m 100),o 15 (m 101)]),
 (.reg [o 102 (m 15),o 9 (m 102)]),
 (.reg [o 103 (m 14),o 104 (m 1),o 105 (b .sub 103 104),o 106 (m 2),o 107 (m 14),o 108 (b .sub 106 107),o 16 (m 105),o 17 (m 108)]),
 (.reg [o 109 (m 10),o 110 (bc .quo 109 (n 8)),o 18 (m 110)]),
 (.reg [o 111 (m 16),o 112 (m 17),o 113 (b .lss 111 112)]),
 (i 113 (q [(.reg [o 114 (m 16),o 115 (m 18),o 116 (b .geq 114 115),o 8 (m 116)]),
 (.reg [o 117 (m 0),o 118 (m 1),o 119 (m 14),o 120 (m 3),o 121 (.call 127 [(t 117),(t 118),(t 119),(t 120)])]),
 (.reg [o 122 (m 14),o 123 (bc .add 122 (n 1)),o 1 (m 123)])]) (q [(.reg [o 124 (m 17),o 125 (m 18),o 126 (b .geq 124 125),o 8 (m 126)]),
 (.reg [o 127 (m 0),o 128 (m 14),o 129 (bc .add 128 (n 1)),o 130 (m 2),o 131 (m 3),o 132 (.call 127 [(t 127),(t 129),(t 130),(t 131)])]),
 (.reg [o 133 (m 14),o 2 (m 133)])]))]))))])⟩
def zp2:CFn:=⟨8,[.tmp 2],(q [(.reg [o 2 (.mv (c (n 0)))]),
 (.cond (c .bf) (q [(.reg [o 3 (m 0),o 4 (.conv .u32 (t 3)),o 5 (.call 167 [(t 4)]),o 2 (m 5)]),
 .ret]) .skip),
 (.reg [o 6 (m 0),o 7 (.call 65 [(t 6)]),o 2 (m 7)]),
 .ret])⟩
def zjP:CFn:=⟨72,[.tmp 4],(q [(.reg [o 4 (.mv (c (.nils 1)))]),
 (.reg [o 5 (.mv (c (.nils 1)))]),
 (q [(.reg [o 14 (m 0),o 15 (ln 14),o 16 (.mv (c (n 0)))]),
 (.block 0 (.loop (q [(.reg [o 17 (b .lss 16 15)]),
 (i 17 .skip (.exit 0)),
 (.block 1 (q [(.reg [o 18 (m 16),o 6 (m 18)]),
 (.reg [o 19 (m 6),o 7 (m 19)]),
 (q [(.reg [o 20 (m 6),o 21 (bc .sub 20 (n 1)),o 8 (m 21)]),
 (.block 2 (.loop (q [(q [(.reg [o 22 (m 8),o 23 (bc .geq 22 (n 0))]),
 (i 23 .skip (.exit 2))]),
 (.block 3 (q [(.regd [o 26 (m 0),o 27 (m 6),o 28 (ia 1 26 27),o 29 (l 28),o 30 (m 0),o 31 (m 8),o 32 (ia 1 30 31),o 33 (l 32),o 34 (b .eql 29 33),o 9 (m 34)] [0,0,3,7,0,0,48,112,255,511]),
 (q [(.reg [o 35 (m 1),o 36 (ln 35),o 37 (.mv (c (n 0)))]),
 (.block 4 (.loop (q [(.reg [o 38 (b .lss 37 36)]),
 (i 38 .skip (.exit 4)),
 (.block 5 (q [(.reg [o 39 (ia 1 35 37),o 40 (l 39),o 11 (m 40)]),
 (.regd [o 41 (m 9),o 42 (m 41),g 43 42 true (m 0),g 44 42 true (m 11),g 45 42 true (m 6),g 46 42 true (ia 1 44 45),g 47 42 true (l 46),g 48 42 true (.call 168 [(t 43),(t 47)]),g 49 42 true (m 0),g 50 42 true (m 11),g 51 42 true (m 8),g 52 42 true (ia 1 50 51),g 53 42 true (l 52),g 54 42 true (.call 168 [(t 49),(t 53)]),g 55 42 true (b .eql 48 54),o 56 (pf 42 55),o 9 (m 56)] [0,1,3,3,3,27,59,127,3,3,3,1539,3587,8191,16383,32767,65535])])),
 (.reg [o 57 (bc .add 37 (n 1)),o 37 (m 57)])])))]),
 (.reg [o 58 (m 9)]),
 (i 58 (.reg [o 59 (m 8),o 7 (m 59)]) .skip)])),
 (.reg [o 24 (m 8),o 25 (bc .sub 24 (n 1)),o 8 (m 25)])])))]),
 (.reg [o 60 (m 5),o 61 (m 7),o 62 (.bslice 1 1 [(n 0)] [(0,(t 61))]),o 63 (.app 1 8 (t 60) (t 62)),o 5 (m 63)])])),
 (.reg [o 64 (bc .add 16 (n 1)),o 16 (m 64)])])))]),
 (.reg [o 66 (m 0),o 67 (m 5),o 68 (.call 131 [(t 66),(t 67)]),o 65 (m 68),o 69 (e 65 0),o 70 (e 65 1),o 12 (m 69),o 13 (m 70)]),
 (.reg [o 71 (m 12),o 4 (m 71)]),
 .ret])⟩
def zjf:CFn:=⟨12,[.tmp 2,.tmp 3],(q [(.reg [o 2 (.mv (c (.nils 1))),o 3 (.mv (c (n 0)))]),
 (q [(.reg [o 4 (m 0),o 5 (bc .lss 4 (n 0)),o 6 (m 5),g 7 6 false (m 0),g 8 6 false (bc .gtr 7 (n 64)),o 9 (pt 6 8)]),
 (i 9 (q [(.reg [o 2 (.mv (c (.nils 1))),o 3 (.mv (c (n 8)))]),
 .ret]) .skip)]),
 (.reg [o 10 (m 0),o 11 (.mkslice 1 8 [(n 0)] (t 10) (t 10)),o 2 (m 11),o 3 (.mv (c (n 0)))]),
 .ret])⟩
def zk1:CFn:=⟨20,[.tmp 4,.tmp 5],(q [(.reg [o 4 (.mv (c (.nils 1))),o 5 (.mv (c (n 0)))]),
 (q [(.reg [o 7 (m 0),o 8 (.call 59 [(t 7)]),o 6 (m 8)]),
 (.reg [o 9 (m 6),o 10 (bc .neq 9 (n 0))]),
 (i 10 (q [(.reg [o 11 (m 6),o 4 (.mv (c (.nils 1))),o 5 (m 11)]),
 .ret]) .skip)]),
 (q [(.reg [o 12 (m 1),o 13 (ln 12),o 14 (m 0),o 15 (ln 14),o 16 (b .neq 13 15)]),
 (i 16 (q [(.reg [o 4 (.mv (c (.nils 1))),o 5 (.mv (c (n 3)))]),
 .ret]) .skip)]),
 (.reg [o 17 (m 0),o 18 (m 1),o 19 (.call 169 [(t 17),(t 18)]),o 4 (m 19),o 5 (.mv (c (n 0)))]),
 .ret])⟩
def zl3:CFn:=⟨34,[.tmp 5],(q [(.reg [o 5 (.mv (c (.nils 1)))]),
 (.reg [o 9 (m 0),o 10 (m 1),o 11 (ia 1 9 10),o 12 (l 11),o 13 (.bslice 1 1 [(n 0)] [(0,(t 12))]),o 14 (.bslice 1 1 [(.nils 1)] [(0,(t 13))]),o 6 (m 14)]),
 (q [(.reg [o 15 (f 2 2),o 16 (l 15),o 17 (ln 16),o 18 (.mv (c (n 0)))]),
 (.block 0 (.loop (q [(.reg [o 19 (b .lss 18 17)]),
 (i 19 .skip (.exit 0)),
 (.block 1 (q [(.reg [o 20 (ia 1 16 18),o 21 (l 20),o 8 (m 21)]),
 (.reg [o 22 (m 6),o 23 (m 0),o 24 (m 8),o 25 (m 1),o 26 (ia 1 24 25),o 27 (l 26),o 28 (.call 126 [(t 23),(t 27)]),o 29 (.call 93 [(t 28)]),o 30 (.bslice 1 1 [(.nils 1)] [(0,(t 29))]),o 31 (.app 1 24 (t 22) (t 30)),o 6 (m 31)])])),
 (.reg [o 32 (bc .add 18 (n 1)),o 18 (m 32)])])))]),
 (.reg [o 33 (m 6),o 5 (m 33)]),
 .ret])⟩
def zji:CFn:=⟨24,[.tmp 4],(q [(.reg [o 4 (.mv (c (u 0)))]),
 (.reg [o 5 (.mv (c (u 0)))]),
 (q [(.reg [o 6 (.mv (c (n 0)))]),
 (.block 0 (.loop (q [(q [(.reg [o 7 (m 6),o 8 (m 1),o 9 (ln 8),o 10 (b .lss 7 9)]),
 (i 10 .skip (.exit 0))]),
 (.block 1 (q [(.reg [o 13 (m 0),o 14 (m 1),o 15 (m 6),o 16 (ia 1 14 15),o 17 (l 16),o 18 (.call 95 [(t 13),(t 17)])]),
 (i 18 (.reg [o 19 (m 5),o 20 (m 6),o 21 (.bin .shl (c (u 1)) (t 20)),o 22 (b .or 19 21),o 5 (m 22)]) .skip)])),
 (.reg [o 11 (m 6),o 12 (bc .add 11 (n 1)),o 6 (m 12)])])))]),
 (.reg [o 23 (m 5),o 4 (m 23)]),
 .ret])⟩
def zl9:CFn:=⟨28,[.tmp 6],(q [(.reg [o 6 (.mv (c (.nils 1)))]),
 (.reg [o 7 (.mv (c (.nils 1)))]),
 (q [(.reg [o 9 (m 0),o 10 (ln 9),o 11 (.mv (c (n 0)))]),
 (.block 0 (.loop (q [(.reg [o 12 (b .lss 11 10)]),
 (i 12 .skip (.exit 0)),
 (.block 1 (q [(.reg [o 13 (m 11),o 8 (m 13)]),
 (.reg [o 14 (m 1),o 15 (m 8),o 16 (.call 95 [(t 14),(t 15)])]),
 (i 16 (.reg [o 17 (m 7),o 18 (m 0),o 19 (m 8),o 20 (ia 1 18 19),o 21 (l 20),o 22 (.bslice 1 1 [(n 0)] [(0,(t 21))]),o 23 (.app 1 8 (t 17) (t 22)),o 7 (m 23)]) .skip)])),
 (.reg [o 24 (bc .add 11 (n 1)),o 11 (m 24)])])))]),
 (.reg [o 25 (m 7),o 26 (m 2),o 27 (.call 172 [(t 25),(t 26)]),o 6 (m 27)]),
 .ret])⟩
def zk4:CFn:=⟨64,[.tmp 2,.tmp 3],(q [(.reg [o 2 (.mv (c (.nils 1))),o 3 (.mv (c (n 0)))]),
 (.reg [o 4 (.mv (c (.nils 1)))]),
 (.reg [o 5 (.mv (c (n 0)))]),
 (q [(.reg [o 11 (m 0),o 12 (ln 11),o 13 (.mv (c (n 0)))]),
 (.block 0 (.loop (q [(.reg [o 14 (b .lss 13 12)]),
 (i 14 .skip (.exit 0)),
 (.block 1 (q [(.reg [o 15 (m 13),o 6 (m 15)]),
 (.reg [o 7 (.mv (c (n 0)))]),
 (q [(.reg [o 16 (m 0),o 17 (ln 16),o 18 (.mv (c (n 0)))]),
 (.block 2 (.loop (q [(.reg [o 19 (b .lss 18 17)]),
 (i 19 .skip (.exit 2)),
 (.block 3 (q [(.reg [o 20 (m 18),o 8 (m 20)]),
 (q [(.regd [o 21 (m 0),o 22 (m 8),o 23 (ia 1 21 22),o 24 (l 23),o 25 (m 0),o 26 (m 6),o 27 (ia 1 25 26),o 28 (l 27),o 29 (.call 173 [(t 24),(t 28)]),o 30 (bc .geq 29 (n 0))] [0,0,3,7,0,0,48,112,255,511]),
 (i 30 (.exit 3) .skip)]),
 (.reg [o 9 (.mv (c .bt))]),
 (q [(.reg [o 10 (.mv (c (n 0)))]),
 (.block 4 (.loop (q [(q [(.reg [o 31 (m 10),o 32 (m 8),o 33 (b .lss 31 32)]),
 (i 33 .skip (.exit 4))]),
 (.block 5 (.regd [o 36 (m 9),o 37 (m 36),g 38 37 true (m 0),g 39 37 true (m 10),g 40 37 true (ia 1 38 39),g 41 37 true (l 40),g 42 37 true (m 0),g 43 37 true (m 8),g 44 37 true (ia 1 42 43),g 45 37 true (l 44),g 46 37 true (.call 173 [(t 41),(t 45)]),g 47 37 true (bc .neq 46 (n 0)),o 48 (pf 37 47),o 9 (m 48)] [0,1,3,3,15,31,3,3,195,451,1023,2047,4095,8191])),
 (.reg [o 34 (m 10),o 35 (bc .add 34 (n 1)),o 10 (m 35)])])))]),
 (.reg [o 49 (m 9)]),
 (i 49 (.reg [o 50 (m 7),o 51 (bc .add 50 (n 1)),o 7 (m 51)]) .skip)])),
 (.reg [o 52 (bc .add 18 (n 1)),o 18 (m 52)])])))]),
 (.reg [o 53 (m 4),o 54 (m 7),o 55 (.bslice 1 1 [(n 0)] [(0,(t 54))]),o 56 (.app 1 8 (t 53) (t 55)),o 4 (m 56)]),
 (.reg [o 57 (m 5),o 58 (m 7),o 59 (bc .add 58 (n 1)),o 60 (.mm true (t 57) (t 59)),o 5 (m 60)])])),
 (.reg [o 61 (bc .add 13 (n 1)),o 13 (m 61)])])))]),
 (.reg [o 62 (m 4),o 63 (m 5),o 2 (m 62),o 3 (m 63)]),
 .ret])⟩
def zk0:CFn:=⟨6,[.tmp 2],(q [(.reg [o 2 (.mv (c (n 0)))]),
 (.reg [o 3 (m 0),o 4 (.call 174 [(t 3)]),o 5 (ln 4),o 2 (m 5)]),
 .ret])⟩
def zjg:CFn:=⟨39,[.tmp 4,.tmp 5],(q [(.reg [o 4 (.mv (c (.nils 1))),o 5 (.mv (c .bf))]),
 (q [(.reg [o 9 (m 0),o 10 (ln 9),o 11 (m 1),o 12 (b .neq 10 11)]),
 (i 12 (q [(.reg [o 4 (.mv (c (.nils 1))),o 5 (.mv (c .bf))]),
 .ret]) .skip)]),
 (.reg [o 6 (.mv (c (.nils 1)))]),
 (q [(.reg [o 7 (.mv (c (n 0)))]),
 (.block 0 (.loop (q [(q [(.reg [o 13 (m 7),o 14 (m 1),o 15 (b .lss 13 14)]),
 (i 15 .skip (.exit 0))]),
 (.block 1 (q [(q [(.reg [o 8 (.mv (c (n 0)))]),
 (.block 2 (.loop (q [(q [(.reg [o 18 (m 8),o 19 (m 1),o 20 (b .lss 18 19)]),
 (i 20 .skip (.exit 2))]),
 (.block 3 (q [(.reg [o 23 (m 0),o 24 (m 8),o 25 (ia 1 23 24),o 26 (l 25),o 27 (m 7),o 28 (b .eql 26 27)]),
 (i 28 (.reg [o 29 (m 6),o 30 (m 8),o 31 (.bslice 1 1 [(n 0)] [(0,(t 30))]),o 32 (.app 1 8 (t 29) (t 31)),o 6 (m 32)]) .skip)])),
 (.reg [o 21 (m 8),o 22 (bc .add 21 (n 1)),o 8 (m 22)])])))]),
 (.reg [o 33 (m 6),o 34 (ln 33),o 35 (m 7),o 36 (bc .add 35 (n 1)),o 37 (b .neq 34 36)]),
 (i 37 (q [(.reg [o 4 (.mv (c (.nils 1))),o 5 (.mv (c .bf))]),
 .ret]) .skip)])),
 (.reg [o 16 (m 7),o 17 (bc .add 16 (n 1)),o 7 (m 17)])])))]),
 (.reg [o 38 (m 6),o 4 (m 38),o 5 (.mv (c .bt))]),
 .ret])⟩
def zoZ:CFn:=⟨93,[],(q [(.reg [o 15 (f 0 1),o 16 (l 15),o 17 (.mkslice 1 8 [(n 0)] (t 16) (t 16)),o 4 (m 17)]),
 (.reg [o 18 (f 0 1),o 19 (l 18),o 20 (.mkslice 1 8 [(n 0)] (t 19) (t 19)),o 5 (m 20)]),
 (q [(.reg [o 21 (m 5),o 22 (ln 21),o 23 (.mv (c (n 0)))]),
 (.block 0 (.loop (q [(.reg [o 24 (b .lss 23 22)]),
 (i 24 .skip (.exit 0)),
 (.block 1 (q [(.reg [o 25 (m 23),o 6 (m 25)]),
 (.reg [o 26 (m 5),o 27 (m 6),o 28 (la 3 1),o 29 (m 6),o 30 (.call 54 [(t 28),(t 29)]),o 31 (ia 1 26 27),w (.store 1 (t 31) (t 30))])])),
 (.reg [o 32 (bc .add 23 (n 1)),o 23 (m 32)])])))]),
 (.reg [o 34 (m 4),o 35 (m 5),o 36 (.call 153 [(t 34),(t 35)]),o 33 (m 36),o 37 (e 33 0),o 38 (e 33 1),o 4 (m 37)]),
 (.block 2 (.loop (q [(q [(.reg [o 39 (m 0),o 40 (m 4),o 41 (.callv (t 39) [(t 40)])]),
 (i 41 .skip (.exit 2))]),
 (.block 3 (q [(.reg [o 42 .mkmap,o 7 (m 42)]),
 (.reg [o 43 (f 0 1),o 44 (l 43),o 45 (.mkslice 1 8 [(n 0)] (t 44) (t 44)),o 8 (m 45)]),
 (q [(.reg [o 46 (m 8),o 47 (ln 46),o 48 (.mv (c (n 0)))]),
 (.block 4 (.loop (q [(.reg [o 49 (b .lss 48 47)]),
 (i 49 .skip (.exit 4)),
 (.block 5 (q [(.reg [o 50 (m 48),o 9 (m 50)]),
 (.reg [o 10 (.mv (c (.d (.str []))))]),
 (q [(.reg [o 51 (l 2),o 52 (ln 51),o 53 (.mv (c (n 0)))]),
 (.block 6 (.loop (q [(.reg [o 54 (b .lss 53 52)]),
 (i 54 .skip (.exit 6)),
 (.block 7 (q [(.reg [o 55 (ia 1 51 53),o 56 (l 55),o 12 (m 56)]),
 (.reg [o 57 (m 10),o 58 (m 4),o 59 (m 12),o 60 (m 9),o 61 (ia 1 59 60),o 62 (l 61),o 63 (.call 155 [(t 58),(t 62)]),o 64 (.call 154 [(t 63),(c (n 16))]),o 65 (bc .add 64 (.d (.str [32]))),o 66 (b .add 57 65),o 10 (m 66)])])),
 (.reg [o 67 (bc .add 53 (n 1)),o 53 (m 67)])])))]),
 (q [(.reg [o 69 (m 7),o 70 (m 10),o 71 (.look .str [(n 0)] (t 69) (t 70) true),o 68 (m 71),o 72 (e 68 0),o 73 (e 68 1),o 13 (m 72),o 14 (m 73)]),
 (.reg [o 74 (m 14),o 75 (.un .not (t 74))]),
 (i 75 (.reg [o 76 (m 7),o 77 (m 10),o 78 (m 7),o 79 (.lenm (t 78)),w (.mupd .str (t 76) (t 77) (t 79))]) .skip)]),
 (.reg [o 80 (m 8),o 81 (m 9),o 82 (m 7),o 83 (m 10),o 84 (.look .str [(n 0)] (t 82) (t 83) false),o 85 (ia 1 80 81),w (.store 1 (t 85) (t 84))])])),
 (.reg [o 86 (bc .add 48 (n 1)),o 48 (m 86)])])))]),
 (.reg [o 88 (m 4),o 89 (m 8),o 90 (.call 153 [(t 88),(t 89)]),o 87 (m 90),o 91 (e 87 0),o 92 (e 87 1),o 4 (m 91)])]))])))])⟩
def zn5:CFn:=⟨20,[.tmp 4,.tmp 5],(q [(.reg [o 4 (.mv (c (.nils 1))),o 5 (.mv (c (n 0)))]),
 (q [(.reg [o 7 (m 0),o 8 (.call 53 [(t 7)]),o 6 (m 8)]),
 (.reg [o 9 (m 6),o 10 (bc .neq 9 (n 0))]),
 (i 10 (q [(.reg [o 11 (m 6),o 4 (.mv (c (.nils 1))),o 5 (m 11)]),
 .ret]) .skip)]),
 (q [(.reg [o 12 (m 0),o 13 (ln 12),o 14 (m 1),o 15 (ln 14),o 16 (b .neq 13 15)]),
 (i 16 (q [(.reg [o 4 (.mv (c (.nils 1))),o 5 (.mv (c (n 3)))]),
 .ret]) .skip)]),
 (.reg [o 17 (m 0),o 18 (m 1),o 19 (.call 183 [(t 17),(t 18)]),o 4 (m 19),o 5 (.mv (c (n 0)))]),
 .ret])⟩
def zkX:CFn:=⟨8,[.tmp 4],(q [(.reg [o 4 (.mv (c (.d (.str []))))]),
 (.reg [o 5 (m 0),o 6 (m 1),o 7 (.call 184 [(t 5),(t 6)]),o 4 (m 7)]),
 .ret])⟩
def zp0:CFn:=⟨18,[.tmp 4],(q [(.reg [o 2 (.box 1 (t 0)),o 4 (.mv (c (u 0)))]),
 (.reg [o 5 (.alloc [(u 0)])]),
 (q [(.reg [o 7 (m 1),o 8 (.call 66 [(t 7)])]),
 (.block 0 (.rng (t 8) [9] (.reg [o 6 (m 9)]) (.block 1 (.regd [o 10 (l 5),o 11 (l 2),o 12 (m 6),o 13 (ia 1 11 12),o 14 (l 13),o 15 (.bin .shl (c (u 1)) (t 14)),o 16 (b .or 10 15),w (.store 1 (t 5) (t 16))] [0,0,0,6,14,30,63,127]))))]),
 (.reg [o 17 (l 5),o 4 (m 17)]),
 .ret])⟩
def zms:CFn:=⟨16,[.tmp 2],(q [(.reg [o 2 (.mv (c (.nils 1)))]),
 (.reg [o 3 (.mv (c (.nils 1)))]),
 (.block 0 (.loop (q [(q [(.reg [o 4 (m 0),o 5 (bc .neq 4 (u 0))]),
 (i 5 .skip (.exit 0))]),
 (.block 1 (.reg [o 10 (m 3),o 11 (m 0),o 12 (.call 100 [(t 11)]),o 13 (.bslice 1 1 [(n 0)] [(0,(t 12))]),o 14 (.app 1 8 (t 10) (t 13)),o 3 (m 14)])),
 (.reg [o 6 (m 0),o 7 (m 0),o 8 (bc .sub 7 (u 1)),o 9 (b .and 6 8),o 0 (m 9)])]))),
 (.reg [o 15 (m 3),o 2 (m 15)]),
 .ret])⟩
def zo2:CFn:=⟨37,[.tmp 2,.tmp 3],(q [(.reg [o 2 (.mv (c (.nils 1))),o 3 (.mv (c (n 0)))]),
 (.reg [o 8 (m 0),o 9 (.call 185 [(t 8)]),o 4 (m 9)]),
 (.reg [o 10 (m 4),o 11 (.call 186 [(t 10),(c (.fn zS []))])]),
 (.reg [o 12 (m 4),o 13 (.call 188 [(t 12),(c (.fn zcB []))]),o 4 (m 13)]),
 (.reg [o 14 (m 0),o 15 (ln 14),o 16 (.mkslice 1 8 [(n 0)] (t 15) (t 15)),o 5 (m 16)]),
 (q [(.reg [o 17 (m 0),o 18 (ln 17),o 19 (.mv (c (n 0)))]),
 (.block 0 (.loop (q [(.reg [o 20 (b .lss 19 18)]),
 (i 20 .skip (.exit 0)),
 (.block 1 (q [(.reg [o 21 (m 19),o 22 (ia 1 17 19),o 23 (l 22),o 6 (m 21),o 7 (m 23)]),
 (.reg [o 25 (m 5),o 26 (m 6),o 27 (m 4),o 28 (m 7),o 29 (.call 190 [(t 27),(t 28),(c (.fn zS []))]),o 24 (m 29),o 30 (e 24 0),o 31 (e 24 1),o 32 (ia 1 25 26),w (.store 1 (t 32) (t 30))])])),
 (.reg [o 33 (bc .add 19 (n 1)),o 19 (m 33)])])))]),
 (.reg [o 34 (m 5),o 35 (m 4),o 36 (ln 35),o 2 (m 34),o 3 (m 36)]),
 .ret])⟩
def zeZ:CFn:=⟨49,[],(q [(.reg [o 8 (m 1),o 9 (bc .add 8 (n 1)),o 6 (m 9)]),
 (.block 0 (.loop (q [(q [(.reg [o 10 (m 6),o 11 (m 2),o 12 (b .lss 10 11)]),
 (i 12 .skip (.exit 0))]),
 (.block 1 (q [(.reg [o 15 (m 6),o 7 (m 15)]),
 (.block 2 (.loop (q [(q [(.regd [o 16 (m 7),o 17 (m 1),o 18 (b .gtr 16 17),o 19 (m 18),g 20 19 true (m 0),g 21 19 true (m 7),g 22 19 true (ia 1 20 21),g 23 19 true (l 22),g 24 19 true (m 0),g 25 19 true (m 7),g 26 19 true (bc .sub 25 (n 1)),g 27 19 true (ia 1 24 26),g 28 19 true (l 27),g 29 19 true (.call 164 [(t 23),(t 28)]),o 30 (pf 19 29)] [0,0,3,7,15,15,63,127,15,15,527,1807,3855,8191,16383]),
 (i 30 .skip (.exit 2))]),
 (.block 3 (.regd [o 33 (m 0),o 34 (m 7),o 35 (m 0),o 36 (m 7),o 37 (bc .sub 36 (n 1)),o 38 (m 0),o 39 (m 7),o 40 (bc .sub 39 (n 1)),o 41 (ia 1 38 40),o 42 (l 41),o 43 (m 0),o 44 (m 7),o 45 (ia 1 43 44),o 46 (l 45),o 47 (ia 1 33 34),w (.store 1 (t 47) (t 42)),o 48 (ia 1 35 37),w (.store 1 (t 48) (t 46))] [0,0,0,0,8,0,0,64,224,480,0,0,3072,7168,16355,32739,65535,131071])),
 (.reg [o 31 (m 7),o 32 (bc .sub 31 (n 1)),o 7 (m 32)])])))])),
 (.reg [o 13 (m 6),o 14 (bc .add 13 (n 1)),o 6 (m 14)])])))])⟩
def zp1:CFn:=⟨17,[.tmp 4],(q [(.reg [o 4 (.mv (c .bf))]),
 (.reg [o 5 (m 0),o 6 (.call 196 [(t 5)]),o 7 (m 6),g 8 7 true (m 1),g 9 7 true (.call 196 [(t 8)]),g 10 7 true (.un .not (t 9)),o 11 (pf 7 10),o 12 (m 11),g 13 12 false (m 0),g 14 12 false (m 1),g 15 12 false (b .lss 13 14),o 16 (pt 12 15),o 4 (m 16)]),
 .ret])⟩
def zjk:CFn:=⟨30,[.tmp 4],(q [(.reg [o 4 (.mv (c (u 0)))]),
 (.reg [o 5 (.mv (c (u 0)))]),
 (q [(.reg [o 8 (m 0),o 9 (ln 8),o 10 (.mv (c (n 0)))]),
 (.block 0 (.loop (q [(.reg [o 11 (b .lss 10 9)]),
 (i 11 .skip (.exit 0)),
 (.block 1 (q [(.reg [o 12 (m 10),o 13 (ia 1 8 10),o 14 (l 13),o 6 (m 12),o 7 (m 14)]),
 (.reg [o 15 (m 1),o 16 (m 6),o 17 (.call 95 [(t 15),(t 16)]),o 18 (m 17),g 19 18 true (m 5),g 20 18 true (m 7),g 21 18 true (.call 95 [(t 19),(t 20)]),g 22 18 true (.un .not (t 21)),o 23 (pf 18 22)]),
 (i 23 (.reg [o 24 (m 5),o 25 (m 7),o 26 (.bin .shl (c (u 1)) (t 25)),o 27 (b .add 24 26),o 5 (m 27)]) .skip)])),
 (.reg [o 28 (bc .add 10 (n 1)),o 10 (m 28)])])))]),
 (.reg [o 29 (m 5),o 4 (m 29)]),
 .ret])⟩
def zh4:CFn:=⟨47,[.tmp 4],(q [(.reg [o 4 (.mv (c (.nils 1)))]),
 (.reg [o 5 (.mv (c (.nils 1)))]),
 (q [(.reg [o 9 (m 0),o 10 (ln 9),o 11 (.mv (c (n 0)))]),
 (.block 0 (.loop (q [(.reg [o 12 (b .lss 11 10)]),
 (i 12 .skip (.exit 0)),
 (.block 1 (q [(.reg [o 13 (m 11),o 6 (m 13)]),
 (.reg [o 14 (m 6),o 7 (m 14)]),
 (q [(.reg [o 15 (m 6),o 8 (m 15)]),
 (.block 2 (.loop (q [(q [(.reg [o 16 (m 8),o 17 (bc .geq 16 (n 0))]),
 (i 17 .skip (.exit 2))]),
 (.block 3 (q [(.regd [o 20 (m 0),o 21 (m 8),o 22 (ia 1 20 21),o 23 (l 22),o 24 (m 0),o 25 (m 6),o 26 (ia 1 24 25),o 27 (l 26),o 28 (b .eql 23 27),o 29 (m 28),g 30 29 true (m 1),g 31 29 true (m 8),g 32 29 true (ia 1 30 31),g 33 29 true (l 32),g 34 29 true (m 1),g 35 29 true (m 6),g 36 29 true (ia 1 34 35),g 37 29 true (l 36),g 38 29 true (b .eql 33 37),o 39 (pf 29 38)] [0,0,3,7,0,0,48,112,255,511,1023,1023,4095,8191,1023,1023,50175,115711,262143,524287]),
 (i 39 (.reg [o 40 (m 8),o 7 (m 40)]) .skip)])),
 (.reg [o 18 (m 8),o 19 (bc .sub 18 (n 1)),o 8 (m 19)])])))]),
 (.reg [o 41 (m 5),o 42 (m 7),o 43 (.bslice 1 1 [(n 0)] [(0,(t 42))]),o 44 (.app 1 8 (t 41) (t 43)),o 5 (m 44)])])),
 (.reg [o 45 (bc .add 11 (n 1)),o 11 (m 45)])])))]),
 (.reg [o 46 (m 5),o 4 (m 46)]),
 .ret])⟩
def zjO:CFn:=⟨70,[.tmp 4],(q [(.reg [o 4 (.mv (c (.nils 1)))]),
 (.reg [o 5 (.mv (c (.nils 1)))]),
 (q [(.reg [o 10 (m 0),o 11 (ln 10),o 12 (.mv (c (n 0)))]),
 (.block 0 (.loop (q [(.reg [o 13 (b .lss 12 11)]),
 (i 13 .skip (.exit 0)),
 (.block 1 (q [(.reg [o 14 (ia 1 10 12),o 15 (l 14),o 7 (m 15)]),
 (.reg [o 8 (.mv (c (n 0)))]),
 (.block 2 (.loop (q [(q [(.reg [o 16 (m 8),o 17 (m 5),o 18 (ln 17),o 19 (b .lss 16 18),o 20 (m 19),g 21 20 true (m 5),g 22 20 true (m 8),g 23 20 true (ia 1 21 22),g 24 20 true (l 23),g 25 20 true (m 7),g 26 20 true (b .lss 24 25),o 27 (pf 20 26)]),
 (i 27 .skip (.exit 2))]),
 (.block 3 (.reg [o 28 (m 8),o 29 (bc .add 28 (n 1)),o 8 (m 29)]))]))),
 (q [(.reg [o 30 (m 1),o 31 (m 30),g 32 31 true (m 8),g 33 31 true (m 5),g 34 31 true (ln 33),g 35 31 true (b .lss 32 34),o 36 (pf 31 35),o 37 (m 36),g 38 37 true (m 5),g 39 37 true (m 8),g 40 37 true (ia 1 38 39),g 41 37 true (l 40),g 42 37 true (m 7),g 43 37 true (b .eql 41 42),o 44 (pf 37 43)]),
 (i 44 (.exit 1) .skip)]),
 (.reg [o 45 (m 5),o 46 (.bslice 1 1 [(n 0)] [(0,(c (n 0)))]),o 47 (.app 1 8 (t 45) (t 46)),o 5 (m 47)]),
 (q [(.reg [o 48 (m 5),o 49 (ln 48),o 50 (bc .sub 49 (n 1)),o 9 (m 50)]),
 (.block 4 (.loop (q [(q [(.reg [o 51 (m 9),o 52 (m 8),o 53 (b .gtr 51 52)]),
 (i 53 .skip (.exit 4))]),
 (.block 5 (.reg [o 56 (m 5),o 57 (m 9),o 58 (m 5),o 59 (m 9),o 60 (bc .sub 59 (n 1)),o 61 (ia 1 58 60),o 62 (l 61),o 63 (ia 1 56 57),w (.store 1 (t 63) (t 62))])),
 (.reg [o 54 (m 9),o 55 (bc .sub 54 (n 1)),o 9 (m 55)])])))]),
 (.reg [o 64 (m 5),o 65 (m 8),o 66 (m 7),o 67 (ia 1 64 65),w (.store 1 (t 67) (t 66))])])),
 (.reg [o 68 (bc .add 12 (n 1)),o 12 (m 68)])])))]),
 (.reg [o 69 (m 5),o 4 (m 69)]),
 .ret])⟩
def zjM:CFn:=⟨25,[.tmp 4],(q [(.reg [o 4 (.mv (c (n 0)))]),
 (q [(.reg [o 7 (m 0),o 8 (ln 7),o 9 (.mv (c (n 0)))]),
 (.block 0 (.loop (q [(.reg [o 10 (b .lss 9 8)]),
 (i 10 .skip (.exit 0)),
 (.block 1 (q [(.reg [o 11 (m 9),o 5 (m 11)]),
 (.regd [o 12 (m 0),o 13 (m 5),o 14 (ia 1 12 13),o 15 (l 14),o 16 (m 1),o 17 (m 5),o 18 (ia 1 16 17),o 19 (l 18),o 20 (.call 197 [(t 15),(t 19)]),o 6 (m 20)] [0,0,3,7,0,0,48,112,255,511]),
 (.reg [o 21 (m 6),o 22 (bc .neq 21 (n 0))]),
 (i 22 (q [(.reg [o 23 (m 6),o 4 (m 23)]),
 .ret]) .skip)])),
 (.reg [o 24 (bc .add 9 (n 1)),o 9 (m 24)])])))]),
 (.reg [o 4 (.mv (c (n 0)))]),
 .ret])⟩
def zjJ:CFn:=⟨27,[.tmp 2],(q [(.reg [o 2 (.mv (c (.nils 1)))]),
 (q [(.reg [o 5 (m 0),o 6 (.call 59 [(t 5)]),o 7 (bc .neq 6 (n 0))]),
 (i 7 (q [(.reg [o 2 (.mv (c (.nils 1)))]),
 .ret]) .skip)]),
 (.reg [o 3 (.mv (c (.nils 1)))]),
 (q [(.reg [o 8 (m 0),o 9 (ln 8),o 10 (.mv (c (n 0)))]),
 (.block 0 (.loop (q [(.reg [o 11 (b .lss 10 9)]),
 (i 11 .skip (.exit 0)),
 (.block 1 (q [(.reg [o 12 (m 10),o 4 (m 12)]),
 (.reg [o 13 (m 0),o 14 (m 4),o 15 (ia 1 13 14),o 16 (l 15),o 17 (m 4),o 18 (b .eql 16 17)]),
 (i 18 (.reg [o 19 (m 3),o 20 (m 0),o 21 (m 4),o 22 (.call 198 [(t 20),(t 21)]),o 23 (.bslice 1 1 [(u 0)] [(0,(t 22))]),o 24 (.app 1 8 (t 19) (t 23)),o 3 (m 24)]) .skip)])),
 (.reg [o 25 (bc .add 10 (n 1)),o 10 (m 25)])])))]),
 (.reg [o 26 (m 3),o 2 (m 26)]),
 .ret])⟩
def zmv:CFn:=⟨48,[.tmp 4],(q [(.reg [o 4 (.mv (c (.nils 1)))]),
 (.reg [o 11 .mkmap,o 5 (m 11)]),
 (.reg [o 12 (m 0),o 13 (ln 12),o 14 (.mkslice 1 8 [(n 0)] (t 13) (t 13)),o 6 (m 14)]),
 (q [(.reg [o 15 (m 0),o 16 (ln 15),o 17 (.mv (c (n 0)))]),
 (.block 0 (.loop (q [(.reg [o 18 (b .lss 17 16)]),
 (i 18 .skip (.exit 0)),
 (.block 1 (q [(.reg [o 19 (m 17),o 7 (m 19)]),
 (.regd [o 20 (m 0),o 21 (m 7),o 22 (ia 1 20 21),o 23 (l 22),o 24 (m 1),o 25 (m 7),o 26 (ia 1 24 25),o 27 (l 26),o 28 (.build [(n 0),(n 0)] [(0,1,(t 23)),(1,1,(t 27))]),o 8 (.alloc [(n 0),(n 0)]),w (.store 2 (t 8) (t 28))] [0,0,3,7,0,0,48,112,255,0,1023]),
 (q [(.reg [o 30 (m 5),o 31 (la 2 8),o 32 (.look (.agg [(.int .i64),(.int .i64)]) [(n 0)] (t 30) (t 31) true),o 29 (m 32),o 33 (e 29 0),o 34 (e 29 1),o 9 (m 33),o 10 (m 34)]),
 (.reg [o 35 (m 10),o 36 (.un .not (t 35))]),
 (i 36 (.reg [o 37 (m 5),o 38 (la 2 8),o 39 (m 7),w (.mupd (.agg [(.int .i64),(.int .i64)]) (t 37) (t 38) (t 39))]) .skip)]),
 (.reg [o 40 (m 6),o 41 (m 7),o 42 (m 5),o 43 (la 2 8),o 44 (.look (.agg [(.int .i64),(.int .i64)]) [(n 0)] (t 42) (t 43) false),o 45 (ia 1 40 41),w (.store 1 (t 45) (t 44))])])),
 (.reg [o 46 (bc .add 17 (n 1)),o 17 (m 46)])])))]),
 (.reg [o 47 (m 6),o 4 (m 47)]),
 .ret])⟩
def zck:CFn:=⟨8,[.tmp 2],(q [(.reg [o 2 (.mv (c (.nils 1)))]),
 (q [(.reg [o 3 (m 0),o 4 (.eqN false (t 3) (c (.nils 1)))]),
 (i 4 (q [(.reg [o 2 (.mv (c (.nils 1)))]),
 .ret]) .skip)]),
 (.reg [o 5 (.bslice 1 0 [(.nils 1)] []),o 6 (m 0),o 7 (.app 1 24 (t 5) (t 6)),o 2 (m 7)]),
 .ret])⟩
def zb4:CFn:=⟨14,[],(q [(.reg [o 5 (m 0),o 6 (ln 5),o 4 (m 6)]),
 (.reg [o 7 (m 0),o 8 (m 4),o 9 (m 4),o 10 (.conv .u64 (t 9)),o 11 (.call 128 [(t 10)]),o 12 (m 1),o 13 (.call 208 [(t 7),(c (n 0)),(t 8),(t 11),(t 12)])])])⟩
def zo1:CFn:=⟨8,[.tmp 4],(q [(.reg [o 4 (.mv (c (n 0)))]),
 (.reg [o 5 (m 0),o 6 (m 1),o 7 (.call 209 [(t 5),(t 6),(c (.fn zbH []))]),o 4 (m 7)]),
 .ret])⟩
def zbW:CFn:=⟨66,[.tmp 4],(q [(.reg [o 4 (.mv (c (.nils 1)))]),
 (q [(.reg [o 8 (m 0),o 9 (ln 8),o 10 (bc .lss 9 (n 2))]),
 (i 10 (q [(.reg [o 11 (m 0),o 4 (m 11)]),
 .ret]) .skip)]),
 (q [(.reg [o 5 (.mv (c (n 1)))]),
 (.block 0 (.loop (q [(q [(.reg [o 12 (m 5),o 13 (m 0),o 14 (ln 13),o 15 (b .lss 12 14)]),
 (i 15 .skip (.exit 0))]),
 (.block 1 (q [(.regd [o 18 (m 1),o 19 (m 0),o 20 (m 5),o 21 (ia 1 19 20),o 22 (l 21),o 23 (m 0),o 24 (m 5),o 25 (bc .sub 24 (n 1)),o 26 (ia 1 23 25),o 27 (l 26),o 28 (.callv (t 18) [(t 22),(t 27)])] [0,0,0,6,14,0,0,64,224,480,1023]),
 (i 28 (q [(.reg [o 29 (m 0),o 30 (m 5),o 31 (.slice 1 (t 29) (some (t 30)) none),o 6 (m 31)]),
 (q [(.reg [o 7 (.mv (c (n 1)))]),
 (.block 2 (.loop (q [(q [(.reg [o 32 (m 7),o 33 (m 6),o 34 (ln 33),o 35 (b .lss 32 34)]),
 (i 35 .skip (.exit 2))]),
 (.block 3 (q [(.regd [o 38 (m 1),o 39 (m 6),o 40 (m 7),o 41 (ia 1 39 40),o 42 (l 41),o 43 (m 6),o 44 (m 7),o 45 (bc .sub 44 (n 1)),o 46 (ia 1 43 45),o 47 (l 46),o 48 (.callv (t 38) [(t 42),(t 47)]),o 49 (.un .not (t 48))] [0,0,0,6,14,0,0,64,224,480,1023,2047]),
 (i 49 (q [(.reg [o 50 (m 0),o 51 (m 5),o 52 (m 6),o 53 (m 7),o 54 (ia 1 52 53),o 55 (l 54),o 56 (ia 1 50 51),w (.store 1 (t 56) (t 55))]),
 (.reg [o 57 (m 5),o 58 (bc .add 57 (n 1)),o 5 (m 58)])]) .skip)])),
 (.reg [o 36 (m 7),o 37 (bc .add 36 (n 1)),o 7 (m 37)])])))]),
 (.reg [o 59 (m 0),o 60 (m 5),o 61 (.slice 1 (t 59) (some (t 60)) none),w (.clear 1 [(.nils 1)] (t 61))]),
 (.reg [o 62 (m 0),o 63 (m 5),o 64 (.slice 1 (t 62) none (some (t 63))),o 4 (m 64)]),
 .ret]) .skip)])),
 (.reg [o 16 (m 5),o 17 (bc .add 16 (n 1)),o 5 (m 17)])])))]),
 (.reg [o 65 (m 0),o 4 (m 65)]),
 .ret])⟩
def zmu:CFn:=⟨9,[.tmp 4],(q [(.reg [o 4 (.mv (c .bf))]),
 (.reg [o 5 (m 0),o 6 (m 1),o 7 (.call 187 [(t 5),(t 6)]),o 8 (bc .eql 7 (n 0)),o 4 (m 8)]),
 .ret])⟩
def zaK:CFn:=⟨49,[.tmp 6,.tmp 7],(q [(.reg [o 6 (.mv (c (n 0))),o 7 (.mv (c .bf))]),
 (.reg [o 12 (m 0),o 13 (ln 12),o 8 (m 13)]),
 (.reg [o 14 (m 8),o 9 (.mv (c (n 0))),o 10 (m 14)]),
 (.block 0 (.loop (q [(q [(.reg [o 15 (m 9),o 16 (m 10),o 17 (b .lss 15 16)]),
 (i 17 .skip (.exit 0))]),
 (.block 1 (q [(.reg [o 18 (m 9),o 19 (m 10),o 20 (b .add 18 19),o 21 (.conv .u64 (t 20)),o 22 (bc .shr 21 (u 1)),o 23 (.conv .i64 (t 22)),o 11 (m 23)]),
 (.reg [o 24 (m 2),o 25 (m 0),o 26 (m 11),o 27 (ia 1 25 26),o 28 (l 27),o 29 (m 1),o 30 (.callv (t 24) [(t 28),(t 29)]),o 31 (bc .lss 30 (n 0))]),
 (i 31 (.reg [o 32 (m 11),o 33 (bc .add 32 (n 1)),o 9 (m 33)]) (.reg [o 34 (m 11),o 10 (m 34)]))]))]))),
 (.reg [o 35 (m 9),o 36 (m 9),o 37 (m 8),o 38 (b .lss 36 37),o 39 (m 38),g 40 39 true (m 2),g 41 39 true (m 0),g 42 39 true (m 9),g 43 39 true (ia 1 41 42),g 44 39 true (l 43),g 45 39 true (m 1),g 46 39 true (.callv (t 40) [(t 44),(t 45)]),g 47 39 true (bc .eql 46 (n 0)),o 48 (pf 39 47),o 6 (m 35),o 7 (m 48)]),
 .ret])⟩
def zo0:CFn:=⟨6,[.tmp 2],(q [(.reg [o 2 (.mv (c .bf))]),
 (.reg [o 3 (m 0),o 4 (m 0),o 5 (b .neq 3 4),o 2 (m 5)]),
 .ret])⟩
def zl8:CFn:=⟨39,[.tmp 4],(q [(.reg [o 4 (.mv (c (n 0)))]),
 (q [(.reg [o 6 (m 0),o 7 (ln 6),o 8 (.mv (c (n 0)))]),
 (.block 0 (.loop (q [(.reg [o 9 (b .lss 8 7)]),
 (i 9 .skip (.exit 0)),
 (.block 1 (q [(.reg [o 10 (m 8),o 5 (m 10)]),
 (q [(.reg [o 11 (m 5),o 12 (m 1),o 13 (ln 12),o 14 (b .geq 11 13)]),
 (i 14 (q [(.reg [o 4 (.mv (c (n 1)))]),
 .ret]) .skip)]),
 (.regd [o 15 (m 0),o 16 (m 5),o 17 (ia 1 15 16),o 18 (l 17),o 19 (m 1),o 20 (m 5),o 21 (ia 1 19 20),o 22 (l 21),o 23 (b .neq 18 22)] [0,0,3,7,0,0,48,112,255]),
 (i 23 (q [(q [(.regd [o 24 (m 0),o 25 (m 5),o 26 (ia 1 24 25),o 27 (l 26),o 28 (m 1),o 29 (m 5),o 30 (ia 1 28 29),o 31 (l 30),o 32 (b .lss 27 31)] [0,0,3,7,0,0,48,112,255]),
 (i 32 (q [(.reg [o 4 (.mv (c (n (-1))))]),
 .ret]) .skip)]),
 (.reg [o 4 (.mv (c (n 1)))]),
 .ret]) .skip)])),
 (.reg [o 33 (bc .add 8 (n 1)),o 8 (m 33)])])))]),
 (q [(.reg [o 34 (m 0),o 35 (ln 34),o 36 (m 1),o 37 (ln 36),o 38 (b .lss 35 37)]),
 (i 38 (q [(.reg [o 4 (.mv (c (n (-1))))]),
 .ret]) .skip)]),
 (.reg [o 4 (.mv (c (n 0)))]),
 .ret])⟩
def zkY:CFn:=⟨42,[.tmp 4],(q [(.reg [o 4 (.mv (c (u 0)))]),
 (q [(.reg [o 8 (m 0),o 9 (.call 59 [(t 8)]),o 10 (bc .neq 9 (n 0)),o 11 (m 10),g 12 11 false (m 1),g 13 11 false (bc .lss 12 (n 0)),o 14 (pt 11 13),o 15 (m 14),g 16 15 false (m 1),g 17 15 false (m 0),g 18 15 false (ln 17),g 19 15 false (b .geq 16 18),o 20 (pt 15 19)]),
 (i 20 (q [(.reg [o 4 (.mv (c (u 0)))]),
 .ret]) .skip)]),
 (.reg [o 5 (.mv (c (u 0))),o 6 (.mv (c (u 1)))]),
 (q [(.reg [o 21 (m 0),o 22 (ln 21),o 23 (.mv (c (n 0)))]),
 (.block 0 (.loop (q [(.reg [o 24 (b .lss 23 22)]),
 (i 24 .skip (.exit 0)),
 (.block 1 (q [(.reg [o 25 (m 23),o 7 (m 25)]),
 (q [(.regd [o 26 (m 0),o 27 (m 7),o 28 (ia 1 26 27),o 29 (l 28),o 30 (m 0),o 31 (m 1),o 32 (ia 1 30 31),o 33 (l 32),o 34 (b .eql 29 33)] [0,0,3,7,0,0,48,112,255]),
 (i 34 (.reg [o 35 (m 5),o 36 (m 6),o 37 (b .add 35 36),o 5 (m 37)]) .skip)]),
 (.reg [o 38 (m 6),o 39 (bc .mul 38 (u 2)),o 6 (m 39)])])),
 (.reg [o 40 (bc .add 23 (n 1)),o 23 (m 40)])])))]),
 (.reg [o 41 (m 5),o 4 (m 41)]),
 .ret])⟩
def zdP:CFn:=⟨148,[],(q [(.reg [o 10 (.mv (c .bt))]),
 (.reg [o 11 (.mv (c .bt))]),
 (.block 0 (.loop (.block 1 (q [(.reg [o 21 (m 2),o 22 (m 1),o 23 (b .sub 21 22),o 12 (m 23)]),
 (q [(.reg [o 24 (m 12),o 25 (bc .leq 24 (n 12))]),
 (i 25 (q [(.reg [o 26 (m 0),o 27 (m 1),o 28 (m 2),o 29 (m 4),o 30 (.call 218 [(t 26),(t 27),(t 28),(t 29)])]),
 .ret]) .skip)]),
 (q [(.reg [o 31 (m 3),o 32 (bc .eql 31 (n 0))]),
 (i 32 (q [(.reg [o 33 (m 0),o 34 (m 1),o 35 (m 2),o 36 (m 4),o 37 (.call 219 [(t 33),(t 34),(t 35),(t 36)])]),
 .ret]) .skip)]),
 (q [(.reg [o 38 (m 10),o 39 (.un .not (t 38))]),
 (i 39 (q [(.reg [o 40 (m 0),o 41 (m 1),o 42 (m 2),o 43 (m 4),o 44 (.call 220 [(t 40),(t 41),(t 42),(t 43)])]),
 (.reg [o 45 (m 3),o 46 (bc .sub 45 (n 1)),o 3 (m 46)])]) .skip)]),
 (.reg [o 48 (m 0),o 49 (m 1),o 50 (m 2),o 51 (m 4),o 52 (.call 221 [(t 48),(t 49),(t 50),(t 51)]),o 47 (m 52),o 53 (e 47 0),o 54 (e 47 1),o 13 (m 53),o 14 (m 54)]),
 (q [(.reg [o 55 (m 14),o 56 (bc .eql 55 (n 2))]),
 (i 56 (q [(.reg [o 57 (m 0),o 58 (m 1),o 59 (m 2),o 60 (m 4),o 61 (.call 222 [(t 57),(t 58),(t 59),(t 60)])]),
 (.reg [o 62 (m 2),o 63 (bc .sub 62 (n 1)),o 64 (m 13),o 65 (m 1),o 66 (b .sub 64 65),o 67 (b .sub 63 66),o 13 (m 67)]),
 (.reg [o 14 (.mv (c (n 1)))])]) .skip)]),
 (q [(.reg [o 68 (m 10),o 69 (m 68),g 70 69 true (m 11),o 71 (pf 69 70),o 72 (m 71),g 73 72 true (m 14),g 74 72 true (bc .eql 73 (n 1)),o 75 (pf 72 74)]),
 (i 75 (q [(.reg [o 76 (m 0),o 77 (m 1),o 78 (m 2),o 79 (m 4),o 80 (.call 223 [(t 76),(t 77),(t 78),(t 79)])]),
 (i 80 .ret .skip)]) .skip)]),
 (q [(.regd [o 81 (m 1),o 82 (bc .gtr 81 (n 0)),o 83 (m 82),g 84 83 true (m 4),g 85 83 true (m 0),g 86 83 true (m 1),g 87 83 true (bc .sub 86 (n 1)),g 88 83 true (ia 1 85 87),g 89 83 true (l 88),g 90 83 true (m 0),g 91 83 true (m 13),g 92 83 true (ia 1 90 91),g 93 83 true (l 92),g 94 83 true (.callv (t 84) [(t 89),(t 93)]),g 95 83 true (bc .lss 94 (n 0)),g 96 83 true (.un .not (t 95)),o 97 (pf 83 96)] [0,1,3,7,7,7,39,119,247,7,7,1543,3591,8191,16383,32767,65535]),
 (i 97 (q [(.reg [o 98 (m 0),o 99 (m 1),o 100 (m 2),o 101 (m 13),o 102 (m 4),o 103 (.call 224 [(t 98),(t 99),(t 100),(t 101),(t 102)]),o 15 (m 103)]),
 (.reg [o 104 (m 15),o 1 (m 104)]),
 (.exit 1)]) .skip)]),
 (.reg [o 106 (m 0),o 107 (m 1),o 108 (m 2),o 109 (m 13),o 110 (m 4),o 111 (.call 225 [(t 106),(t 107),(t 108),(t 109),(t 110)]),o 105 (m 111),o 112 (e 105 0),o 113 (e 105 1),o 16 (m 112),o 17 (m 113)]),
 (.reg [o 114 (m 17),o 11 (m 114)]),
 (.reg [o 115 (m 16),o 116 (m 1),o 117 (b .sub 115 116),o 118 (m 2),o 119 (m 16),o 120 (b .sub 118 119),o 18 (m 117),o 19 (m 120)]),
 (.reg [o 121 (m 12),o 122 (bc .quo 121 (n 8)),o 20 (m 122)]),
 (.reg [o 123 (m 18),o 124 (m 19),o 125 (b .lss 123 124)]),
 (i 125 (q [(.reg [o 126 (m 18),o 127 (m 20),o 128 (b .geq 126 127),o 10 (m 128)]),
 (.reg [o 129 (m 0),o 130 (m 1),o 131 (m 16),o 132 (m 3),o 133 (m 4),o 134 (.call 208 [(t 129),(t 130),(t 131),(t 132),(t 133)])]),
 (.reg [o 135 (m 16),o 136 (bc .add 135 (n 1)),o 1 (m 136)])]) (q [(.reg [o 137 (m 19),o 138 (m 20),o 139 (b .geq 137 138),o 10 (m 139)]),
 (.reg [o 140 (m 0),o 141 (m 16),o 142 (bc .add 141 (n 1)),o 143 (m 2),o 144 (m 3),o 145 (m 4),o 146 (.call 208 [(t 140),(t 142),(t 143),(t 144),(t 145)])]),
 (.reg [o 147 (m 16),o 2 (m 147)])]))]))))])⟩
def zh0:CFn:=⟨36,[.tmp 6],(q [(.reg [o 6 (.mv (c (n 0)))]),
 (q [(.reg [o 9 (m 0),o 10 (ln 9),o 11 (m 1),o 12 (ln 11),o 13 (.mm false (t 10) (t 12)),o 14 (.mv (c (n 0)))]),
 (.block 0 (.loop (q [(.reg [o 15 (b .lss 14 13)]),
 (i 15 .skip (.exit 0)),
 (.block 1 (q [(.reg [o 16 (m 14),o 7 (m 16)]),
 (.regd [o 17 (m 2),o 18 (m 0),o 19 (m 7),o 20 (ia 1 18 19),o 21 (l 20),o 22 (m 1),o 23 (m 7),o 24 (ia 1 22 23),o 25 (l 24),o 26 (.callv (t 17) [(t 21),(t 25)]),o 8 (m 26)] [0,0,0,6,14,0,0,96,224,511,1023]),
 (.reg [o 27 (m 8),o 28 (bc .neq 27 (n 0))]),
 (i 28 (q [(.reg [o 29 (m 8),o 6 (m 29)]),
 .ret]) .skip)])),
 (.reg [o 30 (bc .add 14 (n 1)),o 14 (m 30)])])))]),
 (.reg [o 31 (m 0),o 32 (ln 31),o 33 (m 1),o 34 (ln 33),o 35 (.call 212 [(t 32),(t 34)]),o 6 (m 35)]),
 .ret])⟩
def zmt:CFn:=⟨8,[.tmp 4],(q [(.reg [o 4 (.mv (c (n 0)))]),
 (.reg [o 5 (m 0),o 6 (m 1),o 7 (.call 211 [(t 5),(t 6),(c (.fn zbG []))]),o 4 (m 7)]),
 .ret])⟩
def ziG:CFn:=⟨36,[.tmp 6],(q [(.reg [o 6 (.mv (c (n 0)))]),
 (q [(.reg [o 9 (m 0),o 10 (ln 9),o 11 (m 1),o 12 (ln 11),o 13 (.mm false (t 10) (t 12)),o 14 (.mv (c (n 0)))]),
 (.block 0 (.loop (q [(.reg [o 15 (b .lss 14 13)]),
 (i 15 .skip (.exit 0)),
 (.block 1 (q [(.reg [o 16 (m 14),o 7 (m 16)]),
 (.regd [o 17 (m 2),o 18 (m 0),o 19 (m 7),o 20 (ia 1 18 19),o 21 (l 20),o 22 (m 1),o 23 (m 7),o 24 (ia 1 22 23),o 25 (l 24),o 26 (.callv (t 17) [(t 21),(t 25)]),o 8 (m 26)] [0,0,0,6,14,0,0,96,224,511,1023]),
 (.reg [o 27 (m 8),o 28 (bc .neq 27 (n 0))]),
 (i 28 (q [(.reg [o 29 (m 8),o 6 (m 29)]),
 .ret]) .skip)])),
 (.reg [o 30 (bc .add 14 (n 1)),o 14 (m 30)])])))]),
 (.reg [o 31 (m 0),o 32 (ln 31),o 33 (m 1),o 34 (ln 33),o 35 (.call 212 [(t 32),(t 34)]),o 6 (m 35)]),
 .ret])⟩
def zmr:CFn:=⟨20,[.tmp 4],(q [(.reg [o 4 (.mv (c (n 0)))]),
 (.reg [o 7 (m 0),o 8 (.call 196 [(t 7)]),o 5 (m 8)]),
 (.reg [o 9 (m 1),o 10 (.call 196 [(t 9)]),o 6 (m 10)]),
 (q [(.reg [o 11 (m 5)]),
 (i 11 (q [(q [(.reg [o 12 (m 6)]),
 (i 12 (q [(.reg [o 4 (.mv (c (n 0)))]),
 .ret]) .skip)]),
 (.reg [o 4 (.mv (c (n (-1))))]),
 .ret]) .skip)]),
 (q [(.reg [o 13 (m 6)]),
 (i 13 (q [(.reg [o 4 (.mv (c (n 1)))]),
 .ret]) .skip)]),
 (q [(.reg [o 14 (m 0),o 15 (m 1),o 16 (b .lss 14 15)]),
 (i 16 (q [(.reg [o 4 (.mv (c (n (-1))))]),
 .ret]) .skip)]),
 (q [(.reg [o 17 (m 0),o 18 (m 1),o 19 (b .gtr 17 18)]),
 (i 19 (q [(.reg [o 4 (.mv (c (n 1)))]),
 .ret]) .skip)]),
 (.reg [o 4 (.mv (c (n 0)))]),
 .ret])⟩
def zcy:CFn:=⟨53,[],(q [(.reg [o 10 (m 1),o 11 (bc .add 10 (n 1)),o 8 (m 11)]),
 (.block 0 (.loop (q [(q [(.reg [o 12 (m 8),o 13 (m 2),o 14 (b .lss 12 13)]),
 (i 14 .skip (.exit 0))]),
 (.block 1 (q [(.reg [o 17 (m 8),o 9 (m 17)]),
 (.block 2 (.loop (q [(q [(.regd [o 18 (m 9),o 19 (m 1),o 20 (b .gtr 18 19),o 21 (m 20),g 22 21 true (m 3),g 23 21 true (m 0),g 24 21 true (m 9),g 25 21 true (ia 1 23 24),g 26 21 true (l 25),g 27 21 true (m 0),g 28 21 true (m 9),g 29 21 true (bc .sub 28 (n 1)),g 30 21 true (ia 1 27 29),g 31 21 true (l 30),g 32 21 true (.callv (t 22) [(t 26),(t 31)]),g 33 21 true (bc .lss 32 (n 0)),o 34 (pf 21 33)] [0,0,3,7,15,15,15,111,239,15,15,1039,3599,7695,16383,32767,65535]),
 (i 34 .skip (.exit 2))]),
 (.block 3 (.regd [o 37 (m 0),o 38 (m 9),o 39 (m 0),o 40 (m 9),o 41 (bc .sub 40 (n 1)),o 42 (m 0),o 43 (m 9),o 44 (bc .sub 43 (n 1)),o 45 (ia 1 42 44),o 46 (l 45),o 47 (m 0),o 48 (m 9),o 49 (ia 1 47 48),o 50 (l 49),o 51 (ia 1 37 38),w (.store 1 (t 51) (t 46)),o 52 (ia 1 39 41),w (.store 1 (t 52) (t 50))] [0,0,0,0,8,0,0,64,224,480,0,0,3072,7168,16355,32739,65535,131071])),
 (.reg [o 35 (m 9),o 36 (bc .sub 35 (n 1)),o 9 (m 36)])])))])),
 (.reg [o 15 (m 8),o 16 (bc .add 15 (n 1)),o 8 (m 16)])])))])⟩
end Go.Ab
namespace Go.Ab
open Go Go.Proofs
theorem zm:Tryz.prog.follows .mixedOrders=true:=by kernel_rfl
theorem znd:zc Tryz.prog zg4=some zmz:=by kernel_rfl
theorem zsT:zc Tryz.prog zfl=some zsO:=by kernel_rfl
theorem zrv:zc Tryz.prog zj0=some zrg:=by kernel_rfl
theorem zmc:zc Tryz.prog zgk=some zl4:=by kernel_rfl
theorem zl0:zc Tryz.prog zdQ=some zsQ:=by kernel_rfl
theorem zhu:zc Tryz.prog ze2=some zn9:=by kernel_rfl
theorem zmd:zc Tryz.prog zgl=some zl6:=by kernel_rfl
theorem zgq:zc Tryz.prog zdX=some zl5:=by kernel_rfl
theorem ziS:zc Tryz.prog zeT=some ziL:=by kernel_rfl
theorem zna:zc Tryz.prog zg1=some zmw:=by kernel_rfl
theorem zlr:zc Tryz.prog zf1=some zkW:=by kernel_rfl
theorem znb:zc Tryz.prog zg2=some zmx:=by kernel_rfl
theorem zjy:zc Tryz.prog zfe=some zjm:=by kernel_rfl
theorem zis:zc Tryz.prog zem=some zh7:=by kernel_rfl
theorem zjx:zc Tryz.prog zfd=some zjl:=by kernel_rfl
theorem zqG:zc Tryz.prog zi1=some zp7:=by kernel_rfl
theorem zmh:zc Tryz.prog zgp=some zma:=by kernel_rfl
theorem zqF:zc Tryz.prog zi0=some zp6:=by kernel_rfl
theorem zdS:zc Tryz.prog zbn=some zdO:=by kernel_rfl
theorem zqC:zc Tryz.prog zd5=some zp3:=by kernel_rfl
theorem zqD:zc Tryz.prog zf0=some zp4:=by kernel_rfl
theorem zpi:zc Tryz.prog zdx=some zoY:=by kernel_rfl
theorem zog:zc Tryz.prog ze1=some zn4:=by kernel_rfl
theorem zsU:zc Tryz.prog zfm=some zsP:=by kernel_rfl
theorem zoi:zc Tryz.prog zhr=some zn6:=by kernel_rfl
theorem zio:zc Tryz.prog zei=some zh3:=by kernel_rfl
theorem zoj:zc Tryz.prog zhs=some zn7:=by kernel_rfl
theorem zlw:zc Tryz.prog zf4=some zk2:=by kernel_rfl
theorem zgd:zc Tryz.prog zdC=some zkZ:=by kernel_rfl
theorem zlx:zc Tryz.prog zf5=some zk3:=by kernel_rfl
theorem ziT:zc Tryz.prog zeU=some ziM:=by kernel_rfl
theorem ziQ:zc Tryz.prog zeR=some ziJ:=by kernel_rfl
theorem ziR:zc Tryz.prog zeS=some ziK:=by kernel_rfl
theorem zqy:zc Tryz.prog ziW=some zpZ:=by kernel_rfl
theorem zdG:zc Tryz.prog zfZ=some zkV:=by kernel_rfl
theorem zoe:zc Tryz.prog zhq=some zn2:=by kernel_rfl
theorem zpm:zc Tryz.prog zid=some zo3:=by kernel_rfl
theorem zir:zc Tryz.prog zek=some zh5:=by kernel_rfl
theorem ziP:zc Tryz.prog zeQ=some ziI:=by kernel_rfl
theorem zcc:zc Tryz.prog zel=some zh6:=by kernel_rfl
theorem zt3:zc Tryz.prog zmM=some ztq:=by kernel_rfl
theorem zd9:zc Tryz.prog zbC=some zd8:=by kernel_rfl
theorem zof:zc Tryz.prog zc3=some zn3:=by kernel_rfl
theorem zvm:zc Tryz.prog zor=some zuX:=by kernel_rfl
theorem zeq:zc Tryz.prog zbI=some zec:=by kernel_rfl
theorem zt4:zc Tryz.prog zmN=some ztr:=by kernel_rfl
theorem zru:zc Tryz.prog zjZ=some zrf:=by kernel_rfl
theorem zim:zc Tryz.prog zb9=some zh1:=by kernel_rfl
theorem ziO:zc Tryz.prog zeP=some ziH:=by kernel_rfl
theorem zdR:zc Tryz.prog za2=some zhf:=by kernel_rfl
theorem zke:zc Tryz.prog zfG=some zjL:=by kernel_rfl
theorem zne:zc Tryz.prog zg5=some zmA:=by kernel_rfl
theorem zok:zc Tryz.prog zht=some zn8:=by kernel_rfl
theorem zkj:zc Tryz.prog zfK=some zjQ:=by kernel_rfl
theorem zlz:zc Tryz.prog zf6=some zk5:=by kernel_rfl
theorem zoa:zc Tryz.prog zc2=some znY:=by kernel_rfl
theorem zob:zc Tryz.prog zhn=some znZ:=by kernel_rfl
theorem zqE:zc Tryz.prog ziZ=some zp5:=by kernel_rfl
theorem znc:zc Tryz.prog zg3=some zmy:=by kernel_rfl
theorem zjt:zc Tryz.prog ze9=some zjh:=by kernel_rfl
theorem zme:zc Tryz.prog zgm=some zl7:=by kernel_rfl
theorem zjv:zc Tryz.prog zfb=some zjj:=by kernel_rfl
theorem zkg:zc Tryz.prog zfI=some zjN:=by kernel_rfl
theorem zkd:zc Tryz.prog zfF=some zjK:=by kernel_rfl
theorem zgc:zc Tryz.prog zcC=some zfV:=by kernel_rfl
theorem zbN:zc Tryz.prog zav=some zbM:=by kernel_rfl
theorem zrw:zc Tryz.prog zda=some zrh:=by kernel_rfl
theorem ze3:zc Tryz.prog zbX=some zeY:=by kernel_rfl
theorem zrt:zc Tryz.prog zjY=some zre:=by kernel_rfl
theorem zin:zc Tryz.prog zeh=some zh2:=by kernel_rfl
theorem zoc:zc Tryz.prog zho=some zn0:=by kernel_rfl
theorem zod:zc Tryz.prog ze0=some zn1:=by kernel_rfl
theorem zgA:zc Tryz.prog zdb=some zgu:=by kernel_rfl
theorem zqB:zc Tryz.prog zd4=some zp2:=by kernel_rfl
theorem zki:zc Tryz.prog zdc=some zjP:=by kernel_rfl
theorem zjr:zc Tryz.prog ze7=some zjf:=by kernel_rfl
theorem zlv:zc Tryz.prog zf3=some zk1:=by kernel_rfl
theorem zmb:zc Tryz.prog zch=some zl3:=by kernel_rfl
theorem zju:zc Tryz.prog zfa=some zji:=by kernel_rfl
theorem zmg:zc Tryz.prog zgo=some zl9:=by kernel_rfl
theorem zly:zc Tryz.prog zdD=some zk4:=by kernel_rfl
theorem zlu:zc Tryz.prog zf2=some zk0:=by kernel_rfl
theorem zjs:zc Tryz.prog ze8=some zjg:=by kernel_rfl
theorem zpj:zc Tryz.prog zdy=some zoZ:=by kernel_rfl
theorem zoh:zc Tryz.prog zc4=some zn5:=by kernel_rfl
theorem zls:zc Tryz.prog zdz=some zkX:=by kernel_rfl
theorem zqz:zc Tryz.prog ziX=some zp0:=by kernel_rfl
theorem zm6:zc Tryz.prog zgZ=some zms:=by kernel_rfl
theorem zpl:zc Tryz.prog zfs=some zo2:=by kernel_rfl
theorem ze4:zc Tryz.prog zaT=some zeZ:=by kernel_rfl
theorem zqA:zc Tryz.prog ziY=some zp1:=by kernel_rfl
theorem zjw:zc Tryz.prog zfc=some zjk:=by kernel_rfl
theorem ziq:zc Tryz.prog zej=some zh4:=by kernel_rfl
theorem zkh:zc Tryz.prog zfJ=some zjO:=by kernel_rfl
theorem zkf:zc Tryz.prog zfH=some zjM:=by kernel_rfl
theorem zkc:zc Tryz.prog zfE=some zjJ:=by kernel_rfl
theorem zm9:zc Tryz.prog zg0=some zmv:=by kernel_rfl
theorem zcn:zc Tryz.prog zae=some zck:=by kernel_rfl
theorem zb5:zc Tryz.prog zaH=some zb4:=by kernel_rfl
theorem zpk:zc Tryz.prog zS=some zo1:=by kernel_rfl
theorem zaw:zc Tryz.prog zE=some zbW:=by kernel_rfl
theorem zm8:zc Tryz.prog zcB=some zmu:=by kernel_rfl
theorem zaM:zc Tryz.prog zZ=some zaK:=by kernel_rfl
theorem zik:zc Tryz.prog zfr=some zo0:=by kernel_rfl
theorem zmf:zc Tryz.prog zgn=some zl8:=by kernel_rfl
theorem zlt:zc Tryz.prog zdB=some zkY:=by kernel_rfl
theorem zdT:zc Tryz.prog zbo=some zdP:=by kernel_rfl
theorem zil:zc Tryz.prog zeg=some zh0:=by kernel_rfl
theorem zm7:zc Tryz.prog zbH=some zmt:=by kernel_rfl
theorem ziN:zc Tryz.prog zeO=some ziG:=by kernel_rfl
theorem zm5:zc Tryz.prog zbG=some zmr:=by kernel_rfl
theorem zcF:zc Tryz.prog zaX=some zcy:=by kernel_rfl
end Go.Ab
namespace Go.Ab
open Go Go.Proofs
set_option maxRecDepth 10000
set_option maxHeartbeats 4000000
variable {T:Nat→Obj→Prop}
def zhY (n:Int):BitVec 64:=if n ≥ 64 then -1 else (1#64 <<< n.toNat) - 1#64
def bad (n:Int) (s:BitVec 64):Bool:=s &&& ~~~ (zhY n)≠0
def zy0 (worlds agents:Int) (val:List (BitVec 64)):Int :=
 if worlds < 1∨64 < worlds then 2 else if 8 < val.length∨4 < agents then 8 else if val.any (bad worlds) then 3 else 0
theorem zmU (a b:List Int):Fn Tryz.prog T zeh [.d (dI a),.d (dI b)] [] (.d (.bool (a==b))) []:=by
 refine zb zm zin (by show 2≤26;decide) ?_
 (repeat' ((conv=>whnf);first|refine vA ?_|(refine vD ?_ ?_<;>intro hc<;>try simp only [vL] at hc)|refine vJ fun hg=>?_|refine vT ?_|refine vZ ?_));all_goals try conv=>whnf
 ·have:a≠b:=fun e=>hc (by rw [e])
  simp [this]
 ·refine zM (fun (k:Nat)=>[(0,.d (dI a)),(1,.d (dI b)),(12,.d (.int .i64 ((a.map (D.int .i64)).length:Int))),(13,.d (.int .i64 ((k:Int))))]) (fun (k:Nat)=>k≤a.length∧(a==b)=(a.drop k==b.drop k)) (fun (k:Nat)=>a.length - k) (0) (⟨by simp,by simp⟩) (by (repeat' first|exact trivial|exact rfl|refine And.intro ?_ ?_)) ?_
  rintro k ⟨hk,hI⟩
  (repeat' ((conv=>whnf);first|refine vA ?_|((first|refine vD ?_ ?_|refine vF ?_ ?_)<;>intro hc<;>try simp only [vL] at hc)|refine vT ?_|(refine vQ ?_ fun x hx=>?_;·omega)|(refine vO ?_ ?_;·omega)|(refine vU ?_ ?_;·kernel_rfl)|refine vZ ?_));all_goals try conv=>whnf
  ·rw [hI,zt ‹a[k]? = some _›,zt ‹b[k]? = some _›];simp [hc]
  ·exact ⟨k+1,[],[],⟨by (omega),by rw [hI,zt ‹a[k]? = some _›,zt ‹b[k]? = some _›];simp [hc]⟩,by (omega),by (refine ⟨rfl,rfl,rfl,?_,?_⟩;repeat' first|exact trivial|exact rfl|refine And.intro ?_ ?_)⟩
  ·rw [hI,List.drop_eq_nil_of_le (by omega),List.drop_eq_nil_of_le (by omega)];rfl
theorem zmV (a b:List (BitVec 64)):Fn Tryz.prog T zcC [.d (dU a),.d (dU b)] [] (.d (.bool (a==b))) []:=by
 refine zb zm zgc (by show 2≤26;decide) ?_
 (repeat' ((conv=>whnf);first|refine vA ?_|(refine vD ?_ ?_<;>intro hc<;>try simp only [vL] at hc)|refine vJ fun hg=>?_|refine vT ?_|refine vZ ?_));all_goals try conv=>whnf
 ·have:a≠b:=fun e=>hc (by rw [e])
  simp [this]
 ·refine zM (fun (k:Nat)=>[(0,.d (dU a)),(1,.d (dU b)),(12,.d (.int .i64 ((a.map D.u64).length:Int))),(13,.d (.int .i64 ((k:Int))))]) (fun (k:Nat)=>k≤a.length∧(a==b)=(a.drop k==b.drop k)) (fun (k:Nat)=>a.length - k) (0) (⟨by simp,by simp⟩) (by (repeat' first|exact trivial|exact rfl|refine And.intro ?_ ?_)) ?_
  rintro k ⟨hk,hI⟩
  (repeat' ((conv=>whnf);first|refine vA ?_|((first|refine vD ?_ ?_|refine vF ?_ ?_)<;>intro hc<;>try simp only [vL] at hc)|refine vT ?_|(refine vQ ?_ fun x hx=>?_;·omega)|(refine vO ?_ ?_;·omega)|(refine vU ?_ ?_;·kernel_rfl)|refine vZ ?_));all_goals try conv=>whnf
  ·rw [hI,zt ‹a[k]? = some _›,zt ‹b[k]? = some _›];simp [hc]
  ·exact ⟨k+1,[],[],⟨by (omega),by rw [hI,zt ‹a[k]? = some _›,zt ‹b[k]? = some _›];simp [hc]⟩,by (omega),by (refine ⟨rfl,rfl,rfl,?_,?_⟩;repeat' first|exact trivial|exact rfl|refine And.intro ?_ ?_)⟩
  ·rw [hI,List.drop_eq_nil_of_le (by omega),List.drop_eq_nil_of_le (by omega)];rfl
structure PM where
 W:Int
 val:List (BitVec 64)
 cell:List (List Int)
 rank:List (List Int)
 deriving DecidableEq
theorem zfA (s:BitVec 64) (n:Nat):(s >>> n)&&&1#64=1#64↔s.getLsbD n=true:=by
 constructor
 ·intro h
  have:=congrArg (fun x=>x.getLsbD 0) h
  simpa using this
 ·intro h
  apply BitVec.eq_of_getLsbD_eq
  intro i hi
  by_cases h0:i=0
  ·subst h0;simpa using h
  ·simp [h0]
theorem zoX (s:BitVec 64) (n:Nat):(s >>> n)&&&1#64=0#64↔s.getLsbD n=false:=by
 constructor
 ·intro h
  have:=congrArg (fun x=>x.getLsbD 0) h
  simpa using this
 ·intro h
  apply BitVec.eq_of_getLsbD_eq
  intro i hi
  by_cases h0:i=0
  ·subst h0;simpa using h
  ·simp [h0]
@[irreducible] def bit (s:BitVec 64) (i:Nat):Bool:=s.getLsbD i
theorem ztl (s:BitVec 64) (i:Nat):bit s i=s.getLsbD i:=by unfold bit;rfl
theorem zBc (s:BitVec 64) (i:Int) (h:0≤i) (h':i < 18446744073709551616):Fn Tryz.prog T zht [.d (.u64 s),.d (.int .i64 i)] [] (.d (.bool (bit s i.toNat))) []:=by
 refine zb zm zok (by show 2≤11;decide) ?_
 (repeat' ((conv=>whnf);first|refine vT ?_|refine vZ ?_));all_goals try conv=>whnf
 have:(BitVec.ofInt 64 i).toNat=i.toNat:=by
  rw [BitVec.toNat_ofInt,Int.emod_eq_of_lt h (by omega)]
 rw [this,Bool.eq_iff_iff,ztl]
 simp [zfA]
def at0 (l:List Int) (i:Nat):Int:=l.getD i 0
theorem zaj {l:List Int} {i:Nat} {x:Int} (h:l[i]? = some x):at0 l i=x:=by simp [at0,List.getD,h]
theorem zbT {l:List Int} {i:Nat} (h:i < l.length):l[i]? = some (at0 l i):=by simp [at0,List.getD,h]
abbrev zCV (cell:List Int):Prop := ∀ w,w < cell.length→0≤at0 cell w∧at0 cell w≤w∧at0 cell (at0 cell w).toNat=at0 cell w
abbrev zCr (cell rank:List Int):Prop := ∀ w,w < cell.length→0≤at0 rank w∧(at0 rank w=0 ∨ ∃ v,v < cell.length∧at0 cell v=at0 cell w∧at0 rank v=at0 rank w - 1)
end Go.Ab
namespace Go.Ab
open Go Go.Proofs
set_option maxRecDepth 10000
set_option maxHeartbeats 4000000
variable {T:Nat→Obj→Prop}
def zau (f:Nat→Bool):Nat→BitVec 64
 | 0=>0#64
 | k+1=>if f k then zau f k|||1#64 <<< k else zau f k
theorem zrc (k i:Nat):(1#64 <<< k).getLsbD i=(decide (i < 64)&&decide (i=k)):=by
 rw [BitVec.getLsbD_shiftLeft]
 by_cases h:i < 64
 ·by_cases h1:i < k
  ·simp [h,h1];omega
  ·by_cases h2:i=k
   ·subst h2;simp [h]
   ·have:i - k≠0:=by omega
    simp [h,h1,h2,this]
 ·simp [h]
theorem zsA (f:Nat→Bool) : ∀ (n i:Nat),(zau f n).getLsbD i=(decide (i < 64)&&decide (i < n)&&f i)
 | 0,i=>by simp [zau]
 | n+1,i=>by
  have ih:=zsA f n i
  unfold zau
  split
  ·rename_i h
   rw [BitVec.getLsbD_or,ih,zrc]
   by_cases h1:i=n
   ·subst h1;simp [h]
   ·by_cases h2:i < n
    ·simp [h1,h2,show i < n+1 by omega]
    ·simp [h1,h2,show ¬ i < n+1 by omega]
  ·rename_i h
   rw [ih]
   by_cases h1:i=n
   ·subst h1;simp [h]
   ·by_cases h2:i < n
    ·simp [h2,show i < n+1 by omega]
    ·simp [h2,show ¬ i < n+1 by omega]
end Go.Ab
namespace Go.Ab
open Go Go.Proofs
set_option maxRecDepth 10000
set_option maxHeartbeats 4000000
variable {T:Nat→Obj→Prop}
def zqT (l:List (List Int)) (a:Nat):List Int:=l.getD a []
abbrev zDj (p:PM):Prop := ∀ a,a < p.cell.length→((zqT p.cell a).length:Int)=p.W∧((zqT p.rank a).length:Int)=p.W
abbrev zzu (p:PM):Prop := ∀ a,a < p.cell.length→zCV (zqT p.cell a)
abbrev zxy (p:PM):Prop := ∀ a,a < p.cell.length→zCr (zqT p.cell a) (zqT p.rank a)
def zxO (p:PM):Int :=
 if zy0 p.W p.cell.length p.val≠0 then zy0 p.W p.cell.length p.val
 else if p.rank.length≠p.cell.length then 3
 else if ¬zDj p then 3
 else if ¬zzu p then 1
 else if ¬zxy p then 9
 else 0
end Go.Ab
namespace Go.Ab
open Go Go.Proofs
set_option maxRecDepth 10000
set_option maxHeartbeats 4000000
variable {T:Nat→Obj→Prop}
structure At (p:PM) (a w:Int):Prop where
 ok:zxO p=0
 a0:0≤a
 a1:a < p.cell.length
 w0:0≤w
 w1:w < p.W
instance (p:PM) (a w:Int):Decidable (At p a w):=decidable_of_iff (zxO p=0∧0≤a∧a < p.cell.length∧0≤w∧w < p.W) ⟨fun ⟨a,b,c,d,e⟩=>⟨a,b,c,d,e⟩,fun ⟨a,b,c,d,e⟩=>⟨a,b,c,d,e⟩⟩
theorem zja {k:Nat} (h:k < 18446744073709551616):(BitVec.ofInt 64 (k:Int)).toNat=k:=by
 rw [BitVec.toNat_ofInt,Int.emod_eq_of_lt (by omega) (by omega)];rfl
theorem zbL {β:Type} {g:Nat→β} {n k:Nat} (x:β):((List.range n).map g).set k x=(List.range n).map fun u=>if u=k then x else g u:=by
 refine List.ext_getElem (by simp) fun i h1 h2=>?_
 rw [List.getElem_set]
 by_cases e:k=i
 ·subst e;simp
 ·simp [e,Ne.symm e]
theorem zC {β:Type} {g h:Nat→β} {n:Nat} (e : ∀ u,u < n→g u=h u):(List.range n).map g=(List.range n).map h :=
 List.map_congr_left fun u hu=>e u (List.mem_range.1 hu)
theorem z2 {β:Type} (x:β) (n:Nat):List.replicate n x=(List.range n).map fun _=>x:=by
 refine List.ext_getElem (by simp) fun i h1 h2=>by simp
end Go.Ab
namespace Go.Ab
open Go Go.Proofs
set_option maxRecDepth 10000
set_option maxHeartbeats 4000000
variable {T:Nat→Obj→Prop}
structure KM where
 W:Int
 val:List (BitVec 64)
 rel:List (List (BitVec 64))
 deriving DecidableEq
abbrev dKM (m:KM):D := .agg [.int .i64 m.W,dU m.val,dUU m.rel]
abbrev zR (m:KM):Ob := .box [.d (.int .i64 m.W),.d (dU m.val),.d (dUU m.rel)]
abbrev dKI (x:KM×Int):D := .tup [dKM x.1,.int .i64 x.2]
end Go.Ab
namespace Go.Ab
open Go Go.Proofs
set_option maxRecDepth 10000
set_option maxHeartbeats 4000000
variable {T:Nat→Obj→Prop}
theorem zte {n:Int} {i:Nat} (h1:0≤n) (hi:i < 64):(zhY n).getLsbD i=decide ((i:Int) < n):=by
 unfold zhY
 split
 ·rename_i h
  rw [show ((-1:BitVec 64))=BitVec.allOnes 64 from rfl,BitVec.getLsbD_allOnes]
  simp [hi];omega
 ·rename_i h
  obtain ⟨m,rfl⟩:=Int.eq_ofNat_of_zero_le h1
  have hm:m < 64:=by omega
  rw [show (1#64 <<< (m:Int).toNat - 1#64)=BitVec.setWidth 64 (BitVec.allOnes m) from ?_]
  ·rw [BitVec.getLsbD_setWidth,BitVec.getLsbD_allOnes];simp [hi]
  ·apply BitVec.eq_of_toNat_eq
   have h2:2 ^ m < 2 ^ 64:=Nat.pow_lt_pow_right (by omega) hm
   have h3:0 < 2 ^ m:=Nat.two_pow_pos m
   rw [BitVec.toNat_sub,BitVec.toNat_shiftLeft,BitVec.toNat_setWidth,BitVec.toNat_allOnes]
   simp only [Int.toNat_natCast,Nat.shiftLeft_eq]
   rw [show (1#64).toNat=1 from rfl,Nat.one_mul,Nat.mod_eq_of_lt h2,Nat.mod_eq_of_lt (show 2 ^ m - 1 < 2 ^ 64 by omega)]
   omega
end Go.Ab
namespace Go.Ab
open Go Go.Proofs
set_option maxRecDepth 10000
set_option maxHeartbeats 4000000
variable {T:Nat→Obj→Prop}
def zD (s:BitVec 64):List Nat:=(List.range 64).filter fun i=>s.getLsbD i
theorem zmQ {p:Nat→Bool} {k:Nat} (hk:p k=true) (hlow : ∀ i,i < k→p i=false) : ∀ n,k < n→(List.range n).filter p=k::(List.range n).filter fun i=>p i&&i != k
 | 0,h=>by omega
 | n+1,h=>by
  rw [List.range_succ,List.filter_append,List.filter_append]
  by_cases e:k=n
  ·subst e
   have h1:(List.range k).filter p=[]:=by
    rw [List.filter_eq_nil_iff];intro i hi;rw [hlow i (List.mem_range.1 hi)];simp
   have h2:((List.range k).filter fun i=>p i&&i != k)=[]:=by
    rw [List.filter_eq_nil_iff];intro i hi;rw [hlow i (List.mem_range.1 hi)];simp
   rw [h1,h2]
   simp [hk]
  ·rw [zmQ hk hlow n (by omega)]
   have:(n != k)=true:=by simp;omega
   have:List.filter (fun i=>p i&&i != k) [n]=List.filter p [n]:=by
    simp only [List.filter,this,Bool.and_true]
   rw [this];rfl
theorem zvY (s:BitVec 64) (h:s≠0#64):Lib.ctz 64 s.toNat < 64∧s.getLsbD (Lib.ctz 64 s.toNat)=true∧(∀ i,i < Lib.ctz 64 s.toNat→s.getLsbD i=false) ∧
  ∀ i,(s&&&(s - 1#64)).getLsbD i=(s.getLsbD i&&i != Lib.ctz 64 s.toNat):=by
 have h0:s.toNat≠0:=fun e=>h (BitVec.eq_of_toNat_eq (by simpa using e))
 have hc:Lib.ctz 64 s.toNat=Lib.ctzFrom 64 s.toNat:=by rw [Lib.ctz,if_neg h0]
 rw [hc]
 obtain ⟨m,hm,hlt⟩:=Lib.ctzFrom_spec 64 s.toNat (by omega) s.isLt
 generalize Lib.ctzFrom 64 s.toNat=k at hm hlt
 have hp:0 < 2 ^ k:=Nat.two_pow_pos k
 have hs:s.toNat=2 ^ k * (2 * m+1)+0:=hm
 have hbit : ∀ i,s.getLsbD i=if i < k then false else (2 * m+1).testBit (i - k):=fun i=>by
  rw [BitVec.getLsbD,hs,Nat.testBit_two_pow_mul_add _ hp]
  simp
 have hsub:(s - 1#64).toNat=2 ^ k * (2 * m)+(2 ^ k - 1):=by
  rw [BitVec.toNat_sub]
  have hlt':=s.isLt
  rw [hm] at hlt' ⊢
  rw [show (1#64).toNat=1 from rfl,Nat.mul_add,Nat.mul_one]
  rw [Nat.mul_add,Nat.mul_one] at hlt'
  omega
 have hbit' : ∀ i,(s - 1#64).getLsbD i=if i < k then (2 ^ k - 1).testBit i else (2 * m).testBit (i - k):=fun i=>by
  rw [BitVec.getLsbD,hsub,Nat.testBit_two_pow_mul_add _ (by omega)]
 refine ⟨hlt,?_,fun i hi=>?_,fun i=>?_⟩
 ·rw [hbit,if_neg (by omega),Nat.sub_self,Nat.testBit_zero];simp
 ·rw [hbit,if_pos hi]
 ·rw [BitVec.getLsbD_and,hbit,hbit']
  by_cases h1:i < k
  ·simp [h1]
  ·simp only [h1,if_false]
   by_cases h2:i=k
   ·subst h2;simp [Nat.testBit_zero]
   ·obtain ⟨j,hj⟩ : ∃ j,i - k=j+1:=⟨i - k - 1,by omega⟩
    rw [hj,Nat.testBit_succ,Nat.testBit_succ]
    have e1:(2 * m+1) / 2=m:=by omega
    have e2:2 * m / 2=m:=by omega
    rw [e1,e2]
    simp [h2]
theorem zgN (s:BitVec 64) (h:s≠0#64):zD s=Lib.ctz 64 s.toNat::zD (s&&&(s - 1#64)):=by
 obtain ⟨h1,h2,h3,h4⟩:=zvY s h
 rw [zD,zmQ h2 h3 64 h1,zD]
 congr 1
 exact List.filter_congr fun i _=>(h4 i).symm
theorem zcP:zD 0#64=[]:=by decide
abbrev zk7 (s:BitVec 64):List (List D):=(zD s).map fun (i:Nat)=>[D.int .i64 (i:Int)]
def zbV (T:Nat→Obj→Prop):Prop := ∀ x:BitVec 64,Fn Tryz.prog T zaW [.d (.u64 x)] [] (.d (.int .i64 (Lib.ctz 64 x.toNat))) []
theorem zxT {s:BitVec 64} {i:Nat} {x:List D} (h:(zk7 s)[i]? = some x) : ∃ w:Nat,(zD s)[i]? = some w∧x=[.int .i64 (w:Int)]∧s.getLsbD w=true∧w < 64:=by
 rw [List.getElem?_map,Option.map_eq_some_iff] at h
 obtain ⟨w,hw,rfl⟩:=h
 have:=List.mem_filter.1 (List.mem_of_getElem? hw)
 exact ⟨w,hw,rfl,this.2,List.mem_range.1 this.1⟩
def rb (r:List (BitVec 64)) (w v:Nat):Bool:=(r.getD w 0#64).getLsbD v
theorem zBj {r:List (BitVec 64)} {w:Nat} {s:BitVec 64} (h:r[w]? = some s) (v:Nat):rb r w v=s.getLsbD v:=by simp [rb,List.getD,h]
theorem zCL {r:List (BitVec 64)} {w v:Nat} (h:r.length≤w):rb r w v=false:=by simp [rb,List.getD,h]
theorem zhC {s:BitVec 64} {v:Nat} : v∈zD s↔s.getLsbD v=true:=by
 rw [zD,List.mem_filter,List.mem_range]
 constructor
 ·exact fun h=>h.2
 ·exact fun h=>⟨BitVec.lt_of_getLsbD h,h⟩
theorem zuk (s:BitVec 64):(zD s).Nodup:=List.nodup_range.filter _
def zfn {α:Type} (p:α→Bool) (l:List α):Int:=if l.findIdx p < l.length then (l.findIdx p:Int) else -1
theorem zg7 {α:Type} {p:α→Bool} {l:List α} {k:Nat} {x:α} (h:l[k]? = some x) (hp:p x=true) (hI : ∀ i y,i < k→l[i]? = some y→p y=false):zfn p l=k:=by
 obtain ⟨hk,rfl⟩:=List.getElem?_eq_some_iff.1 h
 have:l.findIdx p=k:=by
  rw [List.findIdx_eq hk]
  exact ⟨hp,fun j hj=>by simpa using hI j l[j] hj (List.getElem?_eq_getElem (by omega))⟩
 rw [zfn,this,if_pos hk]
theorem zld {α:Type} {p:α→Bool} {l:List α} (hI : ∀ i y,i < l.length→l[i]? = some y→p y=false):zfn p l = -1:=by
 rw [zfn,if_neg]
 intro h
 have h1:=List.findIdx_getElem (p:=p) (xs:=l) (w:=h)
 rw [hI _ _ h (List.getElem?_eq_getElem h)] at h1;cases h1
theorem ztJ {α:Type} {p:α→Bool} {l:List α} : 0≤zfn p l ↔ ∃ x∈l,p x=true:=by
 rw [zfn,← List.findIdx_lt_length]
 split<;>omega
theorem zie (l:List Int) (x:Int):Fn Tryz.prog T zei [.d (dI l),.d (.int .i64 x)] [] (.d (.int .i64 (zfn (fun y=>x==y) l))) []:=by
 refine zb zm zio (by show 2≤19;decide) ?_
 (repeat' ((conv=>whnf);first|refine vA ?_|refine vJ fun hg=>?_|refine vT ?_));all_goals try conv=>whnf
 refine zM (fun (k:Nat)=>[(0,.d (dI l)),(1,.d (.int .i64 (x))),(7,.d (.int .i64 ((l.map (D.int .i64)).length:Int))),(8,.d (.int .i64 ((k:Int))))]) (fun (k:Nat)=>k≤l.length ∧ ∀ i y,i < k→l[i]? = some y→(x==y)=false) (fun (k:Nat)=>l.length - k) (0) (⟨by simp,by simp⟩) (by (repeat' first|exact trivial|exact rfl|refine And.intro ?_ ?_)) ?_
 rintro k ⟨hk,hI⟩
 (repeat' ((conv=>whnf);first|refine vA ?_|(refine vF ?_ ?_<;>intro hc<;>try simp only [vL] at hc)|refine vT ?_|(refine vQ ?_ fun x hx=>?_;·omega)|(refine vO ?_ ?_;·omega)|refine vX ?_));all_goals try conv=>whnf
 ·exact (zg7 hx (by simpa using hc) hI).symm
 ·have hne:=hc
  exact ⟨k+1,[],[],⟨by (omega),fun i y hi hy=>by
   by_cases e:i=k
   ·subst e;rw [hx] at hy;cases hy;simpa using hne
   ·exact hI i y (by omega) hy⟩,by (omega),by (refine ⟨rfl,rfl,rfl,?_,?_⟩;repeat' first|exact trivial|exact rfl|refine And.intro ?_ ?_)⟩
 ·exact (zld fun i y hi hy=>hI i y (by omega) hy).symm
theorem zxF {n:Int} {s:BitVec 64} (h:0≤n):bad n s=false ↔ ∀ i,s.getLsbD i=true→(i:Int) < n:=by
 rw [bad,decide_eq_false_iff_not,Classical.not_not]
 constructor
 ·intro e i hi
  have hlt:=BitVec.lt_of_getLsbD hi
  have:=congrArg (fun x=>x.getLsbD i) e
  simp only [BitVec.getLsbD_and,BitVec.getLsbD_not,hlt,decide_true,Bool.true_and,hi,zte h hlt] at this
  simpa using this
 ·intro hs
  apply BitVec.eq_of_getLsbD_eq
  intro i hi
  rw [BitVec.getLsbD_and,BitVec.getLsbD_not,zte h hi]
  cases hb:s.getLsbD i with
  | false=>simp
  | true=>have:=hs i hb;simp [hi,this]
end Go.Ab
namespace Go.Ab
open Go Go.Proofs
set_option maxRecDepth 10000
set_option maxHeartbeats 4000000
variable {T:Nat→Obj→Prop}
theorem zaO.objs {P:Program} {M:Nat→Option Ob} {n f:Nat} {vs lvs:List V} {obs:List Ob} {lv:V} {obs':List (Option Ob)} {K:V→Upd→Nat→Prop} (js:List Nat) (hf:Fn P T f lvs obs lv obs') (ha:VPasses M js [] 20 lvs vs)
  (ho:zaJ M js [] obs js) (hnd:nodup js=true) (hsj:ze6 js (zQ M vs)=true) (hle:js.length≤obs'.length)
  (hK:K (zlF js n 20 lv) (zhw js [] n obs' false) (obs'.length - js.length)):zaO (zcs P T) M n f vs K :=
 ⟨⟨_,_,_,⟨js,[],false,lvs,obs,lv,obs',hf,ha,ho,hnd,by simp [zdv],hsj,by simp [ze6],hle,nofun,rfl,rfl,rfl⟩,hK⟩⟩
section
variable {α:Type} [Inhabited α]
theorem zbQ {d:Array α} {i:Nat} (h:i < d.size):d.toList[i]? = some d[i]! := by
 simp [h]
theorem za7 {d:Array α} {i:Nat} {x:α} (h:d.toList[i]? = some x):d[i]! = x∧i < d.size:=by
 obtain ⟨h1,h2⟩:=List.getElem?_eq_some_iff.1 h
 rw [Array.length_toList] at h1
 exact ⟨by simp [h1];simpa using h2,h1⟩
theorem zwi {enc:α→D} {d:Array α} {i j:Nat} {x y:α} (hi:d.toList[i]? = some x) (hj:d.toList[j]? = some y):((d.toList.map enc).set i (enc y)).set j (enc x)=(Sort.swp d i j).toList.map enc:=by
 obtain ⟨e1,_⟩:=za7 hi
 obtain ⟨e2,_⟩:=za7 hj
 simp [Sort.swp,e1,e2,List.map_set]
theorem zgW {d:Array α} {i:Int} {x:α} (k:Nat) (h:d.toList[i.toNat]? = some x) (hk:i=k):d.toList[k]? = some x:=by subst hk;exact h
theorem zuR (d:Array α) (i j:Nat):(Sort.swp d i j).size=d.size:=by simp [Sort.swp]
variable {lt:α→α→Bool}
theorem zlZ {a j:Nat} {d:Array α} (h : ¬(a < j∧lt d[j]! d[j - 1]! = true)):Sort.insInner lt a j d=d:=by
 cases j with
 | zero=>rfl
 | succ j =>
  unfold Sort.insInner
  rw [if_neg]
  simpa using h
theorem zlY {a j:Nat} {d:Array α} (h1:a < j) (h2:lt d[j]! d[j - 1]! = true):Sort.insInner lt a j d=Sort.insInner lt a (j - 1) (Sort.swp d j (j - 1)):=by
 cases j with
 | zero=>omega
 | succ j =>
  rw [Sort.insInner,if_pos]
  ·simp
  ·simp at h2 ⊢;exact ⟨by omega,h2⟩
end
end Go.Ab
namespace Go.Ab
open Go
def zK (e:Nat→Nat→Bool) (w:Nat):Nat:=((List.range w).find? fun v=>e v w).getD w
theorem zkp (e:Nat→Nat→Bool) (w:Nat):(zK e w < w∧e (zK e w) w=true∨zK e w=w) ∧ ∀ v,v < zK e w→e v w=false:=by
 unfold zK
 cases h:(List.range w).find? fun v=>e v w with
 | none =>
  refine ⟨.inr rfl,fun v hv=>?_⟩
  have:=List.find?_eq_none.1 h v (List.mem_range.2 hv)
  simpa using this
 | some u =>
  obtain ⟨h1,l1,l2,h2,h3⟩:=List.find?_eq_some_iff_append.1 h
  have hu:u∈List.range w:=by rw [h2];simp
  have hlen:l1.length=u:=by
   have h4:(List.range w)[l1.length]? = some u:=by rw [h2];simp
   rw [List.getElem?_range (by
    have:l1.length < (List.range w).length:=by rw [h2];simp
    simpa using this)] at h4
   exact Option.some.inj h4
  refine ⟨.inl ⟨List.mem_range.1 hu,h1⟩,fun v hv=>?_⟩
  have hv:v < u:=hv
  have hm:v∈l1:=by
   have h4:(List.range w)[v]? = some v:=List.getElem?_range (by have:=List.mem_range.1 hu;omega)
   rw [h2,List.getElem?_append_left (by omega)] at h4
   exact List.mem_of_getElem? h4
  simpa using h3 v hm
theorem zw7 (e:Nat→Nat→Bool) (w:Nat):zK e w≤w:=by
 rcases (zkp e w).1 with h|h<;>omega
theorem zud {e:Nat→Nat→Bool} {w v:Nat} (h:v < zK e w):e v w=false:=(zkp e w).2 v h
structure Eqv (e:Nat→Nat→Bool):Prop where
 refl : ∀ v,e v v=true
 symm : ∀ v w,e v w=true→e w v=true
 trans : ∀ u v w,e u v=true→e v w=true→e u w=true
section
variable {e:Nat→Nat→Bool} (he:Eqv e)
include he
theorem zpn (w:Nat):e (zK e w) w=true:=by
 rcases (zkp e w).1 with h|h
 ·exact h.2
 ·rw [h];exact he.refl w
theorem zko {v w:Nat} : zK e v=zK e w↔e v w=true:=by
 constructor
 ·intro h
  have h1:=zpn he v
  rw [h] at h1
  exact he.trans _ _ _ (he.symm _ _ h1) (zpn he w)
 ·intro h
  have a : ∀ {v w},e v w=true→zK e w≤zK e v:=by
   intro v w h
   rcases Nat.lt_or_ge (zK e v) (zK e w) with hl|hl
   ·have:=zud hl
    rw [he.trans _ _ _ (zpn he v) h] at this;cases this
   ·exact hl
  have:=a h;have:=a (he.symm _ _ h);omega
theorem zDd (w:Nat):zK e (zK e w)=zK e w:=(zko he).2 (zpn he w)
end
theorem zet {e e':Nat→Nat→Bool} {w:Nat} (h : ∀ v,v≤w→e v w=e' v w):zK e w=zK e' w:=by
 have a : ∀ {e e':Nat→Nat→Bool},(∀ v,v≤w→e v w=e' v w)→zK e w≤zK e' w:=by
  intro e e' h
  rcases Nat.lt_or_ge (zK e' w) (zK e w) with hl|hl
  ·have h1:=zud hl
   have hle:=zw7 e w
   rcases (zkp e' w).1 with h2|h2
   ·rw [h _ (by omega),h2.2] at h1;cases h1
   ·omega
  ·exact hl
 have:=a h;have:=a fun v hv=>(h v hv).symm;omega
structure zad (n:Nat) (q:Nat→Nat):Prop where
 le : ∀ w,w < n→q w≤w
 idem : ∀ w,w < n→q (q w)=q w
theorem zdH {e:Nat→Nat→Bool} (he:Eqv e) (n:Nat):zad n (zK e):=⟨fun w _=>zw7 e w,fun w _=>zDd he w⟩
def zaz {α:Type} [DecidableEq α] (k:Nat→α) (v w:Nat):Bool:=decide (k v=k w)
theorem zbz {α:Type} [DecidableEq α] (k:Nat→α):Eqv (zaz k) :=
 ⟨fun v=>by simp [zaz],fun v w h=>by simp only [zaz,decide_eq_true_eq] at h ⊢;exact h.symm,fun u v w h h'=>by simp only [zaz,decide_eq_true_eq] at h h' ⊢;exact h.trans h'⟩
theorem zh8 {n:Nat} {q:Nat→Nat} (h:zad n q) {w:Nat} (hw:w < n):zK (zaz q) w=q w:=by
 have h1:=h.le w hw
 have h2:=h.idem w hw
 have h3:zK (zaz q) w≤q w:=by
  rcases Nat.lt_or_ge (q w) (zK (zaz q) w) with hl|hl
  ·have:=zud hl
   simp [zaz,h2] at this
  ·exact hl
 have h4:=zpn (zbz q) w
 simp only [zaz,decide_eq_true_eq] at h4
 have h5:=h.le (zK (zaz q) w) (by omega)
 omega
def zak (q:Nat→Nat) (s:BitVec 64) (k:Nat):BitVec 64:=(List.range k).foldl (fun o w=>if s.getLsbD w=true then o|||1#64 <<< q w else o) 0#64
theorem zcx (q:Nat→Nat) (s:BitVec 64) (k:Nat):zak q s (k+1)=if s.getLsbD k=true then zak q s k|||1#64 <<< q k else zak q s k:=by
 unfold zak;rw [List.range_succ,List.foldl_append];rfl
def zdM (n:Nat) (rels:List (Nat→BitVec 64)) (q:Nat→Nat) (v w:Nat):Bool:=decide (q v=q w)&&rels.all fun r=>decide (zak q (r v) n=zak q (r w) n)
theorem zjb (n:Nat) (rels:List (Nat→BitVec 64)) (q:Nat→Nat):Eqv (zdM n rels q):=by
 refine ⟨fun v=>by simp [zdM],fun v w h=>?_,fun u v w h h'=>?_⟩
 ·simp only [zdM,Bool.and_eq_true,decide_eq_true_eq,List.all_eq_true] at h ⊢
  exact ⟨h.1.symm,fun r hr=>(h.2 r hr).symm⟩
 ·simp only [zdM,Bool.and_eq_true,decide_eq_true_eq,List.all_eq_true] at h h' ⊢
  exact ⟨h.1.trans h'.1,fun r hr=>(h.2 r hr).trans (h'.2 r hr)⟩
def zay (n:Nat) (rels:List (Nat→BitVec 64)) (q:Nat→Nat):Nat→Nat:=zK (zdM n rels q)
theorem zjE (n:Nat) (rels:List (Nat→BitVec 64)) (q:Nat→Nat) (m:Nat):zad m (zay n rels q):=zdH (zjb n rels q) m
theorem zkT {q q':Nat→Nat} {s:BitVec 64} {n:Nat} (h : ∀ w,w < n→q w=q' w) : ∀ k,k≤n→zak q s k=zak q' s k
 | 0,_=>rfl
 | k+1,hk=>by rw [zcx,zcx,zkT h k (by omega),h k (by omega)]
theorem zvv {n:Nat} {rels:List (Nat→BitVec 64)} {q q':Nat→Nat} (h : ∀ w,w < n→q w=q' w) {w:Nat} (hw:w < n):zay n rels q w=zay n rels q' w:=by
 refine zet fun v hv=>?_
 unfold zdM
 rw [h v (by omega),h w hw]
 congr 1
 refine congrArg (fun f=>rels.all f) (funext fun r=>?_)
 rw [zkT h n (Nat.le_refl _),zkT h n (Nat.le_refl _)]
section
variable {n:Nat} {rels:List (Nat→BitVec 64)} {q:Nat→Nat} (hq:zad n q)
include hq
theorem zkD {w:Nat} (hw:w < n):q (zay n rels q w)=q w:=by
 have:=zpn (zjb n rels q) w
 simp only [zdM,Bool.and_eq_true,decide_eq_true_eq] at this
 exact this.1
theorem zzo {w:Nat} (hw:w < n) (h:q w=w):zay n rels q w=w:=by
 have h1:=zw7 (zdM n rels q) w
 have h2:=zkD (rels:=rels) hq hw
 have h3:=hq.le (zay n rels q w) (by unfold zay;omega)
 unfold zay at *;omega
theorem zxt (h : ∀ w,w < n→zay n rels q w=w→q w=w) {w:Nat} (hw:w < n):zay n rels q w=q w:=by
 have hc:=zjE n rels q n
 have h1:=h (zay n rels q w) (by have:=hc.le w hw;omega) (hc.idem w hw)
 rw [← h1,zkD hq hw]
end
def zo (n:Nat) (q:Nat→Nat):Nat:=((List.range n).filter fun w=>decide (q w=w)).length
theorem zg6 {p p':Nat→Bool} (hi : ∀ w,p w=true→p' w=true) : ∀ l:List Nat,(l.filter p).length≤(l.filter p').length∧((∃ w∈l,p w=false∧p' w=true)→(l.filter p).length < (l.filter p').length)
 | []=>⟨Nat.le_refl _,fun ⟨w,h,_⟩=>by cases h⟩
 | x::l=>by
  obtain ⟨h1,h2⟩:=zg6 hi l
  cases hp:p x with
  | true =>
   rw [List.filter_cons_of_pos hp,List.filter_cons_of_pos (hi x hp)]
   refine ⟨by simpa using h1,fun ⟨w,hw,h3,h4⟩=>?_⟩
   rcases List.mem_cons.1 hw with rfl|hw
   ·rw [hp] at h3;cases h3
   ·have:=h2 ⟨w,hw,h3,h4⟩;simpa using this
  | false =>
   rw [List.filter_cons_of_neg (by simp [hp])]
   cases hp':p' x with
   | true =>
    rw [List.filter_cons_of_pos hp',List.length_cons]
    exact ⟨by omega,fun _=>by omega⟩
   | false =>
    rw [List.filter_cons_of_neg (by simp [hp'])]
    refine ⟨h1,fun ⟨w,hw,h3,h4⟩=>?_⟩
    rcases List.mem_cons.1 hw with rfl|hw
    ·rw [hp'] at h4;cases h4
    ·exact h2 ⟨w,hw,h3,h4⟩
theorem zbS (n:Nat) (q:Nat→Nat):zo n q≤n:=by
 unfold zo
 have:=List.length_filter_le (fun w=>decide (q w=w)) (List.range n)
 simpa using this
theorem zBw {n:Nat} {rels:List (Nat→BitVec 64)} {q:Nat→Nat} (hq:zad n q) (h : ∃ w,w < n∧zay n rels q w≠q w):zo n q < zo n (zay n rels q):=by
 unfold zo
 have e1:(List.range n).filter (fun w=>decide (q w=w))=(List.range n).filter fun w=>decide (w < n∧q w=w):=by
  refine List.filter_congr fun w hw=>?_
  have:=List.mem_range.1 hw
  simp [this]
 have e2:(List.range n).filter (fun w=>decide (zay n rels q w=w))=(List.range n).filter fun w=>decide (w < n∧zay n rels q w=w):=by
  refine List.filter_congr fun w hw=>?_
  have:=List.mem_range.1 hw
  simp [this]
 rw [e1,e2]
 refine (zg6 (fun w hw=>?_) _).2 ?_
 ·simp only [decide_eq_true_eq] at hw ⊢
  exact ⟨hw.1,zzo hq hw.1 hw.2⟩
 ·obtain ⟨w,hw,hne⟩:=h
  by_cases hall : ∀ w,w < n→zay n rels q w=w→q w=w
  ·exact absurd (zxt hq hall hw) hne
  ·simp only [Classical.not_forall] at hall
   obtain ⟨u,hu,h1,h2⟩:=hall
   exact ⟨u,List.mem_range.2 hu,by simp [h2],by simp [hu,h1]⟩
def zbD (n:Nat) (rels:List (Nat→BitVec 64)) (q0:Nat→Nat):Nat→Nat→Nat
 | 0=>q0
 | k+1=>zay n rels (zbD n rels q0 k)
section
variable {n:Nat} {rels:List (Nat→BitVec 64)} {q0:Nat→Nat} (hq:zad n q0)
include hq
theorem zoF : ∀ k,zad n (zbD n rels q0 k)
 | 0=>hq
 | k+1=>zjE _ _ _ _
theorem zlp {k:Nat} (h : ∀ w,w < n→zbD n rels q0 (k+1) w=zbD n rels q0 k w) : ∀ j,k≤j → ∀ w,w < n→zbD n rels q0 j w=zbD n rels q0 k w:=by
 intro j hj
 induction j with
 | zero=>intro w hw;rw [show k=0 by omega]
 | succ j ih =>
  intro w hw
  by_cases e:k=j+1
  ·rw [e]
  ·have ih:=ih (by omega)
   rw [← h w hw]
   exact zvv ih hw
theorem zlo {k:Nat} (h : ∀ j,j < k → ∃ w,w < n∧zbD n rels q0 (j+1) w≠zbD n rels q0 j w) : ∀ j,j≤k→zo n q0+j≤zo n (zbD n rels q0 j)
 | 0,_=>Nat.le_refl _
 | j+1,hj=>by
  have h1:=zlo h j (by omega)
  have h2:=zBw (zoF hq j) (h j (by omega))
  show zo n q0+(j+1)≤zo n (zay n rels (zbD n rels q0 j))
  omega
theorem zyo {j:Nat} (hn:0 < n) (hj:n≤j) {w:Nat} (hw:w < n):zbD n rels q0 j w=zbD n rels q0 n w:=by
 by_cases hall : ∀ i,i < n → ∃ w,w < n∧zbD n rels q0 (i+1) w≠zbD n rels q0 i w
 ·have h1:=zlo hq hall n (Nat.le_refl _)
  have h2:=zbS n (zbD n rels q0 n)
  have h3:0 < zo n q0:=by
   unfold zo
   have h0:q0 0=0:=by have:=hq.le 0 hn;omega
   exact List.length_pos_of_mem (List.mem_filter.2 ⟨List.mem_range.2 hn,by simp [h0]⟩)
  omega
 ·simp only [Classical.not_forall] at hall
  obtain ⟨i,hi,hs⟩:=hall
  have hst : ∀ w,w < n→zbD n rels q0 (i+1) w=zbD n rels q0 i w:=fun w hw=>by
   by_cases e:zbD n rels q0 (i+1) w=zbD n rels q0 i w
   ·exact e
   ·exact absurd ⟨w,hw,e⟩ hs
  rw [zlp hq hst j (by omega) w hw,zlp hq hst n (by omega) w hw]
end
end Go.Ab
namespace Go.Ab
open Go Go.Proofs
set_option maxRecDepth 10000
set_option maxHeartbeats 4000000
variable {T:Nat→Obj→Prop}
theorem zBs (s:BitVec 64) (n:Nat):(s >>> n) % 2#64=1#64↔s.getLsbD n=true:=by
 rw [← BitVec.toNat_inj,BitVec.toNat_umod,BitVec.toNat_ushiftRight,← BitVec.testBit_toNat,Nat.shiftRight_eq_div_pow,Nat.testBit_eq_decide_div_mod_eq,decide_eq_true_eq]
 rfl
theorem zig (s:BitVec 64) (k:Nat):Fn Tryz.prog T zg5 [.d (.u64 s),.d (.int .i64 (k:Int))] [] (.d (.bool (s.getLsbD k))) []:=by
 refine zb zm zne (by show 2≤18;decide) ?_
 (repeat' ((conv=>whnf);first|refine vA ?_|refine vG ?_|(refine vF ?_ ?_<;>intro hc<;>try simp only [vL] at hc)|refine vT ?_|(refine vP ?_ ?_;·omega)|refine vZ ?_|refine vP (show (_:BitVec 64)≠_ by decide) ?_));all_goals try conv=>whnf
 ·show decide (s >>> k % 2#64=1#64)=_
  rw [Bool.eq_iff_iff,decide_eq_true_eq];exact zBs s k
 ·rw [BitVec.getLsbD_of_ge _ _ (by omega)]
theorem zkR {x:BitVec 64} {k:Nat} (h:1&&&x.toNat >>> k=0):x.getLsbD k=false:=by
 show (1&&&x.toNat >>> k != 0)=false
 simp [h]
theorem zje {x:BitVec 64} {k:Nat} (h : ¬1&&&x.toNat >>> k=0):x.getLsbD k=true:=by
 show (1&&&x.toNat >>> k != 0)=true
 rw [bne_iff_ne];exact h
theorem zpc (n:Int) (h:0≤n):Fn Tryz.prog T zg3 [.d (.int .i64 n)] [] (.d (.u64 (zhY n))) []:=by
 refine zb zm znc (by show 1≤8;decide) ?_
 (repeat' ((conv=>whnf);first|refine vA ?_|(refine vF ?_ ?_<;>intro hc<;>try simp only [vL] at hc)|refine vT ?_|(refine vP ?_ ?_;·omega)|refine vY ?_));all_goals try conv=>whnf
 ·rw [zhY,if_pos (by omega)];rfl
 ·rw [zhY,if_neg (by omega)];rfl
theorem zhK {α:Type} {l:List α} {i:Nat} {x d:α} (h:l[i]? = some x):l.getD i d=x:=by simp [List.getD,h]
theorem zr3 (l:List (BitVec 64)) (n:Int) (h:0≤n):Fn Tryz.prog T zfG [.d (dU l),.d (.int .i64 n)] [] (.d (.bool (l.any (bad n)))) []:=by
 refine zb zm zke (by show 2≤20;decide) ?_
 (repeat' ((conv=>whnf);first|refine vA ?_|refine vT ?_));all_goals try conv=>whnf
 refine zM (fun (k:Nat)=>[(0,.d (dU l)),(1,.d (.int .i64 (n))),(5,.d (.int .i64 ((k:Int))))]) (fun (k:Nat)=>k≤l.length∧l.any (bad n)=(l.drop k).any (bad n)) (fun (k:Nat)=>l.length - k) (0) (⟨by simp,rfl⟩) (by (repeat' first|exact trivial|exact rfl|refine And.intro ?_ ?_)) ?_
 rintro k ⟨hk,hI⟩
 (repeat' ((conv=>whnf);first|refine vA ?_|((first|refine vD ?_ ?_|refine vF ?_ ?_)<;>intro hc<;>try simp only [vL] at hc)|refine vJ fun hg=>?_|refine vT ?_|(refine vQ ?_ fun x hx=>?_;·omega)|(refine vO ?_ ?_;·omega)|(refine vU ?_ ?_;·kernel_rfl)|refine vZ ?_|refine yD (zpc n h) ⟨⟨rfl,rfl⟩,rfl⟩ rfl ?_));all_goals try conv=>whnf
 ·rw [hI,zt hx,List.any_cons,show bad n x=true from decide_eq_true ‹_›];rfl
 ·exact ⟨k+1,[],[],⟨by (omega),by rw [hI,zt hx,List.any_cons,show bad n x=false from decide_eq_false (by simpa using ‹x &&& ~~~zhY n=0#64›)];rfl⟩,by (omega),by (refine ⟨rfl,rfl,rfl,?_,?_⟩;repeat' first|exact trivial|exact rfl|refine And.intro ?_ ?_)⟩
 ·rw [hI,List.drop_eq_nil_of_le (by omega)];rfl
def za (m:KM):Int :=
 if m.W < 1∨64 < m.W then 2 else if 4 < m.rel.length∨8 < m.val.length then 8 else if m.rel.any (fun r=>decide ((r.length:Int)≠m.W)) then 3 else if m.val.any (bad m.W) then 2 else if m.rel.any (fun r=>r.any (bad m.W)) then 2 else 0
structure zkJ (m:KM):Prop where
 w1:1≤m.W
 w2:m.W≤64
 n4:m.rel.length≤4
 v8:m.val.length≤8
 len : ∀ r∈m.rel,(r.length:Int)=m.W
 val : ∀ s∈m.val,bad m.W s=false
 rel : ∀ r∈m.rel,∀ s∈r,bad m.W s=false
theorem zn {m:KM} (h:za m=0):zkJ m:=by
 unfold za at h
 split at h
 ·cases h
 ·split at h
  ·cases h
  ·split at h
   ·cases h
   ·split at h
    ·cases h
    ·split at h
     ·cases h
     ·rename_i h1 h2 h3 h4 h5
      refine ⟨by omega,by omega,by omega,by omega,fun r hr=>?_,fun s hs=>?_,fun r hr s hs=>?_⟩
      ·simp only [List.any_eq_true,not_exists,not_and] at h3;simpa using h3 r hr
      ·simp only [List.any_eq_true,not_exists,not_and] at h4;simpa using h4 s hs
      ·simp only [List.any_eq_true,not_exists,not_and] at h5;simpa using h5 r hr s hs
theorem za8 (m:KM):Fn Tryz.prog T zf4 [.d (dKM m)] [] (.d (.int .i64 (za m))) []:=by
 refine zb zm zlw (by show 1≤59;decide) ?_
 (repeat' ((conv=>whnf);first|refine vA ?_|(refine vF ?_ ?_<;>intro hc<;>try simp only [vL] at hc)|refine vJ fun hg=>?_|refine vT ?_|refine vX ?_));all_goals try conv=>whnf
 ·rw [za,if_pos (by omega)]
 ·rw [za,if_pos (by omega)]
 ·rw [za,if_neg (by omega),if_pos (by omega)]
 ·rw [za,if_neg (by omega),if_pos (by omega)]
 ·have e0:za m=if m.rel.any (fun r=>decide ((r.length:Int)≠m.W)) then 3 else if m.val.any (bad m.W) then 2 else if m.rel.any (fun r=>r.any (bad m.W)) then 2 else 0:=by rw [za,if_neg (by omega),if_neg (by omega)]
  refine zf (fun (k:Nat)=>[(1,.ptr 0 0),(3,.d (.int .i64 ((k:Int))))]) (fun (k:Nat)=>[(0,some (zR m))]) 1 (fun (k:Nat)=>k≤m.rel.length∧m.rel.any (fun r=>decide ((r.length:Int)≠m.W))=(m.rel.drop k).any (fun r=>decide ((r.length:Int)≠m.W))) (fun (k:Nat)=>m.rel.length - k) (0) [(0,0)] [] (⟨by simp,rfl⟩) (by (refine ⟨rfl,rfl,rfl,?_,?_⟩;repeat' first|exact trivial|exact rfl|refine And.intro ?_ ?_|refine ⟨_,rfl,?_⟩|decide)) ?_
  rintro k ⟨hk,hI⟩
  (repeat' ((conv=>whnf);first|refine vA ?_|((first|refine vD ?_ ?_|refine vF ?_ ?_)<;>intro hc<;>try simp only [vL] at hc)|refine vJ fun hg=>?_|refine vT ?_|(refine vQ ?_ fun x hx=>?_;·omega)|(refine vO ?_ ?_;·omega)|(refine vU ?_ ?_;·kernel_rfl)|refine vX ?_));all_goals try conv=>whnf
  ·rw [e0,if_pos (by rw [hI,zt hx,List.any_cons,decide_eq_true (by simpa using ‹_›)];rfl)]
  ·exact ⟨k+1,[(0,0)],[],⟨by (omega),by rw [hI,zt hx,List.any_cons,decide_eq_false (by simpa using ‹_›)];rfl⟩,by (omega),by (refine ⟨rfl,rfl,rfl,?_,?_⟩;repeat' first|exact trivial|exact rfl|refine And.intro ?_ ?_|refine ⟨_,rfl,?_⟩|decide)⟩
  ·have h1:m.rel.any (fun r=>decide ((r.length:Int)≠m.W))=false:=by rw [hI,List.drop_eq_nil_of_le (by omega)];rfl
   rw [h1,if_neg (by decide)] at e0
   (repeat' ((conv=>whnf);first|refine vA ?_|(refine vI ?_ ?_<;>intro hc)|refine vT ?_|refine vX ?_|refine yD (zr3 _ m.W (by omega)) ⟨⟨rfl,rfl⟩,⟨rfl,rfl⟩,rfl⟩ rfl ?_));all_goals try conv=>whnf
   ·rw [e0,if_pos ‹_›]
   ·rw [show m.val.any (bad m.W)=false from ‹_›,if_neg (by decide)] at e0
    refine zf (fun (k:Nat)=>[(1,.ptr 0 0),(4,.d (.int .i64 ((k:Int))))]) (fun (k:Nat)=>[(0,some (zR m))]) 1 (fun (k:Nat)=>k≤m.rel.length∧m.rel.any (fun r=>r.any (bad m.W))=(m.rel.drop k).any (fun r=>r.any (bad m.W))) (fun (k:Nat)=>m.rel.length - k) (0) [(0,0)] [] (⟨by simp,rfl⟩) (by (refine ⟨rfl,rfl,rfl,?_,?_⟩;repeat' first|exact trivial|exact rfl|refine And.intro ?_ ?_|refine ⟨_,rfl,?_⟩|decide)) ?_
    clear hI hk
    rintro k ⟨hk,hI⟩
    (repeat' ((conv=>whnf);first|refine vA ?_|((first|refine vF ?_ ?_|refine vI ?_ ?_)<;>intro hc<;>try simp only [vL] at hc)|refine vJ fun hg=>?_|refine vT ?_|(refine vQ ?_ fun x hx=>?_;·omega)|(refine vO ?_ ?_;·omega)|(refine vU ?_ ?_;·kernel_rfl)|refine vX ?_|refine yD (zr3 _ m.W (by omega)) ⟨⟨rfl,rfl⟩,⟨rfl,rfl⟩,rfl⟩ rfl ?_));all_goals try conv=>whnf
    ·rw [e0,if_pos (by rw [hI,zt hx,List.any_cons,show x.any (bad m.W)=true from ‹_›];rfl)]
    ·exact ⟨k+1,[(0,0)],[],⟨by (omega),by rw [hI,zt hx,List.any_cons,show x.any (bad m.W)=false from ‹_›];rfl⟩,by (omega),by (refine ⟨rfl,rfl,rfl,?_,?_⟩;repeat' first|exact trivial|exact rfl|refine And.intro ?_ ?_|refine ⟨_,rfl,?_⟩|decide)⟩
    ·rw [e0,if_neg]
     rw [hI,List.drop_eq_nil_of_le (by omega)];simp
theorem zyD {k:IntKind} {a:Nat} (h:a < 2 ^ k.bits):(BitVec.ofInt k.bits (a:Int)).toNat=a:=by
 rw [BitVec.toNat_ofInt,Int.emod_eq_of_lt (Int.natCast_nonneg a) (show (a:Int) < ((2 ^ k.bits:Nat):Int) from Int.ofNat_lt.2 h)]
 rfl
theorem zA3 {a:Nat} (h:a < 2 ^ 63):IntKind.wrap .i64 (a:Int)=a:=zuV ⟨by omega,by omega⟩
theorem zvG {a b:Nat} (ha:a < 2 ^ 63) (hb:b < 2 ^ 63):zds .i64 (fun p q=>p|||q) (a:Int) (b:Int)=((a|||b:Nat):Int):=by
 unfold zds
 rw [BitVec.toNat_or,zyD (k := .i64) (by simp [IntKind.bits];omega),zyD (k := .i64) (by simp [IntKind.bits];omega)]
 exact zA3 (Nat.or_lt_two_pow ha hb)
theorem zqK {x:BitVec 64} {k i:Nat} (hk:k < 64):(x|||1#64 <<< k).getLsbD i=true↔x.getLsbD i=true∨i=k:=by
 rw [BitVec.getLsbD_or,Bool.or_eq_true,zrc]
 constructor
 ·rintro (h|h)
  ·exact .inl h
  ·simp at h;exact .inr h.2
 ·rintro (h|rfl)
  ·exact .inl h
  ·exact .inr (by simp [hk])
def zax (l:List (BitVec 64)) (w:Nat):Nat→Nat
 | 0=>0
 | k+1=>zax l w k+if (l.getD k 0#64).getLsbD w=true then 2 ^ k else 0
theorem zlc (l:List (BitVec 64)) (w:Nat) : ∀ k,zax l w k < 2 ^ k
 | 0=>by simp [zax]
 | k+1=>by
  have:=zlc l w k
  have h2:=Nat.two_pow_pos k
  rw [zax,Nat.pow_succ]
  split<;>omega
theorem zmO (l:List (BitVec 64)) (w:Nat) {i:Nat} : ∀ k,(zax l w k).testBit i=true↔i < k∧(l.getD i 0#64).getLsbD w=true
 | 0=>by simp [zax]
 | k+1=>by
  have hlt:=zlc l w k
  have ih:=zmO l w (i:=i) k
  have e:zax l w (k+1)=2 ^ k * (if (l.getD k 0#64).getLsbD w=true then 1 else 0)+zax l w k:=by
   rw [zax];split<;>omega
  rw [e,Nat.testBit_two_pow_mul_add _ hlt]
  by_cases h:i < k
  ·rw [if_pos h,ih]
   exact ⟨fun ⟨a,b⟩=>⟨by omega,b⟩,fun ⟨a,b⟩=>⟨h,b⟩⟩
  ·rw [if_neg h]
   by_cases h2:i=k
   ·subst h2
    rw [Nat.sub_self]
    split
    ·rename_i hb;exact ⟨fun _=>⟨by omega,hb⟩,fun _=>by decide⟩
    ·rename_i hb;exact ⟨fun h=>by simp at h,fun h=>absurd h.2 hb⟩
   ·constructor
    ·intro h3
     exfalso
     obtain ⟨m,hm⟩ : ∃ m,i - k=m+1:=⟨i - k - 1,by omega⟩
     rw [hm,Nat.testBit_succ] at h3
     split at h3<;>simp at h3
    ·rintro ⟨a,-⟩;omega
theorem zBZ {x k:Nat} (h:x < 2 ^ k):x|||2 ^ k=x+2 ^ k:=by
 have:=Nat.two_pow_add_eq_or_of_lt (i:=k) h 1
 rw [Nat.or_comm,show 2 ^ k=2 ^ k * 1 by omega,← this];omega
theorem zzZ {l:List (BitVec 64)} {w k:Nat} {s:BitVec 64} (hs:l[k]? = some s) (hk:k < 8) :
  zds .i64 (fun p q=>p|||q) (zax l w k:Int) ((((s >>> w&&&1#64).toNat:Int)) * 2 ^ (min k IntKind.i64.bits))=(zax l w (k+1):Int):=by
 have h1:=zlc l w k
 have hp:2 ^ k≤2 ^ 7:=Nat.pow_le_pow_right (by decide) (by omega)
 have hb:min k IntKind.i64.bits=k:=by show min k 64=k;omega
 rw [hb,zax,show l.getD k 0#64=s by rw [List.getD,hs];rfl]
 by_cases h:s.getLsbD w=true
 ·have e:s >>> w&&&1#64=1#64:=(zfA s w).2 h
  rw [e,if_pos h]
  have:=zvG (a:=zax l w k) (b:=2 ^ k) (by omega) (by omega)
  rw [show ((1#64).toNat:Int) * 2 ^ k=((2 ^ k:Nat):Int) by simp,this,zBZ h1]
 ·have e:s >>> w&&&1#64=0#64:=(zoX s w).2 (by simpa using h)
  rw [e,if_neg h]
  have:=zvG (a:=zax l w k) (b:=0) (by omega) (by omega)
  rw [show ((0#64).toNat:Int) * 2 ^ k=((0:Nat):Int) by simp,this];simp
theorem zxJ (s:BitVec 64) (w:Nat):(s >>> w&&&1#64).toNat≤1:=by
 cases h:s.getLsbD w with
 | true=>rw [(zfA s w).2 h];decide
 | false=>rw [(zoX s w).2 h];decide
theorem zy2 {x k:Nat} (hx:x≤1) (hk:k < 8):0≤(x:Int) * 2 ^ (min (k:Int).toNat IntKind.i64.bits)∧(x:Int) * 2 ^ (min (k:Int).toNat IntKind.i64.bits)≤9223372036854775807:=by
 have hp:2 ^ k≤2 ^ 7:=Nat.pow_le_pow_right (by decide) (by omega)
 have hb:min (k:Int).toNat IntKind.i64.bits=k:=by show min k 64=k;omega
 rw [hb]
 match x,hx with
 | 0,_=>simp
 | 1,_ =>
  rw [show ((1:Nat):Int) * 2 ^ k=((2 ^ k:Nat):Int) by simp]
  have h7:(2:Nat) ^ 7=128:=rfl
  exact ⟨Int.natCast_nonneg _,Int.ofNat_le.2 (show 2 ^ k≤9223372036854775807 by omega)⟩
theorem zyH {i:Int} (h0:0≤i) (h7:i≤7):(-9223372036854775808≤(1:Int) * 2 ^ (min i.toNat IntKind.i64.bits)∧(1:Int) * 2 ^ (min i.toNat IntKind.i64.bits)≤9223372036854775807)∧((2 ^ i.toNat:Nat):Int)=(1:Int) * 2 ^ (min i.toNat IntKind.i64.bits):=by
 have:i=0∨i=1∨i=2∨i=3∨i=4∨i=5∨i=6∨i=7:=by omega
 rcases this with rfl|rfl|rfl|rfl|rfl|rfl|rfl|rfl<;>decide
def ptL (n:Nat) (q:Nat→Nat):List Int:=(List.range n).map fun w=>((q w:Nat):Int)
theorem zG {n:Nat} {q:Nat→Nat} {w:Nat} (hw:w < n):(ptL n q)[w]? = some ((q w:Nat):Int):=by simp [ptL,hw]
theorem z1 {n:Nat} {q:Nat→Nat} : (ptL n q).length=n:=by simp [ptL]
theorem zb2 {n:Nat} {q q':Nat→Nat} (h : ∀ w,w < n→q w=q' w):ptL n q=ptL n q':=List.map_congr_left fun w hw=>by rw [h w (List.mem_range.1 hw)]
theorem zv5 {n:Nat} {q q':Nat→Nat} (h:ptL n q=ptL n q') {w:Nat} (hw:w < n):q w=q' w:=by
 have:=zG (q:=q) hw
 rw [h,zG hw] at this
 have:=Option.some.inj this
 omega
theorem zpR {l:List Int} {i:Nat} (h:i < l.length):l[i]? = some (at0 l i):=by
 rw [List.getElem?_eq_getElem h];congr 1
 exact (zaj (List.getElem?_eq_getElem h)).symm
theorem zuu {q:Nat→Nat} {k:Nat} : (ptL k q).map (D.int .i64)++[D.int .i64 ((q k:Nat):Int)]=(ptL (k+1) q).map (D.int .i64):=by
 unfold ptL;rw [List.range_succ,List.map_append,List.map_append];rfl
theorem zBo {x:BitVec 64} {m:Nat} (h:x.getLsbD m=false):x+1#64 <<< m=x|||1#64 <<< m:=by
 refine BitVec.add_eq_or_of_and_eq_zero _ _ (BitVec.eq_of_getLsbD_eq fun i hi=>?_)
 rw [BitVec.getLsbD_and,BitVec.getLsbD_shiftLeft,BitVec.getLsbD_zero]
 by_cases e:i=m
 ·subst e;rw [h];rfl
 ·by_cases e2:i < m
  ·simp [e2]
  ·rw [BitVec.getLsbD_one];simp;omega
theorem zB0 {x:BitVec 64} {m:Nat} (h:x.getLsbD m=true):x|||1#64 <<< m=x:=by
 refine BitVec.eq_of_getLsbD_eq fun i hi=>?_
 rw [BitVec.getLsbD_or,BitVec.getLsbD_shiftLeft]
 by_cases e:i=m
 ·subst e;rw [h];rfl
 ·by_cases e2:i < m
  ·simp [e2]
  ·rw [BitVec.getLsbD_one];simp;omega
end Go.Ab
namespace Go.Ab
def zX {α:Type} (c:α→α→Int):List α→List α→Int
 | [],[]=>0
 | [],_::_ => -1
 | _::_,[]=>1
 | x::r,y::s=>if c x y=0 then zX c r s else c x y
structure znC {α:Type} (c:α→α→Int):Prop where
 zero : ∀ {x y},c x y=0↔x=y
 anti : ∀ x y,c y x = - c x y
 tr : ∀ {x y z},c x y < 0→c y z < 0→c x z < 0
theorem znC.refl {α:Type} {c:α→α→Int} (h:znC c) (x:α):c x x=0:=h.zero.2 rfl
theorem zvI {α:Type} {c:α→α→Int} (h:znC c):znC (zX c) where
 zero:=by
  intro x
  induction x with
  | nil=>intro y;cases y<;>simp [zX]
  | cons a r ih =>
   intro y
   cases y with
   | nil=>simp [zX]
   | cons b s =>
    unfold zX
    by_cases e:c a b=0
    ·rw [if_pos e,ih,h.zero.1 e];simp
    ·rw [if_neg e]
     constructor
     ·intro h';exact absurd h' e
     ·intro h';cases h';exact absurd (h.refl _) e
 anti:=by
  intro x
  induction x with
  | nil=>intro y;cases y<;>simp [zX]
  | cons a r ih =>
   intro y
   cases y with
   | nil=>simp [zX]
   | cons b s =>
    unfold zX
    have:=h.anti a b
    by_cases e:c a b=0
    ·rw [if_pos e,if_pos (by omega),ih]
    ·rw [if_neg e,if_neg (by omega),this]
 tr:=by
  intro x
  induction x with
  | nil =>
   intro y z h1 h2
   cases y with
   | nil=>simp [zX] at h1
   | cons b s=>cases z with
    | nil=>simp [zX] at h2
    | cons d t=>simp [zX]
  | cons a r ih =>
   intro y z h1 h2
   cases y with
   | nil=>simp [zX] at h1
   | cons b s=>cases z with
    | nil=>simp [zX] at h2
    | cons d t =>
     unfold zX at h1 h2 ⊢
     by_cases e1:c a b=0
     ·obtain rfl:=h.zero.1 e1
      rw [if_pos e1] at h1
      by_cases e2:c a d=0
      ·rw [if_pos e2] at h2 ⊢;exact ih h1 h2
      ·rw [if_neg e2] at h2 ⊢;exact h2
     ·rw [if_neg e1] at h1
      by_cases e2:c b d=0
      ·obtain rfl:=h.zero.1 e2
       rw [if_neg e1];exact h1
      ·rw [if_neg e2] at h2
       have h3:=h.tr h1 h2
       rw [if_neg (by omega)];exact h3
def zap (x y:Int):Int:=if x < y then -1 else if y < x then 1 else 0
theorem zvJ:znC zap where
 zero:=by
  intro x y;unfold zap
  by_cases h1:x < y
  ·rw [if_pos h1];omega
  ·rw [if_neg h1]
   by_cases h2:y < x
   ·rw [if_pos h2];omega
   ·rw [if_neg h2];omega
 anti:=by
  intro x y;unfold zap
  by_cases h1:x < y
  ·rw [if_pos h1,if_neg (by omega),if_pos h1];rfl
  ·rw [if_neg h1]
   by_cases h2:y < x
   ·rw [if_pos h2,if_neg h1,if_pos h2]
   ·rw [if_neg h2,if_neg h1,if_neg h2];rfl
 tr:=by
  intro x y z;unfold zap
  by_cases h1:x < y
  ·rw [if_pos h1]
   by_cases h2:y < z
   ·rw [if_pos h2,if_pos (by omega)];simp
   ·rw [if_neg h2]
    by_cases h3:z < y
    ·rw [if_pos h3];intro _ h;omega
    ·rw [if_neg h3];intro _ h;omega
  ·rw [if_neg h1]
   by_cases h2:y < x
   ·rw [if_pos h2];intro h;omega
   ·rw [if_neg h2];intro h;omega
abbrev Tup:=List (List Int)
def zaq:Tup→Tup→Int:=zX (zX zap)
theorem zal:znC zaq:=zvI (zvI zvJ)
def ddT {α:Type} [DecidableEq α]:List α→List α
 | []=>[]
 | x::r=>if x∈r then ddT r else x::ddT r
theorem zag {α:Type} [DecidableEq α] {x:α} : ∀ {l:List α},x∈ddT l↔x∈l
 | []=>Iff.rfl
 | y::r=>by
  unfold ddT
  have ih:=zag (x:=x) (l:=r)
  by_cases h:y∈r
  ·rw [if_pos h,ih,List.mem_cons]
   exact ⟨.inr,fun h'=>h'.elim (fun e=>e▸h) id⟩
  ·rw [if_neg h,List.mem_cons,List.mem_cons,ih]
theorem zbv {α:Type} [DecidableEq α] : ∀ l:List α,(ddT l).Nodup
 | []=>List.nodup_nil
 | y::r=>by
  unfold ddT
  by_cases h:y∈r
  ·rw [if_pos h];exact zbv r
  ·rw [if_neg h];exact List.nodup_cons.2 ⟨fun h'=>h (zag.1 h'),zbv r⟩
def rkN (ts:List Tup) (t:Tup):Nat:=((ddT ts).filter fun s=>decide (zaq s t < 0)).length
def cnN (ts:List Tup):Nat:=(ddT ts).length
theorem zeH {α:Type} [DecidableEq α] {l l':List α} (h:l.Nodup) (h':l'.Nodup) (hm : ∀ x,x∈l↔x∈l'):l.Perm l':=by
 rw [List.perm_iff_count]
 intro a
 have c : ∀ l:List α,l.Nodup→l.count a=if a∈l then 1 else 0:=fun l hl=>by
  by_cases ha:a∈l
  ·rw [if_pos ha]
   have h1:=List.nodup_iff_count.1 hl a
   have h2:=List.count_pos_iff.2 ha
   omega
  ·rw [if_neg ha];exact List.count_eq_zero.2 ha
 rw [c l h,c l' h']
 by_cases ha:a∈l
 ·rw [if_pos ha,if_pos ((hm a).1 ha)]
 ·rw [if_neg ha,if_neg (fun h=>ha ((hm a).2 h))]
theorem zxh {ts S:List Tup} (hn:S.Nodup) (hm : ∀ x,x∈S↔x∈ts) (t:Tup):(S.filter fun s=>decide (zaq s t < 0)).length=rkN ts t :=
 ((zeH hn (zbv _) fun x=>by rw [hm,zag]).filter _).length_eq
theorem zA9 {ts S:List Tup} (hn:S.Nodup) (hm : ∀ x,x∈S↔x∈ts):S.length=cnN ts :=
 (zeH hn (zbv _) fun x=>by rw [hm,zag]).length_eq
theorem zAG {ts ts':List Tup} (hm : ∀ x,x∈ts↔x∈ts') (t:Tup):rkN ts t=rkN ts' t :=
 zxh (zbv _) (fun x=>by rw [zag];exact hm x) t
theorem zzO {ts ts':List Tup} (hm : ∀ x,x∈ts↔x∈ts'):cnN ts=cnN ts' :=
 zA9 (zbv _) (fun x=>by rw [zag];exact hm x)
theorem zsw {ts:List Tup} {s t:Tup} (hs:s∈ts) (ht:t∈ts):rkN ts s < rkN ts t↔zaq s t < 0:=by
 have key : ∀ {s t:Tup},s∈ts→zaq s t < 0→rkN ts s < rkN ts t:=by
  intro s t hs h
  unfold rkN
  have h1 : ∀ x,decide (zaq x s < 0)=true→decide (zaq x t < 0)=true:=fun x hx=>decide_eq_true (zal.tr (of_decide_eq_true hx) h)
  have h2:s∈(ddT ts):=zag.2 hs
  generalize (ddT ts)=l at h2
  induction l with
  | nil=>cases h2
  | cons a r ih =>
   have hle:(r.filter fun x=>decide (zaq x s < 0)).length≤(r.filter fun x=>decide (zaq x t < 0)).length:=by
    clear ih h2
    induction r with
    | nil=>simp
    | cons b r ih =>
     simp only [List.filter_cons]
     by_cases hb:decide (zaq b s < 0)=true
     ·rw [if_pos hb,if_pos (h1 b hb)];simpa using ih
     ·rw [if_neg hb]
      split
      ·rw [List.length_cons];omega
      ·exact ih
   simp only [List.filter_cons]
   by_cases hb:decide (zaq a s < 0)=true
   ·rw [if_pos hb,if_pos (h1 a hb)]
    rcases List.mem_cons.1 h2 with rfl|h2
    ·have:=zal.refl s;have:=of_decide_eq_true hb;omega
    ·simpa using ih h2
   ·rw [if_neg hb]
    rcases List.mem_cons.1 h2 with rfl|h2
    ·rw [if_pos (decide_eq_true h)];simp;omega
    ·have:=ih h2
     split
     ·rw [List.length_cons];omega
     ·exact this
 refine ⟨fun h=>?_,key hs⟩
 have ha:=zal.anti s t
 rcases Int.lt_trichotomy (zaq s t) 0 with h'|h'|h'
 ·exact h'
 ·rw [zal.zero.1 h'] at h;omega
 ·have:=key (s:=t) (t:=s) ht (by omega);omega
theorem znq {ts:List Tup} {s t:Tup} (hs:s∈ts) (ht:t∈ts) (h:rkN ts s=rkN ts t):s=t:=by
 have h1:=zsw hs ht
 have h2:=zsw ht hs
 have h3:=zal.anti s t
 exact zal.zero.1 (by omega)
theorem ziy {ts:List Tup} {t:Tup} (ht:t∈ts):rkN ts t < cnN ts:=by
 unfold rkN cnN
 have h2:t∈(ddT ts):=zag.2 ht
 refine Nat.lt_of_le_of_ne (List.length_filter_le _ _) fun h=>?_
 have:=List.length_filter_eq_length_iff.1 h t h2
 have h3:=zal.refl t
 have:=of_decide_eq_true this
 omega
end Go.Ab
namespace Go.Ab
theorem zbi {α:Type} [DecidableEq α] : ∀ {l l':List α},l.Nodup→(∀ x∈l,x∈l')→l.length≤l'.length
 | [],_,_,_=>Nat.zero_le _
 | x::t,l',h,hs=>by
  obtain ⟨h1,h2⟩:=List.nodup_cons.1 h
  have:=zbi (l:=t) (l':=l'.erase x) h2 fun y hy=>by
   have hne:y≠x:=fun e=>h1 (e▸hy)
   exact (List.mem_erase_of_ne hne).2 (hs y (List.mem_cons_of_mem _ hy))
  have hx:=hs x (by simp)
  rw [List.length_erase_of_mem hx] at this
  have:=List.length_pos_of_mem hx
  rw [List.length_cons];omega
def dcN (n:Nat) (q:Nat→Nat):Nat:=(ddT ((List.range n).map q)).length
theorem zia (n:Nat) (q:Nat→Nat):dcN n q≤n:=by
 have:=zbi (zbv ((List.range n).map q)) (l':=(List.range n).map q) fun x hx=>zag.1 hx
 rwa [List.length_map,List.length_range] at this
theorem znI {α β:Type} [DecidableEq α] [DecidableEq β] {n:Nat} {f:Nat→α} {g:Nat→β} (h : ∀ v w,v < n→w < n→f v=f w→g v=g w):(ddT ((List.range n).map g)).length≤(ddT ((List.range n).map f)).length:=by
 classical
 by_cases h0:n=0
 ·subst h0;exact Nat.le_refl _
 let pick:α→β:=fun a=>g (((List.range n).find? fun w=>decide (f w=a)).getD 0)
 have:=zbi (zbv ((List.range n).map g)) (l':=(ddT ((List.range n).map f)).map pick) fun x hx=>by
  obtain ⟨w,hw,rfl⟩:=List.mem_map.1 (zag.1 hx)
  have hw':=List.mem_range.1 hw
  refine List.mem_map.2 ⟨f w,zag.2 (List.mem_map.2 ⟨w,hw,rfl⟩),?_⟩
  show g (((List.range n).find? fun u=>decide (f u=f w)).getD 0)=g w
  cases hf:(List.range n).find? fun u=>decide (f u=f w) with
  | none =>
   have:=List.find?_eq_none.1 hf w hw
   simp at this
  | some u =>
   have h1:=List.find?_some hf
   have h2:=List.mem_range.1 (List.mem_of_find?_eq_some hf)
   exact h u w h2 hw' (of_decide_eq_true h1)
 rwa [List.length_map] at this
section
variable (n:Nat) (next:(Nat→Nat)→Nat→Tup)
def rfT (q:Nat→Nat):List Tup:=(List.range n).map (next q)
def zdi (q:Nat→Nat):Nat→Nat:=fun w=>rkN (rfT n next q) (next q w)
def zaP (q:Nat→Nat):Nat:=cnN (rfT n next q)
def zbj:Nat→(Nat→Nat)→Nat→(Nat→Nat)×Nat
 | 0,q,k=>(q,k)
 | f+1,q,k=>if zaP n next q=k then (q,k) else zbj f (zdi n next q) (zaP n next q)
end
section
variable {n:Nat} {next:(Nat→Nat)→Nat→Tup} (hF : ∀ q v w,v < n→w < n→next q v=next q w→q v=q w)
theorem zkB {q:Nat→Nat} {w:Nat} (hw:w < n):next q w∈rfT n next q:=List.mem_map.2 ⟨w,List.mem_range.2 hw,rfl⟩
theorem zlM {q:Nat→Nat} {v w:Nat} (hv:v < n) (hw:w < n):zdi n next q v=zdi n next q w↔next q v=next q w :=
 ⟨fun h=>znq (zkB hv) (zkB hw) h,fun h=>by unfold zdi;rw [h]⟩
theorem zcX (q:Nat→Nat):dcN n (zdi n next q)=zaP n next q:=by
 have h1:=znI (n:=n) (f:=next q) (g:=zdi n next q) fun v w hv hw h=>(zlM hv hw).2 h
 have h2:=znI (n:=n) (f:=zdi n next q) (g:=next q) fun v w hv hw h=>(zlM hv hw).1 h
 exact Nat.le_antisymm h1 h2
theorem ztu (q:Nat→Nat):zaP n next q≤n:=by rw [← zcX];exact zia _ _
include hF
theorem zqa (q:Nat→Nat):dcN n q≤zaP n next q:=znI fun v w hv hw h=>hF q v w hv hw h
theorem zrE : ∀ (f g:Nat) (q:Nat→Nat),n < f+dcN n q→n < g+dcN n q→zbj n next f q (dcN n q)=zbj n next g q (dcN n q)
 | 0,g,q,h,_=>by have:=zia n q;omega
 | f+1,0,q,_,h=>by have:=zia n q;omega
 | f+1,g+1,q,h1,h2=>by
  unfold zbj
  by_cases h:zaP n next q=dcN n q
  ·rw [if_pos h,if_pos h]
  ·rw [if_neg h,if_neg h]
   have h3:=zqa hF q
   have h4:=zrE f g (zdi n next q) (by rw [zcX];omega) (by rw [zcX];omega)
   rwa [zcX] at h4
theorem zsv : ∀ (f:Nat) (q:Nat→Nat),n < f+dcN n q → ∃ q',zbj n next f q (dcN n q)=(q',dcN n q')∧zaP n next q'=dcN n q'∧(∀ v w,v < n→w < n→q' v=q' w→q v=q w)
 | 0,q,h=>by have:=zia n q;omega
 | f+1,q,h=>by
  unfold zbj
  by_cases he:zaP n next q=dcN n q
  ·rw [if_pos he];exact ⟨q,rfl,he,fun v w _ _ h=>h⟩
  ·rw [if_neg he]
   have h3:=zqa hF q
   obtain ⟨q',h4,h5,h6⟩:=zsv f (zdi n next q) (by rw [zcX];omega)
   rw [zcX] at h4
   exact ⟨q',h4,h5,fun v w hv hw e=>hF q v w hv hw ((zlM hv hw).1 (h6 v w hv hw e))⟩
end
theorem zvO {α β:Type} [DecidableEq α] [DecidableEq β] {n:Nat} {f:Nat→α} {g:Nat→β} (h : ∀ v w,v < n→w < n→f v=f w→g v=g w) (he:(ddT ((List.range n).map g)).length=(ddT ((List.range n).map f)).length) :
  ∀ v w,v < n→w < n→g v=g w→f v=f w:=by
 classical
 intro v w hv hw hg
 refine Classical.byContradiction fun hne=>?_
 have h1:=znI (n:=n) (f:=f) (g:=fun u=>(g u,decide (f u=f v))) fun a b ha hb e=>by rw [h a b ha hb e,e]
 have h2:(ddT ((List.range n).map g)).length+1≤(ddT ((List.range n).map fun u=>(g u,decide (f u=f v)))).length:=by
  have:=zbi (l:=(g v,false)::(ddT ((List.range n).map g)).map fun y=>(y,decide (∃ u,u < n∧g u=y∧f u=f v) )) (l':=ddT ((List.range n).map fun u=>(g u,decide (f u=f v)))) ?_ ?_
  ·simpa using this
  ·refine List.nodup_cons.2 ⟨fun hm=>?_,?_⟩
   ·obtain ⟨y,hy,e⟩:=List.mem_map.1 hm
    simp only [Prod.mk.injEq] at e
    obtain ⟨rfl,e⟩:=e
    exact absurd (of_decide_eq_false e) (not_not_intro ⟨v,hv,rfl,rfl⟩)
   ·exact List.Pairwise.map _ (fun a b hab e=>hab (by simp only [Prod.mk.injEq] at e;exact e.1)) (zbv _)
  ·intro x hx
   refine zag.2 (List.mem_map.2 ?_)
   rcases List.mem_cons.1 hx with rfl|hx
   ·exact ⟨w,List.mem_range.2 hw,by simp only [Prod.mk.injEq];exact ⟨hg.symm,decide_eq_false fun e=>hne e.symm⟩⟩
   ·obtain ⟨y,hy,rfl⟩:=List.mem_map.1 hx
    obtain ⟨u,hu,rfl⟩:=List.mem_map.1 (zag.1 hy)
    by_cases hex : ∃ u',u' < n∧g u'=g u∧f u'=f v
    ·obtain ⟨u',h1,h2,h3⟩:=hex
     exact ⟨u',List.mem_range.2 h1,by simp only [Prod.mk.injEq];exact ⟨h2,by rw [decide_eq_true h3,decide_eq_true ⟨u',h1,h2,h3⟩]⟩⟩
    ·exact ⟨u,hu,by simp only [Prod.mk.injEq];exact ⟨trivial,by rw [decide_eq_false hex,decide_eq_false fun e=>hex ⟨u,List.mem_range.1 hu,rfl,e⟩]⟩⟩
 omega
end Go.Ab
namespace Go.Ab
structure Ren (n:Nat) (f:Nat→Nat):Prop where
 lt : ∀ w,w < n→f w < n
 inj : ∀ v w,v < n→w < n→f v=f w→v=w
theorem Ren.surj {n:Nat} {f:Nat→Nat} (h:Ren n f) {x:Nat} (hx:x < n) : ∃ w,w < n∧f w=x:=by
 refine Classical.byContradiction fun hn=>?_
 have:=zbi (l:=x::(List.range n).map f) (l':=List.range n) (List.nodup_cons.2 ⟨fun hm=>?_,?_⟩) fun y hy=>?_
 ·simp at this
  omega
 ·obtain ⟨w,hw,e⟩:=List.mem_map.1 hm
  exact hn ⟨w,List.mem_range.1 hw,e⟩
 ·rw [List.Nodup,List.pairwise_map]
  exact List.Pairwise.imp_of_mem (fun {a b} ha hb hab e=>hab (h.inj a b (List.mem_range.1 ha) (List.mem_range.1 hb) e)) List.nodup_range
 ·rcases List.mem_cons.1 hy with rfl|hy
  ·exact List.mem_range.2 hx
  ·obtain ⟨w,hw,rfl⟩:=List.mem_map.1 hy
   exact List.mem_range.2 (h.lt w (List.mem_range.1 hw))
section
variable {n:Nat} {f:Nat→Nat} (hf:Ren n f) {t t':Nat→Tup} (ht : ∀ w,w < n→t' (f w)=t w)
include hf ht
theorem zv7 (x:Tup):x∈(List.range n).map t'↔x∈(List.range n).map t:=by
 constructor
 ·intro h
  obtain ⟨y,hy,rfl⟩:=List.mem_map.1 h
  obtain ⟨w,hw,rfl⟩:=hf.surj (List.mem_range.1 hy)
  exact List.mem_map.2 ⟨w,List.mem_range.2 hw,(ht w hw).symm⟩
 ·intro h
  obtain ⟨w,hw,rfl⟩:=List.mem_map.1 h
  exact List.mem_map.2 ⟨f w,List.mem_range.2 (hf.lt w (List.mem_range.1 hw)),ht w (List.mem_range.1 hw)⟩
theorem zyO {w:Nat} (hw:w < n):rkN ((List.range n).map t') (t' (f w))=rkN ((List.range n).map t) (t w):=by
 rw [ht w hw];exact zAG (zv7 hf ht) _
theorem zyN:cnN ((List.range n).map t')=cnN ((List.range n).map t):=zzO (zv7 hf ht)
end
theorem zuC {n:Nat} {f:Nat→Nat} (hf:Ren n f) {next next':(Nat→Nat)→Nat→Tup} (hn : ∀ q q',(∀ w,w < n→q' (f w)=q w) → ∀ w,w < n→next' q' (f w)=next q w) :
  ∀ (k:Nat) (q q':Nat→Nat) (c:Nat),(∀ w,w < n→q' (f w)=q w)→(∀ w,w < n→(zbj n next' k q' c).1 (f w)=(zbj n next k q c).1 w)∧(zbj n next' k q' c).2=(zbj n next k q c).2
 | 0,q,q',c,h=>⟨h,rfl⟩
 | k+1,q,q',c,h=>by
  have ht:=hn q q' h
  have hc:zaP n next' q'=zaP n next q:=zyN hf ht
  unfold zbj
  rw [hc]
  by_cases he:zaP n next q=c
  ·rw [if_pos he,if_pos he];exact ⟨h,rfl⟩
  ·rw [if_neg he,if_neg he]
   exact zuC hf hn k _ _ _ fun w hw=>zyO hf ht hw
def leI (x y:Int):Bool:=decide (x≤y)
theorem zCH (a b c:Int) (h1:leI a b=true) (h2:leI b c=true):leI a c=true:=by simp [leI] at *;omega
theorem zBR (a b:Int):(leI a b||leI b a)=true:=by simp [leI];omega
def zbq (l:List Int):List Int:=l.mergeSort leI
theorem za5 (l:List Int):(zbq l).Perm l:=List.mergeSort_perm l leI
theorem zcL (l:List Int):(zbq l).Pairwise (· ≤ ·):=(List.pairwise_mergeSort zCH zBR l).imp fun h=>by simpa [leI] using h
theorem zcq : ∀ {l l':List Int},l.Pairwise (· ≤ ·)→l'.Pairwise (· ≤ ·)→l.Perm l'→l=l'
 | [],l',_,_,h=>(List.nil_perm.1 h).symm
 | a::r,[],_,_,h=>by cases List.perm_nil.1 h
 | a::r,b::s,h1,h2,h=>by
  obtain ⟨h3,h4⟩:=List.pairwise_cons.1 h1
  obtain ⟨h5,h6⟩:=List.pairwise_cons.1 h2
  have e:a=b:=by
   have hb:b∈a::r:=h.mem_iff.2 (by simp)
   have ha:a∈b::s:=h.mem_iff.1 (by simp)
   rcases List.mem_cons.1 hb with e|hb
   ·exact e.symm
   ·rcases List.mem_cons.1 ha with e|ha
    ·exact e
    ·have:=h3 b hb;have:=h5 a ha;omega
  subst e
  rw [zcq h4 h6 ((List.perm_cons a).1 h)]
theorem zsG {l l':List Int} (h:l.Perm l'):zbq l=zbq l':=zcq (zcL l) (zcL l') (((za5 l).trans h).trans (za5 l').symm)
theorem zzn {l s:List Int} (hs:s.Pairwise (· ≤ ·)) (hp:s.Perm l):s=zbq l:=zcq hs (zcL l) (hp.trans (za5 l).symm)
def zd2 (l:List Int):List Int:=zbq (ddT l)
theorem zzV {α:Type} [DecidableEq α] {l l':List α} (h : ∀ x,x∈l↔x∈l'):(ddT l).Perm (ddT l'):=by
 rw [List.perm_iff_count]
 intro a
 have c : ∀ l:List α,(ddT l).count a=if a∈l then 1 else 0:=fun l=>by
  by_cases ha:a∈l
  ·rw [if_pos ha]
   have h1:=List.nodup_iff_count.1 (zbv l) a
   have h2:=List.count_pos_iff.2 (zag.2 ha)
   omega
  ·rw [if_neg ha];exact List.count_eq_zero.2 (fun h=>ha (zag.1 h))
 rw [c,c]
 by_cases ha:a∈l
 ·rw [if_pos ha,if_pos ((h a).1 ha)]
 ·rw [if_neg ha,if_neg (fun h'=>ha ((h a).2 h'))]
theorem zq0 {l l':List Int} (h : ∀ x,x∈l↔x∈l'):zd2 l=zd2 l':=zsG (zzV h)
abbrev zI:=List (Nat→Nat→Bool)
def zce (n:Nat) (r:Nat→Nat→Bool) (q:Nat→Nat) (w:Nat):List Int:=((List.range n).filter fun v=>r w v).map fun v=>(q v:Int)
def zi9 (n:Nat) (R:zI) (q:Nat→Nat) (w:Nat):Tup:=[(q w:Int)]::R.map fun r=>zbq (zce n r q w)
def zx (n:Nat) (R:zI) (q:Nat→Nat) (w:Nat):Tup:=[(q w:Int)]::R.map fun r=>zd2 (zce n r q w)
theorem zdI {n:Nat} {R:zI} (q:Nat→Nat) (v w:Nat) (_:v < n) (_:w < n) (h:zx n R q v=zx n R q w):q v=q w:=by
 unfold zx at h
 have:=(List.cons.inj h).1
 simp at this;omega
structure zhU (n:Nat) (f:Nat→Nat) (R R':zI):Prop where
 len:R'.length=R.length
 rel : ∀ (i:Nat) (r r':Nat→Nat→Bool),R[i]? = some r→R'[i]? = some r' → ∀ v w,v < n→w < n→r' (f v) (f w)=r v w
theorem zAN {n:Nat} {f:Nat→Nat} (hf:Ren n f) {r r':Nat→Nat→Bool} (h : ∀ v w,v < n→w < n→r' (f v) (f w)=r v w) {q q':Nat→Nat} (hq : ∀ w,w < n→q' (f w)=q w) {w:Nat} (hw:w < n):(zce n r' q' (f w)).Perm (zce n r q w):=by
 have h1:((List.range n).filter fun v=>r' (f w) v).Perm (((List.range n).filter fun v=>r w v).map f):=by
  refine zeH (List.Nodup.sublist List.filter_sublist List.nodup_range) ?_ fun x=>?_
  ·rw [List.Nodup,List.pairwise_map]
   refine List.Pairwise.imp_of_mem (fun {a b} ha hb hab e=>hab (hf.inj a b ?_ ?_ e)) (List.Nodup.sublist List.filter_sublist List.nodup_range)
   ·exact List.mem_range.1 (List.mem_filter.1 ha).1
   ·exact List.mem_range.1 (List.mem_filter.1 hb).1
  ·constructor
   ·intro hx
    obtain ⟨h1,h2⟩:=List.mem_filter.1 hx
    obtain ⟨v,hv,rfl⟩:=hf.surj (List.mem_range.1 h1)
    exact List.mem_map.2 ⟨v,List.mem_filter.2 ⟨List.mem_range.2 hv,by rw [← h w v hw hv];exact h2⟩,rfl⟩
   ·intro hx
    obtain ⟨v,hv,rfl⟩:=List.mem_map.1 hx
    obtain ⟨h1,h2⟩:=List.mem_filter.1 hv
    have h1:=List.mem_range.1 h1
    exact List.mem_filter.2 ⟨List.mem_range.2 (hf.lt v h1),by rw [h w v hw h1];exact h2⟩
 unfold zce
 refine (h1.map _).trans ?_
 rw [List.map_map]
 refine List.Perm.of_eq (List.map_congr_left fun v hv=>?_)
 have:=List.mem_range.1 (List.mem_filter.1 hv).1
 show ((q' (f v):Nat):Int)=_
 rw [hq v this]
theorem zuj {n:Nat} {f:Nat→Nat} (hf:Ren n f) {R R':zI} (hR:zhU n f R R') {q q':Nat→Nat} (hq : ∀ w,w < n→q' (f w)=q w) {w:Nat} (hw:w < n):zi9 n R' q' (f w)=zi9 n R q w∧zx n R' q' (f w)=zx n R q w:=by
 have key : ∀ (g:List Int→List Int),(∀ l l':List Int,l.Perm l'→g l=g l')→(R'.map fun r=>g (zce n r q' (f w)))=R.map fun r=>g (zce n r q w):=by
  intro g hg
  refine List.ext_getElem? fun i=>?_
  rw [List.getElem?_map,List.getElem?_map]
  by_cases hi:i < R.length
  ·obtain ⟨r,hr⟩ : ∃ r,R[i]? = some r:=⟨_,List.getElem?_eq_getElem hi⟩
   obtain ⟨r',hr'⟩ : ∃ r',R'[i]? = some r':=⟨_,List.getElem?_eq_getElem (by rw [hR.len];exact hi)⟩
   rw [hr,hr']
   exact congrArg some (hg _ _ (zAN hf (hR.rel i r r' hr hr') hq hw))
  ·rw [List.getElem?_eq_none (by rw [hR.len];omega),List.getElem?_eq_none (by omega)];rfl
 exact ⟨by unfold zi9;rw [hq w hw,key zbq fun l l' h=>zsG h],by unfold zx;rw [hq w hw,key zd2 fun l l' h=>zq0 fun x=>h.mem_iff]⟩
def zux (n:Nat) (R:zI) (first:Nat→Tup):(Nat→Nat)×Nat:=zbj n (zi9 n R) (n+1) (fun w=>rkN ((List.range n).map first) (first w)) (cnN ((List.range n).map first))
def zbZ (n:Nat) (R:zI) (first:Nat→Tup):(Nat→Nat)×Nat:=zbj n (zx n R) (n+1) (fun w=>rkN ((List.range n).map first) (first w)) (cnN ((List.range n).map first))
theorem zrD {n:Nat} {f:Nat→Nat} (hf:Ren n f) {R R':zI} (hR:zhU n f R R') {first first':Nat→Tup} (h1 : ∀ w,w < n→first' (f w)=first w) :
  (∀ w,w < n→(zux n R' first').1 (f w)=(zux n R first).1 w)∧(zux n R' first').2=(zux n R first).2∧(∀ w,w < n→(zbZ n R' first').1 (f w)=(zbZ n R first).1 w)∧(zbZ n R' first').2=(zbZ n R first).2:=by
 have hc:=zyN hf h1
 have hr : ∀ w,w < n→(fun w=>rkN ((List.range n).map first') (first' w)) (f w)=(fun w=>rkN ((List.range n).map first) (first w)) w:=fun w hw=>zyO hf h1 hw
 have ha:=zuC hf (next:=zi9 n R) (next':=zi9 n R') (fun q q' hq w hw=>(zuj hf hR hq hw).1) (n+1) (fun w=>rkN ((List.range n).map first) (first w)) (fun w=>rkN ((List.range n).map first') (first' w)) (cnN ((List.range n).map first)) hr
 have ho:=zuC hf (next:=zx n R) (next':=zx n R') (fun q q' hq w hw=>(zuj hf hR hq hw).2) (n+1) (fun w=>rkN ((List.range n).map first) (first w)) (fun w=>rkN ((List.range n).map first') (first' w)) (cnN ((List.range n).map first)) hr
 unfold zux zbZ
 rw [hc]
 exact ⟨ha.1,ha.2,ho.1,ho.2⟩
end Go.Ab
namespace Go.Ab
structure zeV (n:Nat) (fa fb:Nat→Int) (R R':zI) (f:Nat→Nat):Prop where
 ren:Ren n f
 fac : ∀ w,w < n→fb (f w)=fa w
 rel:zhU n f R R'
def zpT (R:zI):zI:=R.map fun r=>fun v w=>r w v
theorem zhU.back {n:Nat} {f:Nat→Nat} {R R':zI} (h:zhU n f R R'):zhU n f (R++zpT R) (R'++zpT R'):=by
 refine ⟨by simp [zpT,h.len],fun i r r' h1 h2 v w hv hw=>?_⟩
 by_cases hi:i < R.length
 ·rw [List.getElem?_append_left hi] at h1
  rw [List.getElem?_append_left (by rw [h.len];exact hi)] at h2
  exact h.rel i r r' h1 h2 v w hv hw
 ·rw [List.getElem?_append_right (by omega),zpT,List.getElem?_map,Option.map_eq_some_iff] at h1
  rw [List.getElem?_append_right (by rw [h.len];omega),zpT,List.getElem?_map,Option.map_eq_some_iff] at h2
  obtain ⟨s,hs,rfl⟩:=h1
  obtain ⟨s',hs',rfl⟩:=h2
  exact h.rel _ s s' hs (by rw [← h.len];exact hs') w v hw hv
end Go.Ab
namespace Go.Ab
def zcm (n:Nat) (f:Nat→Nat) (x:Nat):Nat:=((List.range n).find? fun w=>decide (f w=x)).getD 0
theorem znN {n:Nat} {f:Nat→Nat} (hf:Ren n f) {w:Nat} (hw:w < n):zcm n f (f w)=w:=by
 unfold zcm
 cases h:(List.range n).find? fun u=>decide (f u=f w) with
 | none=>have:=List.find?_eq_none.1 h w (List.mem_range.2 hw);simp at this
 | some u =>
  have h1:=List.find?_some h
  exact hf.inj u w (List.mem_range.1 (List.mem_of_find?_eq_some h)) hw (of_decide_eq_true h1)
theorem zeA {n:Nat} {f:Nat→Nat} (hf:Ren n f) {x:Nat} (hx:x < n):zcm n f x < n∧f (zcm n f x)=x:=by
 obtain ⟨w,hw,rfl⟩:=hf.surj hx
 rw [znN hf hw];exact ⟨hw,rfl⟩
theorem Ren.inv {n:Nat} {f:Nat→Nat} (hf:Ren n f):Ren n (zcm n f) :=
 ⟨fun x hx=>(zeA hf hx).1,fun x y hx hy e=>by rw [← (zeA hf hx).2,← (zeA hf hy).2,e]⟩
theorem zhU.inv {n:Nat} {f:Nat→Nat} {R R':zI} (hf:Ren n f) (h:zhU n f R R'):zhU n (zcm n f) R' R :=
 ⟨h.len.symm,fun i r r' h1 h2 v w hv hw=>by
  have e:=h.rel i r' r h2 h1 (zcm n f v) (zcm n f w) (zeA hf hv).1 (zeA hf hw).1
  rw [(zeA hf hv).2,(zeA hf hw).2] at e
  exact e.symm⟩
theorem zeV.inv {n:Nat} {fa fb:Nat→Int} {R R':zI} {f:Nat→Nat} (h:zeV n fa fb R R' f):zeV n fb fa R' R (zcm n f) :=
 ⟨h.ren.inv,fun x hx=>by rw [← h.fac _ (zeA h.ren hx).1,(zeA h.ren hx).2],h.rel.inv h.ren⟩
end Go.Ab
namespace Go.Ab
def znE (n:Nat) (R:zI) (q:Nat→Nat):Prop := ∀ v w,v < n→w < n→q v=q w→zx n R q v=zx n R q w
theorem zgE {l:List Int} {x:Int} : x∈zd2 l↔x∈l:=by
 unfold zd2;rw [(za5 _).mem_iff];exact zag
theorem zrz {n:Nat} {r:Nat→Nat→Bool} {q:Nat→Nat} {w:Nat} {x:Int} : x∈zce n r q w ↔ ∃ v,v < n∧r w v=true∧(q v:Int)=x:=by
 unfold zce
 rw [List.mem_map]
 constructor
 ·rintro ⟨v,hv,e⟩
  obtain ⟨h1,h2⟩:=List.mem_filter.1 hv
  exact ⟨v,List.mem_range.1 h1,h2,e⟩
 ·rintro ⟨v,h1,h2,e⟩
  exact ⟨v,List.mem_filter.2 ⟨List.mem_range.2 h1,h2⟩,e⟩
theorem zdm {n:Nat} {R:zI} {q:Nat→Nat} {v w:Nat} : zx n R q v=zx n R q w↔q v=q w ∧ ∀ r∈R,∀ x:Nat,(∃ u,u < n∧r v u=true∧q u=x) ↔ ∃ u,u < n∧r w u=true∧q u=x:=by
 have cast : ∀ (r:Nat→Nat→Bool) (a:Nat) (x:Nat),((x:Int)∈zce n r q a) ↔ ∃ u,u < n∧r a u=true∧q u=x:=fun r a x=>by
  rw [zrz]
  exact ⟨fun ⟨u,h1,h2,h3⟩=>⟨u,h1,h2,by omega⟩,fun ⟨u,h1,h2,h3⟩=>⟨u,h1,h2,by omega⟩⟩
 constructor
 ·intro h
  obtain ⟨h1,h2⟩:=List.cons.inj h
  refine ⟨by simp at h1;omega,fun r hr x=>?_⟩
  rw [← cast,← cast,← zgE,← zgE (l:=zce n r q w)]
  have:=(List.map_inj_left.1 h2) r hr
  rw [this]
 ·rintro ⟨h1,h2⟩
  unfold zx
  rw [h1]
  congr 1
  refine List.map_congr_left fun r hr=>zq0 fun x=>?_
  constructor
  ·intro hx
   obtain ⟨u,a,b,rfl⟩:=zrz.1 hx
   exact (cast r w (q u)).2 ((h2 r hr (q u)).1 ⟨u,a,b,rfl⟩)
  ·intro hx
   obtain ⟨u,a,b,rfl⟩:=zrz.1 hx
   exact (cast r v (q u)).2 ((h2 r hr (q u)).2 ⟨u,a,b,rfl⟩)
theorem zq1 {n:Nat} {R:zI} {q:Nat→Nat} (hs:znE n R q) {p:Nat→Nat} (hp : ∀ v w,v < n→w < n→q v=q w→p v=p w) : ∀ v w,v < n→w < n→q v=q w→zx n R p v=zx n R p w:=by
 intro v w hv hw h
 obtain ⟨-,h2⟩:=zdm.1 (hs v w hv hw h)
 refine zdm.2 ⟨hp v w hv hw h,fun r hr x=>?_⟩
 constructor
 ·rintro ⟨u,a,b,rfl⟩
  obtain ⟨u',a',b',e⟩:=(h2 r hr (q u)).1 ⟨u,a,b,rfl⟩
  exact ⟨u',a',b',hp u' u a' a e⟩
 ·rintro ⟨u,a,b,rfl⟩
  obtain ⟨u',a',b',e⟩:=(h2 r hr (q u)).2 ⟨u,a,b,rfl⟩
  exact ⟨u',a',b',hp u' u a' a e⟩
theorem zrI {n:Nat} {R:zI} {q:Nat→Nat} (hs:znE n R q) : ∀ (k:Nat) (p:Nat→Nat) (c:Nat),(∀ v w,v < n→w < n→q v=q w→p v=p w) → ∀ v w,v < n→w < n→q v=q w→(zbj n (zx n R) k p c).1 v=(zbj n (zx n R) k p c).1 w
 | 0,p,c,hp=>hp
 | k+1,p,c,hp=>by
  unfold zbj
  by_cases h:zaP n (zx n R) p=c
  ·rw [if_pos h];exact hp
  ·rw [if_neg h]
   refine zrI hs k _ _ fun v w hv hw e=>?_
   exact (zlM hv hw).2 (zq1 hs hp v w hv hw e)
theorem znn {n:Nat} {R:zI} {first:Nat→Tup} : ∃ q,zbZ n R first=(q,dcN n q)∧znE n R q∧(∀ v w,v < n→w < n→q v=q w→first v=first w):=by
 have hd:dcN n (fun w=>rkN ((List.range n).map first) (first w))=cnN ((List.range n).map first):=by
  have hm : ∀ w,w < n→first w∈(List.range n).map first:=fun w hw=>List.mem_map.2 ⟨w,List.mem_range.2 hw,rfl⟩
  exact Nat.le_antisymm (znI (f:=first) fun v w _ _ h=>by rw [h]) (znI (g:=first) fun v w hv hw h=>znq (hm v hv) (hm w hw) h)
 obtain ⟨q,h1,h2,h3⟩:=zsv (next:=zx n R) (fun q v w hv hw h=>zdI q v w hv hw h) (n+1) (fun w=>rkN ((List.range n).map first) (first w)) (by omega)
 rw [hd] at h1
 refine ⟨q,h1,zvO (fun v w hv hw h=>zdI q v w hv hw h) h2.symm,fun v w hv hw h=>?_⟩
 exact znq (List.mem_map.2 ⟨v,List.mem_range.2 hv,rfl⟩) (List.mem_map.2 ⟨w,List.mem_range.2 hw,rfl⟩) (h3 v w hv hw h)
theorem zrl {n:Nat} {q:Nat→Nat} : dcN n q=n ↔ ∀ v w,v < n→w < n→q v=q w→v=w:=by
 constructor
 ·intro h
  refine zvO (f:=fun w=>w) (g:=q) (fun v w _ _ e=>by rw [e]) ?_
  have:(ddT ((List.range n).map fun w=>w)).length=n:=by
   have h1:=zbi (l:=(List.range n).map fun w=>w) (l':=ddT ((List.range n).map fun w=>w)) (by simpa using List.nodup_range) fun x hx=>zag.2 hx
   have h2:=zia n fun w=>w
   unfold dcN at h2
   rw [List.length_map,List.length_range] at h1
   omega
  rw [this];exact h
 ·intro h
  have h1:=zbi (l:=(List.range n).map q) (l':=ddT ((List.range n).map q)) (by
   rw [List.Nodup,List.pairwise_map]
   exact List.Pairwise.imp_of_mem (fun {a b} ha hb hab e=>hab (h a b (List.mem_range.1 ha) (List.mem_range.1 hb) e)) List.nodup_range) fun x hx=>zag.2 hx
  have h2:=zia n q
  rw [List.length_map,List.length_range] at h1
  unfold dcN at h2 ⊢
  omega
theorem zxf {n:Nat} {R:zI} {f g:Nat→Tup} (h : ∀ v w,v < n→w < n→f v=f w→g v=g w) : ∀ v w,v < n→w < n→(zbZ n R f).1 v=(zbZ n R f).1 w→(zbZ n R g).1 v=(zbZ n R g).1 w:=by
 obtain ⟨q,h1,h2,h3⟩:=znn (n:=n) (R:=R) (first:=f)
 rw [h1]
 intro v w hv hw e
 exact zrI h2 (n+1) _ _ (fun v w hv hw e=>by rw [h v w hv hw (h3 v w hv hw e)]) v w hv hw e
theorem zpA {n:Nat} {R:zI} {first:Nat→Tup} : (zbZ n R first).2=dcN n (zbZ n R first).1:=by
 obtain ⟨q,h1,-⟩:=znn (n:=n) (R:=R) (first:=first)
 rw [h1]
theorem zst {n:Nat} {R:zI} {f g:Nat→Tup} (h : ∀ v w,v < n→w < n→f v=f w→g v=g w) (hg:(zbZ n R g).2=n):(zbZ n R f).2=n∧Ren n (zbZ n R f).1:=by
 have h1 : ∀ v w,v < n→w < n→(zbZ n R f).1 v=(zbZ n R f).1 w→v=w:=fun v w hv hw e=>by
  rw [zpA] at hg
  exact zrl.1 hg v w hv hw (zxf h v w hv hw e)
 refine ⟨by rw [zpA];exact zrl.2 h1,⟨fun w hw=>?_,h1⟩⟩
 have key : ∀ (k:Nat) (q:Nat→Nat) (c:Nat),(∀ w,w < n→q w < n) → ∀ w,w < n→(zbj n (zx n R) k q c).1 w < n:=by
  intro k
  induction k with
  | zero=>intro q c hq;exact hq
  | succ k ih =>
   intro q c hq
   unfold zbj
   by_cases e:zaP n (zx n R) q=c
   ·rw [if_pos e];exact hq
   ·rw [if_neg e]
    refine ih _ _ fun w hw=>?_
    have:=ziy (zkB (next:=zx n R) (q:=q) hw)
    have h2:=ztu (n:=n) (next:=zx n R) q
    exact Nat.lt_of_lt_of_le this h2
 refine key (n+1) _ _ (fun w hw=>?_) w hw
 have h2:=ziy (ts:=(List.range n).map f) (t:=f w) (List.mem_map.2 ⟨w,List.mem_range.2 hw,rfl⟩)
 have h3:cnN ((List.range n).map f)≤n:=by
  have:=zbi (zbv ((List.range n).map f)) (l':=(List.range n).map f) fun x hx=>zag.1 hx
  rwa [List.length_map,List.length_range] at this
 exact Nat.lt_of_lt_of_le h2 h3
end Go.Ab
namespace Go.Ab
def zbA (n:Nat) (R:zI) (p:Nat→Nat):Nat→Nat:=zK (zaz (zx n R p))
theorem zgC {n:Nat} {R:zI} {p:Nat→Nat} {v w:Nat} : zbA n R p v=zbA n R p w↔zx n R p v=zx n R p w:=by
 unfold zbA;rw [zko (zbz _)];simp [zaz]
theorem zeG (n:Nat) (R:zI) (p:Nat→Nat) (m:Nat):zad m (zbA n R p):=zdH (zbz _) m
def zd6 (n:Nat) (R:zI):Nat→(Nat→Nat)→Nat→Nat
 | 0,p=>p
 | k+1,p=>if (List.range n).map (zbA n R p)=(List.range n).map p then p else zd6 n R k (zbA n R p)
theorem zfp {n:Nat} {p q:Nat→Nat} : (List.range n).map p=(List.range n).map q ↔ ∀ w,w < n→p w=q w:=by
 rw [List.map_inj_left]
 exact ⟨fun h w hw=>h w (List.mem_range.2 hw),fun h w hw=>h w (List.mem_range.1 hw)⟩
theorem zsg {n:Nat} {R:zI} {p:Nat→Nat} (hp:zad n p) (h : ∃ w,w < n∧zbA n R p w≠p w):zo n p < zo n (zbA n R p):=by
 have fine : ∀ v w,v < n→w < n→zbA n R p v=zbA n R p w→p v=p w:=fun v w hv hw e=>zdI p v w hv hw (zgC.1 e)
 have rep : ∀ w,w < n→p w=w→zbA n R p w=w:=fun w hw e=>by
  have h1:=(zeG n R p n).le w hw
  have h2:=(zeG n R p n).idem w hw
  have h3:=fine (zbA n R p w) w (by omega) hw h2
  have h4:=hp.le (zbA n R p w) (by omega)
  omega
 unfold zo
 have e1 : ∀ f:Nat→Nat,(List.range n).filter (fun w=>decide (f w=w))=(List.range n).filter fun w=>decide (w < n∧f w=w):=fun f=>List.filter_congr fun w hw=>by
  have:=List.mem_range.1 hw
  simp [this]
 rw [e1,e1]
 refine (zg6 (fun w hw=>?_) _).2 ?_
 ·simp only [decide_eq_true_eq] at hw ⊢
  exact ⟨hw.1,rep w hw.1 hw.2⟩
 ·obtain ⟨w,hw,hne⟩:=h
  refine Classical.byContradiction fun hn=>hne ?_
  have hall : ∀ u,u < n→zbA n R p u=u→p u=u:=fun u hu e=>Classical.byContradiction fun h=>hn ⟨u,List.mem_range.2 hu,by simp [h],by simp [hu,e]⟩
  have h1:=(zeG n R p n).le w hw
  have h2:=(zeG n R p n).idem w hw
  have h3:=hall _ (by omega) h2
  rw [← h3]
  exact fine _ w (by omega) hw h2
theorem zpr {n:Nat} {R:zI} : ∀ (k:Nat) (p:Nat→Nat),zad n p→n < k+zo n p → ∃ q,zd6 n R k p=q∧zad n q∧(∀ w,w < n→zbA n R q w=q w)∧(∀ v w,v < n→w < n→q v=q w→p v=p w) ∧
  ∀ Q:Nat→Nat,znE n R Q→(∀ v w,v < n→w < n→Q v=Q w→p v=p w) → ∀ v w,v < n→w < n→Q v=Q w→q v=q w
 | 0,p,hp,h=>by have:=zbS n p;omega
 | k+1,p,hp,h=>by
  unfold zd6
  by_cases he:(List.range n).map (zbA n R p)=(List.range n).map p
  ·rw [if_pos he]
   exact ⟨p,rfl,hp,zfp.1 he,fun _ _ _ _ h=>h,fun Q _ h=>h⟩
  ·rw [if_neg he]
   have hne : ∃ w,w < n∧zbA n R p w≠p w:=Classical.byContradiction fun hn=>he (zfp.2 fun w hw=>Classical.byContradiction fun h=>hn ⟨w,hw,h⟩)
   have hg:=zsg hp hne
   obtain ⟨q,h1,h2,h3,h4,h5⟩:=zpr k (zbA n R p) (zeG n R p n) (by omega)
   exact ⟨q,h1,h2,h3,fun v w hv hw e=>zdI p v w hv hw (zgC.1 (h4 v w hv hw e)),fun Q hQ hQp=>h5 Q hQ fun v w hv hw e=>zgC.2 (zq1 hQ hQp v w hv hw e)⟩
theorem zpq {n:Nat} {R:zI} {fa:Nat→Int} {first:Nat→Tup} (hfst : ∀ v w,v < n→w < n→(first v=first w↔fa v=fa w)):zo n (zd6 n R (n+1) (zK (zaz fa)))=n↔(zbZ n R first).2=n:=by
 obtain ⟨q,h1,h2,h3,h4,h5⟩:=zpr (R:=R) (n+1) (zK (zaz fa)) (zdH (zbz fa) n) (by omega)
 rw [h1]
 have hfa : ∀ v w,zK (zaz fa) v=zK (zaz fa) w↔fa v=fa w:=fun v w=>by rw [zko (zbz fa)];simp [zaz]
 have hq:znE n R q:=fun v w hv hw e=>zgC.1 (by rw [h3 v hv,h3 w hw,e])
 obtain ⟨Q,g1,g2,g3⟩:=znn (n:=n) (R:=R) (first:=first)
 have hQq:=h5 Q g2 fun v w hv hw e=>(hfa v w).2 ((hfst v w hv hw).1 (g3 v w hv hw e))
 have hqQ : ∀ v w,v < n→w < n→q v=q w→Q v=Q w:=by
  have:=zrI hq (n+1) (fun w=>rkN ((List.range n).map first) (first w)) (cnN ((List.range n).map first)) fun v w hv hw e=>by
   rw [(hfst v w hv hw).2 ((hfa v w).1 (h4 v w hv hw e))]
  intro v w hv hw e
  have h:=this v w hv hw e
  have e1:(zbj n (zx n R) (n+1) (fun w=>rkN ((List.range n).map first) (first w)) (cnN ((List.range n).map first))).1=Q:=by
   have:=congrArg Prod.fst g1
   exact this
  rw [e1] at h
  exact h
 rw [g1]
 show zo n q=n↔dcN n Q=n
 rw [zrl]
 have hc:zo n q=n ↔ ∀ w,w < n→q w=w:=by
  unfold zo
  constructor
  ·intro h w hw
   have:=List.length_filter_eq_length_iff.1 (h.trans List.length_range.symm) w (List.mem_range.2 hw)
   exact of_decide_eq_true this
  ·intro h
   exact (List.length_filter_eq_length_iff.2 fun w hw=>decide_eq_true (h w (List.mem_range.1 hw))).trans List.length_range
 rw [hc]
 constructor
 ·intro h v w hv hw e
  have:=hQq v w hv hw e
  rw [h v hv,h w hw] at this
  exact this
 ·intro h w hw
  have h6:=h2.le w hw
  exact h _ w (by omega) hw (hqQ _ w (by omega) hw (h2.idem w hw))
end Go.Ab
namespace Go.Ab
structure zdp (n n':Nat) (R R':zI) (fa fb:Nat→Int) (Z:Nat→Nat→Prop):Prop where
 len:R'.length=R.length
 lt : ∀ {v v'},Z v v'→v < n∧v' < n'
 fac : ∀ {v v'},Z v v'→fa v=fb v'
 forth : ∀ {i:Nat} {r r':Nat→Nat→Bool},R[i]? = some r→R'[i]? = some r' → ∀ {v v' u},Z v v'→u < n→r v u=true → ∃ u',u' < n'∧r' v' u'=true∧Z u u'
 back : ∀ {i:Nat} {r r':Nat→Nat→Bool},R[i]? = some r→R'[i]? = some r' → ∀ {v v' u'},Z v v'→u' < n'→r' v' u'=true → ∃ u,u < n∧r v u=true∧Z u u'
theorem zdp.symm {n n':Nat} {R R':zI} {fa fb:Nat→Int} {Z:Nat→Nat→Prop} (B:zdp n n' R R' fa fb Z):zdp n' n R' R fb fa fun v' v=>Z v v' where
 len:=B.len.symm
 lt h:=⟨(B.lt h).2,(B.lt h).1⟩
 fac h:=(B.fac h).symm
 forth h1 h2:=fun {v v' u} hz hu hr=>by obtain ⟨u,a,b,c⟩:=B.back h2 h1 hz hu hr;exact ⟨u,a,b,c⟩
 back h1 h2:=fun {v v' u} hz hu hr=>by obtain ⟨u,a,b,c⟩:=B.forth h2 h1 hz hu hr;exact ⟨u,a,b,c⟩
theorem zkC {R R':zI} (h:R'.length=R.length) {i:Nat} {r:Nat→Nat→Bool} (hr:R[i]? = some r) : ∃ r',R'[i]? = some r' :=
 ⟨_,List.getElem?_eq_getElem (by have:=(List.getElem?_eq_some_iff.1 hr).1;omega)⟩
theorem zdp.trans {n n' n2:Nat} {R R' R2:zI} {fa fb fc:Nat→Int} {Z Z':Nat→Nat→Prop} (B:zdp n n' R R' fa fb Z) (B':zdp n' n2 R' R2 fb fc Z'):zdp n n2 R R2 fa fc fun v w => ∃ u,Z v u∧Z' u w where
 len:=B'.len.trans B.len
 lt:=fun ⟨u,h,h'⟩=>⟨(B.lt h).1,(B'.lt h').2⟩
 fac:=fun ⟨u,h,h'⟩=>(B.fac h).trans (B'.fac h')
 forth h1 h2:=fun ⟨x,h,h'⟩ hu hr=>by
  obtain ⟨r',hr'⟩:=zkC B.len h1
  obtain ⟨a,a1,a2,a3⟩:=B.forth h1 hr' h hu hr
  obtain ⟨b,b1,b2,b3⟩:=B'.forth hr' h2 h' a1 a2
  exact ⟨b,b1,b2,a,a3,b3⟩
 back h1 h2:=fun ⟨x,h,h'⟩ hu hr=>by
  obtain ⟨r',hr'⟩:=zkC B.len h1
  obtain ⟨a,a1,a2,a3⟩:=B'.back hr' h2 h' hu hr
  obtain ⟨b,b1,b2,b3⟩:=B.back h1 hr' h a1 a2
  exact ⟨b,b1,b2,a,b3,a3⟩
theorem zvZ {n:Nat} {R:zI} {fa:Nat→Int} {Z:Nat→Nat→Prop} (B:zdp n n R R fa fa Z) : ∀ (k:Nat) (p:Nat→Nat),(∀ v w,Z v w→p v=p w) → ∀ v w,Z v w→zd6 n R k p v=zd6 n R k p w
 | 0,p,hp=>hp
 | k+1,p,hp=>by
  unfold zd6
  split
  ·exact hp
  ·refine zvZ B k _ fun v w hz=>zgC.2 (zdm.2 ⟨hp v w hz,fun r hr x=>?_⟩)
   obtain ⟨i,hi⟩:=List.mem_iff_getElem?.1 hr
   constructor
   ·rintro ⟨u,a,b,rfl⟩
    obtain ⟨u',c,d,e⟩:=B.forth hi hi hz a b
    exact ⟨u',c,d,(hp u u' e).symm⟩
   ·rintro ⟨u,a,b,rfl⟩
    obtain ⟨u',c,d,e⟩:=B.back hi hi hz a b
    exact ⟨u',c,d,hp u' u e⟩
def coa (n:Nat) (R:zI) (fa:Nat→Int):Nat→Nat:=zd6 n R (n+1) (zK (zaz fa))
theorem zrp {fa:Nat→Int} {v w:Nat} : zK (zaz fa) v=zK (zaz fa) w↔fa v=fa w:=by rw [zko (zbz fa)];simp [zaz]
structure zkL (n:Nat) (R:zI) (fa:Nat→Int) (q:Nat→Nat):Prop where
 canon:zad n q
 stab:znE n R q
 fac : ∀ v w,v < n→w < n→q v=q w→fa v=fa w
theorem zdt (n:Nat) (R:zI) (fa:Nat→Int):zkL n R fa (coa n R fa):=by
 obtain ⟨q,h1,h2,h3,h4,h5⟩:=zpr (R:=R) (n+1) (zK (zaz fa)) (zdH (zbz fa) n) (by omega)
 unfold coa
 rw [h1]
 exact ⟨h2,fun v w hv hw e=>zgC.1 (by rw [h3 v hv,h3 w hw,e]),fun v w hv hw e=>zrp.1 (h4 v w hv hw e)⟩
theorem zjS {n:Nat} {R:zI} {fa:Nat→Int} {Z:Nat→Nat→Prop} (B:zdp n n R R fa fa Z) {v w:Nat} (h:Z v w):coa n R fa v=coa n R fa w :=
 zvZ B (n+1) _ (fun v w hz=>zrp.2 (B.fac hz)) v w h
theorem zkL.bis {n:Nat} {R:zI} {fa:Nat→Int} {q:Nat→Nat} (S:zkL n R fa q):zdp n n R R fa fa fun v w=>v < n∧w < n∧q v=q w where
 len:=rfl
 lt h:=⟨h.1,h.2.1⟩
 fac h:=S.fac _ _ h.1 h.2.1 h.2.2
 forth h1 h2:=fun {v v' u} hz hu hr=>by
  rw [h1] at h2;cases h2
  obtain ⟨u',a,b,c⟩:=((zdm.1 (S.stab _ _ hz.1 hz.2.1 hz.2.2)).2 _ (List.mem_of_getElem? h1) (q u)).1 ⟨u,hu,hr,rfl⟩
  exact ⟨u',a,b,hu,a,c.symm⟩
 back h1 h2:=fun {v v' u} hz hu hr=>by
  rw [h1] at h2;cases h2
  obtain ⟨u',a,b,c⟩:=((zdm.1 (S.stab _ _ hz.1 hz.2.1 hz.2.2)).2 _ (List.mem_of_getElem? h1) (q u)).2 ⟨u,hu,hr,rfl⟩
  exact ⟨u',a,b,a,hu,c⟩
def zac (n:Nat) (q:Nat→Nat):List Nat:=(List.range n).filter fun w=>decide (q w=w)
def zz (q:Nat→Nat) (w:Nat):Nat:=zo (q w) q
theorem zyQ {q:Nat→Nat} {u:Nat} (hu:q u=u) : ∀ n,u < n→(zac n q)[zo u q]? = some u
 | 0,h=>by omega
 | n+1,h=>by
  unfold zac
  rw [List.range_succ,List.filter_append]
  by_cases e:u=n
  ·subst e
   rw [List.getElem?_append_right (by show _≤zo u q;exact Nat.le_refl _)]
   show (List.filter _ [u])[zo u q - zo u q]? = _
   rw [Nat.sub_self]
   simp [hu]
  ·have ih:=zyQ hu n (by omega)
   have hlt:=(List.getElem?_eq_some_iff.1 ih).1
   rw [List.getElem?_append_left (by exact hlt)]
   exact ih
section
variable {n:Nat} {q:Nat→Nat} (hq:zad n q)
include hq
theorem zgG {w:Nat} (hw:w < n):(zac n q)[zz q w]? = some (q w):=zyQ (hq.idem w hw) n (by have:=hq.le w hw;omega)
theorem zdU {w:Nat} (hw:w < n):zz q w < zo n q:=(List.getElem?_eq_some_iff.1 (zgG hq hw)).1
theorem zpt {v w:Nat} (hv:v < n) (hw:w < n):zz q v=zz q w↔q v=q w:=by
 constructor
 ·intro h
  have h1:=zgG hq hv
  rw [h,zgG hq hw] at h1
  exact (Option.some.inj h1).symm
 ·intro h;unfold zz;rw [h]
theorem ziu {i:Nat} (hi:i < zo n q) : ∃ u,(zac n q)[i]? = some u∧u < n∧q u=u∧zz q u=i:=by
 obtain ⟨u,h⟩ : ∃ u,(zac n q)[i]? = some u:=⟨_,List.getElem?_eq_getElem hi⟩
 have h0:=List.mem_filter.1 (List.mem_of_getElem? h)
 have h1:=List.mem_range.1 h0.1
 have h2:=of_decide_eq_true h0.2
 refine ⟨u,h,h1,h2,?_⟩
 have h3:=zgG hq h1
 rw [h2] at h3
 have hnd:(zac n q).Pairwise (· ≠ ·):=List.Pairwise.filter _ List.nodup_range
 obtain ⟨hi,ei⟩:=List.getElem?_eq_some_iff.1 h
 obtain ⟨hj,ej⟩:=List.getElem?_eq_some_iff.1 h3
 rw [List.pairwise_iff_getElem] at hnd
 rcases Nat.lt_trichotomy (zz q u) i with hl|hl|hl
 ·exact absurd (ej.trans ei.symm) (hnd _ _ hj hi hl)
 ·exact hl
 ·exact absurd (ei.trans ej.symm) (hnd _ _ hi hj hl)
end
def zdh (n:Nat) (q:Nat→Nat) (r:Nat→Nat→Bool) (i j:Nat):Bool:=(List.range n).any fun v=>(List.range n).any fun w=>zz q v==i&&(zz q w==j&&r v w)
theorem zix {n:Nat} {q:Nat→Nat} {r:Nat→Nat→Bool} {i j:Nat} : zdh n q r i j=true ↔ ∃ v w,v < n∧w < n∧zz q v=i∧zz q w=j∧r v w=true:=by
 unfold zdh
 simp only [List.any_eq_true,List.mem_range,Bool.and_eq_true,beq_iff_eq]
 exact ⟨fun ⟨v,hv,w,hw,a,b,c⟩=>⟨v,w,hv,hw,a,b,c⟩,fun ⟨v,w,hv,hw,a,b,c⟩=>⟨v,hv,w,hw,a,b,c⟩⟩
def ziw (n:Nat) (q:Nat→Nat) (fa:Nat→Int) (i:Nat):Int:=fa ((zac n q).getD i 0)
theorem zkL.quo {n:Nat} {R:zI} {fa:Nat→Int} {q:Nat→Nat} (S:zkL n R fa q):zdp n (zo n q) R (R.map (zdh n q)) fa (ziw n q fa) fun w i=>w < n∧i=zz q w where
 len:=by simp
 lt:=fun {w i} h=>⟨h.1,by rw [h.2];exact zdU S.canon h.1⟩
 fac:=fun {w i} h=>by
  rw [h.2];unfold ziw
  rw [List.getD,zgG S.canon h.1]
  have h1:=S.canon.le w h.1
  exact S.fac _ _ h.1 (by simp;omega) (S.canon.idem w h.1).symm
 forth h1 h2:=fun {v v' u} hz hu hr=>by
  rw [List.getElem?_map,h1] at h2;cases h2
  exact ⟨zz q u,zdU S.canon hu,zix.2 ⟨v,u,hz.1,hu,hz.2.symm,rfl,hr⟩,hu,rfl⟩
 back h1 h2:=fun {v v' u'} hz hu hr=>by
  rw [List.getElem?_map,h1] at h2;cases h2
  obtain ⟨a,b,ha,hb,e1,e2,e3⟩:=zix.1 hr
  have e:=(zpt S.canon ha hz.1).1 (e1.trans hz.2)
  obtain ⟨u,h3,h4,h5⟩:=((zdm.1 (S.stab a v ha hz.1 e)).2 _ (List.mem_of_getElem? h1) (q b)).1 ⟨b,hb,e3,rfl⟩
  exact ⟨u,h3,h4,h3,by rw [← e2];exact ((zpt S.canon h3 hb).2 h5).symm⟩
theorem zyL {n:Nat} {R:zI} {fa:Nat→Int} : let q:=coa n R fa; ∀ i,i < zo n q→coa (zo n q) (R.map (zdh n q)) (ziw n q fa) i=i:=by
 intro q
 have S:zkL n R fa q:=zdt n R fa
 have S':=zdt (zo n q) (R.map (zdh n q)) (ziw n q fa)
 have B:=(S.quo.trans S'.bis).trans S.quo.symm
 have key : ∀ i j,i < zo n q→j < zo n q→coa (zo n q) (R.map (zdh n q)) (ziw n q fa) i=coa (zo n q) (R.map (zdh n q)) (ziw n q fa) j→i=j:=by
  intro i j hi hj he
  obtain ⟨u,-,u1,u2,u3⟩:=ziu S.canon hi
  obtain ⟨w,-,w1,w2,w3⟩:=ziu S.canon hj
  have:=zjS B (v:=u) (w:=w) ⟨j,⟨i,⟨u1,u3.symm⟩,hi,hj,he⟩,w1,w3.symm⟩
  rw [← u3,← w3]
  exact (zpt S.canon u1 w1).2 this
 intro i hi
 have h1:=S'.canon.le i hi
 exact key _ _ (by omega) hi (S'.canon.idem i hi)
end Go.Ab
namespace Go.Ab
def zmi (n:Nat) (R:zI) (fa:Nat→Int):Prop := ∀ i,i < n→coa n R fa i=i
theorem zmi.eq {n:Nat} {R:zI} {fa:Nat→Int} (h:zmi n R fa) {Z:Nat→Nat→Prop} (B:zdp n n R R fa fa Z) {v w:Nat} (hz:Z v w):v=w:=by
 have:=zjS B hz
 rwa [h v (B.lt hz).1,h w (B.lt hz).2] at this
theorem zeV.bis {n:Nat} {fa fb:Nat→Int} {R R':zI} {f:Nat→Nat} (h:zeV n fa fb R R' f):zdp n n R R' fa fb fun v v'=>v < n∧v'=f v where
 len:=h.rel.len
 lt:=fun {v v'} hz=>⟨hz.1,by rw [hz.2];exact h.ren.lt v hz.1⟩
 fac:=fun {v v'} hz=>by rw [hz.2];exact (h.fac v hz.1).symm
 forth h1 h2:=fun {v v' u} hz hu hr=>⟨f u,h.ren.lt u hu,by rw [hz.2,h.rel.rel _ _ _ h1 h2 v u hz.1 hu];exact hr,hu,rfl⟩
 back h1 h2:=fun {v v' u'} hz hu hr=>by
  obtain ⟨u,h3,rfl⟩:=h.ren.surj hu
  exact ⟨u,h3,by rw [← h.rel.rel _ _ _ h1 h2 v u hz.1 h3,← hz.2];exact hr,h3,rfl⟩
end Go.Ab
namespace Go.Ab
def zai (l:List Nat) (R:zI):zI:=R.map fun r=>fun i j=>r (l.getD i 0) (l.getD j 0)
def zaI (l:List Nat) (fa:Nat→Int):Nat→Int:=fun i=>fa (l.getD i 0)
def zqH (l:List Nat) (fa:Nat→Int) (root:Nat) (i:Nat):Tup:=[if l.getD i 0=root then (0:Int) else 1]::[[zaI l fa i]]
def zpu (l:List Nat) (R:zI) (fa:Nat→Int) (root:Nat):(Nat→Nat)×Nat:=zbZ l.length (zai l R) (zqH l fa root)
def zCy (l:List Nat) (R:zI) (fa:Nat→Int) (root:Nat):List Nat:=(List.range l.length).map fun k=>l.getD (zcm l.length (zpu l R fa root).1 k) 0
theorem zdF {l:List Nat} {i:Nat} (h:i < l.length):l.getD i 0∈l:=by
 rw [List.getD,List.getElem?_eq_getElem h];exact List.getElem_mem h
theorem zij {l:List Nat} (hn:l.Nodup) {i j:Nat} (hi:i < l.length) (hj:j < l.length) (h:l.getD i 0=l.getD j 0):i=j:=by
 rw [List.getD,List.getD,List.getElem?_eq_getElem hi,List.getElem?_eq_getElem hj] at h
 have h:l[i]=l[j]:=by simpa using h
 rcases Nat.lt_trichotomy i j with hlt|e|hlt
 ·exact absurd h (List.pairwise_iff_getElem.1 hn i j hi hj hlt)
 ·exact e
 ·exact absurd h.symm (List.pairwise_iff_getElem.1 hn j i hj hi hlt)
theorem zlA {l:List Nat} {x:Nat} (h:x∈l) : ∃ i,i < l.length∧l.getD i 0=x:=by
 obtain ⟨i,hi,rfl⟩:=List.mem_iff_getElem.1 h
 exact ⟨i,hi,by simp [List.getD,hi]⟩
end Go.Ab
namespace Go.Ab
inductive Rch (n:Nat) (R:zI) (S:Nat→Prop):Nat→Prop where
 | base {v:Nat} : v < n→S v→Rch n R S v
 | step {v u:Nat} : Rch n R S v→u < n→(∃ r,r∈R∧r v u=true)→Rch n R S u
theorem Rch.lt {n:Nat} {R:zI} {S:Nat→Prop} {v:Nat} (h:Rch n R S v):v < n:=by cases h<;>assumption
theorem Rch.iso {n:Nat} {fa fb:Nat→Int} {R R':zI} {f:Nat→Nat} (hi:zeV n fa fb R R' f) {S S':Nat→Prop} (hS : ∀ v,v < n→S v→S' (f v)) {v:Nat} (h:Rch n R S v):Rch n R' S' (f v):=by
 induction h with
 | base hv hs=>exact .base (hi.ren.lt _ hv) (hS _ hv hs)
 | step h1 hu hr ih =>
  obtain ⟨r,hr,he⟩:=hr
  obtain ⟨i,hir⟩:=List.mem_iff_getElem?.1 hr
  obtain ⟨r',hr'⟩:=zkC hi.rel.len hir
  exact .step ih (hi.ren.lt _ hu) ⟨r',List.mem_of_getElem? hr',by rw [hi.rel.rel _ _ _ hir hr' _ _ h1.lt hu];exact he⟩
noncomputable def zH (n:Nat) (R:zI) (root:Nat):List Nat:=(List.range n).filter fun w => @decide (Rch n R (· = root) w) (Classical.propDecidable _)
theorem zeD {n:Nat} {R:zI} {root w:Nat} : w∈zH n R root↔Rch n R (· = root) w:=by
 unfold zH
 rw [List.mem_filter,List.mem_range,@decide_eq_true_eq _ (Classical.propDecidable _)]
 exact ⟨fun h=>h.2,fun h=>⟨h.lt,h⟩⟩
theorem zfM (n:Nat) (R:zI) (root:Nat):(zH n R root).Nodup:=List.Nodup.sublist List.filter_sublist List.nodup_range
theorem zdE {n:Nat} {R:zI} {root:Nat} (h:root < n):root∈zH n R root:=zeD.2 (.base h rfl)
theorem zpy {n:Nat} {R:zI} {fa:Nat→Int} {l:List Nat} (hl : ∀ x,x∈l→x < n) (hc : ∀ r,r∈R → ∀ v u,v∈l→u < n→r v u=true→u∈l):zdp n l.length R (zai l R) fa (zaI l fa) fun v i=>i < l.length∧l.getD i 0=v where
 len:=by simp [zai]
 lt:=fun {v i} h=>⟨by rw [← h.2];exact hl _ (zdF h.1),h.1⟩
 fac:=fun {v i} h=>by unfold zaI;rw [h.2]
 forth h1 h2:=fun {v v' u} hz hu hr=>by
  rw [zai,List.getElem?_map,h1] at h2;cases h2
  obtain ⟨hz1,rfl⟩:=hz
  obtain ⟨j,hj,rfl⟩:=zlA (hc _ (List.mem_of_getElem? h1) _ u (zdF hz1) hu hr)
  exact ⟨j,hj,hr,hj,rfl⟩
 back h1 h2:=fun {v v' u'} hz hu hr=>by
  rw [zai,List.getElem?_map,h1] at h2;cases h2
  obtain ⟨hz1,rfl⟩:=hz
  exact ⟨l.getD u' 0,hl _ (zdF hu),hr,hu,rfl⟩
theorem zqq {n:Nat} {R:zI} {root:Nat} : ∀ r,r∈R → ∀ v u,v∈zH n R root→u < n→r v u=true→u∈zH n R root:=fun r hr v u hv hu h=>zeD.2 (.step (zeD.1 hv) hu ⟨r,hr,h⟩)
end Go.Ab
namespace Go.Ab
structure Ptd where
 n:Nat
 R:zI
 fa:Nat→Int
 root:Nat
noncomputable def Ptd.min (m:Ptd):Ptd :=
 let l:=zH m.n m.R m.root
 let q:=coa l.length (zai l m.R) (zaI l m.fa)
 ⟨zo l.length q,(zai l m.R).map (zdh l.length q),ziw l.length q (zaI l m.fa),zz q (l.idxOf m.root)⟩
theorem zfu {l:List Nat} {x:Nat} (h:x∈l):l.idxOf x < l.length∧l.getD (l.idxOf x) 0=x:=by
 have h1:=List.idxOf_lt_length_of_mem h
 exact ⟨h1,by simp [List.getD,h1]⟩
def zmm (m m':Ptd):Prop := ∃ Z,zdp m.n m'.n m.R m'.R m.fa m'.fa Z∧Z m.root m'.root
theorem zmm.symm {m m':Ptd} (h:zmm m m'):zmm m' m:=let ⟨Z,B,hz⟩:=h; ⟨_,B.symm,hz⟩
theorem zmm.trans {m m' m2:Ptd} (h:zmm m m') (h':zmm m' m2):zmm m m2:=let ⟨Z,B,hz⟩:=h;let ⟨Z',B',hz'⟩:=h'; ⟨_,B.trans B',_,hz,hz'⟩
theorem zAi {m:Ptd} (h:m.root < m.n):zmm m m.min:=by
 have S:=zdt (zH m.n m.R m.root).length (zai (zH m.n m.R m.root) m.R) (zaI (zH m.n m.R m.root) m.fa)
 have B:=zpy (fa:=m.fa) (fun x hx=>(zeD.1 hx).lt) (zqq (n:=m.n) (R:=m.R) (root:=m.root))
 obtain ⟨h1,h2⟩:=zfu (zdE (R:=m.R) h)
 exact ⟨_,B.trans S.quo,_,⟨h1,h2⟩,h1,rfl⟩
theorem zAg (m:Ptd):zmi m.min.n m.min.R m.min.fa:=fun i hi=>zyL i hi
theorem zB6 {n n':Nat} {R R':zI} {fa fb:Nat→Int} {Z:Nat→Nat→Prop} (B:zdp n n' R R' fa fb Z) {S S':Nat→Prop} (hS : ∀ v,S v→v < n → ∃ v',Z v v'∧S' v') {v:Nat} (h:Rch n R S v) : ∃ v',Z v v'∧Rch n' R' S' v':=by
 induction h with
 | base hv hs=>obtain ⟨v',h1,h2⟩:=hS _ hs hv;exact ⟨v',h1,.base (B.lt h1).2 h2⟩
 | step h1 hu hr ih =>
  obtain ⟨v',h2,h3⟩:=ih
  obtain ⟨r,hr,he⟩:=hr
  obtain ⟨i,hir⟩:=List.mem_iff_getElem?.1 hr
  obtain ⟨r',hr'⟩:=zkC B.len hir
  obtain ⟨u',h4,h5,h6⟩:=B.forth hir hr' h2 hu he
  exact ⟨u',h6,.step h3 h4 ⟨r',List.mem_of_getElem? hr',h5⟩⟩
theorem zAj {m:Ptd} (h:m.root < m.n):m.min.root < m.min.n:=by
 obtain ⟨Z,B,hz⟩:=zAi h
 exact (B.lt hz).2
theorem zyv {m:Ptd} (h:m.root < m.n) : ∀ i,i < m.min.n→Rch m.min.n m.min.R (· = m.min.root) i:=by
 intro i hi
 have S:=zdt (zH m.n m.R m.root).length (zai (zH m.n m.R m.root) m.R) (zaI (zH m.n m.R m.root) m.fa)
 have B:=zpy (fa:=m.fa) (fun x hx=>(zeD.1 hx).lt) (zqq (n:=m.n) (R:=m.R) (root:=m.root))
 obtain ⟨u,-,u1,-,u3⟩:=ziu S.canon hi
 have hr:=zeD.1 (zdF u1)
 obtain ⟨j,⟨k,⟨hk1,hk2⟩,hk3,hk4⟩,h2⟩:=zB6 (B.trans S.quo) (S:=(· = m.root)) (S':=(· = m.min.root)) (fun v e hv=>by
  subst e
  obtain ⟨h1,h2⟩:=zfu (zdE (R:=m.R) h)
  exact ⟨_,⟨_,⟨h1,h2⟩,h1,rfl⟩,rfl⟩) hr
 have:k=u:=zij (zfM m.n m.R m.root) hk1 u1 hk2
 rw [← u3,← this,← hk4]
 exact h2
theorem zzX {n:Nat} {R:zI} {fa:Nat→Int} (hd:zmi n R fa) (root:Nat):Ren (List.range n).length (zpu (List.range n) R fa root).1:=by
 have hpr:zai (List.range n) R=zai (List.range n) R:=rfl
 refine (zst (g:=fun i=>[[zaI (List.range n) fa i]]) (fun v w hv hw e=>?_) ?_).2
 ·unfold zqH at e
  have:=(List.cons.inj e).2
  exact this
 ·rw [← zpq (fa:=zaI (List.range n) fa) (fun v w _ _=>by simp)]
  show zo _ (coa (List.range n).length (zai (List.range n) R) (zaI (List.range n) fa))=_
  have hB:zdp (List.range n).length n (zai (List.range n) R) R (zaI (List.range n) fa) fa fun i v=>i < (List.range n).length∧(List.range n).getD i 0=v :=
   (zpy (R:=R) (fa:=fa) (l:=List.range n) (fun x hx=>List.mem_range.1 hx) (fun r _ v u _ hu _=>List.mem_range.2 hu)).symm
  have S:=zdt (List.range n).length (zai (List.range n) R) (zaI (List.range n) fa)
  unfold zo
  refine (List.length_filter_eq_length_iff.2 fun w hw=>decide_eq_true ?_).trans List.length_range
  have hw:=List.mem_range.1 hw
  have hle:=S.canon.le w hw
  have:=hd.eq ((hB.symm.trans S.bis).trans hB) (v:=(List.range n).getD (coa (List.range n).length (zai (List.range n) R) (zaI (List.range n) fa) w) 0) (w:=(List.range n).getD w 0) ⟨w,⟨_,⟨by omega,rfl⟩,by omega,hw,S.canon.idem w hw⟩,hw,rfl⟩
  exact zij List.nodup_range (by omega) hw this
end Go.Ab
namespace Go.Ab
theorem zdn {n:Nat} (hn:n≤64) {f:Nat→Bool} {w:Nat} : (zau f n).getLsbD w=true↔w < n∧f w=true:=by
 rw [zsA];simp only [Bool.and_eq_true,decide_eq_true_eq]
 exact ⟨fun h=>⟨h.1.2,h.2⟩,fun h=>⟨⟨by omega,h.1⟩,h.2⟩⟩
theorem zoM {f g:Nat→Bool} : ∀ {n:Nat},(∀ i,i < n→f i=g i)→zau f n=zau g n
 | 0,_=>rfl
 | n+1,h=>by rw [zau,zau,h n (by omega),zoM fun i hi=>h i (by omega)]
def zd (m:KM):zI:=m.rel.map fun r=>fun v w=>rb r v w
def zF (m:KM) (w:Nat):Int:=(zax m.val w m.val.length:Int)
def z6 (s:BitVec 64) (l:List Nat):BitVec 64:=zau (fun i=>s.getLsbD (l.getD i 0)) l.length
def zA (m:KM) (l:List Nat):KM:=⟨l.length,m.val.map fun s=>z6 s l,m.rel.map fun r=>l.map fun w=>z6 (r.getD w 0#64) l⟩
theorem zlE {s:BitVec 64} {l:List Nat} (hl:l.length≤64) {i:Nat} : (z6 s l).getLsbD i=true↔i < l.length∧s.getLsbD (l.getD i 0)=true:=zdn hl
theorem zhG {n:Int} {s:BitVec 64} (h:0≤n):bad n s=false ↔ ∀ i,s.getLsbD i=true→i < n.toNat:=by
 rw [zxF h]
 exact ⟨fun k i hi=>by have:=k i hi;omega,fun k i hi=>by have:=k i hi;omega⟩
theorem zqs {m:KM} (h:zkJ m):za m=0:=by
 obtain ⟨h1,h2,h3,h4,h5,h6,h7⟩:=h
 unfold za
 rw [if_neg (by omega),if_neg (by omega),if_neg,if_neg,if_neg]
 ·simp only [List.any_eq_true,not_exists,not_and]
  intro r hr s hs e
  rw [h7 r hr s hs] at e;cases e
 ·simp only [List.any_eq_true,not_exists,not_and]
  intro s hs e
  rw [h6 s hs] at e;cases e
 ·simp only [List.any_eq_true,not_exists,not_and,decide_eq_true_eq]
  intro r hr e
  exact e (h5 r hr)
theorem zzG {m:KM} (hm:zkJ m) {l:List Nat} (h1:1≤l.length) (h2:l.length≤64):zkJ (zA m l) where
 w1:=by show (1:Int)≤(l.length:Int);omega
 w2:=by show (l.length:Int)≤64;omega
 n4:=by have:=hm.n4;simpa [zA] using this
 v8:=by have:=hm.v8;simpa [zA] using this
 len:=fun r hr=>by
  obtain ⟨r',-,rfl⟩:=List.mem_map.1 hr
  simp [zA]
 val:=fun s hs=>by
  obtain ⟨s',-,rfl⟩:=List.mem_map.1 hs
  rw [zhG (by show (0:Int)≤(l.length:Int);omega)]
  intro i hi
  exact ((zlE h2).1 hi).1
 rel:=fun r hr s hs=>by
  obtain ⟨r',-,rfl⟩:=List.mem_map.1 hr
  obtain ⟨w,-,rfl⟩:=List.mem_map.1 hs
  rw [zhG (by show (0:Int)≤(l.length:Int);omega)]
  intro i hi
  exact ((zlE h2).1 hi).1
theorem zpQ {m:KM} (hc:za m=0) {l:List Nat} (h1:1≤l.length) (h2:l.length≤64):za (zA m l)=0:=zqs (zzG (zn hc) h1 h2)
theorem zvE {m:KM} {l:List Nat} (h2:l.length≤64) {i:Nat} {r r':Nat→Nat→Bool} (h:(zd (zA m l))[i]? = some r) (h':(zai l (zd m))[i]? = some r') {v w:Nat} (hv:v < l.length) (hw:w < l.length):r v w=r' v w:=by
 unfold zd zA at h
 unfold zai zd at h'
 rw [List.map_map,List.getElem?_map,Option.map_eq_some_iff] at h
 rw [List.map_map,List.getElem?_map,Option.map_eq_some_iff] at h'
 obtain ⟨a,ha,rfl⟩:=h
 obtain ⟨b,hb,rfl⟩:=h'
 rw [ha] at hb;cases hb
 show rb (l.map fun w=>z6 (a.getD w 0#64) l) v w=rb a (l.getD v 0) (l.getD w 0)
 unfold rb
 rw [show (l.map fun w=>z6 (a.getD w 0#64) l).getD v 0#64=z6 (a.getD (l.getD v 0) 0#64) l by
  simp [List.getD,List.getElem?_map,List.getElem?_eq_getElem hv]]
 rw [Bool.eq_iff_iff,zlE h2]
 exact ⟨fun h=>h.2,fun h=>⟨hw,h⟩⟩
theorem zth {m:KM} {l:List Nat} (h2:l.length≤64):zhU l.length (fun w=>w) (zai l (zd m)) (zd (zA m l)) :=
 ⟨by simp [zai,zd,zA],fun i r r' h1 h2' v w hv hw=>zvE h2 h2' h1 hv hw⟩
theorem zqi (vl:List (BitVec 64)) {l:List Nat} (h2:l.length≤64) {i:Nat} (hi:i < l.length) : ∀ k,zax (vl.map fun s=>z6 s l) i k=zax vl (l.getD i 0) k
 | 0=>rfl
 | k+1=>by
  rw [zax,zax,zqi vl h2 hi k]
  have e:((vl.map fun s=>z6 s l).getD k 0#64).getLsbD i=(vl.getD k 0#64).getLsbD (l.getD i 0):=by
   simp only [List.getD,List.getElem?_map]
   cases hk:vl[k]? with
   | none=>simp
   | some s =>
    show (z6 s l).getLsbD i=s.getLsbD (l.getD i 0)
    rw [Bool.eq_iff_iff,zlE h2]
    exact ⟨fun h=>h.2,fun h=>⟨hi,h⟩⟩
  rw [e]
theorem zra {m:KM} {l:List Nat} (h2:l.length≤64) {i:Nat} (hi:i < l.length):zF (zA m l) i=zaI l (zF m) i:=by
 unfold zF zaI zA
 rw [List.length_map,zqi _ h2 hi]
theorem zz6 {l:List (BitVec 64)} {W:Int} (hW:0≤W) (h : ∀ s∈l,bad W s=false) (i w:Nat) (hw:(l.getD i 0#64).getLsbD w=true):w < W.toNat:=by
 cases hi:l[i]? with
 | none=>rw [List.getD,hi] at hw;simp at hw
 | some s =>
  rw [List.getD,hi] at hw
  exact (zhG hW).1 (h s (List.mem_of_getElem? hi)) w hw
theorem zbw {α:Type} {l:List α} {i:Nat} {d:α} (h:i < l.length):l[i]? = some (l.getD i d):=by simp [List.getD,h]
theorem zfo {α:Type} {a b:List α} {d:α} (hl:a.length=b.length) (h : ∀ i,i < a.length→a.getD i d=b.getD i d):a=b:=by
 refine List.ext_getElem hl fun i h1 h2=>?_
 have:=h i h1
 rw [List.getD,List.getD,List.getElem?_eq_getElem h1,List.getElem?_eq_getElem h2] at this
 exact this
def za9 (to:List Int) (n:Nat):Bool:=decide (to.length=n∧(∀ x∈to,0≤x∧x < n)∧to.Nodup)
def zde (to:List Int) (n:Nat):List Nat:=(List.range n).map fun (i:Nat)=>to.idxOf (i:Int)
def zaF:KM:=⟨0,[],[]⟩
def zhl (m:KM) (to:List Int):KM×Int:=if za m≠0 then (zaF,za m) else if za9 to m.W.toNat=true then (zA m (zde to m.W.toNat),0) else (zaF,1)
theorem zcV {to:List Int} {n:Nat} : za9 to n=true↔to.length=n∧(∀ x∈to,0≤x∧x < n)∧to.Nodup:=by simp only [za9,decide_eq_true_eq]
theorem zus {to:List Int} {n:Nat} (h:za9 to n=true) {i:Nat} (hi:i < n):(i:Int)∈to:=by
 obtain ⟨h1,h2,h3⟩:=zcV.1 h
 have key : ∀ x∈to,x∈(List.range n).map fun (i:Nat)=>(i:Int):=fun x hx=>List.mem_map.2 ⟨x.toNat,List.mem_range.2 (by have:=h2 x hx;omega),by have:=h2 x hx;omega⟩
 apply Classical.byContradiction
 intro hn
 have:=zbi (l:=(i:Int)::to) (l':=(List.range n).map fun (i:Nat)=>(i:Int)) (List.nodup_cons.2 ⟨hn,h3⟩) fun x hx=>by
  rcases List.mem_cons.1 hx with rfl|hx
  ·exact List.mem_map.2 ⟨i,List.mem_range.2 hi,rfl⟩
  ·exact key x hx
 simp at this;omega
abbrev toF (to:List Int) (w:Nat):Nat:=(at0 to w).toNat
theorem zut {to:List Int} {n:Nat} (h:za9 to n=true):Ren n (toF to):=by
 obtain ⟨h1,h2,h3⟩:=zcV.1 h
 refine ⟨fun w hw=>?_,fun v w hv hw e=>?_⟩
 ·have:=h2 (at0 to w) (List.mem_of_getElem? (zbT (by omega)))
  unfold toF;omega
 ·have a1:=h2 (at0 to v) (List.mem_of_getElem? (zbT (by omega)))
  have a2:=h2 (at0 to w) (List.mem_of_getElem? (zbT (by omega)))
  have e':at0 to v=at0 to w:=by unfold toF at e;omega
  have g1:=zbT (l:=to) (i:=v) (by omega)
  have g2:=zbT (l:=to) (i:=w) (by omega)
  rw [e'] at g1
  obtain ⟨p1,q1⟩:=List.getElem?_eq_some_iff.1 g1
  obtain ⟨p2,q2⟩:=List.getElem?_eq_some_iff.1 g2
  exact (List.getElem_inj h3).1 (q1.trans q2.symm)
theorem zCE {to:List Int} {n:Nat} (h:za9 to n=true) {w:Nat} (hw:w < n):to.idxOf ((toF to w:Nat):Int)=w:=by
 obtain ⟨h1,h2,h3⟩:=zcV.1 h
 have g:=zbT (l:=to) (i:=w) (by omega)
 have a:=h2 (at0 to w) (List.mem_of_getElem? g)
 rw [show ((toF to w:Nat):Int)=at0 to w by unfold toF;omega]
 obtain ⟨p,q⟩:=List.getElem?_eq_some_iff.1 g
 rw [← q]
 exact h3.idxOf_getElem w p
theorem zkb (to:List Int) (n:Nat):(zde to n).length=n:=by simp [zde]
theorem zAb {to:List Int} {n i:Nat} (hi:i < n):(zde to n).getD i 0=to.idxOf (i:Int):=by simp [zde,List.getD,hi]
theorem zyj {to:List Int} {n:Nat} (h:za9 to n=true) {w:Nat} (hw:w < n):(zde to n).getD (toF to w) 0=w:=by
 rw [zAb ((zut h).lt w hw),zCE h hw]
theorem zt1 {to:List Int} {n:Nat} (h:za9 to n=true) {i:Nat} (hi:i < n):(zde to n).getD i 0 < n:=by
 obtain ⟨w,hw,rfl⟩:=(zut h).surj hi
 rw [zyj h hw];exact hw
end Go.Ab
namespace Go.Ab
noncomputable def zeo (m:KM) (s:BitVec 64):BitVec 64:=zau (fun w => @decide (Rch m.W.toNat (zd m) (fun v=>s.getLsbD v=true) w) (Classical.propDecidable _)) 64
theorem zfL {m:KM} (hc:za m=0) {s:BitVec 64} {w:Nat} : (zeo m s).getLsbD w=true↔Rch m.W.toNat (zd m) (fun v=>s.getLsbD v=true) w:=by
 have w2:=(zn hc).w2
 unfold zeo
 rw [zdn (Nat.le_refl _),@decide_eq_true_eq _ (Classical.propDecidable _)]
 exact ⟨fun h=>h.2,fun h=>⟨by have:=h.lt;omega,h⟩⟩
def Clo (m:KM) (s:BitVec 64):Prop := ∀ v,s.getLsbD v=true → ∀ r∈m.rel,∀ u,rb r v u=true→s.getLsbD u=true
structure zq9 (m:KM) (f s:BitVec 64):Prop where
 sub : ∀ v,f.getLsbD v=true→s.getLsbD v=true
 inn : ∀ v,s.getLsbD v=true→Rch m.W.toNat (zd m) (fun v=>f.getLsbD v=true) v
theorem zBi {m:KM} (hc:za m=0) {r:List (BitVec 64)} (hr:r∈m.rel) {v u:Nat} (h:rb r v u=true):v < m.W.toNat∧u < m.W.toNat:=by
 have hg:=zn hc
 have w1:=hg.w1
 refine ⟨?_,zz6 (by omega) (hg.rel r hr) v u h⟩
 apply Classical.byContradiction
 intro hn
 have:=hg.len r hr
 rw [zCL (by omega)] at h;cases h
theorem zuw {m:KM} (hc:za m=0) {S:Nat→Prop} {v u:Nat} (h:Rch m.W.toNat (zd m) S v) {r:List (BitVec 64)} (hr:r∈m.rel) (e:rb r v u=true):Rch m.W.toNat (zd m) S u :=
 .step h (zBi hc hr e).2 ⟨fun v w=>rb r v w,List.mem_map.2 ⟨r,hr,rfl⟩,e⟩
theorem zq9.done {m:KM} (hc:za m=0) {f s:BitVec 64} (h:zq9 m f s) (hcl:Clo m s):s=zeo m f:=by
 have hin : ∀ v,Rch m.W.toNat (zd m) (fun v=>f.getLsbD v=true) v→s.getLsbD v=true:=fun v hv=>by
  induction hv with
  | base _ h1=>exact h.sub _ h1
  | step _ hu hr ih =>
   obtain ⟨r',hr',e⟩:=hr
   obtain ⟨r,hr,rfl⟩:=List.mem_map.1 hr'
   exact hcl _ ih r hr _ e
 refine BitVec.eq_of_getLsbD_eq fun i _=>?_
 rw [Bool.eq_iff_iff,zfL hc]
 exact ⟨h.inn i,hin i⟩
structure zq8 (m:KM) (f out todo:BitVec 64):Prop where
 gs:zq9 m f out
 tod : ∀ v,todo.getLsbD v=true→out.getLsbD v=true
 clo : ∀ v,out.getLsbD v=true→todo.getLsbD v=false → ∀ r∈m.rel,∀ u,rb r v u=true→out.getLsbD u=true
theorem zwZ {m:KM} {f:BitVec 64} (hf : ∀ v,f.getLsbD v=true→v < m.W.toNat):zq8 m f f f :=
 ⟨⟨fun _ h=>h,fun v h => .base (hf v h) h⟩,fun _ h=>h,fun v h h'=>by rw [h] at h';cases h'⟩
theorem zq8.done {m:KM} (hc:za m=0) {f out:BitVec 64} (h:zq8 m f out 0#64):out=zeo m f :=
 h.gs.done hc fun v hv=>h.clo v hv (by simp)
def zmD (a b:BitVec 64):Nat:=((List.range 64).filter fun v=>a.getLsbD v && !b.getLsbD v).length
theorem zBy (a b:BitVec 64):zmD a b≤64:=by
 have:=List.length_filter_le (fun v=>a.getLsbD v && !b.getLsbD v) (List.range 64)
 simpa [zmD] using this
theorem zCv {s:BitVec 64} {w:Nat} (h:s.getLsbD w=true):w < 64:=by
 apply Classical.byContradiction
 intro hn
 rw [BitVec.getLsbD_of_ge _ _ (by omega)] at h;cases h
structure zoQ (m:KM) (out todo:BitVec 64) (w k:Nat) (o t:BitVec 64):Prop where
 o : ∀ v,o.getLsbD v=true↔out.getLsbD v=true ∨ ∃ r∈m.rel.take k,rb r w v=true
 t : ∀ v,t.getLsbD v=true↔(todo.getLsbD v=true∧v≠w)∨(out.getLsbD v=false ∧ ∃ r∈m.rel.take k,rb r w v=true)
theorem zw0 {m:KM} {out todo t:BitVec 64} {w:Nat} (ht : ∀ v,t.getLsbD v=(todo.getLsbD v&&v != w)):zoQ m out todo w 0 out t :=
 ⟨fun v=>by simp,fun v=>by rw [ht];simp⟩
theorem zhj {α:Type} {l:List α} {k:Nat} {x:α} (h:l[k]? = some x) (p:α→Prop):(∃ r∈l.take (k+1),p r)↔(∃ r∈l.take k,p r)∨p x:=by
 rw [List.take_add_one,h]
 simp only [Option.toList_some,List.mem_append,List.mem_singleton]
 constructor
 ·rintro ⟨r,h1|rfl,h2⟩
  ·exact .inl ⟨r,h1,h2⟩
  ·exact .inr h2
 ·rintro (⟨r,h1,h2⟩|h2)
  ·exact ⟨r,.inl h1,h2⟩
  ·exact ⟨x,.inr rfl,h2⟩
theorem zoQ.next {m:KM} {out todo:BitVec 64} {w k:Nat} {o t:BitVec 64} (h:zoQ m out todo w k o t) {r:List (BitVec 64)} {x:BitVec 64} (hr:m.rel[k]? = some r) (hx:r[w]? = some x):zoQ m out todo w (k+1) (o|||x) (t|||(x &&& ~~~o)):=by
 have e : ∀ v,rb r w v=x.getLsbD v:=fun v=>zBj hx v
 refine ⟨fun v=>?_,fun v=>?_⟩
 ·rw [zhj hr,BitVec.getLsbD_or,Bool.or_eq_true,h.o v,e]
  simp only [or_assoc]
 ·rw [zhj hr,BitVec.getLsbD_or,Bool.or_eq_true,h.t v,BitVec.getLsbD_and,Bool.and_eq_true,BitVec.getLsbD_not,e]
  have ho:=h.o v
  by_cases hv:v < 64
  ·simp only [hv,decide_true,Bool.true_and,Bool.not_eq_true']
   by_cases h1:out.getLsbD v=true
   ·have:o.getLsbD v=true:=ho.2 (.inl h1)
    simp [h1,this]
   ·simp only [Bool.not_eq_true] at h1
    by_cases h2 : ∃ r∈m.rel.take k,rb r w v=true
    ·have:o.getLsbD v=true:=ho.2 (.inr h2)
     simp [h1,h2,this]
    ·have:o.getLsbD v=false:=by rw [← Bool.not_eq_true];intro h3;rcases ho.1 h3 with h3|h3; (rw [h1] at h3;cases h3);exact h2 h3
     simp [h1,h2,this]
  ·have:x.getLsbD v=false:=BitVec.getLsbD_of_ge _ _ (by omega)
   simp [hv,this]
theorem zoQ.end' {m:KM} (hc:za m=0) {f out todo:BitVec 64} {w:Nat} {o t:BitVec 64} (h:zq8 m f out todo) (hw:todo.getLsbD w=true) (hK:zoQ m out todo w m.rel.length o t):zq8 m f o t∧zmD out todo < zmD o t:=by
 have ho:=hK.o;have ht:=hK.t
 simp only [List.take_length] at ho ht
 have how:=h.tod w hw
 have hr : ∀ {r v},r∈m.rel→rb r w v=true→o.getLsbD v=true:=fun h1 h2=>(ho _).2 (.inr ⟨_,h1,h2⟩)
 refine ⟨⟨⟨fun v hv=>(ho v).2 (.inl (h.gs.sub v hv)),fun v hv=>?_⟩,fun v hv=>?_,fun v hv hv' r hr' u hu=>?_⟩,?_⟩
 ·rcases (ho v).1 hv with h1|⟨r,h1,h2⟩
  ·exact h.gs.inn v h1
  ·exact zuw hc (h.gs.inn w how) h1 h2
 ·rcases (ht v).1 hv with ⟨h1,-⟩|⟨-,h2⟩
  ·exact (ho v).2 (.inl (h.tod v h1))
  ·exact (ho v).2 (.inr h2)
 ·by_cases e:v=w
  ·subst e;exact hr hr' hu
  ·have h1:out.getLsbD v=true:=by
    rcases (ho v).1 hv with h1|h1
    ·exact h1
    ·cases h2:out.getLsbD v with
     | true=>rfl
     | false=>rw [(ht v).2 (.inr ⟨h2,h1⟩)] at hv';cases hv'
   have h2:todo.getLsbD v=false:=by
    rw [← Bool.not_eq_true];intro h2
    rw [(ht v).2 (.inl ⟨h2,e⟩)] at hv';cases hv'
   exact (ho u).2 (.inl (h.clo v h1 h2 r hr' u hu))
 ·unfold zmD
  refine (zg6 (fun v hv=>?_) _).2 ⟨w,List.mem_range.2 (zCv hw),by rw [hw];simp,?_⟩
  ·simp only [Bool.and_eq_true,Bool.not_eq_true'] at hv ⊢
   refine ⟨(ho v).2 (.inl hv.1),?_⟩
   rw [← Bool.not_eq_true];intro h1
   rcases (ht v).1 h1 with ⟨h2,-⟩|⟨h2,-⟩
   ·rw [h2] at hv;cases hv.2
   ·rw [h2] at hv;cases hv.1
  ·rw [(ho w).2 (.inl how)]
   simp only [Bool.true_and,Bool.not_eq_true']
   rw [← Bool.not_eq_true];intro h1
   rcases (ht w).1 h1 with ⟨-,h2⟩|⟨h2,-⟩
   ·exact h2 rfl
   ·rw [how] at h2;cases h2
def zrj (s:BitVec 64):Nat:=(zD s).length
theorem zvK {n:Nat} {s:BitVec 64} (h : ∀ v,s.getLsbD v=true→v < n):zrj s≤n:=by
 have:=zbi (zuk s) (l':=List.range n) fun v hv=>List.mem_range.2 (h v (zhC.1 hv))
 simpa [zrj] using this
theorem zvL {s t:BitVec 64} (h : ∀ v,s.getLsbD v=true→t.getLsbD v=true) (hne:t≠s):zrj s < zrj t:=by
 unfold zrj zD
 refine (zg6 (fun v hv=>h v hv) _).2 ?_
 apply Classical.byContradiction
 intro hn
 refine hne (BitVec.eq_of_getLsbD_eq fun i hi=>?_)
 rw [Bool.eq_iff_iff]
 refine ⟨fun h1=>?_,h i⟩
 rw [← Bool.not_eq_false];intro h2
 exact hn ⟨i,List.mem_range.2 hi,h2,h1⟩
structure zhT (m:KM) (f s0:BitVec 64) (w:Nat) (s:BitVec 64):Prop where
 gs:zq9 m f s
 sub : ∀ v,s0.getLsbD v=true→s.getLsbD v=true
 clo : ∀ v,v < w→s0.getLsbD v=true → ∀ r∈m.rel,∀ u,rb r v u=true→s.getLsbD u=true
theorem zw2 {m:KM} {f s0:BitVec 64} (h:zq9 m f s0):zhT m f s0 0 s0:=⟨h,fun _ h=>h,fun v hv=>by omega⟩
theorem zhT.skip {m:KM} {f s0 s:BitVec 64} {w:Nat} (h:zhT m f s0 w s) (hw:s.getLsbD w=false):zhT m f s0 (w+1) s :=
 ⟨h.gs,h.sub,fun v hv h1=>by
  by_cases e:v=w
  ·subst e;rw [h.sub _ h1] at hw;cases hw
  ·exact h.clo v (by omega) h1⟩
structure zoP (m:KM) (f s0:BitVec 64) (w k:Nat) (s:BitVec 64):Prop where
 gw:zhT m f s0 w s
 has:s.getLsbD w=true
 clo : ∀ r∈m.rel.take k,∀ u,rb r w u=true→s.getLsbD u=true
theorem zwY {m:KM} {f s0 s:BitVec 64} {w:Nat} (h:zhT m f s0 w s) (hw:s.getLsbD w=true):zoP m f s0 w 0 s:=⟨h,hw,fun r hr=>by simp at hr⟩
theorem zoP.next {m:KM} (hc:za m=0) {f s0 s:BitVec 64} {w k:Nat} (h:zoP m f s0 w k s) {r:List (BitVec 64)} {x:BitVec 64} (hr:m.rel[k]? = some r) (hx:r[w]? = some x):zoP m f s0 w (k+1) (s|||x):=by
 have e : ∀ v,rb r w v=x.getLsbD v:=fun v=>zBj hx v
 have up : ∀ v,s.getLsbD v=true→(s|||x).getLsbD v=true:=fun v hv=>by rw [BitVec.getLsbD_or,hv];rfl
 refine ⟨⟨⟨fun v hv=>up v (h.gw.gs.sub v hv),fun v hv=>?_⟩,fun v hv=>up v (h.gw.sub v hv),fun v h1 h2 r' h3 u h4=>up u (h.gw.clo v h1 h2 r' h3 u h4)⟩,up w h.has,fun r' hr' u hu=>?_⟩
 ·rw [BitVec.getLsbD_or,Bool.or_eq_true] at hv
  rcases hv with hv|hv
  ·exact h.gw.gs.inn v hv
  ·exact zuw hc (h.gw.gs.inn w h.has) (List.mem_of_getElem? hr) (by rw [e];exact hv)
 ·rcases (zhj hr (· = r')).1 ⟨r',hr',rfl⟩ with ⟨q,h1,rfl⟩|rfl
  ·exact up u (h.clo q h1 u hu)
  ·rw [BitVec.getLsbD_or,← e,hu];simp
theorem zoP.end' {m:KM} {f s0 s:BitVec 64} {w:Nat} (h:zoP m f s0 w m.rel.length s):zhT m f s0 (w+1) s :=
 ⟨h.gw.gs,h.gw.sub,fun v hv h1 r hr u hu=>by
  by_cases e:v=w
  ·subst e;exact h.clo r (by rw [List.take_length];exact hr) u hu
  ·exact h.gw.clo v (by omega) h1 r hr u hu⟩
structure zoR (m:KM) (f:BitVec 64) (i:Nat) (s:BitVec 64):Prop where
 gs:zq9 m f s
 more:Clo m s∨i < zrj s
theorem zw1 {m:KM} {f:BitVec 64} (hf : ∀ v,f.getLsbD v=true→v < m.W.toNat):zoR m f 0 f:=by
 refine ⟨⟨fun _ h=>h,fun v h => .base (hf v h) h⟩,?_⟩
 by_cases h:f=0#64
 ·subst h;exact .inl fun v hv=>by simp at hv
 ·refine .inr ?_
  have:=zvL (s:=0#64) (t:=f) (fun v hv=>by simp at hv) h
  omega
theorem zoR.next {m:KM} (hc:za m=0) {f s0 s:BitVec 64} {i:Nat} (h:zoR m f i s0) (hW:zhT m f s0 m.W.toNat s):zoR m f (i+1) s:=by
 refine ⟨hW.gs,?_⟩
 have hlt : ∀ v,s0.getLsbD v=true→v < m.W.toNat:=fun v hv=>(h.gs.inn v hv).lt
 by_cases e:s=s0
 ·subst e
  exact .inl fun v hv r hr u hu=>hW.clo v (hlt v hv) hv r hr u hu
 ·have hl:=zvL hW.sub e
  rcases h.more with h1|h1
  ·refine absurd ?_ e
   have a:=h.gs.done hc h1
   refine BitVec.eq_of_getLsbD_eq fun v _=>?_
   rw [Bool.eq_iff_iff]
   refine ⟨fun hv=>?_,hW.sub v⟩
   rw [a];exact (zfL hc).2 (hW.gs.inn v hv)
  ·exact .inr (by omega)
theorem zoR.done {m:KM} (hc:za m=0) {f s:BitVec 64} (h:zoR m f m.W.toNat s):s=zeo m f:=by
 refine h.gs.done hc ?_
 rcases h.more with h1|h1
 ·exact h1
 ·have:=zvK (n:=m.W.toNat) fun v hv=>(h.gs.inn v hv).lt
  omega
theorem zhN {w v:Nat} (hw:w < 64):(1#64 <<< w).getLsbD v=true↔v=w:=by
 rw [zrc];simp only [Bool.and_eq_true,decide_eq_true_eq];omega
theorem zss {n:Nat} {R:zI} {S S':Nat→Prop} (h : ∀ v,S v→S' v) {v:Nat} (hv:Rch n R S v):Rch n R S' v:=by
 induction hv with
 | base h1 h2=>exact .base h1 (h _ h2)
 | step _ h2 h3 ih=>exact .step ih h2 h3
theorem zf7 {p:Nat→Bool} {n:Nat} (h : ∀ v,p v=true→v < n) : ∀ k,n≤k→(List.range k).filter p=(List.range n).filter p
 | 0,hk=>by rw [show n=0 by omega]
 | k+1,hk=>by
  by_cases e:n=k+1
  ·rw [e]
  ·rw [List.range_succ,List.filter_append,zf7 h k (by omega)]
   have:p k=false:=by rw [← Bool.not_eq_true];intro hp;have:=h k hp;omega
   simp [this]
theorem zlh {m:KM} (hc:za m=0) {w:Nat} (hw:w < m.W.toNat):zD (zeo m (1#64 <<< w))=zH m.W.toNat (zd m) w:=by
 have w2:=(zn hc).w2
 unfold zD zH
 have key : ∀ v,(zeo m (1#64 <<< w)).getLsbD v = @decide (Rch m.W.toNat (zd m) (· = w) v) (Classical.propDecidable _):=fun v=>by
  rw [Bool.eq_iff_iff,zfL hc,@decide_eq_true_eq _ (Classical.propDecidable _)]
  exact ⟨fun h=>zss (fun v hv=>(zhN (by omega)).1 hv) h,fun h=>zss (fun v hv=>(zhN (by omega)).2 hv) h⟩
 rw [zf7 (n:=m.W.toNat) (fun v hv=>((zfL hc).1 hv).lt) 64 (by omega)]
 exact List.filter_congr fun v _=>key v
end Go.Ab
namespace Go.Ab
open Go Go.Proofs
set_option maxRecDepth 10000
set_option maxHeartbeats 4000000
variable {T:Nat→Obj→Prop}
theorem zrr (n:Int) (h:0≤n):Fn Tryz.prog T zor [.d (.int .i64 n)] [] (.d (.u64 (zhY n))) []:=by
 refine zb zm zvm (by show 1≤8;decide) ?_
 (repeat' ((conv=>whnf);first|refine vA ?_|(refine vF ?_ ?_<;>intro hc<;>try simp only [vL] at hc)|refine vT ?_|(refine vP ?_ ?_;·omega)|refine vY ?_));all_goals try conv=>whnf
 ·simp [zhY, *]
 ·rw [zhY,if_neg (by omega)];rfl
theorem zBG (l:List (BitVec 64)) (g:Nat) (y:D) (p:BitVec 64→Bool) (hF : ∀ x,Fn Tryz.prog T g [.d (.u64 x),.d y] [] (.d (.bool (p x))) []):Fn Tryz.prog T zbX [.d (dU l),.d (.fn g [y])] [] (.d (.int .i64 (zfn p l))) []:=by
 refine zb zm ze3 (by show 2≤19;decide) ?_
 (repeat' ((conv=>whnf);first|refine vA ?_|refine vJ fun hg=>?_|refine vT ?_));all_goals try conv=>whnf
 refine zM (fun (k:Nat)=>[(0,.d (dU l)),(1,.d (.fn g [y])),(7,.d (.int .i64 ((l.map D.u64).length:Int))),(8,.d (.int .i64 ((k:Int))))]) (fun (k:Nat)=>k≤l.length ∧ ∀ (i:Nat) x,i < k→l[i]? = some x→p x=false) (fun (k:Nat)=>l.length - k) (0) (⟨by simp,fun i x h=>by omega⟩) (by (repeat' first|exact trivial|exact rfl|refine And.intro ?_ ?_)) ?_
 rintro k ⟨hk,hI⟩
 (repeat' ((conv=>whnf);first|refine vA ?_|((first|refine vF ?_ ?_|refine vI ?_ ?_)<;>intro hc<;>try simp only [vL] at hc)|refine vT ?_|(refine vQ ?_ fun x hx=>?_;·omega)|(refine vO ?_ ?_;·omega)|refine vX ?_|refine yD (hF _) (by (repeat refine ⟨⟨rfl,rfl⟩,?_⟩);rfl) rfl ?_));all_goals try conv=>whnf
 ·rw [zg7 hx ‹_› hI]
 ·exact ⟨k+1,[],[],⟨by (omega),fun i z hi hz=>by
   by_cases e:i=k
   ·subst e;rw [hx] at hz;cases hz;assumption
   ·exact hI i z (by omega) hz⟩,by (omega),by (refine ⟨rfl,rfl,rfl,?_,?_⟩;repeat' first|exact trivial|exact rfl|refine And.intro ?_ ?_)⟩
 ·rw [zld fun i x hi hx=>hI i x (by omega) hx]
theorem zz2 (l:List (List (BitVec 64))) (g:Nat) (y:D) (p:List (BitVec 64)→Bool) (hF : ∀ x,Fn Tryz.prog T g [.d (dU x),.d y] [] (.d (.bool (p x))) []):Fn Tryz.prog T zbI [.d (dUU l),.d (.fn g [y])] [] (.d (.int .i64 (zfn p l))) []:=by
 refine zb zm zeq (by show 2≤19;decide) ?_
 (repeat' ((conv=>whnf);first|refine vA ?_|refine vJ fun hg=>?_|refine vT ?_));all_goals try conv=>whnf
 refine zM (fun (k:Nat)=>[(0,.d (dUU l)),(1,.d (.fn g [y])),(7,.d (.int .i64 ((l.map dU).length:Int))),(8,.d (.int .i64 ((k:Int))))]) (fun (k:Nat)=>k≤l.length ∧ ∀ (i:Nat) x,i < k→l[i]? = some x→p x=false) (fun (k:Nat)=>l.length - k) (0) (⟨by simp,fun i x h=>by omega⟩) (by (repeat' first|exact trivial|exact rfl|refine And.intro ?_ ?_)) ?_
 rintro k ⟨hk,hI⟩
 (repeat' ((conv=>whnf);first|refine vA ?_|((first|refine vF ?_ ?_|refine vI ?_ ?_)<;>intro hc<;>try simp only [vL] at hc)|refine vT ?_|(refine vQ ?_ fun x hx=>?_;·omega)|(refine vO ?_ ?_;·omega)|refine vX ?_|refine yD (hF _) (by (repeat refine ⟨⟨rfl,rfl⟩,?_⟩);rfl) rfl ?_));all_goals try conv=>whnf
 ·rw [zg7 hx ‹_› hI]
 ·exact ⟨k+1,[],[],⟨by (omega),fun i z hi hz=>by
   by_cases e:i=k
   ·subst e;rw [hx] at hz;cases hz;assumption
   ·exact hI i z (by omega) hz⟩,by (omega),by (refine ⟨rfl,rfl,rfl,?_,?_⟩;repeat' first|exact trivial|exact rfl|refine And.intro ?_ ?_)⟩
 ·rw [zld fun i x hi hx=>hI i x (by omega) hx]
theorem zrZ {α:Type} {p:α→Bool} {l:List α} : decide (0≤zfn p l)=l.any p:=by
 rw [Bool.eq_iff_iff,decide_eq_true_eq,ztJ,List.any_eq_true]
theorem zvf (n:Int) (h:0≤n) (s:BitVec 64):Fn Tryz.prog T zc3 [.d (.u64 s),.d (.box [.int .i64 n])] [] (.d (.bool (bad n s))) []:=by
 refine zb zm zof (by show 2≤9;decide) ?_
 (repeat' ((conv=>whnf);first|refine vT ?_|refine vZ ?_|refine yD (zrr n h) ⟨⟨rfl,rfl⟩,rfl⟩ rfl ?_));all_goals try conv=>whnf
 rfl
theorem zoy (l:List (BitVec 64)) (n:Int) (h:0≤n):Fn Tryz.prog T zi0 [.d (dU l),.d (.int .i64 n)] [] (.d (.bool (l.any (bad n)))) []:=by
 have c1:Fn Tryz.prog T zbC [.d (dU l),.d (.fn zc3 [.box [.int .i64 n]])] [] (.d (.bool (l.any (bad n)))) []:=by
  refine zb zm zd9 (by show 2≤9;decide) ?_
  (repeat' ((conv=>whnf);first|refine vT ?_|refine vZ ?_|refine yD (zBG l _ _ (bad n) (zvf n h)) ⟨⟨rfl,rfl⟩,⟨rfl,rfl⟩,rfl⟩ rfl ?_));all_goals try conv=>whnf
  exact zrZ
 refine zb zm zqF (by show 2≤8;decide) ?_
 (repeat' ((conv=>whnf);first|refine vT ?_|refine vZ ?_|refine yD c1 (by (repeat refine ⟨⟨rfl,rfl⟩,?_⟩);rfl) rfl ?_));all_goals try conv=>whnf
abbrev bKM (m:KM):D := .box [.int .i64 m.W,dU m.val,dUU m.rel]
theorem zaY (m:KM):Fn Tryz.prog T zfl [.d (dKM m)] [] (.d (.int .i64 (za m))) []:=by
 have c1:0≤m.W → ∀ x:List (BitVec 64),Fn Tryz.prog T zd5 [.d (dU x),.d (bKM m)] [] (.d (.bool (x.any (bad m.W)))) []:=fun h x=>by
  refine zb zm zqC (by show 2≤8;decide) ?_
  (repeat' ((conv=>whnf);first|refine vT ?_|refine vZ ?_|refine yD (zoy x m.W h) ⟨⟨rfl,rfl⟩,⟨rfl,rfl⟩,rfl⟩ rfl ?_));all_goals try conv=>whnf
 have c2:0≤m.W→Fn Tryz.prog T zbn [.d (dUU m.rel),.d (.fn zd5 [bKM m])] [] (.d (.bool (m.rel.any fun x=>x.any (bad m.W)))) []:=fun h=>by
  refine zb zm zdS (by show 2≤9;decide) ?_
  (repeat' ((conv=>whnf);first|refine vT ?_|refine vZ ?_|refine yD (zz2 m.rel _ _ (fun x=>x.any (bad m.W)) (c1 h)) ⟨⟨rfl,rfl⟩,⟨rfl,rfl⟩,rfl⟩ rfl ?_));all_goals try conv=>whnf
  exact zrZ
 refine zb zm zsT (by show 1≤47;decide) ?_
 (repeat' ((conv=>whnf);first|refine vA ?_|(refine vF ?_ ?_<;>intro hc<;>try simp only [vL] at hc)|refine vJ fun hg=>?_|refine vT ?_|refine vX ?_));all_goals try conv=>whnf
 ·rw [za,if_pos (by omega)]
 ·rw [za,if_pos (by omega)]
 ·rw [za,if_neg (by omega),if_pos (by omega)]
 ·rw [za,if_neg (by omega),if_pos (by omega)]
 ·have e0:za m=if m.rel.any (fun r=>decide ((r.length:Int)≠m.W)) then 3 else if m.val.any (bad m.W) then 2 else if m.rel.any (fun r=>r.any (bad m.W)) then 2 else 0:=by rw [za,if_neg (by omega),if_neg (by omega)]
  refine zf (fun (k:Nat)=>[(1,.ptr 0 0),(24,.d (dUU m.rel)),(25,.d (.int .i64 ((m.rel.map dU).length:Int))),(26,.d (.int .i64 ((k:Int))))]) (fun (k:Nat)=>[(0,some (zR m))]) 1 (fun (k:Nat)=>k≤m.rel.length∧m.rel.any (fun r=>decide ((r.length:Int)≠m.W))=(m.rel.drop k).any (fun r=>decide ((r.length:Int)≠m.W))) (fun (k:Nat)=>m.rel.length - k) (0) [(0,0)] [] (⟨by simp,rfl⟩) (by (refine ⟨rfl,rfl,rfl,?_,?_⟩;repeat' first|exact trivial|exact rfl|refine And.intro ?_ ?_|refine ⟨_,rfl,?_⟩|decide)) ?_
  rintro k ⟨hk,hI⟩
  (repeat' ((conv=>whnf);first|refine vA ?_|((first|refine vD ?_ ?_|refine vF ?_ ?_)<;>intro hc<;>try simp only [vL] at hc)|refine vJ fun hg=>?_|refine vT ?_|(refine vQ ?_ fun x hx=>?_;·omega)|(refine vO ?_ ?_;·omega)|refine vX ?_));all_goals try conv=>whnf
  ·rw [e0,if_pos (by rw [hI,zt hx,List.any_cons,decide_eq_true (by simpa using ‹_›)];rfl)]
  ·exact ⟨k+1,[(0,0)],[],⟨by (omega),by rw [hI,zt hx,List.any_cons,decide_eq_false (by simpa using ‹_›)];rfl⟩,by (omega),by (refine ⟨rfl,rfl,rfl,?_,?_⟩;repeat' first|exact trivial|exact rfl|refine And.intro ?_ ?_|refine ⟨_,rfl,?_⟩|decide)⟩
  ·have h1:m.rel.any (fun r=>decide ((r.length:Int)≠m.W))=false:=by rw [hI,List.drop_eq_nil_of_le (by omega)];rfl
   rw [h1,if_neg (by decide)] at e0
   have co:=zoy (T:=T) m.val m.W (by omega)
   have c2:=c2 (by omega)
   (repeat' ((conv=>whnf);first|(refine vI ?_ ?_<;>intro hc)|refine vT ?_|refine vX ?_|refine yD co ⟨⟨rfl,rfl⟩,⟨rfl,rfl⟩,rfl⟩ rfl ?_|refine yD c2 (by (repeat refine ⟨⟨rfl,rfl⟩,?_⟩);rfl) rfl ?_));all_goals try conv=>whnf
   ·rw [e0,if_pos ‹_›]
   ·rw [e0,if_neg (by simp [‹m.val.any (bad m.W)=false›]),if_pos ‹_›]
   ·rw [e0,if_neg (by simp [‹m.val.any (bad m.W)=false›]),if_neg (by simp [‹(m.rel.any fun x=>x.any (bad m.W))=false›])]
def zgw (m:KM) (w:Int):Int:=if za m≠0∨w < 0∨m.W≤w then -1 else zF m w.toNat
theorem zgx {m:KM} (hc:za m=0) {w:Nat} (hw:w < m.W.toNat):zgw m (w:Int)=zF m w:=by
 unfold zgw;rw [if_neg (by omega)];rfl
theorem zg8 (m:KM) (w:Int):Fn Tryz.prog T zfm [.d (dKM m),.d (.int .i64 w)] [] (.d (.int .i64 (zgw m w))) []:=by
 refine zb zm zsU (by show 2≤40;decide) ?_
 (repeat' ((conv=>whnf);first|refine vA ?_|((first|refine vD ?_ ?_|refine vF ?_ ?_)<;>intro hc<;>try simp only [vL] at hc)|refine vJ fun hg=>?_|refine vT ?_|refine vX ?_|refine yD (zaY m) ⟨⟨rfl,rfl⟩,rfl⟩ rfl ?_));all_goals try conv=>whnf
 ·rw [zgw,if_pos (by omega)]
 ·rw [zgw,if_pos (by omega)]
 ·rw [zgw,if_pos (by omega)]
 ·have hc0:za m=0:=by omega
  have hg0:=zn hc0
  have w2:=hg0.w2
  have v8:=hg0.v8
  refine zf (fun ((k,f):Nat×Int)=>[(1,.d (.int .i64 (w))),(5,.d (.int .i64 (f))),(22,.d (dU m.val)),(23,.d (.int .i64 ((m.val.map D.u64).length:Int))),(24,.d (.int .i64 ((k:Int))))]) (fun ((k,f):Nat×Int)=>[(0,some (zR m))]) 1 (fun ((k,f):Nat×Int)=>k≤m.val.length∧f=(zax m.val w.toNat k:Int)) (fun ((k,f):Nat×Int)=>m.val.length - k) ((0,0)) [(0,0)] [] (⟨by simp,rfl⟩) (by (refine ⟨rfl,rfl,rfl,?_,?_⟩;repeat' first|exact trivial|exact rfl|refine And.intro ?_ ?_|refine ⟨_,rfl,?_⟩|decide)) ?_
  rintro ⟨k,f⟩ ⟨hk,hI⟩
  subst hI
  by_cases hkl:k < m.val.length
  ·obtain ⟨s,hs⟩ : ∃ s,m.val[k]? = some s:=⟨_,List.getElem?_eq_getElem hkl⟩
   have hw:w=((w.toNat:Nat):Int):=by omega
   have bs:(s >>> w.toNat&&&(1:BitVec 64)).toNat≤1:=zxJ s _
   have hor:=zzZ (w:=w.toNat) hs (by omega)
   have hsh:0≤(((s >>> w.toNat&&&(1:BitVec 64)).toNat:Int)) * 2 ^ (min (k:Int).toNat IntKind.i64.bits)∧(((s >>> w.toNat&&&(1:BitVec 64)).toNat:Int)) * 2 ^ (min (k:Int).toNat IntKind.i64.bits)≤9223372036854775807:=zy2 bs (by omega)
   (repeat' ((conv=>whnf);first|refine vA ?_|(refine vF ?_ ?_<;>intro hc<;>try simp only [vL] at hc)|refine vT ?_|refine vN ‹_› ?_|((first|refine vO ?_ ?_|refine vP ?_ ?_);·omega)|refine vX ?_));all_goals try conv=>whnf
   ·refine ⟨(k+1,_),[(0,0)],[],?_,?_,by (refine ⟨rfl,rfl,rfl,?_,?_⟩;repeat' first|exact trivial|exact rfl|refine And.intro ?_ ?_|refine ⟨_,rfl,?_⟩|decide)⟩
    ·exact ⟨by (omega),hor⟩
    ·((simp only [vM] at *;omega))
   all_goals omega
  ·(repeat' ((conv=>whnf);first|refine vA ?_|(refine vF ?_ ?_<;>intro hc<;>try simp only [vL] at hc)|refine vT ?_|(refine vQ ?_ fun x hx=>?_;·omega)|((first|refine vO ?_ ?_|refine vP ?_ ?_);·omega)|refine vX ?_));all_goals try conv=>whnf
   ·omega
   ·unfold zgw
    rw [if_neg (by omega),show k=m.val.length by omega];rfl
abbrev dN (l:List Nat):D:=dI (l.map fun (x:Nat)=>(x:Int))
theorem zve (hT:zbV T) (s:BitVec 64):Fn Tryz.prog T ziZ [.d (.u64 s)] [] (.d (dN (zD s))) []:=by
 refine zb zm zqE (by show 1≤16;decide) ?_
 (repeat' ((conv=>whnf);first|refine vA ?_|refine vT ?_));all_goals try conv=>whnf
 refine zf (fun ((r,zs):BitVec 64×List D)=>[(0,.d (.u64 (r))),(3,.own 0)]) (fun ((r,zs):BitVec 64×List D)=>[(0,some (.row 1 zs))]) 1 (fun ((r,zs):BitVec 64×List D) => ∃ l:List Nat,zs=l.map (fun (x:Nat)=>D.int .i64 (x:Int))∧zD s=l++zD r) (fun ((r,zs):BitVec 64×List D)=>(zD r).length) ((s,[])) []   [0] (⟨[],rfl,rfl⟩) (by (refine ⟨rfl,rfl,rfl,?_,?_⟩;repeat' first|exact trivial|exact rfl|exact ⟨_,rfl⟩|refine And.intro ?_ ?_|decide)) ?_
 rintro ⟨r,zs⟩ ⟨l,rfl,hI⟩
 by_cases hr:r=0#64
 ·subst hr
  (repeat' ((conv=>whnf);first|refine vA ?_|refine vH ?_|refine vT ?_));all_goals try conv=>whnf
  rw [hI,zcP,List.append_nil]
  show some (D.arr 1 _)=some (D.arr 1 _)
  rw [List.map_map];rfl
 ·have hb:=zgN r hr
  have hl:=congrArg List.length hI
  have hlen:(zD s).length≤64:=by unfold zD;have:=List.length_filter_le (fun i=>s.getLsbD i) (List.range 64);simpa using this
  rw [List.length_append] at hl
  (repeat' ((conv=>whnf);first|refine vA ?_|(refine vD ?_ ?_<;>intro hc)|refine vT ?_|(refine vP ?_ ?_;·(simp only [vM] at *;omega))|refine yD (hT r) (by (repeat refine ⟨⟨rfl,rfl⟩,?_⟩);rfl) rfl ?_));all_goals try conv=>whnf
  ·refine ⟨(r&&&(r - 1#64),_),[(0,2)],[],?_,?_,by (refine ⟨rfl,rfl,rfl,?_,?_⟩;repeat' first|exact trivial|exact rfl|refine And.intro ?_ ?_|refine ⟨_,rfl,?_⟩|decide)⟩
   ·exact ⟨l++[Lib.ctz 64 r.toNat],by simp,by rw [hI,hb];simp⟩
   ·show (zD (r&&&(r - 1#64))).length < (zD r).length
    rw [hb];simp
  ·exact absurd ‹r=0› hr
theorem ztV (s:BitVec 64) (l:List Nat) (hl:l.length≤64):Fn Tryz.prog T zmN [.d (.u64 s),.d (dN l)] [] (.d (.u64 (z6 s l))) []:=by
 refine zb zm zt4 (by show 2≤25;decide) ?_
 (repeat' ((conv=>whnf);first|refine vA ?_|refine vJ fun hg=>?_|refine vT ?_));all_goals try conv=>whnf
 refine zM (fun ((k,o):Nat×BitVec 64)=>[(0,.d (.u64 (s))),(5,.d (.u64 (o))),(8,.d (dN l)),(9,.d (.int .i64 (((l.map fun (x:Nat)=>(x:Int)).map (D.int .i64)).length:Int))),(10,.d (.int .i64 ((k:Int))))]) (fun ((k,o):Nat×BitVec 64)=>k≤l.length∧o=zau (fun i=>s.getLsbD (l.getD i 0)) k) (fun ((k,o):Nat×BitVec 64)=>l.length - k) ((0,0#64)) (⟨by simp,rfl⟩) (by (repeat' first|exact trivial|exact rfl|refine And.intro ?_ ?_)) ?_
 rintro ⟨k,o⟩ ⟨hk,hI⟩
 by_cases hkl:k < l.length
 ·have e1:(l.map fun (x:Nat)=>(x:Int))[k]? = some ((l.getD k 0:Nat):Int):=by simp [hkl]
  (repeat' ((conv=>whnf);first|refine vA ?_|(refine vF ?_ ?_<;>intro hc<;>try simp only [vL] at hc)|refine vT ?_|refine vN ‹_› ?_|((first|refine vO ?_ ?_|refine vP ?_ ?_);·omega)|refine vY ?_));all_goals try conv=>whnf
  ·refine ⟨(k+1,_),[],[],?_,?_,by (refine ⟨rfl,rfl,rfl,?_,?_⟩;repeat' first|exact trivial|exact rfl|refine And.intro ?_ ?_)⟩
   ·refine ⟨by omega,?_⟩
    rw [zau,hI]
    show _|||(s >>> (l.getD k 0)&&&1#64) <<< k=_
    by_cases hb:s.getLsbD (l.getD k 0)=true
    ·rw [(zfA _ _).2 hb,if_pos hb]
    ·rw [(zoX _ _).2 (by simpa using hb),if_neg hb,BitVec.zero_shiftLeft,BitVec.or_zero]
   ·((simp only [vM] at *;omega))
  ·omega
 ·(repeat' ((conv=>whnf);first|refine vA ?_|(refine vF ?_ ?_<;>intro hc<;>try simp only [vL] at hc)|refine vT ?_|(refine vQ ?_ fun x hx=>?_;·omega)|((first|refine vO ?_ ?_|refine vP ?_ ?_);·omega)|refine vY ?_));all_goals try conv=>whnf
  ·omega
  ·rw [hI,show k=l.length by omega];rfl
theorem zeJ {l:List Nat} {k:Nat} (h:k < l.length):(l.map fun (x:Nat)=>(x:Int))[k]? = some ((l.getD k 0:Nat):Int):=by simp [h]
abbrev zer (l:List Nat):Nat:=((l.map fun (x:Nat)=>(x:Int)).map (D.int .i64)).length
theorem zhL (l:List Nat):zer l=l.length:=by simp [zer]
theorem zwJ (m:KM) (l:List Nat) (hl:l.length≤64) (hr : ∀ r∈m.rel,∀ w∈l,w < r.length) (hv:m.val.length≤8) (hrl:m.rel.length≤4):Fn Tryz.prog T zf0 [.d (dKM m),.d (dN l)] [] (.d (dKM (zA m l))) []:=by
 refine zb zm zqD (by show 2≤63;decide) ?_
 (repeat' ((conv=>whnf);first|refine vA ?_|refine vJ fun hg=>?_|refine vT ?_));all_goals try conv=>whnf
 refine zf (fun ((k,zs):Nat×List D)=>[(1,.d (dN l)),(2,.ptr 0 0),(4,.ptr 1 0),(5,.ptr 2 0),(17,.d (dU m.val)),(18,.d (.int .i64 ((m.val.map D.u64).length:Int))),(19,.d (.int .i64 ((k:Int))))]) (fun ((k,zs):Nat×List D)=>[(0,some (zR m)),(1,some (.box [.d (.int .i64 0),.nils 1,.nils 1])),(2,some (.box [.d (.int .i64 (zer l:Int)),.own 3,.nils 1])),(3,some (.row 1 zs))]) 4 (fun ((k,zs):Nat×List D)=>k≤m.val.length∧zs=(m.val.take k).map fun s=>D.u64 (z6 s l)) (fun ((k,zs):Nat×List D)=>m.val.length - k) ((0,[])) [(0,0),(1,1),(2,2)]   [3] (⟨by simp,by simp⟩) (by (refine ⟨rfl,rfl,rfl,?_,?_⟩;repeat' first|exact trivial|exact rfl|exact ⟨_,rfl⟩|refine And.intro ?_ ?_|refine ⟨_,rfl,?_⟩|decide)) ?_
 rintro ⟨k,zs⟩ ⟨hk,hz⟩
 have hzl:zs.length≤8:=by rw [hz];simp;omega
 by_cases hkl:k < m.val.length
 ·obtain ⟨s,hs⟩ : ∃ s,m.val[k]? = some s:=⟨_,List.getElem?_eq_getElem hkl⟩
  (repeat' ((conv=>whnf);first|refine vA ?_|(refine vF ?_ ?_<;>intro hc<;>try simp only [vL] at hc)|refine vJ fun hg=>?_|refine vT ?_|refine vN ‹_› ?_|((first|refine vO ?_ ?_|refine vP ?_ ?_);·first|omega|(simp only [vM] at *;omega))|(refine vU ?_ ?_;·kernel_rfl)|refine yD (ztV s l hl) ⟨⟨rfl,rfl⟩,⟨rfl,rfl⟩,rfl⟩ rfl ?_));all_goals try conv=>whnf
  ·refine ⟨(k+1,_),[(0,0),(1,1),(2,2),(3,5)],[],?_,?_,by (refine ⟨rfl,rfl,rfl,?_,?_⟩;repeat' first|exact trivial|exact rfl|refine And.intro ?_ ?_|refine ⟨_,rfl,?_⟩|decide)⟩
   ·exact ⟨by omega,by rw [List.take_add_one,hs,hz];simp⟩
   ·((simp only [vM] at *;omega))
  all_goals omega
 ·have hzz:zs=m.val.map fun s=>D.u64 (z6 s l):=by rw [hz,List.take_of_length_le (by omega)]
  clear hz
  subst hzz
  (repeat' ((conv=>whnf);first|refine vA ?_|(refine vF ?_ ?_<;>intro hc<;>try simp only [vL] at hc)|refine vJ fun hg=>?_|refine vT ?_|(refine vQ ?_ fun x hx=>?_;·omega)|fail));all_goals try conv=>whnf
  ·omega
  refine zf (fun ((k,zs):Nat×List D)=>[(1,.d (dN l)),(4,.ptr 1 0),(5,.ptr 2 0),(33,.d (dUU m.rel)),(34,.d (.int .i64 ((m.rel.map dU).length:Int))),(35,.d (.int .i64 ((k:Int))))]) (fun ((k,zs):Nat×List D)=>[(1,some (.box [.d (.int .i64 0),.nils 1,.nils 1])),(2,some (.box [.d (.int .i64 (zer l:Int)),.own 3,.own 4])),(3,some (.row 1 (m.val.map fun s=>D.u64 (z6 s l)))),(4,some (.row 1 zs))]) 5 (fun ((k,zs):Nat×List D)=>k≤m.rel.length∧zs=(m.rel.take k).map fun r=>dU (l.map fun w=>z6 (r.getD w 0#64) l)) (fun ((k,zs):Nat×List D)=>m.rel.length - k) ((0,[])) [(1,1),(2,2),(3,3)]   [4] (⟨by simp,by simp⟩) (by (refine ⟨rfl,rfl,rfl,?_,?_⟩;repeat' first|exact trivial|exact rfl|exact ⟨_,rfl⟩|refine And.intro ?_ ?_|refine ⟨_,rfl,?_⟩|decide)) ?_
  rintro ⟨k,zs⟩ ⟨hk,hz⟩
  have hzl:zs.length≤4:=by rw [hz];simp;omega
  by_cases hkl:k < m.rel.length
  ·obtain ⟨r,hrr⟩ : ∃ r,m.rel[k]? = some r:=⟨_,List.getElem?_eq_getElem hkl⟩
   have hrw:=hr r (List.mem_of_getElem? hrr)
   (repeat' ((conv=>whnf);first|refine vA ?_|(refine vF ?_ ?_<;>intro hc<;>try simp only [vL] at hc)|refine vJ fun hg=>?_|refine vT ?_|refine vN ‹_› ?_));all_goals try conv=>whnf
   ·refine zf (fun ((j,ys):Nat×List D)=>[(1,.d (dN l)),(4,.ptr 1 0),(5,.ptr 2 0),(9,.d (dU r)),(10,.own 5),(33,.d (dUU m.rel)),(34,.d (.int .i64 ((m.rel.map dU).length:Int))),(35,.d (.int .i64 ((k:Int)))),(39,.d (dN l)),(40,.d (.int .i64 (((l.map fun (x:Nat)=>(x:Int)).map (D.int .i64)).length:Int))),(41,.d (.int .i64 ((j:Int))))]) (fun ((j,ys):Nat×List D)=>[(1,some (.box [.d (.int .i64 0),.nils 1,.nils 1])),(2,some (.box [.d (.int .i64 (zer l:Int)),.own 3,.own 4])),(3,some (.row 1 (m.val.map fun s=>D.u64 (z6 s l)))),(4,some (.row 1 zs)),(5,some (.row 1 ys))]) 6 (fun ((j,ys):Nat×List D)=>j≤l.length∧ys=(l.take j).map fun w=>D.u64 (z6 (r.getD w 0#64) l)) (fun ((j,ys):Nat×List D)=>l.length - j) ((0,[])) [(1,1),(2,2),(3,3),(4,4)]   [5] (⟨by simp,by simp⟩) (by (refine ⟨rfl,rfl,rfl,?_,?_⟩;repeat' first|exact trivial|exact rfl|exact ⟨_,rfl⟩|refine And.intro ?_ ?_|refine ⟨_,rfl,?_⟩|decide)) ?_
    rintro ⟨j,ys⟩ ⟨hj,hy⟩
    have hyl:ys.length≤64:=by rw [hy];simp;omega
    by_cases hjl:j < l.length
    ·have e1:=zeJ hjl
     have e2:=hrw _ (zdF hjl)
     have e3:r[l.getD j 0]? = some (r.getD (l.getD j 0) 0#64):=zbw e2
     (repeat' ((conv=>whnf);first|refine vA ?_|(refine vF ?_ ?_<;>intro hc<;>try simp only [vL] at hc)|refine vT ?_|refine vN ‹_› ?_|((first|refine vO ?_ ?_|refine vP ?_ ?_);·first|omega|(simp only [vM] at *;omega))|refine yD (ztV (r.getD (l.getD j 0) 0#64) l hl) ⟨⟨rfl,rfl⟩,⟨rfl,rfl⟩,rfl⟩ rfl ?_));all_goals try conv=>whnf
     ·refine ⟨(j+1,_),[(1,1),(2,2),(3,3),(4,4),(5,7)],[],?_,?_,by (refine ⟨rfl,rfl,rfl,?_,?_⟩;repeat' first|exact trivial|exact rfl|refine And.intro ?_ ?_|refine ⟨_,rfl,?_⟩|decide)⟩
      ·exact ⟨by omega,by rw [List.take_add_one,hy,zbw (d:=0) hjl];simp⟩
      ·((simp only [vM] at *;omega))
     ·omega
    ·(repeat' ((conv=>whnf);first|refine vA ?_|(refine vF ?_ ?_<;>intro hc<;>try simp only [vL] at hc)|refine vT ?_|(refine vQ ?_ fun x hx=>?_;·omega)|((first|refine vO ?_ ?_|refine vS ?_ fun x hx=>?_|refine vP ?_ ?_);·first|omega|(simp only [vM] at *;omega))|fail));all_goals try conv=>whnf
     ·omega
     ·have hyy:ys=l.map fun w=>D.u64 (z6 (r.getD w 0#64) l):=by rw [hy,List.take_of_length_le (by omega)]
      refine ⟨(k+1,_),[(1,1),(2,2),(3,3),(4,7)],[],?_,?_,by (refine ⟨rfl,rfl,rfl,?_,?_⟩;repeat' first|exact trivial|exact rfl|refine And.intro ?_ ?_|refine ⟨_,rfl,?_⟩|decide)⟩
      ·refine ⟨by omega,?_⟩
       rw [List.take_add_one,hrr,hz,hyy];simp
      ·((simp only [vM] at *;omega))
   all_goals omega
  ·(repeat' ((conv=>whnf);first|refine vA ?_|(refine vF ?_ ?_<;>intro hc<;>try simp only [vL] at hc)|refine vJ fun hg=>?_|refine vT ?_|(refine vQ ?_ fun x hx=>?_;·omega)|fail));all_goals try conv=>whnf
   ·omega
   ·have hzz:zs=m.rel.map fun r=>dU (l.map fun w=>z6 (r.getD w 0#64) l):=by rw [hz,List.take_of_length_le (by omega)]
    subst hzz
    refine congrArg some (show D.agg [.int .i64 (zer l:Int),.arr 1 (m.val.map fun s=>D.u64 (z6 s l)),.arr 1 (m.rel.map fun r=>dU (l.map fun w=>z6 (r.getD w 0#64) l))]=dKM (zA m l) from ?_)
    rw [zhL]
    simp [zA,Function.comp_def]
theorem ztY {m:KM} (hc:za m=0) {l:List Nat} (h : ∀ w∈l,w < m.W.toNat) : ∀ r∈m.rel,∀ w∈l,w < r.length:=fun r hr w hw=>by
 have hg:=zn hc
 have:=hg.len r hr
 have:=h w hw
 have:=hg.w1
 omega
theorem zox {m:KM} (hc:za m=0) {l:List Nat} (hl:l.length≤64) (h : ∀ w∈l,w < m.W.toNat):Fn Tryz.prog T zf0 [.d (dKM m),.d (dN l)] [] (.d (dKM (zA m l))) [] :=
 zwJ m l hl (ztY hc h) (zn hc).v8 (zn hc).n4
theorem zkS (s:BitVec 64):(zD s).length≤64:=by
 unfold zD;have:=List.length_filter_le (fun i=>s.getLsbD i) (List.range 64);simpa using this
theorem zqt {m:KM} (hc:za m=0) {s:BitVec 64} (hs : ∀ v,s.getLsbD v=true→v < m.W.toNat):s &&& ~~~(zhY m.W)=0#64:=by
 have w1:=(zn hc).w1
 have:=(zhG (n:=m.W) (s:=s) (by omega)).2 hs
 simpa [bad] using this
theorem zmW (hT:zbV T) {m:KM} (hk0:za m=0) {s:BitVec 64} (h0:s≠0#64) (hs : ∀ v,s.getLsbD v=true→v < m.W.toNat):Fn Tryz.prog T zid [.d (dKM m),.d (.u64 s)] [] (.d (.tup [dKM (zA m (zD s)),dN (zD s),.int .i64 0])) []:=by
 have w1:=(zn hk0).w1
 have h1:=zqt hk0 hs
 have cc:=zaY (T:=T) m
 rw [hk0] at cc
 refine zb zm zpm (by show 2≤31;decide) ?_
 (repeat' ((conv=>whnf);first|refine vA ?_|refine vH ?_|((first|refine vD ?_ ?_|refine vF ?_ ?_)<;>intro hc)|refine vT ?_|refine yD cc ⟨⟨rfl,rfl⟩,rfl⟩ rfl ?_|refine yD (zrr m.W (by omega)) ⟨⟨rfl,rfl⟩,rfl⟩ rfl ?_|refine yN (zve hT s) ⟨⟨rfl,rfl⟩,rfl⟩ ?_|refine yN (zox hk0 (zkS s) (fun w hw=>hs w (zhC.1 hw))) (by (repeat refine ⟨⟨rfl,rfl⟩,?_⟩);rfl) ?_));all_goals try conv=>whnf
 ·exact absurd h1 ‹_›
 ·exact absurd ‹s=0› h0
 ·rfl
theorem zlV (hT:zbV T) {m:KM} (hk0:za m=0) {f:BitVec 64} (hf : ∀ v,f.getLsbD v=true→v < m.W.toNat):Fn Tryz.prog T zhq [.d (dKM m),.d (.u64 f)] [] (.d (.tup [.u64 (zeo m f),.int .i64 0])) []:=by
 have hg0:=zn hk0
 have w1:=hg0.w1
 have w2:=hg0.w2
 have n4:=hg0.n4
 have h1:=zqt hk0 hf
 have cc:=zaY (T:=T) m
 rw [hk0] at cc
 refine zb zm zoe (by show 2≤56;decide) ?_
 (repeat' ((conv=>whnf);first|refine vA ?_|refine vH ?_|(refine vD ?_ ?_<;>intro hc)|refine vT ?_|refine yD cc ⟨⟨rfl,rfl⟩,rfl⟩ rfl ?_|refine yD (zrr m.W (by omega)) ⟨⟨rfl,rfl⟩,rfl⟩ rfl ?_));all_goals try conv=>whnf
 ·exact absurd h1 ‹_›
 refine zf (fun ((o,t):BitVec 64×BitVec 64)=>[(2,.ptr 0 0),(7,.d (.u64 (o))),(8,.d (.u64 (t)))]) (fun ((o,t):BitVec 64×BitVec 64)=>[(0,some (zR m))]) 1 (fun ((o,t):BitVec 64×BitVec 64)=>zq8 m f o t) (fun ((o,t):BitVec 64×BitVec 64)=>64 - zmD o t) ((f,f)) [(0,0)] [] (zwZ hf) (by (refine ⟨rfl,rfl,rfl,?_,?_⟩;repeat' first|exact trivial|exact rfl|refine And.intro ?_ ?_|refine ⟨_,rfl,?_⟩|decide)) ?_
 rintro ⟨o,t⟩ hI
 by_cases ht:t=0#64
 ·subst ht
  (repeat' ((conv=>whnf);first|refine vA ?_|refine vH ?_|refine vT ?_));all_goals try conv=>whnf
  rw [hI.done hk0];rfl
 ·obtain ⟨l1,l2,l3,l4⟩:=zvY t ht
  have hwo:=hI.tod _ l2
  have hwn:=(hI.gs.inn _ hwo).lt
  have cz:=hT t
  generalize Lib.ctz 64 t.toNat=w at l1 l2 l3 l4 hwo hwn cz
  (repeat' ((conv=>whnf);first|refine vA ?_|(refine vD ?_ ?_<;>intro hc)|refine vJ fun hg=>?_|refine vT ?_|refine yD cz (by (repeat refine ⟨⟨rfl,rfl⟩,?_⟩);rfl) rfl ?_));all_goals try conv=>whnf
  ·refine zf (fun ((k,o2,t2):Nat×BitVec 64×BitVec 64)=>[(2,.ptr 0 0),(7,.d (.u64 (o2))),(8,.d (.u64 (t2))),(9,.d (.int .i64 ((w:Int)))),(34,.d (dUU m.rel)),(35,.d (.int .i64 ((m.rel.map dU).length:Int))),(36,.d (.int .i64 ((k:Int))))]) (fun ((k,o2,t2):Nat×BitVec 64×BitVec 64)=>[(0,some (zR m))]) 1 (fun ((k,o2,t2):Nat×BitVec 64×BitVec 64)=>k≤m.rel.length∧zoQ m o t w k o2 t2) (fun ((k,o2,t2):Nat×BitVec 64×BitVec 64)=>m.rel.length - k) ((0,o,t&&&t - 1#64)) [(0,0)] [] (⟨by simp,zw0 l4⟩) (by (refine ⟨rfl,rfl,rfl,?_,?_⟩;repeat' first|exact trivial|exact rfl|refine And.intro ?_ ?_|refine ⟨_,rfl,?_⟩|decide)) ?_
   rintro ⟨k,o2,t2⟩ ⟨hk,hK⟩
   by_cases hkl:k < m.rel.length
   ·obtain ⟨r,hr⟩ : ∃ r,m.rel[k]? = some r:=⟨_,List.getElem?_eq_getElem hkl⟩
    have hrl:=hg0.len r (List.mem_of_getElem? hr)
    obtain ⟨x,hx⟩ : ∃ x,r[w]? = some x:=⟨_,List.getElem?_eq_getElem (by omega)⟩
    (repeat' ((conv=>whnf);first|refine vA ?_|(refine vF ?_ ?_<;>intro hc<;>try simp only [vL] at hc)|refine vT ?_|refine vN ‹_› ?_|(refine vO ?_ ?_;·omega)|fail));all_goals try conv=>whnf
    ·refine ⟨(k+1,_,_),[(0,0)],[],?_,?_,by (refine ⟨rfl,rfl,rfl,?_,?_⟩;repeat' first|exact trivial|exact rfl|refine And.intro ?_ ?_|refine ⟨_,rfl,?_⟩|decide)⟩
     ·exact ⟨by omega,hK.next hr hx⟩
     ·((simp only [vM] at *;omega))
    ·omega
   ·(repeat' ((conv=>whnf);first|refine vA ?_|(refine vF ?_ ?_<;>intro hc<;>try simp only [vL] at hc)|refine vT ?_|refine vN ‹_› ?_|(refine vQ ?_ fun x hx=>?_;·omega)|(refine vO ?_ ?_;·omega)|fail));all_goals try conv=>whnf
    ·omega
    ·have e0:k=m.rel.length:=by omega
     subst e0
     have hE:=hK.end' hk0 hI l2
     have hb:=zBy o2 t2
     refine ⟨(_,_),[(0,0)],[],?_,?_,by (refine ⟨rfl,rfl,rfl,?_,?_⟩;repeat' first|exact trivial|exact rfl|refine And.intro ?_ ?_|refine ⟨_,rfl,?_⟩|decide)⟩
     ·exact hE.1
     ·have:=hE.2
      show 64 - zmD o2 t2 < 64 - zmD o t
      omega
  ·exact absurd ‹t=0› ht
theorem zw3 {to:List Int} {k:Nat} (hk:k < to.length) (hn:at0 to k ∉ to.take k):to.idxOf (at0 to k)=k:=by
 have e:to=to.take k++at0 to k::to.drop (k+1):=by
  rw [← zt (zbT hk),List.take_append_drop]
 have hl:(to.take k).length=k:=by simp;omega
 generalize at0 to k=x at e hn
 generalize to.take k=a at e hn hl
 rw [e,List.idxOf_append,if_neg hn,List.idxOf_cons_self,hl];simp
structure zmn (to:List Int) (k:Nat) (s:BitVec 64) (zs:List D):Prop where
 le:k≤to.length
 rng : ∀ x∈to.take k,0≤x∧x < to.length
 nd:(to.take k).Nodup
 bit : ∀ x:Nat,x < 64→(s.getLsbD x=true↔(x:Int)∈to.take k)
 row:zs=(List.range to.length).map fun (x:Nat)=>D.int .i64 (if (x:Int)∈to.take k then (to.idxOf (x:Int):Int) else 0)
theorem zmn.next {to:List Int} (h64:to.length≤64) {k:Nat} {s:BitVec 64} {zs:List D} (h:zmn to k s zs) (hk:k < to.length) {x:Nat} (hx:to[k]? = some (x:Int)) (hx1:x < to.length) (hx2:s.getLsbD x=false) :
  zmn to (k+1) (s|||1#64 <<< x) (zs.set x (.int .i64 (k:Int))):=by
 have e0:at0 to k=(x:Int):=zaj hx
 have hn:(x:Int) ∉ to.take k:=fun hm=>by rw [(h.bit x (by omega)).2 hm] at hx2;cases hx2
 have hi:to.idxOf (x:Int)=k:=by rw [← e0];exact zw3 hk (by rw [e0];exact hn)
 have ht:to.take (k+1)=to.take k++[(x:Int)]:=by rw [List.take_add_one,hx];rfl
 refine ⟨by omega,fun y hy=>?_,?_,fun y hy=>?_,?_⟩
 ·rw [ht] at hy
  rcases List.mem_append.1 hy with hy|hy
  ·exact h.rng y hy
  ·simp only [List.mem_singleton] at hy;omega
 ·rw [ht]
  refine List.nodup_append.2 ⟨h.nd,by simp,fun a ha b hb e=>?_⟩
  simp only [List.mem_singleton] at hb
  subst hb;subst e;exact hn ha
 ·rw [ht,zqK (by omega),h.bit y hy,List.mem_append,List.mem_singleton]
  exact ⟨fun h=>h.elim .inl fun e => .inr (by omega),fun h=>h.elim .inl fun e => .inr (by omega)⟩
 ·rw [h.row]
  refine (zbL _).trans (zC fun u hu=>?_)
  rw [ht]
  by_cases e:u=x
  ·subst e;rw [if_pos rfl,if_pos (by simp),hi]
  ·rw [if_neg e]
   have:((u:Int)∈to.take k++[(x:Int)])↔(u:Int)∈to.take k:=by
    rw [List.mem_append,List.mem_singleton]
    exact ⟨fun h=>h.elim id fun e'=>absurd (by omega) e,.inl⟩
   by_cases h2:(u:Int)∈to.take k
   ·rw [if_pos h2,if_pos (this.2 h2)]
   ·rw [if_neg h2,if_neg (fun h=>h2 (this.1 h))]
theorem zmn.done {to:List Int} {s:BitVec 64} {zs:List D} (h:zmn to to.length s zs):za9 to to.length=true∧zs=(zde to to.length).map fun (x:Nat)=>D.int .i64 (x:Int):=by
 have h1:=h.rng;have h2:=h.nd;have h3:=h.row
 rw [List.take_length] at h1 h2 h3
 have hp:za9 to to.length=true:=zcV.2 ⟨rfl,h1,h2⟩
 refine ⟨hp,?_⟩
 rw [h3]
 unfold zde
 rw [List.map_map]
 exact zC fun u hu=>by rw [if_pos (zus hp hu)];rfl
theorem zmn.bad {to:List Int} {k:Nat} {s:BitVec 64} {zs:List D} (h:zmn to k s zs) (h64:to.length≤64) {x:Int} (hx:to[k]? = some x) (hb:x < 0∨(to.length:Int)≤x∨s.getLsbD x.toNat=true):za9 to to.length=false:=by
 rw [← Bool.not_eq_true]
 intro hp
 obtain ⟨h1,h2,h3⟩:=zcV.1 hp
 have hr:=h2 x (List.mem_of_getElem? hx)
 rcases hb with hb|hb|hb
 ·omega
 ·omega
 ·have hm:=(h.bit x.toNat (by omega)).1 hb
  rw [show ((x.toNat:Nat):Int)=x by omega] at hm
  obtain ⟨j,hj⟩:=List.getElem?_of_mem hm
  rw [List.getElem?_take] at hj
  split at hj
  ·rename_i hlt
   obtain ⟨a,a'⟩:=List.getElem?_eq_some_iff.1 hj
   obtain ⟨c,c'⟩:=List.getElem?_eq_some_iff.1 hx
   have:=(List.getElem_inj h3).1 (a'.trans c'.symm)
   omega
  ·cases hj
theorem zwN (m:KM) (to:List Int):Fn Tryz.prog T zj0 [.d (dKM m),.d (dI to)] [] (.d (dKI (zhl m to))) []:=by
 have cc:=zaY (T:=T) m
 refine zb zm zrv (by show 2≤61;decide) ?_
 (repeat' ((conv=>whnf);first|refine vA ?_|(refine vD ?_ ?_<;>intro hc<;>try simp only [vL] at hc)|refine vJ fun hg=>?_|refine vT ?_|(refine vP ?_ ?_;·omega)|refine yD cc ⟨⟨rfl,rfl⟩,rfl⟩ rfl ?_));all_goals try conv=>whnf
 ·rw [zhl,if_pos (by omega)];rfl
 ·have hk0:za m=0:=by omega
  have w1:=(zn hk0).w1
  rw [zhl,if_neg (by omega),if_neg (fun h=>by have:=(zcV.1 h).1;omega)];rfl
 ·have hk0:za m=0:=by omega
  have hg0:=zn hk0
  have w1:=hg0.w1
  have w2:=hg0.w2
  have h64:to.length≤64:=by omega
  have hW:m.W.toNat=to.length:=by omega
  (repeat' ((conv=>whnf);first|refine vA ?_|refine vJ fun hg=>?_|refine vT ?_|(refine vP ?_ ?_;·(simp only [vM] at *;omega))|fail));all_goals try conv=>whnf
  refine zf (fun ((k,s,zs):Nat×BitVec 64×List D)=>[(1,.d (dI to)),(2,.ptr 0 0),(4,.ptr 1 0),(7,.own 2),(8,.d (.u64 (s))),(26,.d (dI to)),(27,.d (.int .i64 ((to.map (D.int .i64)).length:Int))),(28,.d (.int .i64 ((k:Int))))]) (fun ((k,s,zs):Nat×BitVec 64×List D)=>[(0,some (zR m)),(1,some (.box [.d (.int .i64 0),.nils 1,.nils 1])),(2,some (.row 1 zs))]) 3 (fun ((k,s,zs):Nat×BitVec 64×List D)=>zmn to k s zs) (fun ((k,s,zs):Nat×BitVec 64×List D)=>to.length - k) ((0,0#64,List.replicate (((to.map (D.int .i64)).length:Int)).toNat (D.int .i64 0))) [(0,0),(1,1),(2,2)] [] (⟨by simp,by simp,by simp,by simp,by rw [List.length_map,Int.toNat_natCast,z2];simp⟩) (by (refine ⟨rfl,rfl,rfl,?_,?_⟩;repeat' first|exact trivial|exact rfl|refine And.intro ?_ ?_|refine ⟨_,rfl,?_⟩|decide)) ?_
  rintro ⟨k,s,zs⟩ hI
  have hle:=hI.le
  have hzl:zs.length=to.length:=by rw [hI.row];simp
  by_cases hkl:k < to.length
  ·obtain ⟨x,hx⟩ : ∃ x,to[k]? = some x:=⟨_,List.getElem?_eq_getElem hkl⟩
   have hb:(x < 0∨(to.length:Int)≤x∨s.getLsbD x.toNat=true)→(zaF,(1:Int))=zhl m to:=fun h=>by
    have:=hI.bad h64 hx h
    rw [zhl,if_neg (by omega),if_neg (by rw [hW,this];decide)]
   (repeat' ((conv=>whnf);first|refine vA ?_|(refine vF ?_ ?_<;>intro hc<;>try simp only [vL] at hc)|refine vJ fun hg=>?_|refine vT ?_|refine vN ‹_› ?_|((first|refine vO ?_ ?_|refine vP ?_ ?_);·omega)|fail));all_goals try conv=>whnf
   ·rw [← hb (.inl ‹_›)];rfl
   ·rw [← hb (.inr (.inl ‹_›))];rfl
   ·rw [← hb (.inr (.inr ((zfA _ _).1 ‹_›)))];rfl
   ·obtain ⟨y,rfl⟩ : ∃ y:Nat,x=(y:Int):=⟨x.toNat,by omega⟩
    refine ⟨(k+1,_,_),[(0,0),(1,1),(2,2)],[],?_,?_,by (refine ⟨rfl,rfl,rfl,?_,?_⟩;repeat' first|exact trivial|exact rfl|refine And.intro ?_ ?_|refine ⟨_,rfl,?_⟩|decide)⟩
    ·exact hI.next h64 hkl hx (by omega) (by rw [← Bool.not_eq_true];exact fun h=>absurd ((zfA _ _).2 h) ‹¬_=(1:BitVec 64)›)
    ·((simp only [vM] at *;omega))
   ·omega
  ·have e0:k=to.length:=by omega
   subst e0
   obtain ⟨d1,d2⟩:=hI.done
   have ca:=zox (T:=T) hk0 (l:=zde to to.length) (by rw [zkb];omega) (fun w hw=>by
    obtain ⟨i,hi,rfl⟩:=zlA hw
    rw [zkb] at hi
    have:=zt1 d1 hi;omega)
   have hz:zs=((zde to to.length).map fun (x:Nat)=>(x:Int)).map (D.int .i64):=by rw [d2,List.map_map];rfl
   clear d2 hI
   subst hz
   (repeat' ((conv=>whnf);first|refine vA ?_|(refine vF ?_ ?_<;>intro hc<;>try simp only [vL] at hc)|refine vJ fun hg=>?_|refine vT ?_|(refine vQ ?_ fun x hx=>?_;·omega)|((first|refine vO ?_ ?_|refine vP ?_ ?_);·omega)|refine yN ca ⟨⟨rfl,rfl⟩,⟨rfl,rfl⟩,rfl⟩ ?_));all_goals try conv=>whnf
   all_goals try (exfalso;omega)
   rw [zhl,if_neg (by omega),if_pos (by rw [hW];exact d1),hW];rfl
theorem zwG (a b:List (List (BitVec 64))):Fn Tryz.prog T zav [.d (dUU a),.d (dUU b),.d (.fn zda [])] [] (.d (.bool (a==b))) []:=by
 have c1 : ∀ x y:List (BitVec 64),Fn Tryz.prog T zda [.d (dU x),.d (dU y)] [] (.d (.bool (x==y))) []:=fun x y=>by
  refine zb zm zrw (by show 2≤8;decide) ?_
  (repeat' ((conv=>whnf);first|refine vT ?_|refine vZ ?_|refine yD (zmV _ _) ⟨⟨rfl,rfl⟩,⟨rfl,rfl⟩,rfl⟩ rfl ?_));all_goals try conv=>whnf
 refine zb zm zbN (by show 3≤32;decide) ?_
 (repeat' ((conv=>whnf);first|refine vA ?_|(refine vD ?_ ?_<;>intro hc<;>try simp only [vL] at hc)|refine vJ fun hg=>?_|refine vT ?_|refine vZ ?_));all_goals try conv=>whnf
 ·have:a≠b:=fun e=>hc (by rw [e])
  simp [this]
 ·refine zM (fun (k:Nat)=>[(1,.d (dUU b)),(2,.d (.fn zda [])),(15,.d (dUU a)),(16,.d (.int .i64 ((a.map dU).length:Int))),(17,.d (.int .i64 ((k:Int))))]) (fun (k:Nat)=>k≤a.length∧(a==b)=(a.drop k==b.drop k)) (fun (k:Nat)=>a.length - k) (0) (⟨by simp,by simp⟩) (by (repeat' first|exact trivial|exact rfl|refine And.intro ?_ ?_)) ?_
  rintro k ⟨hk,hI⟩
  (repeat' ((conv=>whnf);first|refine vA ?_|refine vE ?_|((first|refine vF ?_ ?_|refine vI ?_ ?_)<;>intro hc<;>try simp only [vL] at hc)|refine vT ?_|(refine vQ ?_ fun x hx=>?_;·omega)|(refine vO ?_ ?_;·omega)|refine vZ ?_|refine yD (c1 _ _) (by (repeat refine ⟨⟨rfl,rfl⟩,?_⟩);rfl) rfl ?_));all_goals try conv=>whnf
  ·exact ⟨k+1,[],[],⟨by (omega),by rw [hI,zt ‹a[k]? = some _›,zt ‹b[k]? = some _›];simp_all⟩,by (omega),by (refine ⟨rfl,rfl,rfl,?_,?_⟩;repeat' first|exact trivial|exact rfl|refine And.intro ?_ ?_)⟩
  ·rw [hI,zt ‹a[k]? = some _›,zt ‹b[k]? = some _›];simp_all
  ·rw [hI,List.drop_eq_nil_of_le (by omega),List.drop_eq_nil_of_le (by omega)];rfl
theorem zz4 (a b:KM):Fn Tryz.prog T zmM [.d (dKM a),.d (dKM b)] [] (.d (.bool (decide (a=b)))) []:=by
 have key:(decide (a.W=b.W)&&((a.val==b.val)&&(a.rel==b.rel)))=decide (a=b):=by
  rw [Bool.eq_iff_iff]
  simp only [Bool.and_eq_true,decide_eq_true_eq,beq_iff_eq]
  exact ⟨fun ⟨h1,h2,h3⟩=>by cases a;cases b;simp only at h1 h2 h3;subst h1 h2 h3;rfl,fun h=>by subst h;exact ⟨rfl,rfl,rfl⟩⟩
 refine zb zm zt3 (by show 2≤24;decide) ?_
 (repeat' ((conv=>whnf);first|refine vA ?_|((first|refine vF ?_ ?_|refine vI ?_ ?_)<;>intro hc)|refine vT ?_|refine vZ ?_|refine yD (zmV _ _) ⟨⟨rfl,rfl⟩,⟨rfl,rfl⟩,rfl⟩ rfl ?_|refine yD (zwG _ _) ⟨⟨rfl,rfl⟩,⟨rfl,rfl⟩,⟨rfl,rfl⟩,rfl⟩ rfl ?_));all_goals try conv=>whnf
 all_goals rw [← key];simp_all
end Go.Ab
