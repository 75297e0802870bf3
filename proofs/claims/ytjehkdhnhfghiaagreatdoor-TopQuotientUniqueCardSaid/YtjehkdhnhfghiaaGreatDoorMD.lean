/- A part of the proofs of this seat: functions and their contracts. -/
import Derived.Test.YtjehkdhnhfghiaaGreatDoorMC
import Derived.Test.YtjehkdhnhfghiaaGreatDoorProg
import Derived.Lib.TrailingZeros
import Derived.Sort.AssemblyPlain
import Derived.Shelf.Strconv.Itoa0
import Derived.Sort.WalkA14
set_option linter.unusedVariables false
set_option linter.unusedSimpArgs false
set_option linter.unusedSectionVars false
namespace Go.Ab.K
open Go
abbrev t:=Arg.t
abbrev c:=Arg.c
abbrev n (x:Int):V := .d (.int .i64 x)
abbrev u (x:BitVec 64):V := .d (.u64 x)
abbrev m (x:Nat):CO := .mv (.t x)
abbrev pf (x y:Nat):CO := .pick (.t x) (.t y) (.c .bf)
abbrev pt (x y:Nat):CO := .pick (.t x) (.c .bt) (.t y)
abbrev b (o:BinOp) (x y:Nat):CO := .bin o (.t x) (.t y)
abbrev bc (o:BinOp) (x:Nat) (y:V):CO := .bin o (.t x) (.c y)
abbrev l (x:Nat):CO := .load none (.t x)
abbrev la (k x:Nat):CO := .load (some k) (.t x)
abbrev f (o x:Nat):CO := .faddr o (.t x)
abbrev ia (s x i:Nat):CO := .iaddr s (.t x) (.t i)
abbrev e (x k:Nat):CO := .ext (.t x) k
abbrev ln (x:Nat):CO := .len (.t x)
abbrev o (d:Nat) (x:CO):COp:=⟨some d,none,x⟩
abbrev w (x:CO):COp:=⟨none,none,x⟩
abbrev g (d k:Nat) (v:Bool) (x:CO):COp:=⟨some d,some (k,v),x⟩
abbrev gw (k:Nat) (v:Bool) (x:CO):COp:=⟨none,some (k,v),x⟩
abbrev i (x:Nat) (p r:CC):CC := .cond (.t x) p r
def q:List CC→CC
 | [] => .skip
 | [x]=>x
 | x::y::r => .seq x (q (y::r))
end Go.Ab.K
namespace Go.Ab
open Go K
def zfS:Nat:=13
def zep:Nat:=14
def zcR:Nat:=15
def zhU:Nat:=16
def zjc:Nat:=17
def zfe:Nat:=18
def zeF:Nat:=19
def zgL:Nat:=20
def ziG:Nat:=21
def zdd:Nat:=22
def zhk:Nat:=41
def za3:Nat:=42
def zdx:Nat:=43
def zeW:Nat:=44
def zce:Nat:=45
def zc4:Nat:=46
def zhi:Nat:=47
def zf8:Nat:=48
def zY:Nat:=49
def zhj:Nat:=50
def zhA:Nat:=51
def zee:Nat:=53
def zeq:Nat:=54
def zga:Nat:=55
def zdL:Nat:=56
def zgb:Nat:=57
def zf9:Nat:=65
def zhf:Nat:=66
def zbg:Nat:=82
def zcF:Nat:=83
def zlj:Nat:=84
def zbn:Nat:=85
def zjQ:Nat:=86
def zhT:Nat:=87
def zf6:Nat:=88
def zbX:Nat:=89
def zaX:Nat:=90
def zd8:Nat:=92
def zaH:Nat:=93
def zcE:Nat:=99
def zaA:Nat:=100
def zbB:Nat:=120
def zhS:Nat:=121
def zdK:Nat:=122
def zfd:Nat:=123
def zf7:Nat:=124
def zbW:Nat:=125
def zed:Nat:=126
def zcQ:Nat:=127
def zdw:Nat:=128
def zc5:Nat:=152
def zcG:Nat:=153
def zc6:Nat:=154
def zhg:Nat:=155
def zfQ:Nat:=156
def zeu:Nat:=157
def zax:Nat:=158
def zhh:Nat:=164
def zfR:Nat:=183
def zcD:Nat:=184
def zZ:Nat:=185
def zam:Nat:=186
def zH:Nat:=187
def zz:Nat:=188
def zcd:Nat:=189
def zO:Nat:=190
def zet:Nat:=196
def za4:Nat:=208
def zdJ:Nat:=209
def zbm:Nat:=210
def zd7:Nat:=211
def zbl:Nat:=212
def zaB:Nat:=218
def zjF:CFn:=⟨41,[.tmp 4],(q [(.reg [o 2 (.box 3 (t 0)),o 4 (.mv (c .bf))]),
 (q [(.reg [o 6 (f 0 2),o 7 (l 6),o 8 (m 1),o 9 (b .gtr 7 8),o 10 (m 9),g 11 10 true (f 0 2),g 12 10 true (l 11),g 13 10 true (bc .leq 12 (n 64)),o 14 (pf 10 13),o 15 (m 14),g 16 15 false (f 1 2),g 17 15 false (l 16),g 18 15 false (ln 17),g 19 15 false (bc .gtr 18 (n 20)),o 20 (pt 15 19),o 21 (m 20),g 22 21 false (f 2 2),g 23 21 false (l 22),g 24 21 false (ln 23),g 25 21 false (bc .gtr 24 (n 10)),o 26 (pt 21 25)]),
 (i 26 (q [(.reg [o 4 (.mv (c .bf))]),
 .ret]) .skip)]),
 (q [(.reg [o 5 (.mv (c (n 0)))]),
 (.block 0 (.loop (q [(q [(.reg [o 27 (m 5),o 28 (f 2 2),o 29 (l 28),o 30 (ln 29),o 31 (b .lss 27 30)]),
 (i 31 .skip (.exit 0))]),
 (.block 1 (q [(.reg [o 34 (f 2 2),o 35 (l 34),o 36 (m 5),o 37 (ia 1 35 36),o 38 (l 37),o 39 (ln 38),o 40 (bc .gtr 39 (n 70))]),
 (i 40 (q [(.reg [o 4 (.mv (c .bf))]),
 .ret]) .skip)])),
 (.reg [o 32 (m 5),o 33 (bc .add 32 (n 1)),o 5 (m 33)])])))]),
 (.reg [o 4 (.mv (c .bt))]),
 .ret])⟩
def zo2:CFn:=⟨47,[.tmp 2],(q [(.reg [o 1 (.box 3 (t 0)),o 2 (.mv (c (n 0)))]),
 (q [(.reg [o 5 (f 0 1),o 6 (l 5),o 7 (bc .lss 6 (n 1)),o 8 (m 7),g 9 8 false (f 0 1),g 10 8 false (l 9),g 11 8 false (bc .gtr 10 (n 64)),o 12 (pt 8 11)]),
 (i 12 (q [(.reg [o 2 (.mv (c (n 2)))]),
 .ret]) .skip)]),
 (q [(.reg [o 13 (f 2 1),o 14 (l 13),o 15 (ln 14),o 16 (bc .gtr 15 (n 4)),o 17 (m 16),g 18 17 false (f 1 1),g 19 17 false (l 18),g 20 17 false (ln 19),g 21 17 false (bc .gtr 20 (n 8)),o 22 (pt 17 21)]),
 (i 22 (q [(.reg [o 2 (.mv (c (n 8)))]),
 .ret]) .skip)]),
 (q [(.reg [o 23 (f 2 1),o 24 (l 23),o 25 (ln 24),o 26 (.mv (c (n 0)))]),
 (.block 0 (.loop (q [(.reg [o 27 (b .lss 26 25)]),
 (i 27 .skip (.exit 0)),
 (.block 1 (q [(.reg [o 28 (ia 1 24 26),o 29 (l 28),o 4 (m 29)]),
 (.reg [o 30 (m 4),o 31 (ln 30),o 32 (f 0 1),o 33 (l 32),o 34 (b .neq 31 33)]),
 (i 34 (q [(.reg [o 2 (.mv (c (n 3)))]),
 .ret]) .skip)])),
 (.reg [o 35 (bc .add 26 (n 1)),o 26 (m 35)])])))]),
 (q [(.reg [o 36 (f 1 1),o 37 (l 36),o 38 (f 0 1),o 39 (l 38),o 40 (.call 41 [(t 37),(t 39)]),o 41 (m 40),g 42 41 false (f 2 1),g 43 41 false (l 42),g 44 41 false (.fnew zdx [(t 1)]),g 45 41 false (.call 42 [(t 43),(t 44)]),o 46 (pt 41 45)]),
 (i 46 (q [(.reg [o 2 (.mv (c (n 2)))]),
 .ret]) .skip)]),
 (.reg [o 2 (.mv (c (n 0)))]),
 .ret])⟩
def znI:CFn:=⟨61,[.cell 4 (some 3),.tmp 5],(q [(.reg [o 2 (.box 3 (t 0)),o 4 (.alloc [(n 0),(.nils 1),(.nils 1)]),o 5 (.mv (c (n 0)))]),
 (q [(.reg [o 11 (la 3 2),o 12 (.call 14 [(t 11)]),o 6 (m 12)]),
 (.reg [o 13 (m 6),o 14 (bc .neq 13 (n 0))]),
 (i 14 (q [(.reg [o 15 (.build [(n 0),(.nils 1),(.nils 1)] []),o 16 (m 6),w (.store 3 (t 4) (t 15)),o 5 (m 16)]),
 .ret]) .skip)]),
 (q [(.reg [o 17 (m 1),o 18 (ln 17),o 19 (f 0 2),o 20 (l 19),o 21 (b .neq 18 20)]),
 (i 21 (q [(.reg [o 22 (.build [(n 0),(.nils 1),(.nils 1)] []),w (.store 3 (t 4) (t 22)),o 5 (.mv (c (n 1)))]),
 .ret]) .skip)]),
 (.reg [o 23 (m 1),o 24 (ln 23),o 25 (.mkslice 1 8 [(n 0)] (t 24) (t 24)),o 7 (m 25)]),
 (.reg [o 8 (.mv (c (u 0)))]),
 (q [(.reg [o 26 (m 1),o 27 (ln 26),o 28 (.mv (c (n 0)))]),
 (.block 0 (.loop (q [(.reg [o 29 (b .lss 28 27)]),
 (i 29 .skip (.exit 0)),
 (.block 1 (q [(.reg [o 30 (m 28),o 31 (ia 1 26 28),o 32 (l 31),o 9 (m 30),o 10 (m 32)]),
 (q [(.reg [o 33 (m 10),o 34 (bc .lss 33 (n 0)),o 35 (m 34),g 36 35 false (m 10),g 37 35 false (m 1),g 38 35 false (ln 37),g 39 35 false (b .geq 36 38),o 40 (pt 35 39),o 41 (m 40),g 42 41 false (m 8),g 43 41 false (m 10),g 44 41 false (b .shr 42 43),g 45 41 false (bc .and 44 (u 1)),g 46 41 false (bc .eql 45 (u 1)),o 47 (pt 41 46)]),
 (i 47 (q [(.reg [o 48 (.build [(n 0),(.nils 1),(.nils 1)] []),w (.store 3 (t 4) (t 48)),o 5 (.mv (c (n 1)))]),
 .ret]) .skip)]),
 (.reg [o 49 (m 8),o 50 (m 10),o 51 (.bin .shl (c (u 1)) (t 50)),o 52 (b .or 49 51),o 8 (m 52)]),
 (.reg [o 53 (m 7),o 54 (m 10),o 55 (m 9),o 56 (ia 1 53 54),w (.store 1 (t 56) (t 55))])])),
 (.reg [o 57 (bc .add 28 (n 1)),o 28 (m 57)])])))]),
 (.reg [o 58 (la 3 2),o 59 (m 7),o 60 (.call 44 [(t 58),(t 59)]),w (.store 3 (t 4) (t 60)),o 5 (.mv (c (n 0)))]),
 .ret])⟩
def zo4:CFn:=⟨118,[.cell 4 (some 3),.tmp 5],(q [(.reg [o 2 (.box 3 (t 0)),o 3 (.box 3 (t 1)),o 4 (.alloc [(n 0),(.nils 1),(.nils 1)]),o 5 (.mv (c (n 0)))]),
 (q [(.reg [o 16 (la 3 2),o 17 (.call 14 [(t 16)]),o 6 (m 17)]),
 (.reg [o 18 (m 6),o 19 (bc .neq 18 (n 0))]),
 (i 19 (q [(.reg [o 20 (.build [(n 0),(.nils 1),(.nils 1)] []),o 21 (m 6),w (.store 3 (t 4) (t 20)),o 5 (m 21)]),
 .ret]) .skip)]),
 (q [(.reg [o 22 (la 3 3),o 23 (.call 14 [(t 22)]),o 7 (m 23)]),
 (.reg [o 24 (m 7),o 25 (bc .neq 24 (n 0))]),
 (i 25 (q [(.reg [o 26 (.build [(n 0),(.nils 1),(.nils 1)] []),o 27 (m 7),w (.store 3 (t 4) (t 26)),o 5 (m 27)]),
 .ret]) .skip)]),
 (q [(.reg [o 28 (f 2 2),o 29 (l 28),o 30 (ln 29),o 31 (f 2 3),o 32 (l 31),o 33 (ln 32),o 34 (b .neq 30 33),o 35 (m 34),g 36 35 false (f 1 2),g 37 35 false (l 36),g 38 35 false (ln 37),g 39 35 false (f 1 3),g 40 35 false (l 39),g 41 35 false (ln 40),g 42 35 false (b .neq 38 41),o 43 (pt 35 42)]),
 (i 43 (q [(.reg [o 44 (.build [(n 0),(.nils 1),(.nils 1)] []),w (.store 3 (t 4) (t 44)),o 5 (.mv (c (n 1)))]),
 .ret]) .skip)]),
 (q [(.reg [o 45 (f 0 2),o 46 (l 45),o 47 (f 0 3),o 48 (l 47),o 49 (b .add 46 48),o 50 (bc .gtr 49 (n 64))]),
 (i 50 (q [(.reg [o 51 (.build [(n 0),(.nils 1),(.nils 1)] []),w (.store 3 (t 4) (t 51)),o 5 (.mv (c (n 8)))]),
 .ret]) .skip)]),
 (.reg [o 52 (f 0 2),o 53 (l 52),o 54 (f 0 3),o 55 (l 54),o 56 (b .add 53 55),o 57 (.build [(n 0),(.nils 1),(.nils 1)] [(0,1,(t 56))]),o 8 (.alloc [(n 0),(.nils 1),(.nils 1)]),w (.store 3 (t 8) (t 57))]),
 (q [(.reg [o 58 (f 1 2),o 59 (l 58),o 60 (ln 59),o 61 (.mv (c (n 0)))]),
 (.block 0 (.loop (q [(.reg [o 62 (b .lss 61 60)]),
 (i 62 .skip (.exit 0)),
 (.block 1 (q [(.reg [o 63 (m 61),o 64 (ia 1 59 61),o 65 (l 64),o 9 (m 63),o 10 (m 65)]),
 (.regd [o 66 (f 1 8),o 67 (l 66),o 68 (m 10),o 69 (f 1 3),o 70 (l 69),o 71 (m 9),o 72 (ia 1 70 71),o 73 (l 72),o 74 (f 0 2),o 75 (l 74),o 76 (b .shl 73 75),o 77 (b .or 68 76),o 78 (.bslice 1 1 [(u 0)] [(0,(t 77))]),o 79 (.app 1 8 (t 67) (t 78)),o 80 (f 1 8),w (.store 1 (t 80) (t 79))] [0,1,0,0,8,0,56,120,0,256,1016,2044,4092,8191,16383,32767])])),
 (.reg [o 81 (bc .add 61 (n 1)),o 61 (m 81)])])))]),
 (q [(.reg [o 82 (f 2 2),o 83 (l 82),o 84 (ln 83),o 85 (.mv (c (n 0)))]),
 (.block 2 (.loop (q [(.reg [o 86 (b .lss 85 84)]),
 (i 86 .skip (.exit 2)),
 (.block 3 (q [(.reg [o 87 (m 85),o 88 (ia 1 83 85),o 89 (l 88),o 11 (m 87),o 12 (m 89)]),
 (.reg [o 90 (m 12),o 91 (.call 45 [(t 90)]),o 13 (m 91)]),
 (q [(.reg [o 92 (f 2 3),o 93 (l 92),o 94 (m 11),o 95 (ia 1 93 94),o 96 (l 95),o 97 (ln 96),o 98 (.mv (c (n 0)))]),
 (.block 4 (.loop (q [(.reg [o 99 (b .lss 98 97)]),
 (i 99 .skip (.exit 4)),
 (.block 5 (q [(.reg [o 100 (ia 1 96 98),o 101 (l 100),o 15 (m 101)]),
 (.reg [o 102 (m 13),o 103 (m 15),o 104 (f 0 2),o 105 (l 104),o 106 (b .shl 103 105),o 107 (.bslice 1 1 [(u 0)] [(0,(t 106))]),o 108 (.app 1 8 (t 102) (t 107)),o 13 (m 108)])])),
 (.reg [o 109 (bc .add 98 (n 1)),o 98 (m 109)])])))]),
 (.reg [o 110 (f 2 8),o 111 (l 110),o 112 (m 13),o 113 (.bslice 1 1 [(.nils 1)] [(0,(t 112))]),o 114 (.app 1 24 (t 111) (t 113)),o 115 (f 2 8),w (.store 1 (t 115) (t 114))])])),
 (.reg [o 116 (bc .add 85 (n 1)),o 85 (m 116)])])))]),
 (.reg [o 117 (la 3 8),w (.store 3 (t 4) (t 117)),o 5 (.mv (c (n 0)))]),
 .ret])⟩
def zjq:CFn:=⟨22,[.cell 2 (some 3),.tmp 3,.tmp 4],(q [(.reg [o 1 (.box 3 (t 0)),o 2 (.alloc [(n 0),(.nils 1),(.nils 1)]),o 3 (.mv (c (.nils 1))),o 4 (.mv (c (n 0)))]),
 (.reg [o 8 (la 3 1),o 9 (.call 46 [(t 8)]),o 7 (m 9),o 10 (e 7 0),o 11 (e 7 1),o 5 (m 10),o 6 (m 11)]),
 (q [(.reg [o 12 (m 6),o 13 (bc .neq 12 (n 0))]),
 (i 13 (q [(.reg [o 14 (.build [(n 0),(.nils 1),(.nils 1)] []),o 15 (m 6),w (.store 3 (t 2) (t 14)),o 3 (.mv (c (.nils 1))),o 4 (m 15)]),
 .ret]) .skip)]),
 (.reg [o 16 (la 3 1),o 17 (m 5),o 18 (.call 22 [(t 16),(t 17)]),o 19 (e 18 0),o 20 (e 18 1),o 21 (e 18 2),w (.store 3 (t 2) (t 19)),o 3 (m 20),o 4 (m 21)]),
 .ret])⟩
def zhL:CFn:=⟨34,[.tmp 4,.tmp 5],(q [(.reg [o 2 (.box 3 (t 0)),o 3 (.box 3 (t 1)),o 4 (.mv (c (.nils 1))),o 5 (.mv (c (n 0)))]),
 (q [(.reg [o 8 (la 3 2),o 9 (la 3 3),o 10 (.call 47 [(t 8),(t 9)]),o 6 (m 10)]),
 (.reg [o 11 (m 6),o 12 (bc .neq 11 (n 0))]),
 (i 12 (q [(.reg [o 13 (m 6),o 4 (.mv (c (.nils 1))),o 5 (m 13)]),
 .ret]) .skip)]),
 (q [(.reg [o 14 (f 0 2),o 15 (l 14),o 16 (bc .gtr 15 (n 12)),o 17 (m 16),g 18 17 false (f 0 3),g 19 17 false (l 18),g 20 17 false (bc .gtr 19 (n 12)),o 21 (pt 17 20)]),
 (i 21 (q [(.reg [o 4 (.mv (c (.nils 1))),o 5 (.mv (c (n 8)))]),
 .ret]) .skip)]),
 (.reg [o 7 (.alloc [(.nils 1)])]),
 (q [(.reg [o 22 (f 0 2),o 23 (l 22),o 24 (f 0 3),o 25 (l 24),o 26 (b .eql 23 25)]),
 (i 26 (.reg [o 27 (la 3 2),o 28 (la 3 3),o 29 (.fnew zY [(t 7)]),o 30 (.call 48 [(t 27),(t 28),(t 29)])]) .skip)]),
 (q [(.reg [o 31 (l 7),o 32 (.eqN false (t 31) (c (.nils 1)))]),
 (i 32 (q [(.reg [o 4 (.mv (c (.nils 1))),o 5 (.mv (c (n 6)))]),
 .ret]) .skip)]),
 (.reg [o 33 (l 7),o 4 (m 33),o 5 (.mv (c (n 0)))]),
 .ret])⟩
def zlM:CFn:=⟨66,[.tmp 6],(q [(.reg [o 3 (.box 3 (t 0)),o 4 (.box 3 (t 1)),o 6 (.mv (c (n 0)))]),
 (q [(.reg [o 12 (la 3 3),o 13 (la 3 4),o 14 (.call 47 [(t 12),(t 13)]),o 7 (m 14)]),
 (.reg [o 15 (m 7),o 16 (bc .neq 15 (n 0))]),
 (i 16 (q [(.reg [o 17 (m 7),o 6 (m 17)]),
 .ret]) .skip)]),
 (q [(.reg [o 18 (f 0 3),o 19 (l 18),o 20 (f 0 4),o 21 (l 20),o 22 (b .neq 19 21)]),
 (i 22 (q [(.reg [o 6 (.mv (c (n 1)))]),
 .ret]) .skip)]),
 (.reg [o 8 (.mv (c (u 0)))]),
 (q [(.reg [o 23 (m 2),o 24 (ln 23),o 25 (.mv (c (n 0)))]),
 (.block 0 (.loop (q [(.reg [o 26 (b .lss 25 24)]),
 (i 26 .skip (.exit 0)),
 (.block 1 (q [(.reg [o 27 (ia 1 23 25),o 28 (l 27),o 10 (m 28)]),
 (q [(.reg [o 29 (m 10),o 30 (bc .lss 29 (n 0)),o 31 (m 30),g 32 31 false (m 10),g 33 31 false (f 0 4),g 34 31 false (l 33),g 35 31 false (b .geq 32 34),o 36 (pt 31 35),o 37 (m 36),g 38 37 false (m 8),g 39 37 false (m 10),g 40 37 false (b .shr 38 39),g 41 37 false (bc .and 40 (u 1)),g 42 37 false (bc .eql 41 (u 1)),o 43 (pt 37 42)]),
 (i 43 (q [(.reg [o 6 (.mv (c (n 3)))]),
 .ret]) .skip)]),
 (.reg [o 44 (m 8),o 45 (m 10),o 46 (.bin .shl (c (u 1)) (t 45)),o 47 (b .or 44 46),o 8 (m 47)])])),
 (.reg [o 48 (bc .add 25 (n 1)),o 25 (m 48)])])))]),
 (q [(.reg [o 49 (m 2),o 50 (ln 49),o 51 (f 0 3),o 52 (l 51),o 53 (b .neq 50 52)]),
 (i 53 (q [(.reg [o 6 (.mv (c (n 3)))]),
 .ret]) .skip)]),
 (q [(.reg [o 54 (m 2),o 55 (ln 54),o 56 (.mv (c (n 0)))]),
 (.block 2 (.loop (q [(.reg [o 57 (b .lss 56 55)]),
 (i 57 .skip (.exit 2)),
 (.block 3 (q [(.reg [o 58 (m 56),o 11 (m 58)]),
 (.reg [o 59 (la 3 3),o 60 (la 3 4),o 61 (m 2),o 62 (m 11),o 63 (.call 50 [(t 59),(t 60),(t 61),(t 62)]),o 64 (.un .not (t 63))]),
 (i 64 (q [(.reg [o 6 (.mv (c (n 13)))]),
 .ret]) .skip)])),
 (.reg [o 65 (bc .add 56 (n 1)),o 56 (m 65)])])))]),
 (.reg [o 6 (.mv (c (n 0)))]),
 .ret])⟩
def zo5:CFn:=⟨134,[.cell 4 (some 3),.tmp 5,.tmp 6],(q [(.reg [o 2 (.box 3 (t 0)),o 4 (.alloc [(n 0),(.nils 1),(.nils 1)]),o 5 (.mv (c (.nils 1))),o 6 (.mv (c (n 0)))]),
 (q [(.reg [o 23 (la 3 2),o 24 (.call 14 [(t 23)]),o 7 (m 24)]),
 (.reg [o 25 (m 7),o 26 (bc .neq 25 (n 0))]),
 (i 26 (q [(.reg [o 27 (.build [(n 0),(.nils 1),(.nils 1)] []),o 28 (m 7),w (.store 3 (t 4) (t 27)),o 5 (.mv (c (.nils 1))),o 6 (m 28)]),
 .ret]) .skip)]),
 (q [(.reg [o 29 (m 1),o 30 (.call 53 [(t 29)]),o 8 (m 30)]),
 (.reg [o 31 (m 8),o 32 (bc .neq 31 (n 0))]),
 (i 32 (q [(.reg [o 33 (.build [(n 0),(.nils 1),(.nils 1)] []),o 34 (m 8),w (.store 3 (t 4) (t 33)),o 5 (.mv (c (.nils 1))),o 6 (m 34)]),
 .ret]) .skip)]),
 (q [(.reg [o 35 (m 1),o 36 (ln 35),o 37 (f 0 2),o 38 (l 37),o 39 (b .neq 36 38)]),
 (i 39 (q [(.reg [o 40 (.build [(n 0),(.nils 1),(.nils 1)] []),w (.store 3 (t 4) (t 40)),o 5 (.mv (c (.nils 1))),o 6 (.mv (c (n 3)))]),
 .ret]) .skip)]),
 (q [(.reg [o 41 (m 1),o 42 (ln 41),o 43 (.mv (c (n 0)))]),
 (.block 0 (.loop (q [(.reg [o 44 (b .lss 43 42)]),
 (i 44 .skip (.exit 0)),
 (.block 1 (q [(.reg [o 45 (m 43),o 46 (ia 1 41 43),o 47 (l 46),o 9 (m 45),o 10 (m 47)]),
 (.regd [o 48 (la 3 2),o 49 (m 9),o 50 (.call 54 [(t 48),(t 49)]),o 51 (la 3 2),o 52 (m 10),o 53 (.call 54 [(t 51),(t 52)]),o 54 (b .neq 50 53)] [0,0,3,0,0,31,63]),
 (i 54 (q [(.reg [o 55 (.build [(n 0),(.nils 1),(.nils 1)] []),w (.store 3 (t 4) (t 55)),o 5 (.mv (c (.nils 1))),o 6 (.mv (c (n 1)))]),
 .ret]) .skip)])),
 (.reg [o 56 (bc .add 43 (n 1)),o 43 (m 56)])])))]),
 (.reg [o 57 (m 1),o 58 (.call 55 [(t 57)]),o 11 (m 58)]),
 (.reg [o 59 (m 1),o 60 (ln 59),o 61 (.mkslice 1 8 [(n 0)] (t 60) (t 60)),o 12 (m 61)]),
 (q [(.reg [o 62 (m 1),o 63 (ln 62),o 64 (.mv (c (n 0)))]),
 (.block 2 (.loop (q [(.reg [o 65 (b .lss 64 63)]),
 (i 65 .skip (.exit 2)),
 (.block 3 (q [(.reg [o 66 (m 64),o 67 (ia 1 62 64),o 68 (l 67),o 13 (m 66),o 14 (m 68)]),
 (.reg [o 69 (m 12),o 70 (m 13),o 71 (m 11),o 72 (m 14),o 73 (.call 56 [(t 71),(t 72)]),o 74 (ia 1 69 70),w (.store 1 (t 74) (t 73))])])),
 (.reg [o 75 (bc .add 64 (n 1)),o 64 (m 75)])])))]),
 (.reg [o 76 (m 11),o 77 (ln 76),o 78 (.build [(n 0),(.nils 1),(.nils 1)] [(0,1,(t 77))]),o 15 (.alloc [(n 0),(.nils 1),(.nils 1)]),w (.store 3 (t 15) (t 78))]),
 (q [(.reg [o 79 (f 1 2),o 80 (l 79),o 81 (ln 80),o 82 (.mv (c (n 0)))]),
 (.block 4 (.loop (q [(.reg [o 83 (b .lss 82 81)]),
 (i 83 .skip (.exit 4)),
 (.block 5 (q [(.reg [o 84 (ia 1 80 82),o 85 (l 84),o 17 (m 85)]),
 (.regd [o 86 (f 1 15),o 87 (l 86),o 88 (m 17),o 89 (m 12),o 90 (.call 57 [(t 88),(t 89)]),o 91 (.bslice 1 1 [(u 0)] [(0,(t 90))]),o 92 (.app 1 8 (t 87) (t 91)),o 93 (f 1 15),w (.store 1 (t 93) (t 92))] [0,1,0,0,12,28,63,127,255])])),
 (.reg [o 94 (bc .add 82 (n 1)),o 82 (m 94)])])))]),
 (q [(.reg [o 95 (f 2 2),o 96 (l 95),o 97 (ln 96),o 98 (.mv (c (n 0)))]),
 (.block 6 (.loop (q [(.reg [o 99 (b .lss 98 97)]),
 (i 99 .skip (.exit 6)),
 (.block 7 (q [(.reg [o 100 (ia 1 96 98),o 101 (l 100),o 19 (m 101)]),
 (.reg [o 102 (m 11),o 103 (ln 102),o 104 (.mkslice 1 8 [(u 0)] (t 103) (t 103)),o 20 (m 104)]),
 (q [(.reg [o 105 (m 19),o 106 (ln 105),o 107 (.mv (c (n 0)))]),
 (.block 8 (.loop (q [(.reg [o 108 (b .lss 107 106)]),
 (i 108 .skip (.exit 8)),
 (.block 9 (q [(.reg [o 109 (m 107),o 110 (ia 1 105 107),o 111 (l 110),o 21 (m 109),o 22 (m 111)]),
 (.regd [o 112 (m 20),o 113 (m 12),o 114 (m 21),o 115 (ia 1 113 114),o 116 (l 115),o 117 (ia 1 112 116),o 118 (l 117),o 119 (m 22),o 120 (m 12),o 121 (.call 57 [(t 119),(t 120)]),o 122 (b .or 118 121),o 123 (ia 1 112 116),w (.store 1 (t 123) (t 122))] [0,0,0,6,14,31,63,0,0,384,1023,2047,4095])])),
 (.reg [o 124 (bc .add 107 (n 1)),o 107 (m 124)])])))]),
 (.reg [o 125 (f 2 15),o 126 (l 125),o 127 (m 20),o 128 (.bslice 1 1 [(.nils 1)] [(0,(t 127))]),o 129 (.app 1 24 (t 126) (t 128)),o 130 (f 2 15),w (.store 1 (t 130) (t 129))])])),
 (.reg [o 131 (bc .add 98 (n 1)),o 98 (m 131)])])))]),
 (.reg [o 132 (la 3 15),o 133 (m 12),w (.store 3 (t 4) (t 132)),o 5 (m 133),o 6 (.mv (c (n 0)))]),
 .ret])⟩
def zmJ:CFn:=⟨8,[.tmp 4],(q [(.reg [o 3 (.box 1 (t 1)),o 4 (.mv (c .bf))]),
 (.reg [o 5 (m 0),o 6 (.fnew zcF [(t 3)]),o 7 (.call 82 [(t 5),(t 6)]),o 4 (m 7)]),
 .ret])⟩
def zdb:CFn:=⟨9,[.tmp 4],(q [(.reg [o 4 (.mv (c .bf))]),
 (.reg [o 5 (m 0),o 6 (m 1),o 7 (.call 85 [(t 5),(t 6)]),o 8 (bc .geq 7 (n 0)),o 4 (m 8)]),
 .ret])⟩
def zmH:CFn:=⟨8,[.tmp 3],(q [(.reg [o 3 (.mv (c .bf))]),
 (.reg [o 4 (m 0),o 5 (f 0 1),o 6 (l 5),o 7 (.call 41 [(t 4),(t 6)]),o 3 (m 7)]),
 .ret])⟩
def zmI:CFn:=⟨63,[.cell 4 (some 3)],(q [(.reg [o 2 (.box 3 (t 0)),o 4 (.alloc [(n 0),(.nils 1),(.nils 1)])]),
 (.reg [o 13 (m 1),o 14 (ln 13),o 15 (.build [(n 0),(.nils 1),(.nils 1)] [(0,1,(t 14))]),o 5 (.alloc [(n 0),(.nils 1),(.nils 1)]),w (.store 3 (t 5) (t 15))]),
 (q [(.reg [o 16 (f 1 2),o 17 (l 16),o 18 (ln 17),o 19 (.mv (c (n 0)))]),
 (.block 0 (.loop (q [(.reg [o 20 (b .lss 19 18)]),
 (i 20 .skip (.exit 0)),
 (.block 1 (q [(.reg [o 21 (ia 1 17 19),o 22 (l 21),o 7 (m 22)]),
 (.regd [o 23 (f 1 5),o 24 (l 23),o 25 (m 7),o 26 (m 1),o 27 (.call 86 [(t 25),(t 26)]),o 28 (.bslice 1 1 [(u 0)] [(0,(t 27))]),o 29 (.app 1 8 (t 24) (t 28)),o 30 (f 1 5),w (.store 1 (t 30) (t 29))] [0,1,0,0,12,28,63,127,255])])),
 (.reg [o 31 (bc .add 19 (n 1)),o 19 (m 31)])])))]),
 (q [(.reg [o 32 (f 2 2),o 33 (l 32),o 34 (ln 33),o 35 (.mv (c (n 0)))]),
 (.block 2 (.loop (q [(.reg [o 36 (b .lss 35 34)]),
 (i 36 .skip (.exit 2)),
 (.block 3 (q [(.reg [o 37 (ia 1 33 35),o 38 (l 37),o 9 (m 38)]),
 (.reg [o 10 (.mv (c (.nils 1)))]),
 (q [(.reg [o 39 (m 1),o 40 (ln 39),o 41 (.mv (c (n 0)))]),
 (.block 4 (.loop (q [(.reg [o 42 (b .lss 41 40)]),
 (i 42 .skip (.exit 4)),
 (.block 5 (q [(.reg [o 43 (ia 1 39 41),o 44 (l 43),o 12 (m 44)]),
 (.reg [o 45 (m 10),o 46 (m 9),o 47 (m 12),o 48 (ia 1 46 47),o 49 (l 48),o 50 (m 1),o 51 (.call 86 [(t 49),(t 50)]),o 52 (.bslice 1 1 [(u 0)] [(0,(t 51))]),o 53 (.app 1 8 (t 45) (t 52)),o 10 (m 53)])])),
 (.reg [o 54 (bc .add 41 (n 1)),o 41 (m 54)])])))]),
 (.reg [o 55 (f 2 5),o 56 (l 55),o 57 (m 10),o 58 (.bslice 1 1 [(.nils 1)] [(0,(t 57))]),o 59 (.app 1 24 (t 56) (t 58)),o 60 (f 2 5),w (.store 1 (t 60) (t 59))])])),
 (.reg [o 61 (bc .add 35 (n 1)),o 35 (m 61)])])))]),
 (.reg [o 62 (la 3 5),w (.store 3 (t 4) (t 62))]),
 .ret])⟩
def zeR:CFn:=⟨8,[.tmp 2],(q [(.reg [o 2 (.mv (c (.nils 1)))]),
 (q [(.reg [o 3 (m 0),o 4 (.eqN false (t 3) (c (.nils 1)))]),
 (i 4 (q [(.reg [o 2 (.mv (c (.nils 1)))]),
 .ret]) .skip)]),
 (.reg [o 5 (.bslice 1 0 [(u 0)] []),o 6 (m 0),o 7 (.app 1 8 (t 5) (t 6)),o 2 (m 7)]),
 .ret])⟩
def zlJ:CFn:=⟨20,[.tmp 2,.tmp 3],(q [(.reg [o 1 (.box 3 (t 0)),o 2 (.mv (c (.nils 1))),o 3 (.mv (c (n 0)))]),
 (q [(.reg [o 7 (la 3 1),o 8 (.call 14 [(t 7)]),o 4 (m 8)]),
 (.reg [o 9 (m 4),o 10 (bc .neq 9 (n 0))]),
 (i 10 (q [(.reg [o 11 (m 4),o 2 (.mv (c (.nils 1))),o 3 (m 11)]),
 .ret]) .skip)]),
 (.reg [o 13 (la 3 1),o 14 (f 2 1),o 15 (l 14),o 16 (.call 87 [(t 13),(t 15)]),o 12 (m 16),o 17 (e 12 0),o 18 (e 12 1),o 5 (m 17),o 6 (m 18)]),
 (.reg [o 19 (m 5),o 2 (m 19),o 3 (.mv (c (n 0)))]),
 .ret])⟩
def zmE:CFn:=⟨33,[.tmp 4],(q [(.reg [o 2 (.box 3 (t 0)),o 3 (.box 3 (t 1)),o 4 (.mv (c (n 0)))]),
 (q [(.reg [o 7 (la 3 2),o 8 (.call 14 [(t 7)]),o 5 (m 8)]),
 (.reg [o 9 (m 5),o 10 (bc .neq 9 (n 0))]),
 (i 10 (q [(.reg [o 11 (m 5),o 4 (m 11)]),
 .ret]) .skip)]),
 (q [(.reg [o 12 (la 3 3),o 13 (.call 14 [(t 12)]),o 6 (m 13)]),
 (.reg [o 14 (m 6),o 15 (bc .neq 14 (n 0))]),
 (i 15 (q [(.reg [o 16 (m 6),o 4 (m 16)]),
 .ret]) .skip)]),
 (q [(.reg [o 17 (f 2 2),o 18 (l 17),o 19 (ln 18),o 20 (f 2 3),o 21 (l 20),o 22 (ln 21),o 23 (b .neq 19 22),o 24 (m 23),g 25 24 false (f 1 2),g 26 24 false (l 25),g 27 24 false (ln 26),g 28 24 false (f 1 3),g 29 24 false (l 28),g 30 24 false (ln 29),g 31 24 false (b .neq 27 30),o 32 (pt 24 31)]),
 (i 32 (q [(.reg [o 4 (.mv (c (n 1)))]),
 .ret]) .skip)]),
 (.reg [o 4 (.mv (c (n 0)))]),
 .ret])⟩
def zkW:CFn:=⟨29,[],(q [(.reg [o 3 (.box 3 (t 0)),o 4 (.box 3 (t 1)),o 5 (.box 1 (t 2))]),
 (.reg [o 14 (la 3 3),o 15 (.call 88 [(t 14)]),o 13 (m 15),o 16 (e 13 0),o 17 (e 13 1),o 6 (.alloc [(.nils 1)]),w (.store 1 (t 6) (t 16)),o 7 (m 17)]),
 (.reg [o 19 (la 3 4),o 20 (.call 88 [(t 19)]),o 18 (m 20),o 21 (e 18 0),o 22 (e 18 1),o 8 (.alloc [(.nils 1)]),w (.store 1 (t 8) (t 21)),o 9 (m 22)]),
 (.reg [o 23 (f 0 3),o 24 (l 23),o 25 (.mkslice 1 8 [(n 0)] (c (n 0)) (t 24)),o 10 (.alloc [(.nils 1)]),w (.store 1 (t 10) (t 25))]),
 (.reg [o 11 (.alloc [(u 0)])]),
 (.reg [o 12 (.alloc [(.d .nil)])]),
 (.reg [o 26 (.fnew zbX [(t 10),(t 3),(t 5),(t 4),(t 11),(t 6),(t 8),(t 12)]),w (.store 1 (t 12) (t 26))]),
 (.reg [o 27 (l 12),o 28 (.callv (t 27) [])])])⟩
def zg5:CFn:=⟨5,[.tmp 3],(q [(.reg [o 3 (.mv (c .bf))]),
 (.reg [o 4 (m 0),w (.store 1 (t 1) (t 4))]),
 (.reg [o 3 (.mv (c .bf))]),
 .ret])⟩
def zmF:CFn:=⟨89,[.tmp 8],(q [(.reg [o 4 (.box 3 (t 0)),o 5 (.box 3 (t 1)),o 8 (.mv (c .bf))]),
 (q [(.regd [o 12 (la 3 4),o 13 (m 3),o 14 (.call 54 [(t 12),(t 13)]),o 15 (la 3 5),o 16 (m 2),o 17 (m 3),o 18 (ia 1 16 17),o 19 (l 18),o 20 (.call 54 [(t 15),(t 19)]),o 21 (b .neq 14 20)] [0,0,3,0,0,0,48,112,255,511]),
 (i 21 (q [(.reg [o 8 (.mv (c .bf))]),
 .ret]) .skip)]),
 (q [(.reg [o 22 (f 2 4),o 23 (l 22),o 24 (ln 23),o 25 (.mv (c (n 0)))]),
 (.block 0 (.loop (q [(.reg [o 26 (b .lss 25 24)]),
 (i 26 .skip (.exit 0)),
 (.block 1 (q [(.reg [o 27 (m 25),o 28 (ia 1 23 25),o 29 (l 28),o 9 (m 27),o 10 (m 29)]),
 (.reg [o 30 (m 3),o 31 (bc .add 30 (n 1)),o 32 (.mv (c (n 0)))]),
 (.block 2 (.loop (q [(.reg [o 33 (b .lss 32 31)]),
 (i 33 .skip (.exit 2)),
 (.block 3 (q [(.reg [o 34 (m 32),o 11 (m 34)]),
 (.regd [o 35 (m 10),o 36 (m 3),o 37 (ia 1 35 36),o 38 (l 37),o 39 (m 11),o 40 (b .shr 38 39),o 41 (bc .and 40 (u 1)),o 42 (f 2 5),o 43 (l 42),o 44 (m 9),o 45 (ia 1 43 44),o 46 (l 45),o 47 (m 2),o 48 (m 3),o 49 (ia 1 47 48),o 50 (l 49),o 51 (ia 1 46 50),o 52 (l 51),o 53 (m 2),o 54 (m 11),o 55 (ia 1 53 54),o 56 (l 55),o 57 (b .shr 52 56),o 58 (bc .and 57 (u 1)),o 59 (b .neq 41 58),o 60 (m 59),g 61 60 false (m 10),g 62 60 false (m 11),g 63 60 false (ia 1 61 62),g 64 60 false (l 63),g 65 60 false (m 3),g 66 60 false (b .shr 64 65),g 67 60 false (bc .and 66 (u 1)),g 68 60 false (f 2 5),g 69 60 false (l 68),g 70 60 false (m 9),g 71 60 false (ia 1 69 70),g 72 60 false (l 71),g 73 60 false (m 2),g 74 60 false (m 11),g 75 60 false (ia 1 73 74),g 76 60 false (l 75),g 77 60 false (ia 1 72 76),g 78 60 false (l 77),g 79 60 false (m 2),g 80 60 false (m 3),g 81 60 false (ia 1 79 80),g 82 60 false (l 81),g 83 60 false (b .shr 78 82),g 84 60 false (bc .and 83 (u 1)),g 85 60 false (b .neq 67 84),o 86 (pt 60 85)] [0,0,3,7,0,31,63,0,128,0,896,1920,0,0,12288,28672,65408,130944,0,0,786432,1835008,4194176,8388480,16777215,33554431,67108863,67108863,268435455,536870911,67108863,2147483647,4294967295,67108863,8657043455,67108863,60196651007,128916127743,67108863,67108863,824700829695,1924212457471,4389523685375,8787570196479,67108863,67108863,52776625242111,123145369419775,281466453884927,562941430595583,1125899906842623,2251799813685247]),
 (i 86 (q [(.reg [o 8 (.mv (c .bf))]),
 .ret]) .skip)])),
 (.reg [o 87 (bc .add 32 (n 1)),o 32 (m 87)])])))])),
 (.reg [o 88 (bc .add 25 (n 1)),o 25 (m 88)])])))]),
 (.reg [o 8 (.mv (c .bt))]),
 .ret])⟩
def zkZ:CFn:=⟨31,[.tmp 2],(q [(.reg [o 2 (.mv (c (n 0)))]),
 (q [(.reg [o 5 (m 0),o 6 (ln 5),o 7 (bc .gtr 6 (n 64))]),
 (i 7 (q [(.reg [o 2 (.mv (c (n 8)))]),
 .ret]) .skip)]),
 (q [(.reg [o 8 (m 0),o 9 (ln 8),o 10 (.mv (c (n 0)))]),
 (.block 0 (.loop (q [(.reg [o 11 (b .lss 10 9)]),
 (i 11 .skip (.exit 0)),
 (.block 1 (q [(.reg [o 12 (m 10),o 13 (ia 1 8 10),o 14 (l 13),o 3 (m 12),o 4 (m 14)]),
 (.reg [o 15 (m 4),o 16 (bc .lss 15 (n 0)),o 17 (m 16),g 18 17 false (m 4),g 19 17 false (m 3),g 20 17 false (b .gtr 18 19),o 21 (pt 17 20),o 22 (m 21),g 23 22 false (m 0),g 24 22 false (m 4),g 25 22 false (ia 1 23 24),g 26 22 false (l 25),g 27 22 false (m 4),g 28 22 false (b .neq 26 27),o 29 (pt 22 28)]),
 (i 29 (q [(.reg [o 2 (.mv (c (n 3)))]),
 .ret]) .skip)])),
 (.reg [o 30 (bc .add 10 (n 1)),o 10 (m 30)])])))]),
 (.reg [o 2 (.mv (c (n 0)))]),
 .ret])⟩
def zo3:CFn:=⟨40,[.tmp 4],(q [(.reg [o 2 (.box 3 (t 0)),o 4 (.mv (c (n 0)))]),
 (q [(.reg [o 8 (la 3 2),o 9 (.call 14 [(t 8)]),o 10 (bc .neq 9 (n 0)),o 11 (m 10),g 12 11 false (m 1),g 13 11 false (bc .lss 12 (n 0)),o 14 (pt 11 13),o 15 (m 14),g 16 15 false (m 1),g 17 15 false (f 0 2),g 18 15 false (l 17),g 19 15 false (b .geq 16 18),o 20 (pt 15 19)]),
 (i 20 (q [(.reg [o 4 (.mv (c (n (-1))))]),
 .ret]) .skip)]),
 (.reg [o 5 (.mv (c (n 0)))]),
 (q [(.reg [o 21 (f 1 2),o 22 (l 21),o 23 (ln 22),o 24 (.mv (c (n 0)))]),
 (.block 0 (.loop (q [(.reg [o 25 (b .lss 24 23)]),
 (i 25 .skip (.exit 0)),
 (.block 1 (q [(.reg [o 26 (m 24),o 27 (ia 1 22 24),o 28 (l 27),o 6 (m 26),o 7 (m 28)]),
 (.reg [o 29 (m 5),o 30 (m 7),o 31 (m 1),o 32 (b .shr 30 31),o 33 (bc .and 32 (u 1)),o 34 (.conv .i64 (t 33)),o 35 (m 6),o 36 (b .shl 34 35),o 37 (b .or 29 36),o 5 (m 37)])])),
 (.reg [o 38 (bc .add 24 (n 1)),o 24 (m 38)])])))]),
 (.reg [o 39 (m 5),o 4 (m 39)]),
 .ret])⟩
def zk1:CFn:=⟨10,[.tmp 2],(q [(.reg [o 2 (.mv (c (.nils 1)))]),
 (.reg [o 4 (m 0),o 5 (.call 90 [(t 4)]),o 3 (m 5)]),
 (.reg [o 6 (m 3),o 7 (.call 92 [(t 6)])]),
 (.reg [o 8 (m 3),o 9 (.call 93 [(t 8)]),o 2 (m 9)]),
 .ret])⟩
def zgH:CFn:=⟨19,[.tmp 4],(q [(.reg [o 4 (.mv (c (n 0)))]),
 (q [(.reg [o 6 (m 0),o 7 (ln 6),o 8 (.mv (c (n 0)))]),
 (.block 0 (.loop (q [(.reg [o 9 (b .lss 8 7)]),
 (i 9 .skip (.exit 0)),
 (.block 1 (q [(.reg [o 10 (m 8),o 5 (m 10)]),
 (.reg [o 11 (m 1),o 12 (m 0),o 13 (m 5),o 14 (ia 1 12 13),o 15 (l 14),o 16 (b .eql 11 15)]),
 (i 16 (q [(.reg [o 17 (m 5),o 4 (m 17)]),
 .ret]) .skip)])),
 (.reg [o 18 (bc .add 8 (n 1)),o 8 (m 18)])])))]),
 (.reg [o 4 (.mv (c (n (-1))))]),
 .ret])⟩
def zk2:CFn:=⟨26,[.tmp 4],(q [(.reg [o 4 (.mv (c (u 0)))]),
 (.reg [o 5 (.mv (c (u 0)))]),
 (q [(.reg [o 8 (m 1),o 9 (ln 8),o 10 (.mv (c (n 0)))]),
 (.block 0 (.loop (q [(.reg [o 11 (b .lss 10 9)]),
 (i 11 .skip (.exit 0)),
 (.block 1 (q [(.reg [o 12 (m 10),o 13 (ia 1 8 10),o 14 (l 13),o 6 (m 12),o 7 (m 14)]),
 (.reg [o 15 (m 0),o 16 (m 6),o 17 (b .shr 15 16),o 18 (bc .and 17 (u 1)),o 19 (bc .eql 18 (u 1))]),
 (i 19 (.reg [o 20 (m 5),o 21 (m 7),o 22 (.bin .shl (c (u 1)) (t 21)),o 23 (b .or 20 22),o 5 (m 23)]) .skip)])),
 (.reg [o 24 (bc .add 10 (n 1)),o 10 (m 24)])])))]),
 (.reg [o 25 (m 5),o 4 (m 25)]),
 .ret])⟩
def zmB:CFn:=⟨4,[.tmp 2],(q [(.reg [o 1 (.box 1 (t 0)),o 2 (.mv (c (.d .nil)))]),
 (.reg [o 3 (.fnew zcE [(t 1)]),o 2 (m 3)]),
 .ret])⟩
def zdz:CFn:=⟨9,[.tmp 4],(q [(.reg [o 4 (.mv (c .bf))]),
 (.reg [o 5 (m 0),o 6 (m 1),o 7 (.call 120 [(t 5),(t 6)]),o 8 (bc .geq 7 (n 0)),o 4 (m 8)]),
 .ret])⟩
def zkY:CFn:=⟨9,[.tmp 3],(q [(.reg [o 3 (.mv (c .bf))]),
 (.reg [o 4 (m 0),o 5 (l 1),o 6 (.call 84 [(t 5)]),o 7 (b .andNot 4 6),o 8 (bc .neq 7 (u 0)),o 3 (m 8)]),
 .ret])⟩
def zq8:CFn:=⟨8,[.tmp 2],(q [(.reg [o 2 (.mv (c (u 0)))]),
 (q [(.reg [o 3 (m 0),o 4 (bc .geq 3 (n 64))]),
 (i 4 (q [(.reg [o 2 (.mv (c (u 18446744073709551615)))]),
 .ret]) .skip)]),
 (.reg [o 5 (m 0),o 6 (.bin .shl (c (u 1)) (t 5)),o 7 (bc .sub 6 (u 1)),o 2 (m 7)]),
 .ret])⟩
def zdG:CFn:=⟨19,[.tmp 4],(q [(.reg [o 4 (.mv (c (n 0)))]),
 (q [(.reg [o 6 (m 0),o 7 (ln 6),o 8 (.mv (c (n 0)))]),
 (.block 0 (.loop (q [(.reg [o 9 (b .lss 8 7)]),
 (i 9 .skip (.exit 0)),
 (.block 1 (q [(.reg [o 10 (m 8),o 5 (m 10)]),
 (.reg [o 11 (m 1),o 12 (m 0),o 13 (m 5),o 14 (ia 1 12 13),o 15 (l 14),o 16 (.callv (t 11) [(t 15)])]),
 (i 16 (q [(.reg [o 17 (m 5),o 4 (m 17)]),
 .ret]) .skip)])),
 (.reg [o 18 (bc .add 8 (n 1)),o 8 (m 18)])])))]),
 (.reg [o 4 (.mv (c (n (-1))))]),
 .ret])⟩
def zpJ:CFn:=⟨25,[.tmp 4],(q [(.reg [o 4 (.mv (c (u 0)))]),
 (.reg [o 5 (.mv (c (u 0)))]),
 (q [(.reg [o 8 (m 1),o 9 (ln 8),o 10 (.mv (c (n 0)))]),
 (.block 0 (.loop (q [(.reg [o 11 (b .lss 10 9)]),
 (i 11 .skip (.exit 0)),
 (.block 1 (q [(.reg [o 12 (m 10),o 13 (ia 1 8 10),o 14 (l 13),o 6 (m 12),o 7 (m 14)]),
 (.reg [o 15 (m 5),o 16 (m 0),o 17 (m 7),o 18 (b .shr 16 17),o 19 (bc .and 18 (u 1)),o 20 (m 6),o 21 (b .shl 19 20),o 22 (b .or 15 21),o 5 (m 22)])])),
 (.reg [o 23 (bc .add 10 (n 1)),o 10 (m 23)])])))]),
 (.reg [o 24 (m 5),o 4 (m 24)]),
 .ret])⟩
def znH:CFn:=⟨21,[.tmp 4,.tmp 5],(q [(.reg [o 2 (.box 3 (t 0)),o 4 (.mv (c (.nils 1))),o 5 (.mv (c (n 0)))]),
 (.reg [o 6 (.alloc [(.nils 1)])]),
 (.reg [o 7 (.alloc [(n 0)]),w (.store 1 (t 7) (c (n (-1))))]),
 (q [(.reg [o 9 (la 3 2),o 10 (m 1),o 11 (.call 121 [(t 9),(t 10)])]),
 (.block 0 (.rng (t 11) [12] (.reg [o 8 (m 12)]) (.block 1 (q [(q [(.reg [o 13 (m 8),o 14 (l 6),o 15 (.call 122 [(t 13),(t 14)])]),
 (i 15 (.exit 0) .skip)]),
 (.reg [o 16 (m 8),w (.store 1 (t 6) (t 16))]),
 (.reg [o 17 (l 7),o 18 (bc .add 17 (n 1)),w (.store 1 (t 7) (t 18))])]))))]),
 (.regd [o 19 (l 6),o 20 (l 7),o 4 (m 19),o 5 (m 20)] [0,0,1,7]),
 .ret])⟩
def zkU:CFn:=⟨51,[.tmp 2,.tmp 3],(q [(.reg [o 1 (.box 3 (t 0)),o 2 (.mv (c (.nils 1))),o 3 (.mv (c (n 0)))]),
 (q [(.reg [o 12 (la 3 1),o 13 (.call 14 [(t 12)]),o 4 (m 13)]),
 (.reg [o 14 (m 4),o 15 (bc .neq 14 (n 0))]),
 (i 15 (q [(.reg [o 16 (m 4),o 2 (.mv (c (.nils 1))),o 3 (m 16)]),
 .ret]) .skip)]),
 (.reg [o 5 (.mv (c (.nils 1)))]),
 (q [(.reg [o 17 (f 0 1),o 18 (l 17),o 19 (.mv (c (n 0)))]),
 (.block 0 (.loop (q [(.reg [o 20 (b .lss 19 18)]),
 (i 20 .skip (.exit 0)),
 (.block 1 (q [(.reg [o 21 (m 19),o 6 (m 21)]),
 (.reg [o 22 (m 5),o 23 (la 3 1),o 24 (m 6),o 25 (.call 54 [(t 23),(t 24)]),o 26 (.bslice 1 1 [(n 0)] [(0,(t 25))]),o 27 (.bslice 1 1 [(.nils 1)] [(0,(t 26))]),o 28 (.bslice 1 1 [(.nils 1)] [(0,(t 27))]),o 29 (.app 1 24 (t 22) (t 28)),o 5 (m 29)])])),
 (.reg [o 30 (bc .add 19 (n 1)),o 19 (m 30)])])))]),
 (.reg [o 7 (.alloc [(.nils 1)])]),
 (q [(.reg [o 31 (f 2 1),o 32 (l 31),o 33 (ln 32),o 34 (.mv (c (n 0)))]),
 (.block 2 (.loop (q [(.reg [o 35 (b .lss 34 33)]),
 (i 35 .skip (.exit 2)),
 (.block 3 (q [(.reg [o 36 (ia 1 32 34),o 37 (l 36),o 9 (m 37)]),
 (.regd [o 38 (l 7),o 39 (m 9),o 40 (.call 123 [(t 39)]),o 41 (.bslice 1 1 [(.nils 1)] [(0,(t 40))]),o 42 (.app 1 24 (t 38) (t 41)),w (.store 1 (t 7) (t 42))] [0,0,2,6,15,31])])),
 (.reg [o 43 (bc .add 34 (n 1)),o 34 (m 43)])])))]),
 (.reg [o 45 (m 5),o 46 (.fnew zbW [(t 1),(t 7)]),o 47 (.call 124 [(t 45),(t 46)]),o 44 (m 47),o 48 (e 44 0),o 49 (e 44 1),o 10 (m 48),o 11 (m 49)]),
 (.reg [o 50 (m 10),o 2 (m 50),o 3 (.mv (c (n 0)))]),
 .ret])⟩
def zjp:CFn:=⟨66,[.tmp 8],(q [(.reg [o 8 (.mv (c .bf))]),
 (.reg [o 11 (l 0),o 12 (ln 11),o 9 (m 12)]),
 (q [(.reg [o 13 (m 9),o 14 (f 0 1),o 15 (l 14),o 16 (b .eql 13 15)]),
 (i 16 (q [(.regd [o 17 (l 2),o 18 (l 0),o 19 (.call 90 [(t 18)]),o 20 (.callv (t 17) [(t 19)]),o 8 (m 20)] [0,0,2,7,15]),
 .ret]) .skip)]),
 .skip,
 (q [(.reg [o 21 (f 0 3),o 22 (l 21),o 23 (.mv (c (n 0)))]),
 (.block 0 (.loop (q [(.reg [o 24 (b .lss 23 22)]),
 (i 24 .skip (.exit 0)),
 (.block 1 (q [(.reg [o 25 (m 23),o 10 (m 25)]),
 (q [(.regd [o 26 (l 4),o 27 (m 10),o 28 (b .shr 26 27),o 29 (bc .and 28 (u 1)),o 30 (bc .eql 29 (u 1)),o 31 (m 30),g 32 31 false (l 5),g 33 31 false (m 9),g 34 31 false (ia 1 32 33),g 35 31 false (l 34),g 36 31 false (l 6),g 37 31 false (m 10),g 38 31 false (ia 1 36 37),g 39 31 false (l 38),g 40 31 false (b .neq 35 39),o 41 (pt 31 40)] [0,0,3,7,15,31,63,63,255,511,63,63,3135,7231,16383,32767]),
 (i 41 (.exit 1) .skip)]),
 (.reg [o 42 (l 0),o 43 (m 10),o 44 (.bslice 1 1 [(n 0)] [(0,(t 43))]),o 45 (.app 1 8 (t 42) (t 44)),w (.store 1 (t 0) (t 45))]),
 (q [(.reg [o 46 (la 3 1),o 47 (la 3 3),o 48 (l 0),o 49 (m 9),o 50 (.call 50 [(t 46),(t 47),(t 48),(t 49)])]),
 (i 50 (q [(.regd [o 51 (l 4),o 52 (m 10),o 53 (.bin .shl (c (u 1)) (t 52)),o 54 (b .or 51 53),w (.store 1 (t 4) (t 54))] [0,0,2,7,15]),
 (q [(.reg [o 55 (l 7),o 56 (.callv (t 55) []),o 57 (.un .not (t 56))]),
 (i 57 (q [(.reg [o 8 (.mv (c .bf))]),
 .ret]) .skip)]),
 (.regd [o 58 (l 4),o 59 (m 10),o 60 (.bin .shl (c (u 1)) (t 59)),o 61 (b .andNot 58 60),w (.store 1 (t 4) (t 61))] [0,0,2,7,15])]) .skip)]),
 (.reg [o 62 (l 0),o 63 (m 9),o 64 (.slice 1 (t 62) none (some (t 63))),w (.store 1 (t 0) (t 64))])])),
 (.reg [o 65 (bc .add 23 (n 1)),o 23 (m 65)])])))]),
 (.reg [o 8 (.mv (c .bt))]),
 .ret])⟩
def zgF:CFn:=⟨8,[.tmp 2],(q [(.reg [o 2 (.mv (c (.nils 1)))]),
 (q [(.reg [o 3 (m 0),o 4 (.eqN false (t 3) (c (.nils 1)))]),
 (i 4 (q [(.reg [o 2 (.mv (c (.nils 1)))]),
 .ret]) .skip)]),
 (.reg [o 5 (.bslice 1 0 [(n 0)] []),o 6 (m 0),o 7 (.app 1 8 (t 5) (t 6)),o 2 (m 7)]),
 .ret])⟩
def zg7:CFn:=⟨11,[],(q [(.reg [o 3 (m 0),o 4 (ln 3),o 2 (m 4)]),
 (.reg [o 5 (m 0),o 6 (m 2),o 7 (m 2),o 8 (.conv .u64 (t 7)),o 9 (.call 128 [(t 8)]),o 10 (.call 127 [(t 5),(c (n 0)),(t 6),(t 9)])])])⟩
def zfZ:CFn:=⟨61,[.tmp 2],(q [(.reg [o 2 (.mv (c (.nils 1)))]),
 (q [(.reg [o 6 (m 0),o 7 (ln 6),o 8 (bc .lss 7 (n 2))]),
 (i 8 (q [(.reg [o 9 (m 0),o 2 (m 9)]),
 .ret]) .skip)]),
 (q [(.reg [o 3 (.mv (c (n 1)))]),
 (.block 0 (.loop (q [(q [(.reg [o 10 (m 3),o 11 (m 0),o 12 (ln 11),o 13 (b .lss 10 12)]),
 (i 13 .skip (.exit 0))]),
 (.block 1 (q [(.regd [o 16 (m 0),o 17 (m 3),o 18 (ia 1 16 17),o 19 (l 18),o 20 (m 0),o 21 (m 3),o 22 (bc .sub 21 (n 1)),o 23 (ia 1 20 22),o 24 (l 23),o 25 (b .eql 19 24)] [0,0,3,7,0,0,32,112,240,511]),
 (i 25 (q [(.reg [o 26 (m 0),o 27 (m 3),o 28 (.slice 1 (t 26) (some (t 27)) none),o 4 (m 28)]),
 (q [(.reg [o 5 (.mv (c (n 1)))]),
 (.block 2 (.loop (q [(q [(.reg [o 29 (m 5),o 30 (m 4),o 31 (ln 30),o 32 (b .lss 29 31)]),
 (i 32 .skip (.exit 2))]),
 (.block 3 (q [(.regd [o 35 (m 4),o 36 (m 5),o 37 (ia 1 35 36),o 38 (l 37),o 39 (m 4),o 40 (m 5),o 41 (bc .sub 40 (n 1)),o 42 (ia 1 39 41),o 43 (l 42),o 44 (b .neq 38 43)] [0,0,3,7,0,0,32,112,240,511]),
 (i 44 (q [(.reg [o 45 (m 0),o 46 (m 3),o 47 (m 4),o 48 (m 5),o 49 (ia 1 47 48),o 50 (l 49),o 51 (ia 1 45 46),w (.store 1 (t 51) (t 50))]),
 (.reg [o 52 (m 3),o 53 (bc .add 52 (n 1)),o 3 (m 53)])]) .skip)])),
 (.reg [o 33 (m 5),o 34 (bc .add 33 (n 1)),o 5 (m 34)])])))]),
 (.reg [o 54 (m 0),o 55 (m 3),o 56 (.slice 1 (t 54) (some (t 55)) none),w (.clear 1 [(n 0)] (t 56))]),
 (.reg [o 57 (m 0),o 58 (m 3),o 59 (.slice 1 (t 57) none (some (t 58))),o 2 (m 59)]),
 .ret]) .skip)])),
 (.reg [o 14 (m 3),o 15 (bc .add 14 (n 1)),o 3 (m 15)])])))]),
 (.reg [o 60 (m 0),o 2 (m 60)]),
 .ret])⟩
def zkT:CFn:=⟨14,[],(.block 0 (.loop (q [(q [(.reg [o 3 (l 1),o 4 (bc .neq 3 (u 0))]),
 (i 4 .skip (.exit 0))]),
 (.block 1 (q [(.reg [o 9 (m 0),o 10 (l 1),o 11 (.call 100 [(t 10)]),o 12 (.callv (t 9) [(t 11)]),o 13 (.un .not (t 12))]),
 (i 13 .ret .skip)])),
 (.reg [o 5 (l 1),o 6 (l 1),o 7 (bc .sub 6 (u 1)),o 8 (b .and 5 7),w (.store 1 (t 1) (t 8))])])))⟩
def zeb:CFn:=⟨19,[.tmp 4],(q [(.reg [o 4 (.mv (c (n 0)))]),
 (q [(.reg [o 6 (m 0),o 7 (ln 6),o 8 (.mv (c (n 0)))]),
 (.block 0 (.loop (q [(.reg [o 9 (b .lss 8 7)]),
 (i 9 .skip (.exit 0)),
 (.block 1 (q [(.reg [o 10 (m 8),o 5 (m 10)]),
 (.reg [o 11 (m 1),o 12 (m 0),o 13 (m 5),o 14 (ia 1 12 13),o 15 (l 14),o 16 (.callv (t 11) [(t 15)])]),
 (i 16 (q [(.reg [o 17 (m 5),o 4 (m 17)]),
 .ret]) .skip)])),
 (.reg [o 18 (bc .add 8 (n 1)),o 8 (m 18)])])))]),
 (.reg [o 4 (.mv (c (n (-1))))]),
 .ret])⟩
def znG:CFn:=⟨6,[.tmp 4],(q [(.reg [o 2 (.box 3 (t 0)),o 3 (.box 1 (t 1)),o 4 (.mv (c (.d .nil)))]),
 (.reg [o 5 (.fnew zc5 [(t 2),(t 3)]),o 4 (m 5)]),
 .ret])⟩
def zgG:CFn:=⟨26,[.tmp 4],(q [(.reg [o 4 (.mv (c .bf))]),
 (q [(.reg [o 6 (m 0),o 7 (ln 6),o 8 (m 1),o 9 (ln 8),o 10 (b .neq 7 9)]),
 (i 10 (q [(.reg [o 4 (.mv (c .bf))]),
 .ret]) .skip)]),
 (q [(.reg [o 11 (m 0),o 12 (ln 11),o 13 (.mv (c (n 0)))]),
 (.block 0 (.loop (q [(.reg [o 14 (b .lss 13 12)]),
 (i 14 .skip (.exit 0)),
 (.block 1 (q [(.reg [o 15 (m 13),o 5 (m 15)]),
 (.regd [o 16 (m 0),o 17 (m 5),o 18 (ia 1 16 17),o 19 (l 18),o 20 (m 1),o 21 (m 5),o 22 (ia 1 20 21),o 23 (l 22),o 24 (b .neq 19 23)] [0,0,3,7,0,0,48,112,255]),
 (i 24 (q [(.reg [o 4 (.mv (c .bf))]),
 .ret]) .skip)])),
 (.reg [o 25 (bc .add 13 (n 1)),o 13 (m 25)])])))]),
 (.reg [o 4 (.mv (c .bt))]),
 .ret])⟩
def zjo:CFn:=⟨36,[.tmp 2],(q [(.reg [o 2 (.mv (c (.nils 1)))]),
 (.reg [o 8 (m 0),o 9 (ln 8),o 10 (.mkslice 1 8 [(u 0)] (t 9) (t 9)),o 3 (m 10)]),
 (q [(.reg [o 11 (m 0),o 12 (ln 11),o 13 (.mv (c (n 0)))]),
 (.block 0 (.loop (q [(.reg [o 14 (b .lss 13 12)]),
 (i 14 .skip (.exit 0)),
 (.block 1 (q [(.reg [o 15 (m 13),o 16 (ia 1 11 13),o 17 (l 16),o 4 (m 15),o 5 (m 17)]),
 (.reg [o 18 (m 5),o 19 (.call 156 [(t 18)]),o 20 (ln 19),o 21 (.mv (c (n 0)))]),
 (.block 2 (.loop (q [(.reg [o 22 (b .lss 21 20)]),
 (i 22 .skip (.exit 2)),
 (.block 3 (q [(.reg [o 23 (ia 1 19 21),o 24 (l 23),o 7 (m 24)]),
 (.regd [o 25 (m 3),o 26 (m 7),o 27 (ia 1 25 26),o 28 (l 27),o 29 (m 4),o 30 (.bin .shl (c (u 1)) (t 29)),o 31 (b .or 28 30),o 32 (ia 1 25 26),w (.store 1 (t 32) (t 31))] [0,0,3,7,0,16,63,127,255])])),
 (.reg [o 33 (bc .add 21 (n 1)),o 21 (m 33)])])))])),
 (.reg [o 34 (bc .add 13 (n 1)),o 13 (m 34)])])))]),
 (.reg [o 35 (m 3),o 2 (m 35)]),
 .ret])⟩
def zkV:CFn:=⟨45,[.tmp 4,.tmp 5],(q [(.reg [o 4 (.mv (c (.nils 1))),o 5 (.mv (c (n 0)))]),
 (.reg [o 13 (m 0),o 14 (.call 157 [(t 13)]),o 12 (m 14),o 15 (e 12 0),o 16 (e 12 1),o 6 (m 15),o 7 (m 16)]),
 (.block 0 (.loop (.block 1 (q [(.reg [o 17 (m 6),o 18 (ln 17),o 19 (.mkslice 1 24 [(.nils 1)] (t 18) (t 18)),o 8 (m 19)]),
 (q [(.reg [o 20 (m 8),o 21 (ln 20),o 22 (.mv (c (n 0)))]),
 (.block 2 (.loop (q [(.reg [o 23 (b .lss 22 21)]),
 (i 23 .skip (.exit 2)),
 (.block 3 (q [(.reg [o 24 (m 22),o 9 (m 24)]),
 (.reg [o 25 (m 8),o 26 (m 9),o 27 (m 1),o 28 (m 6),o 29 (m 9),o 30 (.callv (t 27) [(t 28),(t 29)]),o 31 (ia 1 25 26),w (.store 1 (t 31) (t 30))])])),
 (.reg [o 32 (bc .add 22 (n 1)),o 22 (m 32)])])))]),
 (.reg [o 34 (m 8),o 35 (.call 157 [(t 34)]),o 33 (m 35),o 36 (e 33 0),o 37 (e 33 1),o 10 (m 36),o 11 (m 37)]),
 (q [(.reg [o 38 (m 11),o 39 (m 7),o 40 (b .eql 38 39)]),
 (i 40 (q [(.reg [o 41 (m 6),o 42 (m 7),o 4 (m 41),o 5 (m 42)]),
 .ret]) .skip)]),
 (.reg [o 43 (m 10),o 44 (m 11),o 6 (m 43),o 7 (m 44)])]))))])⟩
def zjn:CFn:=⟨52,[.tmp 6],(q [(.reg [o 6 (.mv (c (.nils 1)))]),
 (.reg [o 12 (m 0),o 13 (m 1),o 14 (ia 1 12 13),o 15 (l 14),o 16 (.bslice 1 1 [(n 0)] [(0,(t 15))]),o 17 (.bslice 1 1 [(.nils 1)] [(0,(t 16))]),o 7 (m 17)]),
 (q [(.reg [o 18 (f 2 2),o 19 (l 18),o 20 (ln 19),o 21 (.mv (c (n 0)))]),
 (.block 0 (.loop (q [(.reg [o 22 (b .lss 21 20)]),
 (i 22 .skip (.exit 0)),
 (.block 1 (q [(.reg [o 23 (ia 1 19 21),o 24 (l 23),o 9 (m 24)]),
 (.reg [o 25 (m 7),o 26 (m 0),o 27 (m 9),o 28 (m 1),o 29 (ia 1 27 28),o 30 (l 29),o 31 (.call 126 [(t 26),(t 30)]),o 32 (.bslice 1 1 [(.nils 1)] [(0,(t 31))]),o 33 (.app 1 24 (t 25) (t 32)),o 7 (m 33)])])),
 (.reg [o 34 (bc .add 21 (n 1)),o 21 (m 34)])])))]),
 (q [(.reg [o 35 (l 3),o 36 (ln 35),o 37 (.mv (c (n 0)))]),
 (.block 2 (.loop (q [(.reg [o 38 (b .lss 37 36)]),
 (i 38 .skip (.exit 2)),
 (.block 3 (q [(.reg [o 39 (ia 1 35 37),o 40 (l 39),o 11 (m 40)]),
 (.reg [o 41 (m 7),o 42 (m 0),o 43 (m 11),o 44 (m 1),o 45 (ia 1 43 44),o 46 (l 45),o 47 (.call 126 [(t 42),(t 46)]),o 48 (.bslice 1 1 [(.nils 1)] [(0,(t 47))]),o 49 (.app 1 24 (t 41) (t 48)),o 7 (m 49)])])),
 (.reg [o 50 (bc .add 37 (n 1)),o 37 (m 50)])])))]),
 (.reg [o 51 (m 7),o 6 (m 51)]),
 .ret])⟩
def zkX:CFn:=⟨26,[.tmp 4],(q [(.reg [o 4 (.mv (c (.nils 1)))]),
 (.reg [o 5 (.mv (c (.nils 1)))]),
 (q [(.reg [o 8 (m 1),o 9 (.call 156 [(t 8)]),o 10 (ln 9),o 11 (.mv (c (n 0)))]),
 (.block 0 (.loop (q [(.reg [o 12 (b .lss 11 10)]),
 (i 12 .skip (.exit 0)),
 (.block 1 (q [(.reg [o 13 (ia 1 9 11),o 14 (l 13),o 7 (m 14)]),
 (.reg [o 15 (m 5),o 16 (m 0),o 17 (m 7),o 18 (ia 1 16 17),o 19 (l 18),o 20 (.bslice 1 1 [(n 0)] [(0,(t 19))]),o 21 (.app 1 8 (t 15) (t 20)),o 5 (m 21)])])),
 (.reg [o 22 (bc .add 11 (n 1)),o 11 (m 22)])])))]),
 (.reg [o 23 (m 5),o 24 (.call 92 [(t 23)])]),
 (.reg [o 25 (m 5),o 4 (m 25)]),
 .ret])⟩
def zfj:CFn:=⟨134,[],(q [(.reg [o 8 (.mv (c .bt))]),
 (.reg [o 9 (.mv (c .bt))]),
 (.block 0 (.loop (.block 1 (q [(.reg [o 19 (m 2),o 20 (m 1),o 21 (b .sub 19 20),o 10 (m 21)]),
 (q [(.reg [o 22 (m 10),o 23 (bc .leq 22 (n 12))]),
 (i 23 (q [(.reg [o 24 (m 0),o 25 (m 1),o 26 (m 2),o 27 (.call 158 [(t 24),(t 25),(t 26)])]),
 .ret]) .skip)]),
 (q [(.reg [o 28 (m 3),o 29 (bc .eql 28 (n 0))]),
 (i 29 (q [(.reg [o 30 (m 0),o 31 (m 1),o 32 (m 2),o 33 (.call 159 [(t 30),(t 31),(t 32)])]),
 .ret]) .skip)]),
 (q [(.reg [o 34 (m 8),o 35 (.un .not (t 34))]),
 (i 35 (q [(.reg [o 36 (m 0),o 37 (m 1),o 38 (m 2),o 39 (.call 160 [(t 36),(t 37),(t 38)])]),
 (.reg [o 40 (m 3),o 41 (bc .sub 40 (n 1)),o 3 (m 41)])]) .skip)]),
 (.reg [o 43 (m 0),o 44 (m 1),o 45 (m 2),o 46 (.call 161 [(t 43),(t 44),(t 45)]),o 42 (m 46),o 47 (e 42 0),o 48 (e 42 1),o 11 (m 47),o 12 (m 48)]),
 (q [(.reg [o 49 (m 12),o 50 (bc .eql 49 (n 2))]),
 (i 50 (q [(.reg [o 51 (m 0),o 52 (m 1),o 53 (m 2),o 54 (.call 162 [(t 51),(t 52),(t 53)])]),
 (.reg [o 55 (m 2),o 56 (bc .sub 55 (n 1)),o 57 (m 11),o 58 (m 1),o 59 (b .sub 57 58),o 60 (b .sub 56 59),o 11 (m 60)]),
 (.reg [o 12 (.mv (c (n 1)))])]) .skip)]),
 (q [(.reg [o 61 (m 8),o 62 (m 61),g 63 62 true (m 9),o 64 (pf 62 63),o 65 (m 64),g 66 65 true (m 12),g 67 65 true (bc .eql 66 (n 1)),o 68 (pf 65 67)]),
 (i 68 (q [(.reg [o 69 (m 0),o 70 (m 1),o 71 (m 2),o 72 (.call 163 [(t 69),(t 70),(t 71)])]),
 (i 72 .ret .skip)]) .skip)]),
 (q [(.regd [o 73 (m 1),o 74 (bc .gtr 73 (n 0)),o 75 (m 74),g 76 75 true (m 0),g 77 75 true (m 1),g 78 75 true (bc .sub 77 (n 1)),g 79 75 true (ia 1 76 78),g 80 75 true (l 79),g 81 75 true (m 0),g 82 75 true (m 11),g 83 75 true (ia 1 81 82),g 84 75 true (l 83),g 85 75 true (.call 164 [(t 80),(t 84)]),g 86 75 true (.un .not (t 85)),o 87 (pf 75 86)] [0,1,3,7,7,23,63,127,7,7,775,1799,4095,8191,16383]),
 (i 87 (q [(.reg [o 88 (m 0),o 89 (m 1),o 90 (m 2),o 91 (m 11),o 92 (.call 165 [(t 88),(t 89),(t 90),(t 91)]),o 13 (m 92)]),
 (.reg [o 93 (m 13),o 1 (m 93)]),
 (.exit 1)]) .skip)]),
 (.reg [o 95 (m 0),o 96 (m 1),o 97 (m 2),o 98 (m 11),o 99 (.call 166 [(t 95),(t 96),(t 97),(t 98)]),o 94 (m 99),o 100 (e 94 0),o 101 (e 94 1),o 14 (m 100),o 15 (m 101)]),
 (.reg [o 102 (m 15),o 9 (m 102)]),
 (.reg [o 103 (m 14),o 104 (m 1),o 105 (b .sub 103 104),o 106 (m 2),o 107 (m 14),o 108 (b .sub 106 107),o 16 (m 105),o 17 (m 108)]),
 (.reg [o 109 (m 10),o 110 (bc .quo 109 (n 8)),o 18 (m 110)]),
 (.reg [o 111 (m 16),o 112 (m 17),o 113 (b .lss 111 112)]),
 (i 113 (q [(.reg [o 114 (m 16),o 115 (m 18),o 116 (b .geq 114 115),o 8 (m 116)]),
 (.reg [o 117 (m 0),o 118 (m 1),o 119 (m 14),o 120 (m 3),o 121 (.call 127 [(t 117),(t 118),(t 119),(t 120)])]),
 (.reg [o 122 (m 14),o 123 (bc .add 122 (n 1)),o 1 (m 123)])]) (q [(.reg [o 124 (m 17),o 125 (m 18),o 126 (b .geq 124 125),o 8 (m 126)]),
 (.reg [o 127 (m 0),o 128 (m 14),o 129 (bc .add 128 (n 1)),o 130 (m 2),o 131 (m 3),o 132 (.call 127 [(t 127),(t 129),(t 130),(t 131)])]),
 (.reg [o 133 (m 14),o 2 (m 133)])]))]))))])⟩
def zmG:CFn:=⟨8,[.tmp 2],(q [(.reg [o 2 (.mv (c (n 0)))]),
 (.cond (c .bf) (q [(.reg [o 3 (m 0),o 4 (.conv .u32 (t 3)),o 5 (.call 167 [(t 4)]),o 2 (m 5)]),
 .ret]) .skip),
 (.reg [o 6 (m 0),o 7 (.call 65 [(t 6)]),o 2 (m 7)]),
 .ret])⟩
def zlK:CFn:=⟨93,[],(q [(.reg [o 15 (f 0 1),o 16 (l 15),o 17 (.mkslice 1 8 [(n 0)] (t 16) (t 16)),o 4 (m 17)]),
 (.reg [o 18 (f 0 1),o 19 (l 18),o 20 (.mkslice 1 8 [(n 0)] (t 19) (t 19)),o 5 (m 20)]),
 (q [(.reg [o 21 (m 5),o 22 (ln 21),o 23 (.mv (c (n 0)))]),
 (.block 0 (.loop (q [(.reg [o 24 (b .lss 23 22)]),
 (i 24 .skip (.exit 0)),
 (.block 1 (q [(.reg [o 25 (m 23),o 6 (m 25)]),
 (.reg [o 26 (m 5),o 27 (m 6),o 28 (la 3 1),o 29 (m 6),o 30 (.call 54 [(t 28),(t 29)]),o 31 (ia 1 26 27),w (.store 1 (t 31) (t 30))])])),
 (.reg [o 32 (bc .add 23 (n 1)),o 23 (m 32)])])))]),
 (.reg [o 34 (m 4),o 35 (m 5),o 36 (.call 153 [(t 34),(t 35)]),o 33 (m 36),o 37 (e 33 0),o 38 (e 33 1),o 4 (m 37)]),
 (.block 2 (.loop (q [(q [(.reg [o 39 (m 0),o 40 (m 4),o 41 (.callv (t 39) [(t 40)])]),
 (i 41 .skip (.exit 2))]),
 (.block 3 (q [(.reg [o 42 .mkmap,o 7 (m 42)]),
 (.reg [o 43 (f 0 1),o 44 (l 43),o 45 (.mkslice 1 8 [(n 0)] (t 44) (t 44)),o 8 (m 45)]),
 (q [(.reg [o 46 (m 8),o 47 (ln 46),o 48 (.mv (c (n 0)))]),
 (.block 4 (.loop (q [(.reg [o 49 (b .lss 48 47)]),
 (i 49 .skip (.exit 4)),
 (.block 5 (q [(.reg [o 50 (m 48),o 9 (m 50)]),
 (.reg [o 10 (.mv (c (.d (.str []))))]),
 (q [(.reg [o 51 (l 2),o 52 (ln 51),o 53 (.mv (c (n 0)))]),
 (.block 6 (.loop (q [(.reg [o 54 (b .lss 53 52)]),
 (i 54 .skip (.exit 6)),
 (.block 7 (q [(.reg [o 55 (ia 1 51 53),o 56 (l 55),o 12 (m 56)]),
 (.reg [o 57 (m 10),o 58 (m 4),o 59 (m 12),o 60 (m 9),o 61 (ia 1 59 60),o 62 (l 61),o 63 (.call 155 [(t 58),(t 62)]),o 64 (.call 154 [(t 63),(c (n 16))]),o 65 (bc .add 64 (.d (.str [32]))),o 66 (b .add 57 65),o 10 (m 66)])])),
 (.reg [o 67 (bc .add 53 (n 1)),o 53 (m 67)])])))]),
 (q [(.reg [o 69 (m 7),o 70 (m 10),o 71 (.look .str [(n 0)] (t 69) (t 70) true),o 68 (m 71),o 72 (e 68 0),o 73 (e 68 1),o 13 (m 72),o 14 (m 73)]),
 (.reg [o 74 (m 14),o 75 (.un .not (t 74))]),
 (i 75 (.reg [o 76 (m 7),o 77 (m 10),o 78 (m 7),o 79 (.lenm (t 78)),w (.mupd .str (t 76) (t 77) (t 79))]) .skip)]),
 (.reg [o 80 (m 8),o 81 (m 9),o 82 (m 7),o 83 (m 10),o 84 (.look .str [(n 0)] (t 82) (t 83) false),o 85 (ia 1 80 81),w (.store 1 (t 85) (t 84))])])),
 (.reg [o 86 (bc .add 48 (n 1)),o 48 (m 86)])])))]),
 (.reg [o 88 (m 4),o 89 (m 8),o 90 (.call 153 [(t 88),(t 89)]),o 87 (m 90),o 91 (e 87 0),o 92 (e 87 1),o 4 (m 91)])]))])))])⟩
def zk0:CFn:=⟨20,[.tmp 4,.tmp 5],(q [(.reg [o 4 (.mv (c (.nils 1))),o 5 (.mv (c (n 0)))]),
 (q [(.reg [o 7 (m 0),o 8 (.call 53 [(t 7)]),o 6 (m 8)]),
 (.reg [o 9 (m 6),o 10 (bc .neq 9 (n 0))]),
 (i 10 (q [(.reg [o 11 (m 6),o 4 (.mv (c (.nils 1))),o 5 (m 11)]),
 .ret]) .skip)]),
 (q [(.reg [o 12 (m 0),o 13 (ln 12),o 14 (m 1),o 15 (ln 14),o 16 (b .neq 13 15)]),
 (i 16 (q [(.reg [o 4 (.mv (c (.nils 1))),o 5 (.mv (c (n 3)))]),
 .ret]) .skip)]),
 (.reg [o 17 (m 0),o 18 (m 1),o 19 (.call 183 [(t 17),(t 18)]),o 4 (m 19),o 5 (.mv (c (n 0)))]),
 .ret])⟩
def ziz:CFn:=⟨8,[.tmp 4],(q [(.reg [o 4 (.mv (c (.d (.str []))))]),
 (.reg [o 5 (m 0),o 6 (m 1),o 7 (.call 184 [(t 5),(t 6)]),o 4 (m 7)]),
 .ret])⟩
def zmC:CFn:=⟨18,[.tmp 4],(q [(.reg [o 2 (.box 1 (t 0)),o 4 (.mv (c (u 0)))]),
 (.reg [o 5 (.alloc [(u 0)])]),
 (q [(.reg [o 7 (m 1),o 8 (.call 66 [(t 7)])]),
 (.block 0 (.rng (t 8) [9] (.reg [o 6 (m 9)]) (.block 1 (.regd [o 10 (l 5),o 11 (l 2),o 12 (m 6),o 13 (ia 1 11 12),o 14 (l 13),o 15 (.bin .shl (c (u 1)) (t 14)),o 16 (b .or 10 15),w (.store 1 (t 5) (t 16))] [0,0,0,6,14,30,63,127]))))]),
 (.reg [o 17 (l 5),o 4 (m 17)]),
 .ret])⟩
def zjB:CFn:=⟨16,[.tmp 2],(q [(.reg [o 2 (.mv (c (.nils 1)))]),
 (.reg [o 3 (.mv (c (.nils 1)))]),
 (.block 0 (.loop (q [(q [(.reg [o 4 (m 0),o 5 (bc .neq 4 (u 0))]),
 (i 5 .skip (.exit 0))]),
 (.block 1 (.reg [o 10 (m 3),o 11 (m 0),o 12 (.call 100 [(t 11)]),o 13 (.bslice 1 1 [(n 0)] [(0,(t 12))]),o 14 (.app 1 8 (t 10) (t 13)),o 3 (m 14)])),
 (.reg [o 6 (m 0),o 7 (m 0),o 8 (bc .sub 7 (u 1)),o 9 (b .and 6 8),o 0 (m 9)])]))),
 (.reg [o 15 (m 3),o 2 (m 15)]),
 .ret])⟩
def zlO:CFn:=⟨37,[.tmp 2,.tmp 3],(q [(.reg [o 2 (.mv (c (.nils 1))),o 3 (.mv (c (n 0)))]),
 (.reg [o 8 (m 0),o 9 (.call 185 [(t 8)]),o 4 (m 9)]),
 (.reg [o 10 (m 4),o 11 (.call 186 [(t 10),(c (.fn zH []))])]),
 (.reg [o 12 (m 4),o 13 (.call 188 [(t 12),(c (.fn zcd []))]),o 4 (m 13)]),
 (.reg [o 14 (m 0),o 15 (ln 14),o 16 (.mkslice 1 8 [(n 0)] (t 15) (t 15)),o 5 (m 16)]),
 (q [(.reg [o 17 (m 0),o 18 (ln 17),o 19 (.mv (c (n 0)))]),
 (.block 0 (.loop (q [(.reg [o 20 (b .lss 19 18)]),
 (i 20 .skip (.exit 0)),
 (.block 1 (q [(.reg [o 21 (m 19),o 22 (ia 1 17 19),o 23 (l 22),o 6 (m 21),o 7 (m 23)]),
 (.reg [o 25 (m 5),o 26 (m 6),o 27 (m 4),o 28 (m 7),o 29 (.call 190 [(t 27),(t 28),(c (.fn zH []))]),o 24 (m 29),o 30 (e 24 0),o 31 (e 24 1),o 32 (ia 1 25 26),w (.store 1 (t 32) (t 30))])])),
 (.reg [o 33 (bc .add 19 (n 1)),o 19 (m 33)])])))]),
 (.reg [o 34 (m 5),o 35 (m 4),o 36 (ln 35),o 2 (m 34),o 3 (m 36)]),
 .ret])⟩
def zec:CFn:=⟨49,[],(q [(.reg [o 8 (m 1),o 9 (bc .add 8 (n 1)),o 6 (m 9)]),
 (.block 0 (.loop (q [(q [(.reg [o 10 (m 6),o 11 (m 2),o 12 (b .lss 10 11)]),
 (i 12 .skip (.exit 0))]),
 (.block 1 (q [(.reg [o 15 (m 6),o 7 (m 15)]),
 (.block 2 (.loop (q [(q [(.regd [o 16 (m 7),o 17 (m 1),o 18 (b .gtr 16 17),o 19 (m 18),g 20 19 true (m 0),g 21 19 true (m 7),g 22 19 true (ia 1 20 21),g 23 19 true (l 22),g 24 19 true (m 0),g 25 19 true (m 7),g 26 19 true (bc .sub 25 (n 1)),g 27 19 true (ia 1 24 26),g 28 19 true (l 27),g 29 19 true (.call 164 [(t 23),(t 28)]),o 30 (pf 19 29)] [0,0,3,7,15,15,63,127,15,15,527,1807,3855,8191,16383]),
 (i 30 .skip (.exit 2))]),
 (.block 3 (.regd [o 33 (m 0),o 34 (m 7),o 35 (m 0),o 36 (m 7),o 37 (bc .sub 36 (n 1)),o 38 (m 0),o 39 (m 7),o 40 (bc .sub 39 (n 1)),o 41 (ia 1 38 40),o 42 (l 41),o 43 (m 0),o 44 (m 7),o 45 (ia 1 43 44),o 46 (l 45),o 47 (ia 1 33 34),w (.store 1 (t 47) (t 42)),o 48 (ia 1 35 37),w (.store 1 (t 48) (t 46))] [0,0,0,0,8,0,0,64,224,480,0,0,3072,7168,16355,32739,65535,131071])),
 (.reg [o 31 (m 7),o 32 (bc .sub 31 (n 1)),o 7 (m 32)])])))])),
 (.reg [o 13 (m 6),o 14 (bc .add 13 (n 1)),o 6 (m 14)])])))])⟩
def zmD:CFn:=⟨17,[.tmp 4],(q [(.reg [o 4 (.mv (c .bf))]),
 (.reg [o 5 (m 0),o 6 (.call 196 [(t 5)]),o 7 (m 6),g 8 7 true (m 1),g 9 7 true (.call 196 [(t 8)]),g 10 7 true (.un .not (t 9)),o 11 (pf 7 10),o 12 (m 11),g 13 12 false (m 0),g 14 12 false (m 1),g 15 12 false (b .lss 13 14),o 16 (pt 12 15),o 4 (m 16)]),
 .ret])⟩
def zjE:CFn:=⟨48,[.tmp 4],(q [(.reg [o 4 (.mv (c (.nils 1)))]),
 (.reg [o 11 .mkmap,o 5 (m 11)]),
 (.reg [o 12 (m 0),o 13 (ln 12),o 14 (.mkslice 1 8 [(n 0)] (t 13) (t 13)),o 6 (m 14)]),
 (q [(.reg [o 15 (m 0),o 16 (ln 15),o 17 (.mv (c (n 0)))]),
 (.block 0 (.loop (q [(.reg [o 18 (b .lss 17 16)]),
 (i 18 .skip (.exit 0)),
 (.block 1 (q [(.reg [o 19 (m 17),o 7 (m 19)]),
 (.regd [o 20 (m 0),o 21 (m 7),o 22 (ia 1 20 21),o 23 (l 22),o 24 (m 1),o 25 (m 7),o 26 (ia 1 24 25),o 27 (l 26),o 28 (.build [(n 0),(n 0)] [(0,1,(t 23)),(1,1,(t 27))]),o 8 (.alloc [(n 0),(n 0)]),w (.store 2 (t 8) (t 28))] [0,0,3,7,0,0,48,112,255,0,1023]),
 (q [(.reg [o 30 (m 5),o 31 (la 2 8),o 32 (.look (.agg [(.int .i64),(.int .i64)]) [(n 0)] (t 30) (t 31) true),o 29 (m 32),o 33 (e 29 0),o 34 (e 29 1),o 9 (m 33),o 10 (m 34)]),
 (.reg [o 35 (m 10),o 36 (.un .not (t 35))]),
 (i 36 (.reg [o 37 (m 5),o 38 (la 2 8),o 39 (m 7),w (.mupd (.agg [(.int .i64),(.int .i64)]) (t 37) (t 38) (t 39))]) .skip)]),
 (.reg [o 40 (m 6),o 41 (m 7),o 42 (m 5),o 43 (la 2 8),o 44 (.look (.agg [(.int .i64),(.int .i64)]) [(n 0)] (t 42) (t 43) false),o 45 (ia 1 40 41),w (.store 1 (t 45) (t 44))])])),
 (.reg [o 46 (bc .add 17 (n 1)),o 17 (m 46)])])))]),
 (.reg [o 47 (m 6),o 4 (m 47)]),
 .ret])⟩
def zb1:CFn:=⟨8,[.tmp 2],(q [(.reg [o 2 (.mv (c (.nils 1)))]),
 (q [(.reg [o 3 (m 0),o 4 (.eqN false (t 3) (c (.nils 1)))]),
 (i 4 (q [(.reg [o 2 (.mv (c (.nils 1)))]),
 .ret]) .skip)]),
 (.reg [o 5 (.bslice 1 0 [(.nils 1)] []),o 6 (m 0),o 7 (.app 1 24 (t 5) (t 6)),o 2 (m 7)]),
 .ret])⟩
def zbH:CFn:=⟨14,[],(q [(.reg [o 5 (m 0),o 6 (ln 5),o 4 (m 6)]),
 (.reg [o 7 (m 0),o 8 (m 4),o 9 (m 4),o 10 (.conv .u64 (t 9)),o 11 (.call 128 [(t 10)]),o 12 (m 1),o 13 (.call 208 [(t 7),(c (n 0)),(t 8),(t 11),(t 12)])])])⟩
def zlN:CFn:=⟨8,[.tmp 4],(q [(.reg [o 4 (.mv (c (n 0)))]),
 (.reg [o 5 (m 0),o 6 (m 1),o 7 (.call 209 [(t 5),(t 6),(c (.fn zbm []))]),o 4 (m 7)]),
 .ret])⟩
def zbA:CFn:=⟨66,[.tmp 4],(q [(.reg [o 4 (.mv (c (.nils 1)))]),
 (q [(.reg [o 8 (m 0),o 9 (ln 8),o 10 (bc .lss 9 (n 2))]),
 (i 10 (q [(.reg [o 11 (m 0),o 4 (m 11)]),
 .ret]) .skip)]),
 (q [(.reg [o 5 (.mv (c (n 1)))]),
 (.block 0 (.loop (q [(q [(.reg [o 12 (m 5),o 13 (m 0),o 14 (ln 13),o 15 (b .lss 12 14)]),
 (i 15 .skip (.exit 0))]),
 (.block 1 (q [(.regd [o 18 (m 1),o 19 (m 0),o 20 (m 5),o 21 (ia 1 19 20),o 22 (l 21),o 23 (m 0),o 24 (m 5),o 25 (bc .sub 24 (n 1)),o 26 (ia 1 23 25),o 27 (l 26),o 28 (.callv (t 18) [(t 22),(t 27)])] [0,0,0,6,14,0,0,64,224,480,1023]),
 (i 28 (q [(.reg [o 29 (m 0),o 30 (m 5),o 31 (.slice 1 (t 29) (some (t 30)) none),o 6 (m 31)]),
 (q [(.reg [o 7 (.mv (c (n 1)))]),
 (.block 2 (.loop (q [(q [(.reg [o 32 (m 7),o 33 (m 6),o 34 (ln 33),o 35 (b .lss 32 34)]),
 (i 35 .skip (.exit 2))]),
 (.block 3 (q [(.regd [o 38 (m 1),o 39 (m 6),o 40 (m 7),o 41 (ia 1 39 40),o 42 (l 41),o 43 (m 6),o 44 (m 7),o 45 (bc .sub 44 (n 1)),o 46 (ia 1 43 45),o 47 (l 46),o 48 (.callv (t 38) [(t 42),(t 47)]),o 49 (.un .not (t 48))] [0,0,0,6,14,0,0,64,224,480,1023,2047]),
 (i 49 (q [(.reg [o 50 (m 0),o 51 (m 5),o 52 (m 6),o 53 (m 7),o 54 (ia 1 52 53),o 55 (l 54),o 56 (ia 1 50 51),w (.store 1 (t 56) (t 55))]),
 (.reg [o 57 (m 5),o 58 (bc .add 57 (n 1)),o 5 (m 58)])]) .skip)])),
 (.reg [o 36 (m 7),o 37 (bc .add 36 (n 1)),o 7 (m 37)])])))]),
 (.reg [o 59 (m 0),o 60 (m 5),o 61 (.slice 1 (t 59) (some (t 60)) none),w (.clear 1 [(.nils 1)] (t 61))]),
 (.reg [o 62 (m 0),o 63 (m 5),o 64 (.slice 1 (t 62) none (some (t 63))),o 4 (m 64)]),
 .ret]) .skip)])),
 (.reg [o 16 (m 5),o 17 (bc .add 16 (n 1)),o 5 (m 17)])])))]),
 (.reg [o 65 (m 0),o 4 (m 65)]),
 .ret])⟩
def zjD:CFn:=⟨9,[.tmp 4],(q [(.reg [o 4 (.mv (c .bf))]),
 (.reg [o 5 (m 0),o 6 (m 1),o 7 (.call 187 [(t 5),(t 6)]),o 8 (bc .eql 7 (n 0)),o 4 (m 8)]),
 .ret])⟩
def zap:CFn:=⟨49,[.tmp 6,.tmp 7],(q [(.reg [o 6 (.mv (c (n 0))),o 7 (.mv (c .bf))]),
 (.reg [o 12 (m 0),o 13 (ln 12),o 8 (m 13)]),
 (.reg [o 14 (m 8),o 9 (.mv (c (n 0))),o 10 (m 14)]),
 (.block 0 (.loop (q [(q [(.reg [o 15 (m 9),o 16 (m 10),o 17 (b .lss 15 16)]),
 (i 17 .skip (.exit 0))]),
 (.block 1 (q [(.reg [o 18 (m 9),o 19 (m 10),o 20 (b .add 18 19),o 21 (.conv .u64 (t 20)),o 22 (bc .shr 21 (u 1)),o 23 (.conv .i64 (t 22)),o 11 (m 23)]),
 (.reg [o 24 (m 2),o 25 (m 0),o 26 (m 11),o 27 (ia 1 25 26),o 28 (l 27),o 29 (m 1),o 30 (.callv (t 24) [(t 28),(t 29)]),o 31 (bc .lss 30 (n 0))]),
 (i 31 (.reg [o 32 (m 11),o 33 (bc .add 32 (n 1)),o 9 (m 33)]) (.reg [o 34 (m 11),o 10 (m 34)]))]))]))),
 (.reg [o 35 (m 9),o 36 (m 9),o 37 (m 8),o 38 (b .lss 36 37),o 39 (m 38),g 40 39 true (m 2),g 41 39 true (m 0),g 42 39 true (m 9),g 43 39 true (ia 1 41 42),g 44 39 true (l 43),g 45 39 true (m 1),g 46 39 true (.callv (t 40) [(t 44),(t 45)]),g 47 39 true (bc .eql 46 (n 0)),o 48 (pf 39 47),o 6 (m 35),o 7 (m 48)]),
 .ret])⟩
def zlL:CFn:=⟨6,[.tmp 2],(q [(.reg [o 2 (.mv (c .bf))]),
 (.reg [o 3 (m 0),o 4 (m 0),o 5 (b .neq 3 4),o 2 (m 5)]),
 .ret])⟩
def zdc:CFn:=⟨148,[],(q [(.reg [o 10 (.mv (c .bt))]),
 (.reg [o 11 (.mv (c .bt))]),
 (.block 0 (.loop (.block 1 (q [(.reg [o 21 (m 2),o 22 (m 1),o 23 (b .sub 21 22),o 12 (m 23)]),
 (q [(.reg [o 24 (m 12),o 25 (bc .leq 24 (n 12))]),
 (i 25 (q [(.reg [o 26 (m 0),o 27 (m 1),o 28 (m 2),o 29 (m 4),o 30 (.call 218 [(t 26),(t 27),(t 28),(t 29)])]),
 .ret]) .skip)]),
 (q [(.reg [o 31 (m 3),o 32 (bc .eql 31 (n 0))]),
 (i 32 (q [(.reg [o 33 (m 0),o 34 (m 1),o 35 (m 2),o 36 (m 4),o 37 (.call 219 [(t 33),(t 34),(t 35),(t 36)])]),
 .ret]) .skip)]),
 (q [(.reg [o 38 (m 10),o 39 (.un .not (t 38))]),
 (i 39 (q [(.reg [o 40 (m 0),o 41 (m 1),o 42 (m 2),o 43 (m 4),o 44 (.call 220 [(t 40),(t 41),(t 42),(t 43)])]),
 (.reg [o 45 (m 3),o 46 (bc .sub 45 (n 1)),o 3 (m 46)])]) .skip)]),
 (.reg [o 48 (m 0),o 49 (m 1),o 50 (m 2),o 51 (m 4),o 52 (.call 221 [(t 48),(t 49),(t 50),(t 51)]),o 47 (m 52),o 53 (e 47 0),o 54 (e 47 1),o 13 (m 53),o 14 (m 54)]),
 (q [(.reg [o 55 (m 14),o 56 (bc .eql 55 (n 2))]),
 (i 56 (q [(.reg [o 57 (m 0),o 58 (m 1),o 59 (m 2),o 60 (m 4),o 61 (.call 222 [(t 57),(t 58),(t 59),(t 60)])]),
 (.reg [o 62 (m 2),o 63 (bc .sub 62 (n 1)),o 64 (m 13),o 65 (m 1),o 66 (b .sub 64 65),o 67 (b .sub 63 66),o 13 (m 67)]),
 (.reg [o 14 (.mv (c (n 1)))])]) .skip)]),
 (q [(.reg [o 68 (m 10),o 69 (m 68),g 70 69 true (m 11),o 71 (pf 69 70),o 72 (m 71),g 73 72 true (m 14),g 74 72 true (bc .eql 73 (n 1)),o 75 (pf 72 74)]),
 (i 75 (q [(.reg [o 76 (m 0),o 77 (m 1),o 78 (m 2),o 79 (m 4),o 80 (.call 223 [(t 76),(t 77),(t 78),(t 79)])]),
 (i 80 .ret .skip)]) .skip)]),
 (q [(.regd [o 81 (m 1),o 82 (bc .gtr 81 (n 0)),o 83 (m 82),g 84 83 true (m 4),g 85 83 true (m 0),g 86 83 true (m 1),g 87 83 true (bc .sub 86 (n 1)),g 88 83 true (ia 1 85 87),g 89 83 true (l 88),g 90 83 true (m 0),g 91 83 true (m 13),g 92 83 true (ia 1 90 91),g 93 83 true (l 92),g 94 83 true (.callv (t 84) [(t 89),(t 93)]),g 95 83 true (bc .lss 94 (n 0)),g 96 83 true (.un .not (t 95)),o 97 (pf 83 96)] [0,1,3,7,7,7,39,119,247,7,7,1543,3591,8191,16383,32767,65535]),
 (i 97 (q [(.reg [o 98 (m 0),o 99 (m 1),o 100 (m 2),o 101 (m 13),o 102 (m 4),o 103 (.call 224 [(t 98),(t 99),(t 100),(t 101),(t 102)]),o 15 (m 103)]),
 (.reg [o 104 (m 15),o 1 (m 104)]),
 (.exit 1)]) .skip)]),
 (.reg [o 106 (m 0),o 107 (m 1),o 108 (m 2),o 109 (m 13),o 110 (m 4),o 111 (.call 225 [(t 106),(t 107),(t 108),(t 109),(t 110)]),o 105 (m 111),o 112 (e 105 0),o 113 (e 105 1),o 16 (m 112),o 17 (m 113)]),
 (.reg [o 114 (m 17),o 11 (m 114)]),
 (.reg [o 115 (m 16),o 116 (m 1),o 117 (b .sub 115 116),o 118 (m 2),o 119 (m 16),o 120 (b .sub 118 119),o 18 (m 117),o 19 (m 120)]),
 (.reg [o 121 (m 12),o 122 (bc .quo 121 (n 8)),o 20 (m 122)]),
 (.reg [o 123 (m 18),o 124 (m 19),o 125 (b .lss 123 124)]),
 (i 125 (q [(.reg [o 126 (m 18),o 127 (m 20),o 128 (b .geq 126 127),o 10 (m 128)]),
 (.reg [o 129 (m 0),o 130 (m 1),o 131 (m 16),o 132 (m 3),o 133 (m 4),o 134 (.call 208 [(t 129),(t 130),(t 131),(t 132),(t 133)])]),
 (.reg [o 135 (m 16),o 136 (bc .add 135 (n 1)),o 1 (m 136)])]) (q [(.reg [o 137 (m 19),o 138 (m 20),o 139 (b .geq 137 138),o 10 (m 139)]),
 (.reg [o 140 (m 0),o 141 (m 16),o 142 (bc .add 141 (n 1)),o 143 (m 2),o 144 (m 3),o 145 (m 4),o 146 (.call 208 [(t 140),(t 142),(t 143),(t 144),(t 145)])]),
 (.reg [o 147 (m 16),o 2 (m 147)])]))]))))])⟩
def zgE:CFn:=⟨36,[.tmp 6],(q [(.reg [o 6 (.mv (c (n 0)))]),
 (q [(.reg [o 9 (m 0),o 10 (ln 9),o 11 (m 1),o 12 (ln 11),o 13 (.mm false (t 10) (t 12)),o 14 (.mv (c (n 0)))]),
 (.block 0 (.loop (q [(.reg [o 15 (b .lss 14 13)]),
 (i 15 .skip (.exit 0)),
 (.block 1 (q [(.reg [o 16 (m 14),o 7 (m 16)]),
 (.regd [o 17 (m 2),o 18 (m 0),o 19 (m 7),o 20 (ia 1 18 19),o 21 (l 20),o 22 (m 1),o 23 (m 7),o 24 (ia 1 22 23),o 25 (l 24),o 26 (.callv (t 17) [(t 21),(t 25)]),o 8 (m 26)] [0,0,0,6,14,0,0,96,224,511,1023]),
 (.reg [o 27 (m 8),o 28 (bc .neq 27 (n 0))]),
 (i 28 (q [(.reg [o 29 (m 8),o 6 (m 29)]),
 .ret]) .skip)])),
 (.reg [o 30 (bc .add 14 (n 1)),o 14 (m 30)])])))]),
 (.reg [o 31 (m 0),o 32 (ln 31),o 33 (m 1),o 34 (ln 33),o 35 (.call 212 [(t 32),(t 34)]),o 6 (m 35)]),
 .ret])⟩
def zjC:CFn:=⟨8,[.tmp 4],(q [(.reg [o 4 (.mv (c (n 0)))]),
 (.reg [o 5 (m 0),o 6 (m 1),o 7 (.call 211 [(t 5),(t 6),(c (.fn zbl []))]),o 4 (m 7)]),
 .ret])⟩
def zg6:CFn:=⟨36,[.tmp 6],(q [(.reg [o 6 (.mv (c (n 0)))]),
 (q [(.reg [o 9 (m 0),o 10 (ln 9),o 11 (m 1),o 12 (ln 11),o 13 (.mm false (t 10) (t 12)),o 14 (.mv (c (n 0)))]),
 (.block 0 (.loop (q [(.reg [o 15 (b .lss 14 13)]),
 (i 15 .skip (.exit 0)),
 (.block 1 (q [(.reg [o 16 (m 14),o 7 (m 16)]),
 (.regd [o 17 (m 2),o 18 (m 0),o 19 (m 7),o 20 (ia 1 18 19),o 21 (l 20),o 22 (m 1),o 23 (m 7),o 24 (ia 1 22 23),o 25 (l 24),o 26 (.callv (t 17) [(t 21),(t 25)]),o 8 (m 26)] [0,0,0,6,14,0,0,96,224,511,1023]),
 (.reg [o 27 (m 8),o 28 (bc .neq 27 (n 0))]),
 (i 28 (q [(.reg [o 29 (m 8),o 6 (m 29)]),
 .ret]) .skip)])),
 (.reg [o 30 (bc .add 14 (n 1)),o 14 (m 30)])])))]),
 (.reg [o 31 (m 0),o 32 (ln 31),o 33 (m 1),o 34 (ln 33),o 35 (.call 212 [(t 32),(t 34)]),o 6 (m 35)]),
 .ret])⟩
def zjA:CFn:=⟨20,[.tmp 4],(q [(.reg [o 4 (.mv (c (n 0)))]),
 (.reg [o 7 (m 0),o 8 (.call 196 [(t 7)]),o 5 (m 8)]),
 (.reg [o 9 (m 1),o 10 (.call 196 [(t 9)]),o 6 (m 10)]),
 (q [(.reg [o 11 (m 5)]),
 (i 11 (q [(q [(.reg [o 12 (m 6)]),
 (i 12 (q [(.reg [o 4 (.mv (c (n 0)))]),
 .ret]) .skip)]),
 (.reg [o 4 (.mv (c (n (-1))))]),
 .ret]) .skip)]),
 (q [(.reg [o 13 (m 6)]),
 (i 13 (q [(.reg [o 4 (.mv (c (n 1)))]),
 .ret]) .skip)]),
 (q [(.reg [o 14 (m 0),o 15 (m 1),o 16 (b .lss 14 15)]),
 (i 16 (q [(.reg [o 4 (.mv (c (n (-1))))]),
 .ret]) .skip)]),
 (q [(.reg [o 17 (m 0),o 18 (m 1),o 19 (b .gtr 17 18)]),
 (i 19 (q [(.reg [o 4 (.mv (c (n 1)))]),
 .ret]) .skip)]),
 (.reg [o 4 (.mv (c (n 0)))]),
 .ret])⟩
def zcb:CFn:=⟨53,[],(q [(.reg [o 10 (m 1),o 11 (bc .add 10 (n 1)),o 8 (m 11)]),
 (.block 0 (.loop (q [(q [(.reg [o 12 (m 8),o 13 (m 2),o 14 (b .lss 12 13)]),
 (i 14 .skip (.exit 0))]),
 (.block 1 (q [(.reg [o 17 (m 8),o 9 (m 17)]),
 (.block 2 (.loop (q [(q [(.regd [o 18 (m 9),o 19 (m 1),o 20 (b .gtr 18 19),o 21 (m 20),g 22 21 true (m 3),g 23 21 true (m 0),g 24 21 true (m 9),g 25 21 true (ia 1 23 24),g 26 21 true (l 25),g 27 21 true (m 0),g 28 21 true (m 9),g 29 21 true (bc .sub 28 (n 1)),g 30 21 true (ia 1 27 29),g 31 21 true (l 30),g 32 21 true (.callv (t 22) [(t 26),(t 31)]),g 33 21 true (bc .lss 32 (n 0)),o 34 (pf 21 33)] [0,0,3,7,15,15,15,111,239,15,15,1039,3599,7695,16383,32767,65535]),
 (i 34 .skip (.exit 2))]),
 (.block 3 (.regd [o 37 (m 0),o 38 (m 9),o 39 (m 0),o 40 (m 9),o 41 (bc .sub 40 (n 1)),o 42 (m 0),o 43 (m 9),o 44 (bc .sub 43 (n 1)),o 45 (ia 1 42 44),o 46 (l 45),o 47 (m 0),o 48 (m 9),o 49 (ia 1 47 48),o 50 (l 49),o 51 (ia 1 37 38),w (.store 1 (t 51) (t 46)),o 52 (ia 1 39 41),w (.store 1 (t 52) (t 50))] [0,0,0,0,8,0,0,64,224,480,0,0,3072,7168,16355,32739,65535,131071])),
 (.reg [o 35 (m 9),o 36 (bc .sub 35 (n 1)),o 9 (m 36)])])))])),
 (.reg [o 15 (m 8),o 16 (bc .add 15 (n 1)),o 8 (m 16)])])))])⟩
end Go.Ab
namespace Go.Ab
open Go Go.Proofs
theorem zy:Tryz.prog.follows .mixedOrders=true:=by kernel_rfl
theorem zkd:zh Tryz.prog zfS=some zjF:=by kernel_rfl
theorem zo7:zh Tryz.prog zep=some zo2:=by kernel_rfl
theorem znW:zh Tryz.prog zhU=some znI:=by kernel_rfl
theorem zjh:zh Tryz.prog zjc=some zo4:=by kernel_rfl
theorem zjt:zh Tryz.prog zfe=some zjq:=by kernel_rfl
theorem zaN:zh Tryz.prog zeF=some zhL:=by kernel_rfl
theorem zl3:zh Tryz.prog zgL=some zlM:=by kernel_rfl
theorem zji:zh Tryz.prog zdd=some zo5:=by kernel_rfl
theorem zne:zh Tryz.prog zhk=some zmJ:=by kernel_rfl
theorem zdf:zh Tryz.prog za3=some zdb:=by kernel_rfl
theorem znc:zh Tryz.prog zdx=some zmH:=by kernel_rfl
theorem znd:zh Tryz.prog zeW=some zmI:=by kernel_rfl
theorem ze2:zh Tryz.prog zce=some zeR:=by kernel_rfl
theorem zl1:zh Tryz.prog zc4=some zlJ:=by kernel_rfl
theorem zm9:zh Tryz.prog zhi=some zmE:=by kernel_rfl
theorem zk5:zh Tryz.prog zf8=some zkW:=by kernel_rfl
theorem zg8:zh Tryz.prog zY=some zg5:=by kernel_rfl
theorem zna:zh Tryz.prog zhj=some zmF:=by kernel_rfl
theorem zk8:zh Tryz.prog zee=some zkZ:=by kernel_rfl
theorem zo8:zh Tryz.prog zeq=some zo3:=by kernel_rfl
theorem zla:zh Tryz.prog zga=some zk1:=by kernel_rfl
theorem zgQ:zh Tryz.prog zdL=some zgH:=by kernel_rfl
theorem zlb:zh Tryz.prog zgb=some zk2:=by kernel_rfl
theorem zm6:zh Tryz.prog zhf=some zmB:=by kernel_rfl
theorem zdA:zh Tryz.prog zbg=some zdz:=by kernel_rfl
theorem zk7:zh Tryz.prog zcF=some zkY:=by kernel_rfl
theorem zrt:zh Tryz.prog zlj=some zq8:=by kernel_rfl
theorem zdQ:zh Tryz.prog zbn=some zdG:=by kernel_rfl
theorem zqj:zh Tryz.prog zjQ=some zpJ:=by kernel_rfl
theorem znV:zh Tryz.prog zhT=some znH:=by kernel_rfl
theorem zgc:zh Tryz.prog zf6=some zkU:=by kernel_rfl
theorem zff:zh Tryz.prog zbX=some zjp:=by kernel_rfl
theorem zdP:zh Tryz.prog zaX=some zgF:=by kernel_rfl
theorem zha:zh Tryz.prog zd8=some zg7:=by kernel_rfl
theorem zde:zh Tryz.prog zaH=some zfZ:=by kernel_rfl
theorem zk3:zh Tryz.prog zcE=some zkT:=by kernel_rfl
theorem zef:zh Tryz.prog zbB=some zeb:=by kernel_rfl
theorem znU:zh Tryz.prog zhS=some znG:=by kernel_rfl
theorem zgP:zh Tryz.prog zdK=some zgG:=by kernel_rfl
theorem zjs:zh Tryz.prog zfd=some zjo:=by kernel_rfl
theorem zk4:zh Tryz.prog zf7=some zkV:=by kernel_rfl
theorem zjr:zh Tryz.prog zbW=some zjn:=by kernel_rfl
theorem zk6:zh Tryz.prog zed=some zkX:=by kernel_rfl
theorem zfo:zh Tryz.prog zcQ=some zfj:=by kernel_rfl
theorem znb:zh Tryz.prog zdw=some zmG:=by kernel_rfl
theorem zl2:zh Tryz.prog zc5=some zlK:=by kernel_rfl
theorem zk9:zh Tryz.prog zcG=some zk0:=by kernel_rfl
theorem ziR:zh Tryz.prog zc6=some ziz:=by kernel_rfl
theorem zm7:zh Tryz.prog zhg=some zmC:=by kernel_rfl
theorem zj9:zh Tryz.prog zfQ=some zjB:=by kernel_rfl
theorem zl5:zh Tryz.prog zeu=some zlO:=by kernel_rfl
theorem zeg:zh Tryz.prog zax=some zec:=by kernel_rfl
theorem zm8:zh Tryz.prog zhh=some zmD:=by kernel_rfl
theorem zkc:zh Tryz.prog zfR=some zjE:=by kernel_rfl
theorem zb2:zh Tryz.prog zZ=some zb1:=by kernel_rfl
theorem zbI:zh Tryz.prog zam=some zbH:=by kernel_rfl
theorem zl4:zh Tryz.prog zH=some zlN:=by kernel_rfl
theorem zad:zh Tryz.prog zz=some zbA:=by kernel_rfl
theorem zkb:zh Tryz.prog zcd=some zjD:=by kernel_rfl
theorem zar:zh Tryz.prog zO=some zap:=by kernel_rfl
theorem zgN:zh Tryz.prog zet=some zlL:=by kernel_rfl
theorem zdg:zh Tryz.prog za4=some zdc:=by kernel_rfl
theorem zgO:zh Tryz.prog zdJ=some zgE:=by kernel_rfl
theorem zka:zh Tryz.prog zbm=some zjC:=by kernel_rfl
theorem zg9:zh Tryz.prog zd7=some zg6:=by kernel_rfl
theorem zj8:zh Tryz.prog zbl=some zjA:=by kernel_rfl
theorem zci:zh Tryz.prog zaB=some zcb:=by kernel_rfl
end Go.Ab
namespace Go.Ab
open Go Go.Proofs
set_option maxRecDepth 10000
set_option maxHeartbeats 4000000
variable {T:Nat→Obj→Prop}
def znC (n:Int):BitVec 64:=if n ≥ 64 then -1 else (1#64 <<< n.toNat) - 1#64
def bad (n:Int) (s:BitVec 64):Bool:=s &&& ~~~ (znC n)≠0
def zuB (worlds agents:Int) (val:List (BitVec 64)):Int :=
 if worlds < 1∨64 < worlds then 2 else if 8 < val.length∨4 < agents then 8 else if val.any (bad worlds) then 3 else 0
theorem zj0 (a b:List Int):Fn Tryz.prog T zdK [.d (dI a),.d (dI b)] [] (.d (.bool (a==b))) []:=by
 refine zi zy zgP (by show 2≤26;decide) ?_
 (repeat' ((conv=>whnf);first|refine vA ?_|(refine vD ?_ ?_<;>intro hc<;>try simp only [vL] at hc)|refine vJ fun hg=>?_|refine vT ?_|refine vZ ?_));all_goals try conv=>whnf
 ·have:a≠b:=fun e=>hc (by rw [e])
  simp [this]
 ·refine zaY (fun (k:Nat)=>[(0,.d (dI a)),(1,.d (dI b)),(12,.d (.int .i64 ((a.map (D.int .i64)).length:Int))),(13,.d (.int .i64 ((k:Int))))]) (fun (k:Nat)=>k≤a.length∧(a==b)=(a.drop k==b.drop k)) (fun (k:Nat)=>a.length - k) (0) (⟨by simp,by simp⟩) (by (repeat' first|exact trivial|exact rfl|refine And.intro ?_ ?_)) ?_
  rintro k ⟨hk,hI⟩
  (repeat' ((conv=>whnf);first|refine vA ?_|((first|refine vD ?_ ?_|refine vF ?_ ?_)<;>intro hc<;>try simp only [vL] at hc)|refine vT ?_|(refine vQ ?_ fun x hx=>?_;·omega)|(refine vO ?_ ?_;·omega)|(refine vU ?_ ?_;·kernel_rfl)|refine vZ ?_));all_goals try conv=>whnf
  ·rw [hI,zaL ‹a[k]? = some _›,zaL ‹b[k]? = some _›];simp [hc]
  ·exact ⟨k+1,[],[],⟨by (omega),by rw [hI,zaL ‹a[k]? = some _›,zaL ‹b[k]? = some _›];simp [hc]⟩,by (omega),by (refine ⟨rfl,rfl,rfl,?_,?_⟩;repeat' first|exact trivial|exact rfl|refine And.intro ?_ ?_)⟩
  ·rw [hI,List.drop_eq_nil_of_le (by omega),List.drop_eq_nil_of_le (by omega)];rfl
structure PM where
 W:Int
 val:List (BitVec 64)
 cell:List (List Int)
 rank:List (List Int)
 deriving DecidableEq
theorem zba (s:BitVec 64) (n:Nat):(s >>> n)&&&1#64=1#64↔s.getLsbD n=true:=by
 constructor
 ·intro h
  have:=congrArg (fun x=>x.getLsbD 0) h
  simpa using this
 ·intro h
  apply BitVec.eq_of_getLsbD_eq
  intro i hi
  by_cases h0:i=0
  ·subst h0;simpa using h
  ·simp [h0]
theorem zer (s:BitVec 64) (n:Nat):(s >>> n)&&&1#64=0#64↔s.getLsbD n=false:=by
 constructor
 ·intro h
  have:=congrArg (fun x=>x.getLsbD 0) h
  simpa using this
 ·intro h
  apply BitVec.eq_of_getLsbD_eq
  intro i hi
  by_cases h0:i=0
  ·subst h0;simpa using h
  ·simp [h0]
@[irreducible] def bit (s:BitVec 64) (i:Nat):Bool:=s.getLsbD i
def at0 (l:List Int) (i:Nat):Int:=l.getD i 0
theorem zcM {l:List Int} {i:Nat} {x:Int} (h:l[i]? = some x):at0 l i=x:=by simp [at0,List.getD,h]
theorem zdk {l:List Int} {i:Nat} (h:i < l.length):l[i]? = some (at0 l i):=by simp [at0,List.getD,h]
abbrev zyv (cell:List Int):Prop := ∀ w,w < cell.length→0≤at0 cell w∧at0 cell w≤w∧at0 cell (at0 cell w).toNat=at0 cell w
abbrev zx1 (cell rank:List Int):Prop := ∀ w,w < cell.length→0≤at0 rank w∧(at0 rank w=0 ∨ ∃ v,v < cell.length∧at0 cell v=at0 cell w∧at0 rank v=at0 rank w - 1)
end Go.Ab
namespace Go.Ab
open Go Go.Proofs
set_option maxRecDepth 10000
set_option maxHeartbeats 4000000
variable {T:Nat→Obj→Prop}
def zao (f:Nat→Bool):Nat→BitVec 64
 | 0=>0#64
 | k+1=>if f k then zao f k|||1#64 <<< k else zao f k
theorem znE (k i:Nat):(1#64 <<< k).getLsbD i=(decide (i < 64)&&decide (i=k)):=by
 rw [BitVec.getLsbD_shiftLeft]
 by_cases h:i < 64
 ·by_cases h1:i < k
  ·simp [h,h1];omega
  ·by_cases h2:i=k
   ·subst h2;simp [h]
   ·have:i - k≠0:=by omega
    simp [h,h1,h2,this]
 ·simp [h]
theorem zku (f:Nat→Bool) : ∀ (n i:Nat),(zao f n).getLsbD i=(decide (i < 64)&&decide (i < n)&&f i)
 | 0,i=>by simp [zao]
 | n+1,i=>by
  have ih:=zku f n i
  unfold zao
  split
  ·rename_i h
   rw [BitVec.getLsbD_or,ih,znE]
   by_cases h1:i=n
   ·subst h1;simp [h]
   ·by_cases h2:i < n
    ·simp [h1,h2,show i < n+1 by omega]
    ·simp [h1,h2,show ¬ i < n+1 by omega]
  ·rename_i h
   rw [ih]
   by_cases h1:i=n
   ·subst h1;simp [h]
   ·by_cases h2:i < n
    ·simp [h2,show i < n+1 by omega]
    ·simp [h2,show ¬ i < n+1 by omega]
end Go.Ab
namespace Go.Ab
open Go Go.Proofs
set_option maxRecDepth 10000
set_option maxHeartbeats 4000000
variable {T:Nat→Obj→Prop}
def znp (l:List (List Int)) (a:Nat):List Int:=l.getD a []
abbrev zyX (p:PM):Prop := ∀ a,a < p.cell.length→((znp p.cell a).length:Int)=p.W∧((znp p.rank a).length:Int)=p.W
abbrev zu4 (p:PM):Prop := ∀ a,a < p.cell.length→zyv (znp p.cell a)
abbrev zto (p:PM):Prop := ∀ a,a < p.cell.length→zx1 (znp p.cell a) (znp p.rank a)
def ztC (p:PM):Int :=
 if zuB p.W p.cell.length p.val≠0 then zuB p.W p.cell.length p.val
 else if p.rank.length≠p.cell.length then 3
 else if ¬zyX p then 3
 else if ¬zu4 p then 1
 else if ¬zto p then 9
 else 0
end Go.Ab
namespace Go.Ab
open Go Go.Proofs
set_option maxRecDepth 10000
set_option maxHeartbeats 4000000
variable {T:Nat→Obj→Prop}
structure At (p:PM) (a w:Int):Prop where
 ok:ztC p=0
 a0:0≤a
 a1:a < p.cell.length
 w0:0≤w
 w1:w < p.W
instance (p:PM) (a w:Int):Decidable (At p a w):=decidable_of_iff (ztC p=0∧0≤a∧a < p.cell.length∧0≤w∧w < p.W) ⟨fun ⟨a,b,c,d,e⟩=>⟨a,b,c,d,e⟩,fun ⟨a,b,c,d,e⟩=>⟨a,b,c,d,e⟩⟩
theorem zuj {k:Nat} (h:k < 18446744073709551616):(BitVec.ofInt 64 (k:Int)).toNat=k:=by
 rw [BitVec.toNat_ofInt,Int.emod_eq_of_lt (by omega) (by omega)];rfl
theorem zdX {β:Type} {g:Nat→β} {n k:Nat} (x:β):((List.range n).map g).set k x=(List.range n).map fun u=>if u=k then x else g u:=by
 refine List.ext_getElem (by simp) fun i h1 h2=>?_
 rw [List.getElem_set]
 by_cases e:k=i
 ·subst e;simp
 ·simp [e,Ne.symm e]
theorem zL {β:Type} {g h:Nat→β} {n:Nat} (e : ∀ u,u < n→g u=h u):(List.range n).map g=(List.range n).map h :=
 List.map_congr_left fun u hu=>e u (List.mem_range.1 hu)
theorem z8 {β:Type} (x:β) (n:Nat):List.replicate n x=(List.range n).map fun _=>x:=by
 refine List.ext_getElem (by simp) fun i h1 h2=>by simp
end Go.Ab
namespace Go.Ab
open Go Go.Proofs
set_option maxRecDepth 10000
set_option maxHeartbeats 4000000
variable {T:Nat→Obj→Prop}
structure KM where
 W:Int
 val:List (BitVec 64)
 rel:List (List (BitVec 64))
 deriving DecidableEq
abbrev dKM (m:KM):D := .agg [.int .i64 m.W,dU m.val,dUU m.rel]
abbrev zX (m:KM):Ob := .box [.d (.int .i64 m.W),.d (dU m.val),.d (dUU m.rel)]
abbrev dKI (x:KM×Int):D := .tup [dKM x.1,.int .i64 x.2]
end Go.Ab
namespace Go.Ab
open Go Go.Proofs
set_option maxRecDepth 10000
set_option maxHeartbeats 4000000
variable {T:Nat→Obj→Prop}
theorem zpx {n:Int} {i:Nat} (h1:0≤n) (hi:i < 64):(znC n).getLsbD i=decide ((i:Int) < n):=by
 unfold znC
 split
 ·rename_i h
  rw [show ((-1:BitVec 64))=BitVec.allOnes 64 from rfl,BitVec.getLsbD_allOnes]
  simp [hi];omega
 ·rename_i h
  obtain ⟨m,rfl⟩:=Int.eq_ofNat_of_zero_le h1
  have hm:m < 64:=by omega
  rw [show (1#64 <<< (m:Int).toNat - 1#64)=BitVec.setWidth 64 (BitVec.allOnes m) from ?_]
  ·rw [BitVec.getLsbD_setWidth,BitVec.getLsbD_allOnes];simp [hi]
  ·apply BitVec.eq_of_toNat_eq
   have h2:2 ^ m < 2 ^ 64:=Nat.pow_lt_pow_right (by omega) hm
   have h3:0 < 2 ^ m:=Nat.two_pow_pos m
   rw [BitVec.toNat_sub,BitVec.toNat_shiftLeft,BitVec.toNat_setWidth,BitVec.toNat_allOnes]
   simp only [Int.toNat_natCast,Nat.shiftLeft_eq]
   rw [show (1#64).toNat=1 from rfl,Nat.one_mul,Nat.mod_eq_of_lt h2,Nat.mod_eq_of_lt (show 2 ^ m - 1 < 2 ^ 64 by omega)]
   omega
end Go.Ab
namespace Go.Ab
open Go Go.Proofs
set_option maxRecDepth 10000
set_option maxHeartbeats 4000000
variable {T:Nat→Obj→Prop}
def zx (s:BitVec 64):List Nat:=(List.range 64).filter fun i=>s.getLsbD i
theorem zjU {p:Nat→Bool} {k:Nat} (hk:p k=true) (hlow : ∀ i,i < k→p i=false) : ∀ n,k < n→(List.range n).filter p=k::(List.range n).filter fun i=>p i&&i != k
 | 0,h=>by omega
 | n+1,h=>by
  rw [List.range_succ,List.filter_append,List.filter_append]
  by_cases e:k=n
  ·subst e
   have h1:(List.range k).filter p=[]:=by
    rw [List.filter_eq_nil_iff];intro i hi;rw [hlow i (List.mem_range.1 hi)];simp
   have h2:((List.range k).filter fun i=>p i&&i != k)=[]:=by
    rw [List.filter_eq_nil_iff];intro i hi;rw [hlow i (List.mem_range.1 hi)];simp
   rw [h1,h2]
   simp [hk]
  ·rw [zjU hk hlow n (by omega)]
   have:(n != k)=true:=by simp;omega
   have:List.filter (fun i=>p i&&i != k) [n]=List.filter p [n]:=by
    simp only [List.filter,this,Bool.and_true]
   rw [this];rfl
theorem zxt (s:BitVec 64) (h:s≠0#64):Lib.ctz 64 s.toNat < 64∧s.getLsbD (Lib.ctz 64 s.toNat)=true∧(∀ i,i < Lib.ctz 64 s.toNat→s.getLsbD i=false) ∧
  ∀ i,(s&&&(s - 1#64)).getLsbD i=(s.getLsbD i&&i != Lib.ctz 64 s.toNat):=by
 have h0:s.toNat≠0:=fun e=>h (BitVec.eq_of_toNat_eq (by simpa using e))
 have hc:Lib.ctz 64 s.toNat=Lib.ctzFrom 64 s.toNat:=by rw [Lib.ctz,if_neg h0]
 rw [hc]
 obtain ⟨m,hm,hlt⟩:=Lib.ctzFrom_spec 64 s.toNat (by omega) s.isLt
 generalize Lib.ctzFrom 64 s.toNat=k at hm hlt
 have hp:0 < 2 ^ k:=Nat.two_pow_pos k
 have hs:s.toNat=2 ^ k * (2 * m+1)+0:=hm
 have hbit : ∀ i,s.getLsbD i=if i < k then false else (2 * m+1).testBit (i - k):=fun i=>by
  rw [BitVec.getLsbD,hs,Nat.testBit_two_pow_mul_add _ hp]
  simp
 have hsub:(s - 1#64).toNat=2 ^ k * (2 * m)+(2 ^ k - 1):=by
  rw [BitVec.toNat_sub]
  have hlt':=s.isLt
  rw [hm] at hlt' ⊢
  rw [show (1#64).toNat=1 from rfl,Nat.mul_add,Nat.mul_one]
  rw [Nat.mul_add,Nat.mul_one] at hlt'
  omega
 have hbit' : ∀ i,(s - 1#64).getLsbD i=if i < k then (2 ^ k - 1).testBit i else (2 * m).testBit (i - k):=fun i=>by
  rw [BitVec.getLsbD,hsub,Nat.testBit_two_pow_mul_add _ (by omega)]
 refine ⟨hlt,?_,fun i hi=>?_,fun i=>?_⟩
 ·rw [hbit,if_neg (by omega),Nat.sub_self,Nat.testBit_zero];simp
 ·rw [hbit,if_pos hi]
 ·rw [BitVec.getLsbD_and,hbit,hbit']
  by_cases h1:i < k
  ·simp [h1]
  ·simp only [h1,if_false]
   by_cases h2:i=k
   ·subst h2;simp [Nat.testBit_zero]
   ·obtain ⟨j,hj⟩ : ∃ j,i - k=j+1:=⟨i - k - 1,by omega⟩
    rw [hj,Nat.testBit_succ,Nat.testBit_succ]
    have e1:(2 * m+1) / 2=m:=by omega
    have e2:2 * m / 2=m:=by omega
    rw [e1,e2]
    simp [h2]
theorem zhx (s:BitVec 64) (h:s≠0#64):zx s=Lib.ctz 64 s.toNat::zx (s&&&(s - 1#64)):=by
 obtain ⟨h1,h2,h3,h4⟩:=zxt s h
 rw [zx,zjU h2 h3 64 h1,zx]
 congr 1
 exact List.filter_congr fun i _=>(h4 i).symm
theorem zle:zx 0#64=[]:=by decide
abbrev ziB (s:BitVec 64):List (List D):=(zx s).map fun (i:Nat)=>[D.int .i64 (i:Int)]
def zdB (T:Nat→Obj→Prop):Prop := ∀ x:BitVec 64,Fn Tryz.prog T zaA [.d (.u64 x)] [] (.d (.int .i64 (Lib.ctz 64 x.toNat))) []
theorem ztG {s:BitVec 64} {i:Nat} {x:List D} (h:(ziB s)[i]? = some x) : ∃ w:Nat,(zx s)[i]? = some w∧x=[.int .i64 (w:Int)]∧s.getLsbD w=true∧w < 64:=by
 rw [List.getElem?_map,Option.map_eq_some_iff] at h
 obtain ⟨w,hw,rfl⟩:=h
 have:=List.mem_filter.1 (List.mem_of_getElem? hw)
 exact ⟨w,hw,rfl,this.2,List.mem_range.1 this.1⟩
def rb (r:List (BitVec 64)) (w v:Nat):Bool:=(r.getD w 0#64).getLsbD v
theorem zyR {r:List (BitVec 64)} {w:Nat} {s:BitVec 64} (h:r[w]? = some s) (v:Nat):rb r w v=s.getLsbD v:=by simp [rb,List.getD,h]
theorem zyj {r:List (BitVec 64)} {w v:Nat} (h:r.length≤w):rb r w v=false:=by simp [rb,List.getD,h]
theorem ze6 {s:BitVec 64} {v:Nat} : v∈zx s↔s.getLsbD v=true:=by
 rw [zx,List.mem_filter,List.mem_range]
 constructor
 ·exact fun h=>h.2
 ·exact fun h=>⟨BitVec.lt_of_getLsbD h,h⟩
theorem zkh (s:BitVec 64):(zx s).Nodup:=List.nodup_range.filter _
def zeY {α:Type} (p:α→Bool) (l:List α):Int:=if l.findIdx p < l.length then (l.findIdx p:Int) else -1
theorem zhm {α:Type} {p:α→Bool} {l:List α} {k:Nat} {x:α} (h:l[k]? = some x) (hp:p x=true) (hI : ∀ i y,i < k→l[i]? = some y→p y=false):zeY p l=k:=by
 obtain ⟨hk,rfl⟩:=List.getElem?_eq_some_iff.1 h
 have:l.findIdx p=k:=by
  rw [List.findIdx_eq hk]
  exact ⟨hp,fun j hj=>by simpa using hI j l[j] hj (List.getElem?_eq_getElem (by omega))⟩
 rw [zeY,this,if_pos hk]
theorem ziH {α:Type} {p:α→Bool} {l:List α} (hI : ∀ i y,i < l.length→l[i]? = some y→p y=false):zeY p l = -1:=by
 rw [zeY,if_neg]
 intro h
 have h1:=List.findIdx_getElem (p:=p) (xs:=l) (w:=h)
 rw [hI _ _ h (List.getElem?_eq_getElem h)] at h1;cases h1
theorem zp1 {α:Type} {p:α→Bool} {l:List α} : 0≤zeY p l ↔ ∃ x∈l,p x=true:=by
 rw [zeY,← List.findIdx_lt_length]
 split<;>omega
theorem zp6 (l:List Int) (x:Int):Fn Tryz.prog T zdL [.d (dI l),.d (.int .i64 x)] [] (.d (.int .i64 (zeY (fun y=>x==y) l))) []:=by
 refine zi zy zgQ (by show 2≤19;decide) ?_
 (repeat' ((conv=>whnf);first|refine vA ?_|refine vJ fun hg=>?_|refine vT ?_));all_goals try conv=>whnf
 refine zaY (fun (k:Nat)=>[(0,.d (dI l)),(1,.d (.int .i64 (x))),(7,.d (.int .i64 ((l.map (D.int .i64)).length:Int))),(8,.d (.int .i64 ((k:Int))))]) (fun (k:Nat)=>k≤l.length ∧ ∀ i y,i < k→l[i]? = some y→(x==y)=false) (fun (k:Nat)=>l.length - k) (0) (⟨by simp,by simp⟩) (by (repeat' first|exact trivial|exact rfl|refine And.intro ?_ ?_)) ?_
 rintro k ⟨hk,hI⟩
 (repeat' ((conv=>whnf);first|refine vA ?_|(refine vF ?_ ?_<;>intro hc<;>try simp only [vL] at hc)|refine vT ?_|(refine vQ ?_ fun x hx=>?_;·omega)|(refine vO ?_ ?_;·omega)|refine vX ?_));all_goals try conv=>whnf
 ·exact (zhm hx (by simpa using hc) hI).symm
 ·have hne:=hc
  exact ⟨k+1,[],[],⟨by (omega),fun i y hi hy=>by
   by_cases e:i=k
   ·subst e;rw [hx] at hy;cases hy;simpa using hne
   ·exact hI i y (by omega) hy⟩,by (omega),by (refine ⟨rfl,rfl,rfl,?_,?_⟩;repeat' first|exact trivial|exact rfl|refine And.intro ?_ ?_)⟩
 ·exact (ziH fun i y hi hy=>hI i y (by omega) hy).symm
theorem ztt {n:Int} {s:BitVec 64} (h:0≤n):bad n s=false ↔ ∀ i,s.getLsbD i=true→(i:Int) < n:=by
 rw [bad,decide_eq_false_iff_not,Classical.not_not]
 constructor
 ·intro e i hi
  have hlt:=BitVec.lt_of_getLsbD hi
  have:=congrArg (fun x=>x.getLsbD i) e
  simp only [BitVec.getLsbD_and,BitVec.getLsbD_not,hlt,decide_true,Bool.true_and,hi,zpx h hlt] at this
  simpa using this
 ·intro hs
  apply BitVec.eq_of_getLsbD_eq
  intro i hi
  rw [BitVec.getLsbD_and,BitVec.getLsbD_not,zpx h hi]
  cases hb:s.getLsbD i with
  | false=>simp
  | true=>have:=hs i hb;simp [hi,this]
end Go.Ab
namespace Go.Ab
open Go Go.Proofs
set_option maxRecDepth 10000
set_option maxHeartbeats 4000000
variable {T:Nat→Obj→Prop}
theorem zU.objs {P:Program} {M:Nat→Option Ob} {n f:Nat} {vs lvs:List V} {obs:List Ob} {lv:V} {obs':List (Option Ob)} {K:V→Upd→Nat→Prop} (js:List Nat) (hf:Fn P T f lvs obs lv obs') (ha:VPasses M js [] 20 lvs vs)
  (ho:zaf M js [] obs js) (hnd:nodup js=true) (hsj:zdu js (zC M vs)=true) (hle:js.length≤obs'.length)
  (hK:K (zhF js n 20 lv) (zfC js [] n obs' false) (obs'.length - js.length)):zU (zbT P T) M n f vs K :=
 ⟨⟨_,_,_,⟨js,[],false,lvs,obs,lv,obs',hf,ha,ho,hnd,by simp [zcO],hsj,by simp [zdu],hle,nofun,rfl,rfl,rfl⟩,hK⟩⟩
section
variable {α:Type} [Inhabited α]
theorem zbt {d:Array α} {i:Nat} (h:i < d.size):d.toList[i]? = some d[i]! := by
 simp [h]
theorem zaK {d:Array α} {i:Nat} {x:α} (h:d.toList[i]? = some x):d[i]! = x∧i < d.size:=by
 obtain ⟨h1,h2⟩:=List.getElem?_eq_some_iff.1 h
 rw [Array.length_toList] at h1
 exact ⟨by simp [h1];simpa using h2,h1⟩
theorem zsg {enc:α→D} {d:Array α} {i j:Nat} {x y:α} (hi:d.toList[i]? = some x) (hj:d.toList[j]? = some y):((d.toList.map enc).set i (enc y)).set j (enc x)=(Sort.swp d i j).toList.map enc:=by
 obtain ⟨e1,_⟩:=zaK hi
 obtain ⟨e2,_⟩:=zaK hj
 simp [Sort.swp,e1,e2,List.map_set]
theorem zfM {d:Array α} {i:Int} {x:α} (k:Nat) (h:d.toList[i.toNat]? = some x) (hk:i=k):d.toList[k]? = some x:=by subst hk;exact h
theorem zq1 (d:Array α) (i j:Nat):(Sort.swp d i j).size=d.size:=by simp [Sort.swp]
variable {lt:α→α→Bool}
theorem zjg {a j:Nat} {d:Array α} (h : ¬(a < j∧lt d[j]! d[j - 1]! = true)):Sort.insInner lt a j d=d:=by
 cases j with
 | zero=>rfl
 | succ j =>
  unfold Sort.insInner
  rw [if_neg]
  simpa using h
theorem zjf {a j:Nat} {d:Array α} (h1:a < j) (h2:lt d[j]! d[j - 1]! = true):Sort.insInner lt a j d=Sort.insInner lt a (j - 1) (Sort.swp d j (j - 1)):=by
 cases j with
 | zero=>omega
 | succ j =>
  rw [Sort.insInner,if_pos]
  ·simp
  ·simp at h2 ⊢;exact ⟨by omega,h2⟩
end
end Go.Ab
namespace Go.Ab
open Go
def zR (e:Nat→Nat→Bool) (w:Nat):Nat:=((List.range w).find? fun v=>e v w).getD w
theorem zh8 (e:Nat→Nat→Bool) (w:Nat):(zR e w < w∧e (zR e w) w=true∨zR e w=w) ∧ ∀ v,v < zR e w→e v w=false:=by
 unfold zR
 cases h:(List.range w).find? fun v=>e v w with
 | none =>
  refine ⟨.inr rfl,fun v hv=>?_⟩
  have:=List.find?_eq_none.1 h v (List.mem_range.2 hv)
  simpa using this
 | some u =>
  obtain ⟨h1,l1,l2,h2,h3⟩:=List.find?_eq_some_iff_append.1 h
  have hu:u∈List.range w:=by rw [h2];simp
  have hlen:l1.length=u:=by
   have h4:(List.range w)[l1.length]? = some u:=by rw [h2];simp
   rw [List.getElem?_range (by
    have:l1.length < (List.range w).length:=by rw [h2];simp
    simpa using this)] at h4
   exact Option.some.inj h4
  refine ⟨.inl ⟨List.mem_range.1 hu,h1⟩,fun v hv=>?_⟩
  have hv:v < u:=hv
  have hm:v∈l1:=by
   have h4:(List.range w)[v]? = some v:=List.getElem?_range (by have:=List.mem_range.1 hu;omega)
   rw [h2,List.getElem?_append_left (by omega)] at h4
   exact List.mem_of_getElem? h4
  simpa using h3 v hm
theorem zsX (e:Nat→Nat→Bool) (w:Nat):zR e w≤w:=by
 rcases (zh8 e w).1 with h|h<;>omega
theorem zqr {e:Nat→Nat→Bool} {w v:Nat} (h:v < zR e w):e v w=false:=(zh8 e w).2 v h
structure Eqv (e:Nat→Nat→Bool):Prop where
 refl : ∀ v,e v v=true
 symm : ∀ v w,e v w=true→e w v=true
 trans : ∀ u v w,e u v=true→e v w=true→e u w=true
section
variable {e:Nat→Nat→Bool} (he:Eqv e)
include he
theorem zl6 (w:Nat):e (zR e w) w=true:=by
 rcases (zh8 e w).1 with h|h
 ·exact h.2
 ·rw [h];exact he.refl w
theorem zkf {v w:Nat} : zR e v=zR e w↔e v w=true:=by
 constructor
 ·intro h
  have h1:=zl6 he v
  rw [h] at h1
  exact he.trans _ _ _ (he.symm _ _ h1) (zl6 he w)
 ·intro h
  have a : ∀ {v w},e v w=true→zR e w≤zR e v:=by
   intro v w h
   rcases Nat.lt_or_ge (zR e v) (zR e w) with hl|hl
   ·have:=zqr hl
    rw [he.trans _ _ _ (zl6 he v) h] at this;cases this
   ·exact hl
  have:=a h;have:=a (he.symm _ _ h);omega
theorem zyM (w:Nat):zR e (zR e w)=zR e w:=(zkf he).2 (zl6 he w)
end
theorem ziS {e e':Nat→Nat→Bool} {w:Nat} (h : ∀ v,v≤w→e v w=e' v w):zR e w=zR e' w:=by
 have a : ∀ {e e':Nat→Nat→Bool},(∀ v,v≤w→e v w=e' v w)→zR e w≤zR e' w:=by
  intro e e' h
  rcases Nat.lt_or_ge (zR e' w) (zR e w) with hl|hl
  ·have h1:=zqr hl
   have hle:=zsX e w
   rcases (zh8 e' w).1 with h2|h2
   ·rw [h _ (by omega),h2.2] at h1;cases h1
   ·omega
  ·exact hl
 have:=a h;have:=a fun v hv=>(h v hv).symm;omega
structure zaR (n:Nat) (q:Nat→Nat):Prop where
 le : ∀ w,w < n→q w≤w
 idem : ∀ w,w < n→q (q w)=q w
theorem zew {e:Nat→Nat→Bool} (he:Eqv e) (n:Nat):zaR n (zR e):=⟨fun w _=>zsX e w,fun w _=>zyM he w⟩
def zbP {α:Type} [DecidableEq α] (k:Nat→α) (v w:Nat):Bool:=decide (k v=k w)
theorem zcv {α:Type} [DecidableEq α] (k:Nat→α):Eqv (zbP k) :=
 ⟨fun v=>by simp [zbP],fun v w h=>by simp only [zbP,decide_eq_true_eq] at h ⊢;exact h.symm,fun u v w h h'=>by simp only [zbP,decide_eq_true_eq] at h h' ⊢;exact h.trans h'⟩
theorem zpK {n:Nat} {q:Nat→Nat} (h:zaR n q) {w:Nat} (hw:w < n):zR (zbP q) w=q w:=by
 have h1:=h.le w hw
 have h2:=h.idem w hw
 have h3:zR (zbP q) w≤q w:=by
  rcases Nat.lt_or_ge (q w) (zR (zbP q) w) with hl|hl
  ·have:=zqr hl
   simp [zbP,h2] at this
  ·exact hl
 have h4:=zl6 (zcv q) w
 simp only [zbP,decide_eq_true_eq] at h4
 have h5:=h.le (zR (zbP q) w) (by omega)
 omega
def zas (q:Nat→Nat) (s:BitVec 64) (k:Nat):BitVec 64:=(List.range k).foldl (fun o w=>if s.getLsbD w=true then o|||1#64 <<< q w else o) 0#64
theorem zfN (q:Nat→Nat) (s:BitVec 64) (k:Nat):zas q s (k+1)=if s.getLsbD k=true then zas q s k|||1#64 <<< q k else zas q s k:=by
 unfold zas;rw [List.range_succ,List.foldl_append];rfl
def zfa (n:Nat) (rels:List (Nat→BitVec 64)) (q:Nat→Nat) (v w:Nat):Bool:=decide (q v=q w)&&rels.all fun r=>decide (zas q (r v) n=zas q (r w) n)
theorem zht (n:Nat) (rels:List (Nat→BitVec 64)) (q:Nat→Nat):Eqv (zfa n rels q):=by
 refine ⟨fun v=>by simp [zfa],fun v w h=>?_,fun u v w h h'=>?_⟩
 ·simp only [zfa,Bool.and_eq_true,decide_eq_true_eq,List.all_eq_true] at h ⊢
  exact ⟨h.1.symm,fun r hr=>(h.2 r hr).symm⟩
 ·simp only [zfa,Bool.and_eq_true,decide_eq_true_eq,List.all_eq_true] at h h' ⊢
  exact ⟨h.1.trans h'.1,fun r hr=>(h.2 r hr).trans (h'.2 r hr)⟩
def za6 (n:Nat) (rels:List (Nat→BitVec 64)) (q:Nat→Nat):Nat→Nat:=zR (zfa n rels q)
theorem zlC (n:Nat) (rels:List (Nat→BitVec 64)) (q:Nat→Nat) (m:Nat):zaR m (za6 n rels q):=zew (zht n rels q) m
theorem zix {q q':Nat→Nat} {s:BitVec 64} {n:Nat} (h : ∀ w,w < n→q w=q' w) : ∀ k,k≤n→zas q s k=zas q' s k
 | 0,_=>rfl
 | k+1,hk=>by rw [zfN,zfN,zix h k (by omega),h k (by omega)]
theorem zrB {n:Nat} {rels:List (Nat→BitVec 64)} {q q':Nat→Nat} (h : ∀ w,w < n→q w=q' w) {w:Nat} (hw:w < n):za6 n rels q w=za6 n rels q' w:=by
 refine ziS fun v hv=>?_
 unfold zfa
 rw [h v (by omega),h w hw]
 congr 1
 refine congrArg (fun f=>rels.all f) (funext fun r=>?_)
 rw [zix h n (Nat.le_refl _),zix h n (Nat.le_refl _)]
section
variable {n:Nat} {rels:List (Nat→BitVec 64)} {q:Nat→Nat} (hq:zaR n q)
include hq
theorem zob {w:Nat} (hw:w < n):q (za6 n rels q w)=q w:=by
 have:=zl6 (zht n rels q) w
 simp only [zfa,Bool.and_eq_true,decide_eq_true_eq] at this
 exact this.1
theorem zuX {w:Nat} (hw:w < n) (h:q w=w):za6 n rels q w=w:=by
 have h1:=zsX (zfa n rels q) w
 have h2:=zob (rels:=rels) hq hw
 have h3:=hq.le (za6 n rels q w) (by unfold za6;omega)
 unfold za6 at *;omega
theorem zti (h : ∀ w,w < n→za6 n rels q w=w→q w=w) {w:Nat} (hw:w < n):za6 n rels q w=q w:=by
 have hc:=zlC n rels q n
 have h1:=h (za6 n rels q w) (by have:=hc.le w hw;omega) (hc.idem w hw)
 rw [← h1,zob hq hw]
end
def zG (n:Nat) (q:Nat→Nat):Nat:=((List.range n).filter fun w=>decide (q w=w)).length
theorem zjV {p p':Nat→Bool} (hi : ∀ w,p w=true→p' w=true) : ∀ l:List Nat,(l.filter p).length≤(l.filter p').length∧((∃ w∈l,p w=false∧p' w=true)→(l.filter p).length < (l.filter p').length)
 | []=>⟨Nat.le_refl _,fun ⟨w,h,_⟩=>by cases h⟩
 | x::l=>by
  obtain ⟨h1,h2⟩:=zjV hi l
  cases hp:p x with
  | true =>
   rw [List.filter_cons_of_pos hp,List.filter_cons_of_pos (hi x hp)]
   refine ⟨by simpa using h1,fun ⟨w,hw,h3,h4⟩=>?_⟩
   rcases List.mem_cons.1 hw with rfl|hw
   ·rw [hp] at h3;cases h3
   ·have:=h2 ⟨w,hw,h3,h4⟩;simpa using this
  | false =>
   rw [List.filter_cons_of_neg (by simp [hp])]
   cases hp':p' x with
   | true =>
    rw [List.filter_cons_of_pos hp',List.length_cons]
    exact ⟨by omega,fun _=>by omega⟩
   | false =>
    rw [List.filter_cons_of_neg (by simp [hp'])]
    refine ⟨h1,fun ⟨w,hw,h3,h4⟩=>?_⟩
    rcases List.mem_cons.1 hw with rfl|hw
    ·rw [hp'] at h4;cases h4
    ·exact h2 ⟨w,hw,h3,h4⟩
theorem zdj (n:Nat) (q:Nat→Nat):zG n q≤n:=by
 unfold zG
 have:=List.length_filter_le (fun w=>decide (q w=w)) (List.range n)
 simpa using this
theorem zw6 {n:Nat} {rels:List (Nat→BitVec 64)} {q:Nat→Nat} (hq:zaR n q) (h : ∃ w,w < n∧za6 n rels q w≠q w):zG n q < zG n (za6 n rels q):=by
 unfold zG
 have e1:(List.range n).filter (fun w=>decide (q w=w))=(List.range n).filter fun w=>decide (w < n∧q w=w):=by
  refine List.filter_congr fun w hw=>?_
  have:=List.mem_range.1 hw
  simp [this]
 have e2:(List.range n).filter (fun w=>decide (za6 n rels q w=w))=(List.range n).filter fun w=>decide (w < n∧za6 n rels q w=w):=by
  refine List.filter_congr fun w hw=>?_
  have:=List.mem_range.1 hw
  simp [this]
 rw [e1,e2]
 refine (zjV (fun w hw=>?_) _).2 ?_
 ·simp only [decide_eq_true_eq] at hw ⊢
  exact ⟨hw.1,zuX hq hw.1 hw.2⟩
 ·obtain ⟨w,hw,hne⟩:=h
  by_cases hall : ∀ w,w < n→za6 n rels q w=w→q w=w
  ·exact absurd (zti hq hall hw) hne
  ·simp only [Classical.not_forall] at hall
   obtain ⟨u,hu,h1,h2⟩:=hall
   exact ⟨u,List.mem_range.2 hu,by simp [h2],by simp [hu,h1]⟩
def zbh (n:Nat) (rels:List (Nat→BitVec 64)) (q0:Nat→Nat):Nat→Nat→Nat
 | 0=>q0
 | k+1=>za6 n rels (zbh n rels q0 k)
section
variable {n:Nat} {rels:List (Nat→BitVec 64)} {q0:Nat→Nat} (hq:zaR n q0)
include hq
theorem zlw : ∀ k,zaR n (zbh n rels q0 k)
 | 0=>hq
 | k+1=>zlC _ _ _ _
theorem ziP {k:Nat} (h : ∀ w,w < n→zbh n rels q0 (k+1) w=zbh n rels q0 k w) : ∀ j,k≤j → ∀ w,w < n→zbh n rels q0 j w=zbh n rels q0 k w:=by
 intro j hj
 induction j with
 | zero=>intro w hw;rw [show k=0 by omega]
 | succ j ih =>
  intro w hw
  by_cases e:k=j+1
  ·rw [e]
  ·have ih:=ih (by omega)
   rw [← h w hw]
   exact zrB ih hw
theorem ziO {k:Nat} (h : ∀ j,j < k → ∃ w,w < n∧zbh n rels q0 (j+1) w≠zbh n rels q0 j w) : ∀ j,j≤k→zG n q0+j≤zG n (zbh n rels q0 j)
 | 0,_=>Nat.le_refl _
 | j+1,hj=>by
  have h1:=ziO h j (by omega)
  have h2:=zw6 (zlw hq j) (h j (by omega))
  show zG n q0+(j+1)≤zG n (za6 n rels (zbh n rels q0 j))
  omega
theorem zt6 {j:Nat} (hn:0 < n) (hj:n≤j) {w:Nat} (hw:w < n):zbh n rels q0 j w=zbh n rels q0 n w:=by
 by_cases hall : ∀ i,i < n → ∃ w,w < n∧zbh n rels q0 (i+1) w≠zbh n rels q0 i w
 ·have h1:=ziO hq hall n (Nat.le_refl _)
  have h2:=zdj n (zbh n rels q0 n)
  have h3:0 < zG n q0:=by
   unfold zG
   have h0:q0 0=0:=by have:=hq.le 0 hn;omega
   exact List.length_pos_of_mem (List.mem_filter.2 ⟨List.mem_range.2 hn,by simp [h0]⟩)
  omega
 ·simp only [Classical.not_forall] at hall
  obtain ⟨i,hi,hs⟩:=hall
  have hst : ∀ w,w < n→zbh n rels q0 (i+1) w=zbh n rels q0 i w:=fun w hw=>by
   by_cases e:zbh n rels q0 (i+1) w=zbh n rels q0 i w
   ·exact e
   ·exact absurd ⟨w,hw,e⟩ hs
  rw [ziP hq hst j (by omega) w hw,ziP hq hst n (by omega) w hw]
end
end Go.Ab
namespace Go.Ab
open Go Go.Proofs
set_option maxRecDepth 10000
set_option maxHeartbeats 4000000
variable {T:Nat→Obj→Prop}
theorem zrT {α:Type} {l:List α} {i:Nat} {x d:α} (h:l[i]? = some x):l.getD i d=x:=by simp [List.getD,h]
def zf (m:KM):Int :=
 if m.W < 1∨64 < m.W then 2 else if 4 < m.rel.length∨8 < m.val.length then 8 else if m.rel.any (fun r=>decide ((r.length:Int)≠m.W)) then 3 else if m.val.any (bad m.W) then 2 else if m.rel.any (fun r=>r.any (bad m.W)) then 2 else 0
structure zfy (m:KM):Prop where
 w1:1≤m.W
 w2:m.W≤64
 n4:m.rel.length≤4
 v8:m.val.length≤8
 len : ∀ r∈m.rel,(r.length:Int)=m.W
 val : ∀ s∈m.val,bad m.W s=false
 rel : ∀ r∈m.rel,∀ s∈r,bad m.W s=false
theorem zq {m:KM} (h:zf m=0):zfy m:=by
 unfold zf at h
 split at h
 ·cases h
 ·split at h
  ·cases h
  ·split at h
   ·cases h
   ·split at h
    ·cases h
    ·split at h
     ·cases h
     ·rename_i h1 h2 h3 h4 h5
      refine ⟨by omega,by omega,by omega,by omega,fun r hr=>?_,fun s hs=>?_,fun r hr s hs=>?_⟩
      ·simp only [List.any_eq_true,not_exists,not_and] at h3;simpa using h3 r hr
      ·simp only [List.any_eq_true,not_exists,not_and] at h4;simpa using h4 s hs
      ·simp only [List.any_eq_true,not_exists,not_and] at h5;simpa using h5 r hr s hs
theorem zui {k:IntKind} {a:Nat} (h:a < 2 ^ k.bits):(BitVec.ofInt k.bits (a:Int)).toNat=a:=by
 rw [BitVec.toNat_ofInt,Int.emod_eq_of_lt (Int.natCast_nonneg a) (show (a:Int) < ((2 ^ k.bits:Nat):Int) from Int.ofNat_lt.2 h)]
 rfl
theorem zwE {a:Nat} (h:a < 2 ^ 63):IntKind.wrap .i64 (a:Int)=a:=zq6 ⟨by omega,by omega⟩
theorem zrK {a b:Nat} (ha:a < 2 ^ 63) (hb:b < 2 ^ 63):zc1 .i64 (fun p q=>p|||q) (a:Int) (b:Int)=((a|||b:Nat):Int):=by
 unfold zc1
 rw [BitVec.toNat_or,zui (k := .i64) (by simp [IntKind.bits];omega),zui (k := .i64) (by simp [IntKind.bits];omega)]
 exact zwE (Nat.or_lt_two_pow ha hb)
theorem zgk {x:BitVec 64} {k i:Nat} (hk:k < 64):(x|||1#64 <<< k).getLsbD i=true↔x.getLsbD i=true∨i=k:=by
 rw [BitVec.getLsbD_or,Bool.or_eq_true,znE]
 constructor
 ·rintro (h|h)
  ·exact .inl h
  ·simp at h;exact .inr h.2
 ·rintro (h|rfl)
  ·exact .inl h
  ·exact .inr (by simp [hk])
def zae (l:List (BitVec 64)) (w:Nat):Nat→Nat
 | 0=>0
 | k+1=>zae l w k+if (l.getD k 0#64).getLsbD w=true then 2 ^ k else 0
theorem zlS (l:List (BitVec 64)) (w:Nat) : ∀ k,zae l w k < 2 ^ k
 | 0=>by simp [zae]
 | k+1=>by
  have:=zlS l w k
  have h2:=Nat.two_pow_pos k
  rw [zae,Nat.pow_succ]
  split<;>omega
theorem zjS (l:List (BitVec 64)) (w:Nat) {i:Nat} : ∀ k,(zae l w k).testBit i=true↔i < k∧(l.getD i 0#64).getLsbD w=true
 | 0=>by simp [zae]
 | k+1=>by
  have hlt:=zlS l w k
  have ih:=zjS l w (i:=i) k
  have e:zae l w (k+1)=2 ^ k * (if (l.getD k 0#64).getLsbD w=true then 1 else 0)+zae l w k:=by
   rw [zae];split<;>omega
  rw [e,Nat.testBit_two_pow_mul_add _ hlt]
  by_cases h:i < k
  ·rw [if_pos h,ih]
   exact ⟨fun ⟨a,b⟩=>⟨by omega,b⟩,fun ⟨a,b⟩=>⟨h,b⟩⟩
  ·rw [if_neg h]
   by_cases h2:i=k
   ·subst h2
    rw [Nat.sub_self]
    split
    ·rename_i hb;exact ⟨fun _=>⟨by omega,hb⟩,fun _=>by decide⟩
    ·rename_i hb;exact ⟨fun h=>by simp at h,fun h=>absurd h.2 hb⟩
   ·constructor
    ·intro h3
     exfalso
     obtain ⟨m,hm⟩ : ∃ m,i - k=m+1:=⟨i - k - 1,by omega⟩
     rw [hm,Nat.testBit_succ] at h3
     split at h3<;>simp at h3
    ·rintro ⟨a,-⟩;omega
theorem zxz {x k:Nat} (h:x < 2 ^ k):x|||2 ^ k=x+2 ^ k:=by
 have:=Nat.two_pow_add_eq_or_of_lt (i:=k) h 1
 rw [Nat.or_comm,show 2 ^ k=2 ^ k * 1 by omega,← this];omega
theorem zvA {l:List (BitVec 64)} {w k:Nat} {s:BitVec 64} (hs:l[k]? = some s) (hk:k < 8) :
  zc1 .i64 (fun p q=>p|||q) (zae l w k:Int) ((((s >>> w&&&1#64).toNat:Int)) * 2 ^ (min k IntKind.i64.bits))=(zae l w (k+1):Int):=by
 have h1:=zlS l w k
 have hp:2 ^ k≤2 ^ 7:=Nat.pow_le_pow_right (by decide) (by omega)
 have hb:min k IntKind.i64.bits=k:=by show min k 64=k;omega
 rw [hb,zae,show l.getD k 0#64=s by rw [List.getD,hs];rfl]
 by_cases h:s.getLsbD w=true
 ·have e:s >>> w&&&1#64=1#64:=(zba s w).2 h
  rw [e,if_pos h]
  have:=zrK (a:=zae l w k) (b:=2 ^ k) (by omega) (by omega)
  rw [show ((1#64).toNat:Int) * 2 ^ k=((2 ^ k:Nat):Int) by simp,this,zxz h1]
 ·have e:s >>> w&&&1#64=0#64:=(zer s w).2 (by simpa using h)
  rw [e,if_neg h]
  have:=zrK (a:=zae l w k) (b:=0) (by omega) (by omega)
  rw [show ((0#64).toNat:Int) * 2 ^ k=((0:Nat):Int) by simp,this];simp
theorem ztx (s:BitVec 64) (w:Nat):(s >>> w&&&1#64).toNat≤1:=by
 cases h:s.getLsbD w with
 | true=>rw [(zba s w).2 h];decide
 | false=>rw [(zer s w).2 h];decide
theorem zuE {x k:Nat} (hx:x≤1) (hk:k < 8):0≤(x:Int) * 2 ^ (min (k:Int).toNat IntKind.i64.bits)∧(x:Int) * 2 ^ (min (k:Int).toNat IntKind.i64.bits)≤9223372036854775807:=by
 have hp:2 ^ k≤2 ^ 7:=Nat.pow_le_pow_right (by decide) (by omega)
 have hb:min (k:Int).toNat IntKind.i64.bits=k:=by show min k 64=k;omega
 rw [hb]
 match x,hx with
 | 0,_=>simp
 | 1,_ =>
  rw [show ((1:Nat):Int) * 2 ^ k=((2 ^ k:Nat):Int) by simp]
  have h7:(2:Nat) ^ 7=128:=rfl
  exact ⟨Int.natCast_nonneg _,Int.ofNat_le.2 (show 2 ^ k≤9223372036854775807 by omega)⟩
def ptL (n:Nat) (q:Nat→Nat):List Int:=(List.range n).map fun w=>((q w:Nat):Int)
theorem zaF {n:Nat} {q:Nat→Nat} {w:Nat} (hw:w < n):(ptL n q)[w]? = some ((q w:Nat):Int):=by simp [ptL,hw]
theorem zby {n:Nat} {q:Nat→Nat} : (ptL n q).length=n:=by simp [ptL]
theorem zhs {n:Nat} {q q':Nat→Nat} (h : ∀ w,w < n→q w=q' w):ptL n q=ptL n q':=List.map_congr_left fun w hw=>by rw [h w (List.mem_range.1 hw)]
theorem zxB {n:Nat} {q q':Nat→Nat} (h:ptL n q=ptL n q') {w:Nat} (hw:w < n):q w=q' w:=by
 have:=zaF (q:=q) hw
 rw [h,zaF hw] at this
 have:=Option.some.inj this
 omega
end Go.Ab
namespace Go.Ab
def zab {α:Type} (c:α→α→Int):List α→List α→Int
 | [],[]=>0
 | [],_::_ => -1
 | _::_,[]=>1
 | x::r,y::s=>if c x y=0 then zab c r s else c x y
structure zkC {α:Type} (c:α→α→Int):Prop where
 zero : ∀ {x y},c x y=0↔x=y
 anti : ∀ x y,c y x = - c x y
 tr : ∀ {x y z},c x y < 0→c y z < 0→c x z < 0
theorem zkC.refl {α:Type} {c:α→α→Int} (h:zkC c) (x:α):c x x=0:=h.zero.2 rfl
theorem zrM {α:Type} {c:α→α→Int} (h:zkC c):zkC (zab c) where
 zero:=by
  intro x
  induction x with
  | nil=>intro y;cases y<;>simp [zab]
  | cons a r ih =>
   intro y
   cases y with
   | nil=>simp [zab]
   | cons b s =>
    unfold zab
    by_cases e:c a b=0
    ·rw [if_pos e,ih,h.zero.1 e];simp
    ·rw [if_neg e]
     constructor
     ·intro h';exact absurd h' e
     ·intro h';cases h';exact absurd (h.refl _) e
 anti:=by
  intro x
  induction x with
  | nil=>intro y;cases y<;>simp [zab]
  | cons a r ih =>
   intro y
   cases y with
   | nil=>simp [zab]
   | cons b s =>
    unfold zab
    have:=h.anti a b
    by_cases e:c a b=0
    ·rw [if_pos e,if_pos (by omega),ih]
    ·rw [if_neg e,if_neg (by omega),this]
 tr:=by
  intro x
  induction x with
  | nil =>
   intro y z h1 h2
   cases y with
   | nil=>simp [zab] at h1
   | cons b s=>cases z with
    | nil=>simp [zab] at h2
    | cons d t=>simp [zab]
  | cons a r ih =>
   intro y z h1 h2
   cases y with
   | nil=>simp [zab] at h1
   | cons b s=>cases z with
    | nil=>simp [zab] at h2
    | cons d t =>
     unfold zab at h1 h2 ⊢
     by_cases e1:c a b=0
     ·obtain rfl:=h.zero.1 e1
      rw [if_pos e1] at h1
      by_cases e2:c a d=0
      ·rw [if_pos e2] at h2 ⊢;exact ih h1 h2
      ·rw [if_neg e2] at h2 ⊢;exact h2
     ·rw [if_neg e1] at h1
      by_cases e2:c b d=0
      ·obtain rfl:=h.zero.1 e2
       rw [if_neg e1];exact h1
      ·rw [if_neg e2] at h2
       have h3:=h.tr h1 h2
       rw [if_neg (by omega)];exact h3
def zbk (x y:Int):Int:=if x < y then -1 else if y < x then 1 else 0
theorem zw5:zkC zbk where
 zero:=by
  intro x y;unfold zbk
  by_cases h1:x < y
  ·rw [if_pos h1];omega
  ·rw [if_neg h1]
   by_cases h2:y < x
   ·rw [if_pos h2];omega
   ·rw [if_neg h2];omega
 anti:=by
  intro x y;unfold zbk
  by_cases h1:x < y
  ·rw [if_pos h1,if_neg (by omega),if_pos h1];rfl
  ·rw [if_neg h1]
   by_cases h2:y < x
   ·rw [if_pos h2,if_neg h1,if_pos h2]
   ·rw [if_neg h2,if_neg h1,if_neg h2];rfl
 tr:=by
  intro x y z;unfold zbk
  by_cases h1:x < y
  ·rw [if_pos h1]
   by_cases h2:y < z
   ·rw [if_pos h2,if_pos (by omega)];simp
   ·rw [if_neg h2]
    by_cases h3:z < y
    ·rw [if_pos h3];intro _ h;omega
    ·rw [if_neg h3];intro _ h;omega
  ·rw [if_neg h1]
   by_cases h2:y < x
   ·rw [if_pos h2];intro h;omega
   ·rw [if_neg h2];intro h;omega
abbrev Tup:=List (List Int)
def zaT:Tup→Tup→Int:=zab (zab zbk)
theorem zat:zkC zaT:=zrM (zrM zw5)
def ddT {α:Type} [DecidableEq α]:List α→List α
 | []=>[]
 | x::r=>if x∈r then ddT r else x::ddT r
theorem zbv {α:Type} [DecidableEq α] {x:α} : ∀ {l:List α},x∈ddT l↔x∈l
 | []=>Iff.rfl
 | y::r=>by
  unfold ddT
  have ih:=zbv (x:=x) (l:=r)
  by_cases h:y∈r
  ·rw [if_pos h,ih,List.mem_cons]
   exact ⟨.inr,fun h'=>h'.elim (fun e=>e▸h) id⟩
  ·rw [if_neg h,List.mem_cons,List.mem_cons,ih]
theorem zdh {α:Type} [DecidableEq α] : ∀ l:List α,(ddT l).Nodup
 | []=>List.nodup_nil
 | y::r=>by
  unfold ddT
  by_cases h:y∈r
  ·rw [if_pos h];exact zdh r
  ·rw [if_neg h];exact List.nodup_cons.2 ⟨fun h'=>h (zbv.1 h'),zdh r⟩
def rkN (ts:List Tup) (t:Tup):Nat:=((ddT ts).filter fun s=>decide (zaT s t < 0)).length
def cnN (ts:List Tup):Nat:=(ddT ts).length
theorem ze7 {α:Type} [DecidableEq α] {l l':List α} (h:l.Nodup) (h':l'.Nodup) (hm : ∀ x,x∈l↔x∈l'):l.Perm l':=by
 rw [List.perm_iff_count]
 intro a
 have c : ∀ l:List α,l.Nodup→l.count a=if a∈l then 1 else 0:=fun l hl=>by
  by_cases ha:a∈l
  ·rw [if_pos ha]
   have h1:=List.nodup_iff_count.1 hl a
   have h2:=List.count_pos_iff.2 ha
   omega
  ·rw [if_neg ha];exact List.count_eq_zero.2 ha
 rw [c l h,c l' h']
 by_cases ha:a∈l
 ·rw [if_pos ha,if_pos ((hm a).1 ha)]
 ·rw [if_neg ha,if_neg (fun h=>ha ((hm a).2 h))]
theorem zwT {ts S:List Tup} (hn:S.Nodup) (hm : ∀ x,x∈S↔x∈ts) (t:Tup):(S.filter fun s=>decide (zaT s t < 0)).length=rkN ts t :=
 ((ze7 hn (zdh _) fun x=>by rw [hm,zbv]).filter _).length_eq
theorem zwK {ts S:List Tup} (hn:S.Nodup) (hm : ∀ x,x∈S↔x∈ts):S.length=cnN ts :=
 (ze7 hn (zdh _) fun x=>by rw [hm,zbv]).length_eq
theorem zwf {ts ts':List Tup} (hm : ∀ x,x∈ts↔x∈ts') (t:Tup):rkN ts t=rkN ts' t :=
 zwT (zdh _) (fun x=>by rw [zbv];exact hm x) t
theorem zvo {ts ts':List Tup} (hm : ∀ x,x∈ts↔x∈ts'):cnN ts=cnN ts' :=
 zwK (zdh _) (fun x=>by rw [zbv];exact hm x)
theorem zoN {ts:List Tup} {s t:Tup} (hs:s∈ts) (ht:t∈ts):rkN ts s < rkN ts t↔zaT s t < 0:=by
 have key : ∀ {s t:Tup},s∈ts→zaT s t < 0→rkN ts s < rkN ts t:=by
  intro s t hs h
  unfold rkN
  have h1 : ∀ x,decide (zaT x s < 0)=true→decide (zaT x t < 0)=true:=fun x hx=>decide_eq_true (zat.tr (of_decide_eq_true hx) h)
  have h2:s∈(ddT ts):=zbv.2 hs
  generalize (ddT ts)=l at h2
  induction l with
  | nil=>cases h2
  | cons a r ih =>
   have hle:(r.filter fun x=>decide (zaT x s < 0)).length≤(r.filter fun x=>decide (zaT x t < 0)).length:=by
    clear ih h2
    induction r with
    | nil=>simp
    | cons b r ih =>
     simp only [List.filter_cons]
     by_cases hb:decide (zaT b s < 0)=true
     ·rw [if_pos hb,if_pos (h1 b hb)];simpa using ih
     ·rw [if_neg hb]
      split
      ·rw [List.length_cons];omega
      ·exact ih
   simp only [List.filter_cons]
   by_cases hb:decide (zaT a s < 0)=true
   ·rw [if_pos hb,if_pos (h1 a hb)]
    rcases List.mem_cons.1 h2 with rfl|h2
    ·have:=zat.refl s;have:=of_decide_eq_true hb;omega
    ·simpa using ih h2
   ·rw [if_neg hb]
    rcases List.mem_cons.1 h2 with rfl|h2
    ·rw [if_pos (decide_eq_true h)];simp;omega
    ·have:=ih h2
     split
     ·rw [List.length_cons];omega
     ·exact this
 refine ⟨fun h=>?_,key hs⟩
 have ha:=zat.anti s t
 rcases Int.lt_trichotomy (zaT s t) 0 with h'|h'|h'
 ·exact h'
 ·rw [zat.zero.1 h'] at h;omega
 ·have:=key (s:=t) (t:=s) ht (by omega);omega
theorem zyl {ts:List Tup} {s t:Tup} (hs:s∈ts) (ht:t∈ts) (h:rkN ts s=rkN ts t):s=t:=by
 have h1:=zoN hs ht
 have h2:=zoN ht hs
 have h3:=zat.anti s t
 exact zat.zero.1 (by omega)
end Go.Ab
namespace Go.Ab
theorem zek {α:Type} [DecidableEq α] : ∀ {l l':List α},l.Nodup→(∀ x∈l,x∈l')→l.length≤l'.length
 | [],_,_,_=>Nat.zero_le _
 | x::t,l',h,hs=>by
  obtain ⟨h1,h2⟩:=List.nodup_cons.1 h
  have:=zek (l:=t) (l':=l'.erase x) h2 fun y hy=>by
   have hne:y≠x:=fun e=>h1 (e▸hy)
   exact (List.mem_erase_of_ne hne).2 (hs y (List.mem_cons_of_mem _ hy))
  have hx:=hs x (by simp)
  rw [List.length_erase_of_mem hx] at this
  have:=List.length_pos_of_mem hx
  rw [List.length_cons];omega
def dcN (n:Nat) (q:Nat→Nat):Nat:=(ddT ((List.range n).map q)).length
theorem zpO (n:Nat) (q:Nat→Nat):dcN n q≤n:=by
 have:=zek (zdh ((List.range n).map q)) (l':=(List.range n).map q) fun x hx=>zbv.1 hx
 rwa [List.length_map,List.length_range] at this
theorem zsE {α β:Type} [DecidableEq α] [DecidableEq β] {n:Nat} {f:Nat→α} {g:Nat→β} (h : ∀ v w,v < n→w < n→f v=f w→g v=g w):(ddT ((List.range n).map g)).length≤(ddT ((List.range n).map f)).length:=by
 classical
 by_cases h0:n=0
 ·subst h0;exact Nat.le_refl _
 let pick:α→β:=fun a=>g (((List.range n).find? fun w=>decide (f w=a)).getD 0)
 have:=zek (zdh ((List.range n).map g)) (l':=(ddT ((List.range n).map f)).map pick) fun x hx=>by
  obtain ⟨w,hw,rfl⟩:=List.mem_map.1 (zbv.1 hx)
  have hw':=List.mem_range.1 hw
  refine List.mem_map.2 ⟨f w,zbv.2 (List.mem_map.2 ⟨w,hw,rfl⟩),?_⟩
  show g (((List.range n).find? fun u=>decide (f u=f w)).getD 0)=g w
  cases hf:(List.range n).find? fun u=>decide (f u=f w) with
  | none =>
   have:=List.find?_eq_none.1 hf w hw
   simp at this
  | some u =>
   have h1:=List.find?_some hf
   have h2:=List.mem_range.1 (List.mem_of_find?_eq_some hf)
   exact h u w h2 hw' (of_decide_eq_true h1)
 rwa [List.length_map] at this
section
variable (n:Nat) (next:(Nat→Nat)→Nat→Tup)
def rfT (q:Nat→Nat):List Tup:=(List.range n).map (next q)
def zel (q:Nat→Nat):Nat→Nat:=fun w=>rkN (rfT n next q) (next q w)
def zcH (q:Nat→Nat):Nat:=cnN (rfT n next q)
def zdU:Nat→(Nat→Nat)→Nat→(Nat→Nat)×Nat
 | 0,q,k=>(q,k)
 | f+1,q,k=>if zcH n next q=k then (q,k) else zdU f (zel n next q) (zcH n next q)
end
section
variable {n:Nat} {next:(Nat→Nat)→Nat→Tup} (hF : ∀ q v w,v < n→w < n→next q v=next q w→q v=q w)
theorem zr6 {q:Nat→Nat} {w:Nat} (hw:w < n):next q w∈rfT n next q:=List.mem_map.2 ⟨w,List.mem_range.2 hw,rfl⟩
theorem zq0 {q:Nat→Nat} {v w:Nat} (hv:v < n) (hw:w < n):zel n next q v=zel n next q w↔next q v=next q w :=
 ⟨fun h=>zyl (zr6 hv) (zr6 hw) h,fun h=>by unfold zel;rw [h]⟩
theorem zfv (q:Nat→Nat):dcN n (zel n next q)=zcH n next q:=by
 have h1:=zsE (n:=n) (f:=next q) (g:=zel n next q) fun v w hv hw h=>(zq0 hv hw).2 h
 have h2:=zsE (n:=n) (f:=zel n next q) (g:=next q) fun v w hv hw h=>(zq0 hv hw).1 h
 exact Nat.le_antisymm h1 h2
theorem zx8 (q:Nat→Nat):zcH n next q≤n:=by rw [← zfv];exact zpO _ _
include hF
theorem ztE (q:Nat→Nat):dcN n q≤zcH n next q:=zsE fun v w hv hw h=>hF q v w hv hw h
theorem zr7 : ∀ (f g:Nat) (q:Nat→Nat),n < f+dcN n q→n < g+dcN n q→zdU n next f q (dcN n q)=zdU n next g q (dcN n q)
 | 0,g,q,h,_=>by have:=zpO n q;omega
 | f+1,0,q,_,h=>by have:=zpO n q;omega
 | f+1,g+1,q,h1,h2=>by
  unfold zdU
  by_cases h:zcH n next q=dcN n q
  ·rw [if_pos h,if_pos h]
  ·rw [if_neg h,if_neg h]
   have h3:=ztE hF q
   have h4:=zr7 f g (zel n next q) (by rw [zfv];omega) (by rw [zfv];omega)
   rwa [zfv] at h4
end
end Go.Ab
namespace Go.Ab
structure Ren (n:Nat) (f:Nat→Nat):Prop where
 lt : ∀ w,w < n→f w < n
 inj : ∀ v w,v < n→w < n→f v=f w→v=w
theorem Ren.surj {n:Nat} {f:Nat→Nat} (h:Ren n f) {x:Nat} (hx:x < n) : ∃ w,w < n∧f w=x:=by
 refine Classical.byContradiction fun hn=>?_
 have:=zek (l:=x::(List.range n).map f) (l':=List.range n) (List.nodup_cons.2 ⟨fun hm=>?_,?_⟩) fun y hy=>?_
 ·simp at this
  omega
 ·obtain ⟨w,hw,e⟩:=List.mem_map.1 hm
  exact hn ⟨w,List.mem_range.1 hw,e⟩
 ·rw [List.Nodup,List.pairwise_map]
  exact List.Pairwise.imp_of_mem (fun {a b} ha hb hab e=>hab (h.inj a b (List.mem_range.1 ha) (List.mem_range.1 hb) e)) List.nodup_range
 ·rcases List.mem_cons.1 hy with rfl|hy
  ·exact List.mem_range.2 hx
  ·obtain ⟨w,hw,rfl⟩:=List.mem_map.1 hy
   exact List.mem_range.2 (h.lt w (List.mem_range.1 hw))
section
variable {n:Nat} {f:Nat→Nat} (hf:Ren n f) {t t':Nat→Tup} (ht : ∀ w,w < n→t' (f w)=t w)
include hf ht
theorem zr3 (x:Tup):x∈(List.range n).map t'↔x∈(List.range n).map t:=by
 constructor
 ·intro h
  obtain ⟨y,hy,rfl⟩:=List.mem_map.1 h
  obtain ⟨w,hw,rfl⟩:=hf.surj (List.mem_range.1 hy)
  exact List.mem_map.2 ⟨w,List.mem_range.2 hw,(ht w hw).symm⟩
 ·intro h
  obtain ⟨w,hw,rfl⟩:=List.mem_map.1 h
  exact List.mem_map.2 ⟨f w,List.mem_range.2 (hf.lt w (List.mem_range.1 hw)),ht w (List.mem_range.1 hw)⟩
theorem zus {w:Nat} (hw:w < n):rkN ((List.range n).map t') (t' (f w))=rkN ((List.range n).map t) (t w):=by
 rw [ht w hw];exact zwf (zr3 hf ht) _
theorem zur:cnN ((List.range n).map t')=cnN ((List.range n).map t):=zvo (zr3 hf ht)
end
theorem zqM {n:Nat} {f:Nat→Nat} (hf:Ren n f) {next next':(Nat→Nat)→Nat→Tup} (hn : ∀ q q',(∀ w,w < n→q' (f w)=q w) → ∀ w,w < n→next' q' (f w)=next q w) :
  ∀ (k:Nat) (q q':Nat→Nat) (c:Nat),(∀ w,w < n→q' (f w)=q w)→(∀ w,w < n→(zdU n next' k q' c).1 (f w)=(zdU n next k q c).1 w)∧(zdU n next' k q' c).2=(zdU n next k q c).2
 | 0,q,q',c,h=>⟨h,rfl⟩
 | k+1,q,q',c,h=>by
  have ht:=hn q q' h
  have hc:zcH n next' q'=zcH n next q:=zur hf ht
  unfold zdU
  rw [hc]
  by_cases he:zcH n next q=c
  ·rw [if_pos he,if_pos he];exact ⟨h,rfl⟩
  ·rw [if_neg he,if_neg he]
   exact zqM hf hn k _ _ _ fun w hw=>zus hf ht hw
def leI (x y:Int):Bool:=decide (x≤y)
theorem zyh (a b c:Int) (h1:leI a b=true) (h2:leI b c=true):leI a c=true:=by simp [leI] at *;omega
theorem zxr (a b:Int):(leI a b||leI b a)=true:=by simp [leI];omega
def zaG (l:List Int):List Int:=l.mergeSort leI
theorem zcz (l:List Int):(zaG l).Perm l:=List.mergeSort_perm l leI
theorem zd5 (l:List Int):(zaG l).Pairwise (· ≤ ·):=(List.pairwise_mergeSort zyh zxr l).imp fun h=>by simpa [leI] using h
theorem zdi : ∀ {l l':List Int},l.Pairwise (· ≤ ·)→l'.Pairwise (· ≤ ·)→l.Perm l'→l=l'
 | [],l',_,_,h=>(List.nil_perm.1 h).symm
 | a::r,[],_,_,h=>by cases List.perm_nil.1 h
 | a::r,b::s,h1,h2,h=>by
  obtain ⟨h3,h4⟩:=List.pairwise_cons.1 h1
  obtain ⟨h5,h6⟩:=List.pairwise_cons.1 h2
  have e:a=b:=by
   have hb:b∈a::r:=h.mem_iff.2 (by simp)
   have ha:a∈b::s:=h.mem_iff.1 (by simp)
   rcases List.mem_cons.1 hb with e|hb
   ·exact e.symm
   ·rcases List.mem_cons.1 ha with e|ha
    ·exact e
    ·have:=h3 b hb;have:=h5 a ha;omega
  subst e
  rw [zdi h4 h6 ((List.perm_cons a).1 h)]
theorem zoV {l l':List Int} (h:l.Perm l'):zaG l=zaG l':=zdi (zd5 l) (zd5 l') (((zcz l).trans h).trans (zcz l').symm)
theorem zyp {l s:List Int} (hs:s.Pairwise (· ≤ ·)) (hp:s.Perm l):s=zaG l:=zdi hs (zd5 l) (hp.trans (zcz l).symm)
def zgZ (l:List Int):List Int:=zaG (ddT l)
theorem zvw {α:Type} [DecidableEq α] {l l':List α} (h : ∀ x,x∈l↔x∈l'):(ddT l).Perm (ddT l'):=by
 rw [List.perm_iff_count]
 intro a
 have c : ∀ l:List α,(ddT l).count a=if a∈l then 1 else 0:=fun l=>by
  by_cases ha:a∈l
  ·rw [if_pos ha]
   have h1:=List.nodup_iff_count.1 (zdh l) a
   have h2:=List.count_pos_iff.2 (zbv.2 ha)
   omega
  ·rw [if_neg ha];exact List.count_eq_zero.2 (fun h=>ha (zbv.1 h))
 rw [c,c]
 by_cases ha:a∈l
 ·rw [if_pos ha,if_pos ((h a).1 ha)]
 ·rw [if_neg ha,if_neg (fun h'=>ha ((h a).2 h'))]
theorem znu {l l':List Int} (h : ∀ x,x∈l↔x∈l'):zgZ l=zgZ l':=zoV (zvw h)
abbrev zN:=List (Nat→Nat→Bool)
def zcy (n:Nat) (r:Nat→Nat→Bool) (q:Nat→Nat) (w:Nat):List Int:=((List.range n).filter fun v=>r w v).map fun v=>(q v:Int)
def zc7 (n:Nat) (R:zN) (q:Nat→Nat) (w:Nat):Tup:=[(q w:Int)]::R.map fun r=>zaG (zcy n r q w)
def zaZ (n:Nat) (R:zN) (q:Nat→Nat) (w:Nat):Tup:=[(q w:Int)]::R.map fun r=>zgZ (zcy n r q w)
theorem zsY {n:Nat} {R:zN} (q:Nat→Nat) (v w:Nat) (_:v < n) (_:w < n) (h:zc7 n R q v=zc7 n R q w):q v=q w:=by
 unfold zc7 at h
 have:=(List.cons.inj h).1
 simp at this;omega
theorem znf {n:Nat} {R:zN} (q:Nat→Nat) (v w:Nat) (_:v < n) (_:w < n) (h:zaZ n R q v=zaZ n R q w):q v=q w:=by
 unfold zaZ at h
 have:=(List.cons.inj h).1
 simp at this;omega
structure zhw (n:Nat) (f:Nat→Nat) (R R':zN):Prop where
 len:R'.length=R.length
 rel : ∀ (i:Nat) (r r':Nat→Nat→Bool),R[i]? = some r→R'[i]? = some r' → ∀ v w,v < n→w < n→r' (f v) (f w)=r v w
theorem zwm {n:Nat} {f:Nat→Nat} (hf:Ren n f) {r r':Nat→Nat→Bool} (h : ∀ v w,v < n→w < n→r' (f v) (f w)=r v w) {q q':Nat→Nat} (hq : ∀ w,w < n→q' (f w)=q w) {w:Nat} (hw:w < n):(zcy n r' q' (f w)).Perm (zcy n r q w):=by
 have h1:((List.range n).filter fun v=>r' (f w) v).Perm (((List.range n).filter fun v=>r w v).map f):=by
  refine ze7 (List.Nodup.sublist List.filter_sublist List.nodup_range) ?_ fun x=>?_
  ·rw [List.Nodup,List.pairwise_map]
   refine List.Pairwise.imp_of_mem (fun {a b} ha hb hab e=>hab (hf.inj a b ?_ ?_ e)) (List.Nodup.sublist List.filter_sublist List.nodup_range)
   ·exact List.mem_range.1 (List.mem_filter.1 ha).1
   ·exact List.mem_range.1 (List.mem_filter.1 hb).1
  ·constructor
   ·intro hx
    obtain ⟨h1,h2⟩:=List.mem_filter.1 hx
    obtain ⟨v,hv,rfl⟩:=hf.surj (List.mem_range.1 h1)
    exact List.mem_map.2 ⟨v,List.mem_filter.2 ⟨List.mem_range.2 hv,by rw [← h w v hw hv];exact h2⟩,rfl⟩
   ·intro hx
    obtain ⟨v,hv,rfl⟩:=List.mem_map.1 hx
    obtain ⟨h1,h2⟩:=List.mem_filter.1 hv
    have h1:=List.mem_range.1 h1
    exact List.mem_filter.2 ⟨List.mem_range.2 (hf.lt v h1),by rw [h w v hw h1];exact h2⟩
 unfold zcy
 refine (h1.map _).trans ?_
 rw [List.map_map]
 refine List.Perm.of_eq (List.map_congr_left fun v hv=>?_)
 have:=List.mem_range.1 (List.mem_filter.1 hv).1
 show ((q' (f v):Nat):Int)=_
 rw [hq v this]
theorem zqy {n:Nat} {f:Nat→Nat} (hf:Ren n f) {R R':zN} (hR:zhw n f R R') {q q':Nat→Nat} (hq : ∀ w,w < n→q' (f w)=q w) {w:Nat} (hw:w < n):zc7 n R' q' (f w)=zc7 n R q w∧zaZ n R' q' (f w)=zaZ n R q w:=by
 have key : ∀ (g:List Int→List Int),(∀ l l':List Int,l.Perm l'→g l=g l')→(R'.map fun r=>g (zcy n r q' (f w)))=R.map fun r=>g (zcy n r q w):=by
  intro g hg
  refine List.ext_getElem? fun i=>?_
  rw [List.getElem?_map,List.getElem?_map]
  by_cases hi:i < R.length
  ·obtain ⟨r,hr⟩ : ∃ r,R[i]? = some r:=⟨_,List.getElem?_eq_getElem hi⟩
   obtain ⟨r',hr'⟩ : ∃ r',R'[i]? = some r':=⟨_,List.getElem?_eq_getElem (by rw [hR.len];exact hi)⟩
   rw [hr,hr']
   exact congrArg some (hg _ _ (zwm hf (hR.rel i r r' hr hr') hq hw))
  ·rw [List.getElem?_eq_none (by rw [hR.len];omega),List.getElem?_eq_none (by omega)];rfl
 exact ⟨by unfold zc7;rw [hq w hw,key zaG fun l l' h=>zoV h],by unfold zaZ;rw [hq w hw,key zgZ fun l l' h=>znu fun x=>h.mem_iff]⟩
def zn4 (n:Nat) (R:zN) (first:Nat→Tup):(Nat→Nat)×Nat:=zdU n (zc7 n R) (n+1) (fun w=>rkN ((List.range n).map first) (first w)) (cnN ((List.range n).map first))
def zqI (n:Nat) (R:zN) (first:Nat→Tup):(Nat→Nat)×Nat:=zdU n (zaZ n R) (n+1) (fun w=>rkN ((List.range n).map first) (first w)) (cnN ((List.range n).map first))
theorem zxG {n:Nat} {f:Nat→Nat} (hf:Ren n f) {R R':zN} (hR:zhw n f R R') {first first':Nat→Tup} (h1 : ∀ w,w < n→first' (f w)=first w) :
  (∀ w,w < n→(zn4 n R' first').1 (f w)=(zn4 n R first).1 w)∧(zn4 n R' first').2=(zn4 n R first).2∧(∀ w,w < n→(zqI n R' first').1 (f w)=(zqI n R first).1 w)∧(zqI n R' first').2=(zqI n R first).2:=by
 have hc:=zur hf h1
 have hr : ∀ w,w < n→(fun w=>rkN ((List.range n).map first') (first' w)) (f w)=(fun w=>rkN ((List.range n).map first) (first w)) w:=fun w hw=>zus hf h1 hw
 have ha:=zqM hf (next:=zc7 n R) (next':=zc7 n R') (fun q q' hq w hw=>(zqy hf hR hq hw).1) (n+1) (fun w=>rkN ((List.range n).map first) (first w)) (fun w=>rkN ((List.range n).map first') (first' w)) (cnN ((List.range n).map first)) hr
 have ho:=zqM hf (next:=zaZ n R) (next':=zaZ n R') (fun q q' hq w hw=>(zqy hf hR hq hw).2) (n+1) (fun w=>rkN ((List.range n).map first) (first w)) (fun w=>rkN ((List.range n).map first') (first' w)) (cnN ((List.range n).map first)) hr
 unfold zn4 zqI
 rw [hc]
 exact ⟨ha.1,ha.2,ho.1,ho.2⟩
end Go.Ab
namespace Go.Ab
structure zcK (n:Nat) (fa fb:Nat→Int) (R R':zN) (f:Nat→Nat):Prop where
 ren:Ren n f
 fac : ∀ w,w < n→fb (f w)=fa w
 rel:zhw n f R R'
def zeP (R:zN):zN:=R.map fun r=>fun v w=>r w v
theorem zhw.back {n:Nat} {f:Nat→Nat} {R R':zN} (h:zhw n f R R'):zhw n f (R++zeP R) (R'++zeP R'):=by
 refine ⟨by simp [zeP,h.len],fun i r r' h1 h2 v w hv hw=>?_⟩
 by_cases hi:i < R.length
 ·rw [List.getElem?_append_left hi] at h1
  rw [List.getElem?_append_left (by rw [h.len];exact hi)] at h2
  exact h.rel i r r' h1 h2 v w hv hw
 ·rw [List.getElem?_append_right (by omega),zeP,List.getElem?_map,Option.map_eq_some_iff] at h1
  rw [List.getElem?_append_right (by rw [h.len];omega),zeP,List.getElem?_map,Option.map_eq_some_iff] at h2
  obtain ⟨s,hs,rfl⟩:=h1
  obtain ⟨s',hs',rfl⟩:=h2
  exact h.rel _ s s' hs (by rw [← h.len];exact hs') w v hw hv
def zhy (n:Nat) (fa:Nat→Int) (R:zN):(Nat→Nat)×Nat:=zn4 n (R++zeP R) fun w=>[[fa w]]
theorem zxc {n:Nat} {fa fb:Nat→Int} {R R':zN} {f:Nat→Nat} (h:zcK n fa fb R R' f) : ∀ w,w < n→(zhy n fb R').1 (f w)=(zhy n fa R).1 w :=
 (zxG h.ren h.rel.back (first:=fun w=>[[fa w]]) (first':=fun w=>[[fb w]]) fun w hw=>by rw [h.fac w hw]).1
def dfs (ok:List Nat→Nat→Bool) (n:Nat):Nat→List Nat→List (List Nat)
 | 0,to=>[to]
 | k+1,to=>(List.range n).flatMap fun w=>if ok to w=true then dfs ok n k (to++[w]) else []
theorem zgp {ok:List Nat→Nat→Bool} {n:Nat} : ∀ {k:Nat} {to x:List Nat},x∈dfs ok n k to↔x.length=to.length+k∧to <+: x ∧ ∀ v,to.length≤v→v < x.length→x.getD v 0 < n∧ok (x.take v) (x.getD v 0)=true
 | 0,to,x=>by
  unfold dfs
  rw [List.mem_singleton]
  constructor
  ·rintro rfl;exact ⟨rfl,List.prefix_rfl,fun v h1 h2=>by omega⟩
  ·rintro ⟨h1,h2,-⟩;exact (h2.eq_of_length (by omega)).symm
 | k+1,to,x=>by
  unfold dfs
  rw [List.mem_flatMap]
  constructor
  ·rintro ⟨w,hw,hx⟩
   by_cases hok:ok to w=true
   ·rw [if_pos hok] at hx
    obtain ⟨h1,h2,h3⟩:=zgp.1 hx
    rw [List.length_append,List.length_singleton] at h1 h3
    have hp:to <+: x:=(List.prefix_append to [w]).trans h2
    refine ⟨by omega,hp,fun v h4 h5=>?_⟩
    by_cases e:v=to.length
    ·subst e
     obtain ⟨s,rfl⟩:=h2
     have e1:(to++[w]++s).getD to.length 0=w:=by simp [List.getD]
     have e2:(to++[w]++s).take to.length=to:=by simp
     rw [e1,e2]
     exact ⟨List.mem_range.1 hw,hok⟩
    ·exact h3 v (by omega) h5
   ·rw [if_neg hok] at hx;cases hx
  ·rintro ⟨h1,h2,h3⟩
   obtain ⟨s,rfl⟩:=h2
   match s,h1 with
   | [],h1=>simp at h1
   | w::s,h1 =>
    have e1:(to++w::s).getD to.length 0=w:=by simp [List.getD]
    have e2:(to++w::s).take to.length=to:=by simp
    obtain ⟨h4,h5⟩:=h3 to.length (Nat.le_refl _) (by simp)
    rw [e1] at h4 h5
    rw [e2] at h5
    refine ⟨w,List.mem_range.2 h4,?_⟩
    rw [if_pos h5]
    exact zgp.2 ⟨by simp at *;omega,⟨s,by simp⟩,fun v h6 h7=>h3 v (by simp at h6;omega) h7⟩
abbrev fnL (x:List Nat):Nat→Nat:=fun v=>x.getD v 0
section
variable (n:Nat) (fa fb:Nat→Int) (R R':zN)
def zgU (x:Nat→Nat) (v u:Nat):Bool:=(R.zip R').all fun r=>r.1 v u==r.2 (x v) (x u)&&r.1 u v==r.2 (x u) (x v)
def okS (to:List Nat) (w:Nat):Bool := !to.contains w&&(fa to.length==fb w&&(List.range (to.length+1)).all fun u=>zgU R R' (fnL (to++[w])) to.length u)
end
theorem zeK {R R':zN} (hl:R'.length=R.length) {p:(Nat→Nat→Bool)×(Nat→Nat→Bool)→Bool} : (R.zip R').all p=true ↔ ∀ (i:Nat) r r',R[i]? = some r→R'[i]? = some r'→p (r,r')=true:=by
 rw [List.all_eq_true]
 constructor
 ·intro h i r r' h1 h2
  refine h (r,r') (List.mem_of_getElem? (i:=i) ?_)
  rw [List.getElem?_zip_eq_some]
  exact ⟨h1,h2⟩
 ·intro h x hx
  obtain ⟨i,hi⟩:=List.mem_iff_getElem?.1 hx
  obtain ⟨h1,h2⟩:=List.getElem?_zip_eq_some.1 hi
  exact h i x.1 x.2 h1 h2
theorem zi5 {x:List Nat} {v u:Nat} (hv:v < x.length) (hu:u≤v):fnL (x.take v++[x.getD v 0]) u=fnL x u:=by
 have:x.take v++[x.getD v 0]=x.take (v+1):=by
  rw [List.take_add_one,List.getElem?_eq_getElem hv]
  simp [List.getD,hv]
 show (x.take v++[x.getD v 0]).getD u 0=x.getD u 0
 rw [this,List.getD,List.getD,List.getElem?_take_of_lt (by omega)]
theorem zn2 {n:Nat} {fa fb:Nat→Int} {R R':zN} (hl:R'.length=R.length) {x:List Nat} (hx:x.length=n) :
  (∀ v,v < n→x.getD v 0 < n∧okS fa fb R R' (x.take v) (x.getD v 0)=true)↔zcK n fa fb R R' (fnL x):=by
 constructor
 ·intro h
  have h1 : ∀ v,v < n → ∀ u,u < v→fnL x u≠fnL x v:=fun v hv u hu e=>by
   have:=(h v hv).2
   unfold okS at this
   simp only [Bool.and_eq_true,Bool.not_eq_true',List.contains_iff_mem] at this
   have h2 : ¬(x.take v).contains (x.getD v 0)=true:=by rw [this.1];decide
   refine h2 (List.contains_iff_mem.2 ?_)
   rw [← (show fnL x u=x.getD v 0 from e)]
   exact List.mem_of_getElem? (i:=u) (by rw [List.getElem?_take_of_lt hu,List.getElem?_eq_getElem (by omega)];simp [fnL,List.getD,show u < x.length by omega])
  have h2 : ∀ v,v < n→fa v=fb (fnL x v) ∧ ∀ u,u≤v→zgU R R' (fnL x) v u=true:=fun v hv=>by
   have:=(h v hv).2
   unfold okS at this
   simp only [Bool.and_eq_true,List.length_take,beq_iff_eq,List.all_eq_true,List.mem_range] at this
   rw [show min v x.length=v by omega] at this
   refine ⟨this.2.1,fun u hu=>?_⟩
   have h3:=this.2.2 u (by omega)
   unfold zgU at h3 ⊢
   rw [zi5 (by omega) (Nat.le_refl _),zi5 (by omega) hu] at h3
   exact h3
  refine ⟨⟨fun w hw=>(h w hw).1,fun v w hv hw e=>?_⟩,fun w hw=>(h2 w hw).1.symm,hl,fun i r r' hr hr' v w hv hw=>?_⟩
  ·rcases Nat.lt_trichotomy v w with hlt|e'|hlt
   ·exact absurd e (h1 w hw v hlt)
   ·exact e'
   ·exact absurd e.symm (h1 v hv w hlt)
  ·rcases Nat.le_total w v with hle|hle
   ·have:=(zeK hl).1 ((h2 v hv).2 w hle) i r r' hr hr'
    simp only [Bool.and_eq_true,beq_iff_eq] at this
    exact this.1.symm
   ·have:=(zeK hl).1 ((h2 w hw).2 v hle) i r r' hr hr'
    simp only [Bool.and_eq_true,beq_iff_eq] at this
    exact this.2.symm
 ·intro h v hv
  refine ⟨h.ren.lt v hv,?_⟩
  unfold okS
  simp only [Bool.and_eq_true,List.length_take,beq_iff_eq,List.all_eq_true,List.mem_range]
  rw [show min v x.length=v by omega]
  refine ⟨?_,(h.fac v hv).symm,fun u hu=>?_⟩
  ·rw [Bool.not_eq_true',← Bool.not_eq_true,List.contains_iff_mem]
   intro hm
   obtain ⟨u,hu⟩:=List.mem_iff_getElem?.1 hm
   have hlt:u < v:=by have:=(List.getElem?_eq_some_iff.1 hu).1;simp at this;omega
   rw [List.getElem?_take_of_lt hlt] at hu
   have:fnL x u=fnL x v:=by show x.getD u 0=_;rw [List.getD,hu];rfl
   have:=h.ren.inj u v (by omega) hv this
   omega
  ·unfold zgU
   rw [zi5 (by omega) (Nat.le_refl _),zi5 (by omega) (by omega)]
   refine (zeK hl).2 fun i r r' hr hr'=>?_
   simp only [Bool.and_eq_true,beq_iff_eq]
   exact ⟨(h.rel.rel i r r' hr hr' v u hv (by omega)).symm,(h.rel.rel i r r' hr hr' u v (by omega) hv).symm⟩
def okC (n:Nat) (fa fb:Nat→Int) (R R':zN) (to:List Nat) (w:Nat):Bool:=decide ((zhy n fa R).1 to.length=(zhy n fb R').1 w)&&okS fa fb R R' to w
theorem zvN {n:Nat} {fa fb:Nat→Int} {R R':zN} (hl:R'.length=R.length) {x:List Nat} : x∈dfs (okS fa fb R R') n n []↔x.length=n∧zcK n fa fb R R' (fnL x):=by
 rw [zgp]
 constructor
 ·rintro ⟨h1,-,h3⟩
  have h1:x.length=n:=by simpa using h1
  exact ⟨h1,(zn2 hl h1).1 fun v hv=>h3 v (Nat.zero_le _) (by omega)⟩
 ·rintro ⟨h1,h2⟩
  exact ⟨by simpa using h1,List.nil_prefix,fun v _ hv=>(zn2 hl h1).2 h2 v (by omega)⟩
theorem zoz {n:Nat} {fa fb:Nat→Int} {R R':zN} (hl:R'.length=R.length) {x:List Nat} : x∈dfs (okC n fa fb R R') n n []↔x.length=n∧zcK n fa fb R R' (fnL x):=by
 rw [← zvN hl,zgp,zgp]
 constructor
 ·rintro ⟨h1,h2,h3⟩
  exact ⟨h1,h2,fun v hv hv'=>⟨(h3 v hv hv').1,by have:=(h3 v hv hv').2;unfold okC at this;exact (Bool.and_eq_true _ _▸this).2⟩⟩
 ·rintro ⟨h1,h2,h3⟩
  have hn:x.length=n:=by simpa using h1
  have hiso:=(zn2 hl hn).1 fun v hv=>h3 v (Nat.zero_le _) (by omega)
  refine ⟨h1,h2,fun v hv hv'=>⟨(h3 v hv hv').1,?_⟩⟩
  unfold okC
  rw [(h3 v hv hv').2,Bool.and_true,List.length_take,show min v x.length=v by omega]
  exact decide_eq_true (zxc hiso v (by omega)).symm
end Go.Ab
namespace Go.Ab
def ziM (n:Nat) (f:Nat→Nat) (x:Nat):Nat:=((List.range n).find? fun w=>decide (f w=x)).getD 0
theorem zyJ {n:Nat} {f:Nat→Nat} (hf:Ren n f) {w:Nat} (hw:w < n):ziM n f (f w)=w:=by
 unfold ziM
 cases h:(List.range n).find? fun u=>decide (f u=f w) with
 | none=>have:=List.find?_eq_none.1 h w (List.mem_range.2 hw);simp at this
 | some u =>
  have h1:=List.find?_some h
  exact hf.inj u w (List.mem_range.1 (List.mem_of_find?_eq_some h)) hw (of_decide_eq_true h1)
theorem zgg {n:Nat} {f:Nat→Nat} (hf:Ren n f) {x:Nat} (hx:x < n):ziM n f x < n∧f (ziM n f x)=x:=by
 obtain ⟨w,hw,rfl⟩:=hf.surj hx
 rw [zyJ hf hw];exact ⟨hw,rfl⟩
theorem Ren.inv {n:Nat} {f:Nat→Nat} (hf:Ren n f):Ren n (ziM n f) :=
 ⟨fun x hx=>(zgg hf hx).1,fun x y hx hy e=>by rw [← (zgg hf hx).2,← (zgg hf hy).2,e]⟩
theorem zhw.inv {n:Nat} {f:Nat→Nat} {R R':zN} (hf:Ren n f) (h:zhw n f R R'):zhw n (ziM n f) R' R :=
 ⟨h.len.symm,fun i r r' h1 h2 v w hv hw=>by
  have e:=h.rel i r' r h2 h1 (ziM n f v) (ziM n f w) (zgg hf hv).1 (zgg hf hw).1
  rw [(zgg hf hv).2,(zgg hf hw).2] at e
  exact e.symm⟩
theorem zcK.inv {n:Nat} {fa fb:Nat→Int} {R R':zN} {f:Nat→Nat} (h:zcK n fa fb R R' f):zcK n fb fa R' R (ziM n f) :=
 ⟨h.ren.inv,fun x hx=>by rw [← h.fac _ (zgg h.ren hx).1,(zgg h.ren hx).2],h.rel.inv h.ren⟩
theorem zcK.congr {n:Nat} {fa fb:Nat→Int} {R R':zN} {f g:Nat→Nat} (h:zcK n fa fb R R' f) (e : ∀ w,w < n→g w=f w):zcK n fa fb R R' g :=
 ⟨⟨fun w hw=>by rw [e w hw];exact h.ren.lt w hw,fun v w hv hw h'=>h.ren.inj v w hv hw (by rw [← e v hv,← e w hw,h'])⟩,fun w hw=>by rw [e w hw];exact h.fac w hw,
  ⟨h.rel.len,fun i r r' h1 h2 v w hv hw=>by rw [e v hv,e w hw];exact h.rel.rel i r r' h1 h2 v w hv hw⟩⟩
end Go.Ab
namespace Go.Ab
def zso (n:Nat) (R:zN) (q:Nat→Nat):Prop := ∀ v w,v < n→w < n→q v=q w→zaZ n R q v=zaZ n R q w
theorem ziT {l:List Int} {x:Int} : x∈zgZ l↔x∈l:=by
 unfold zgZ;rw [(zcz _).mem_iff];exact zbv
theorem znZ {n:Nat} {r:Nat→Nat→Bool} {q:Nat→Nat} {w:Nat} {x:Int} : x∈zcy n r q w ↔ ∃ v,v < n∧r w v=true∧(q v:Int)=x:=by
 unfold zcy
 rw [List.mem_map]
 constructor
 ·rintro ⟨v,hv,e⟩
  obtain ⟨h1,h2⟩:=List.mem_filter.1 hv
  exact ⟨v,List.mem_range.1 h1,h2,e⟩
 ·rintro ⟨v,h1,h2,e⟩
  exact ⟨v,List.mem_filter.2 ⟨List.mem_range.2 h1,h2⟩,e⟩
theorem zcX {n:Nat} {R:zN} {q:Nat→Nat} {v w:Nat} : zaZ n R q v=zaZ n R q w↔q v=q w ∧ ∀ r∈R,∀ x:Nat,(∃ u,u < n∧r v u=true∧q u=x) ↔ ∃ u,u < n∧r w u=true∧q u=x:=by
 have cast : ∀ (r:Nat→Nat→Bool) (a:Nat) (x:Nat),((x:Int)∈zcy n r q a) ↔ ∃ u,u < n∧r a u=true∧q u=x:=fun r a x=>by
  rw [znZ]
  exact ⟨fun ⟨u,h1,h2,h3⟩=>⟨u,h1,h2,by omega⟩,fun ⟨u,h1,h2,h3⟩=>⟨u,h1,h2,by omega⟩⟩
 constructor
 ·intro h
  obtain ⟨h1,h2⟩:=List.cons.inj h
  refine ⟨by simp at h1;omega,fun r hr x=>?_⟩
  rw [← cast,← cast,← ziT,← ziT (l:=zcy n r q w)]
  have:=(List.map_inj_left.1 h2) r hr
  rw [this]
 ·rintro ⟨h1,h2⟩
  unfold zaZ
  rw [h1]
  congr 1
  refine List.map_congr_left fun r hr=>znu fun x=>?_
  constructor
  ·intro hx
   obtain ⟨u,a,b,rfl⟩:=znZ.1 hx
   exact (cast r w (q u)).2 ((h2 r hr (q u)).1 ⟨u,a,b,rfl⟩)
  ·intro hx
   obtain ⟨u,a,b,rfl⟩:=znZ.1 hx
   exact (cast r v (q u)).2 ((h2 r hr (q u)).2 ⟨u,a,b,rfl⟩)
theorem zth {n:Nat} {R:zN} {q:Nat→Nat} (hs:zso n R q) {p:Nat→Nat} (hp : ∀ v w,v < n→w < n→q v=q w→p v=p w) : ∀ v w,v < n→w < n→q v=q w→zaZ n R p v=zaZ n R p w:=by
 intro v w hv hw h
 obtain ⟨-,h2⟩:=zcX.1 (hs v w hv hw h)
 refine zcX.2 ⟨hp v w hv hw h,fun r hr x=>?_⟩
 constructor
 ·rintro ⟨u,a,b,rfl⟩
  obtain ⟨u',a',b',e⟩:=(h2 r hr (q u)).1 ⟨u,a,b,rfl⟩
  exact ⟨u',a',b',hp u' u a' a e⟩
 ·rintro ⟨u,a,b,rfl⟩
  obtain ⟨u',a',b',e⟩:=(h2 r hr (q u)).2 ⟨u,a,b,rfl⟩
  exact ⟨u',a',b',hp u' u a' a e⟩
end Go.Ab
namespace Go.Ab
def zdr (n:Nat) (R:zN) (p:Nat→Nat):Nat→Nat:=zR (zbP (zaZ n R p))
theorem zgR {n:Nat} {R:zN} {p:Nat→Nat} {v w:Nat} : zdr n R p v=zdr n R p w↔zaZ n R p v=zaZ n R p w:=by
 unfold zdr;rw [zkf (zcv _)];simp [zbP]
theorem ze4 (n:Nat) (R:zN) (p:Nat→Nat) (m:Nat):zaR m (zdr n R p):=zew (zcv _) m
def ziU (n:Nat) (R:zN):Nat→(Nat→Nat)→Nat→Nat
 | 0,p=>p
 | k+1,p=>if (List.range n).map (zdr n R p)=(List.range n).map p then p else ziU n R k (zdr n R p)
theorem zjj {n:Nat} {p q:Nat→Nat} : (List.range n).map p=(List.range n).map q ↔ ∀ w,w < n→p w=q w:=by
 rw [List.map_inj_left]
 exact ⟨fun h w hw=>h w (List.mem_range.2 hw),fun h w hw=>h w (List.mem_range.1 hw)⟩
theorem zub {n:Nat} {R:zN} {p:Nat→Nat} (hp:zaR n p) (h : ∃ w,w < n∧zdr n R p w≠p w):zG n p < zG n (zdr n R p):=by
 have fine : ∀ v w,v < n→w < n→zdr n R p v=zdr n R p w→p v=p w:=fun v w hv hw e=>znf p v w hv hw (zgR.1 e)
 have rep : ∀ w,w < n→p w=w→zdr n R p w=w:=fun w hw e=>by
  have h1:=(ze4 n R p n).le w hw
  have h2:=(ze4 n R p n).idem w hw
  have h3:=fine (zdr n R p w) w (by omega) hw h2
  have h4:=hp.le (zdr n R p w) (by omega)
  omega
 unfold zG
 have e1 : ∀ f:Nat→Nat,(List.range n).filter (fun w=>decide (f w=w))=(List.range n).filter fun w=>decide (w < n∧f w=w):=fun f=>List.filter_congr fun w hw=>by
  have:=List.mem_range.1 hw
  simp [this]
 rw [e1,e1]
 refine (zjV (fun w hw=>?_) _).2 ?_
 ·simp only [decide_eq_true_eq] at hw ⊢
  exact ⟨hw.1,rep w hw.1 hw.2⟩
 ·obtain ⟨w,hw,hne⟩:=h
  refine Classical.byContradiction fun hn=>hne ?_
  have hall : ∀ u,u < n→zdr n R p u=u→p u=u:=fun u hu e=>Classical.byContradiction fun h=>hn ⟨u,List.mem_range.2 hu,by simp [h],by simp [hu,e]⟩
  have h1:=(ze4 n R p n).le w hw
  have h2:=(ze4 n R p n).idem w hw
  have h3:=hall _ (by omega) h2
  rw [← h3]
  exact fine _ w (by omega) hw h2
theorem zqu {n:Nat} {R:zN} : ∀ (k:Nat) (p:Nat→Nat),zaR n p→n < k+zG n p → ∃ q,ziU n R k p=q∧zaR n q∧(∀ w,w < n→zdr n R q w=q w)∧(∀ v w,v < n→w < n→q v=q w→p v=p w) ∧
  ∀ Q:Nat→Nat,zso n R Q→(∀ v w,v < n→w < n→Q v=Q w→p v=p w) → ∀ v w,v < n→w < n→Q v=Q w→q v=q w
 | 0,p,hp,h=>by have:=zdj n p;omega
 | k+1,p,hp,h=>by
  unfold ziU
  by_cases he:(List.range n).map (zdr n R p)=(List.range n).map p
  ·rw [if_pos he]
   exact ⟨p,rfl,hp,zjj.1 he,fun _ _ _ _ h=>h,fun Q _ h=>h⟩
  ·rw [if_neg he]
   have hne : ∃ w,w < n∧zdr n R p w≠p w:=Classical.byContradiction fun hn=>he (zjj.2 fun w hw=>Classical.byContradiction fun h=>hn ⟨w,hw,h⟩)
   have hg:=zub hp hne
   obtain ⟨q,h1,h2,h3,h4,h5⟩:=zqu k (zdr n R p) (ze4 n R p n) (by omega)
   exact ⟨q,h1,h2,h3,fun v w hv hw e=>znf p v w hv hw (zgR.1 (h4 v w hv hw e)),fun Q hQ hQp=>h5 Q hQ fun v w hv hw e=>zgR.2 (zth hQ hQp v w hv hw e)⟩
end Go.Ab
namespace Go.Ab
structure zbK (n n':Nat) (R R':zN) (fa fb:Nat→Int) (Z:Nat→Nat→Prop):Prop where
 len:R'.length=R.length
 lt : ∀ {v v'},Z v v'→v < n∧v' < n'
 fac : ∀ {v v'},Z v v'→fa v=fb v'
 forth : ∀ {i:Nat} {r r':Nat→Nat→Bool},R[i]? = some r→R'[i]? = some r' → ∀ {v v' u},Z v v'→u < n→r v u=true → ∃ u',u' < n'∧r' v' u'=true∧Z u u'
 back : ∀ {i:Nat} {r r':Nat→Nat→Bool},R[i]? = some r→R'[i]? = some r' → ∀ {v v' u'},Z v v'→u' < n'→r' v' u'=true → ∃ u,u < n∧r v u=true∧Z u u'
theorem zbK.symm {n n':Nat} {R R':zN} {fa fb:Nat→Int} {Z:Nat→Nat→Prop} (B:zbK n n' R R' fa fb Z):zbK n' n R' R fb fa fun v' v=>Z v v' where
 len:=B.len.symm
 lt h:=⟨(B.lt h).2,(B.lt h).1⟩
 fac h:=(B.fac h).symm
 forth h1 h2:=fun {v v' u} hz hu hr=>by obtain ⟨u,a,b,c⟩:=B.back h2 h1 hz hu hr;exact ⟨u,a,b,c⟩
 back h1 h2:=fun {v v' u} hz hu hr=>by obtain ⟨u,a,b,c⟩:=B.forth h2 h1 hz hu hr;exact ⟨u,a,b,c⟩
theorem zr8 {R R':zN} (h:R'.length=R.length) {i:Nat} {r:Nat→Nat→Bool} (hr:R[i]? = some r) : ∃ r',R'[i]? = some r' :=
 ⟨_,List.getElem?_eq_getElem (by have:=(List.getElem?_eq_some_iff.1 hr).1;omega)⟩
theorem zbK.trans {n n' n2:Nat} {R R' R2:zN} {fa fb fc:Nat→Int} {Z Z':Nat→Nat→Prop} (B:zbK n n' R R' fa fb Z) (B':zbK n' n2 R' R2 fb fc Z'):zbK n n2 R R2 fa fc fun v w => ∃ u,Z v u∧Z' u w where
 len:=B'.len.trans B.len
 lt:=fun ⟨u,h,h'⟩=>⟨(B.lt h).1,(B'.lt h').2⟩
 fac:=fun ⟨u,h,h'⟩=>(B.fac h).trans (B'.fac h')
 forth h1 h2:=fun ⟨x,h,h'⟩ hu hr=>by
  obtain ⟨r',hr'⟩:=zr8 B.len h1
  obtain ⟨a,a1,a2,a3⟩:=B.forth h1 hr' h hu hr
  obtain ⟨b,b1,b2,b3⟩:=B'.forth hr' h2 h' a1 a2
  exact ⟨b,b1,b2,a,a3,b3⟩
 back h1 h2:=fun ⟨x,h,h'⟩ hu hr=>by
  obtain ⟨r',hr'⟩:=zr8 B.len h1
  obtain ⟨a,a1,a2,a3⟩:=B'.back hr' h2 h' hu hr
  obtain ⟨b,b1,b2,b3⟩:=B.back h1 hr' h a1 a2
  exact ⟨b,b1,b2,a,b3,a3⟩
theorem zrX {n:Nat} {R:zN} {fa:Nat→Int} {Z:Nat→Nat→Prop} (B:zbK n n R R fa fa Z) : ∀ (k:Nat) (p:Nat→Nat),(∀ v w,Z v w→p v=p w) → ∀ v w,Z v w→ziU n R k p v=ziU n R k p w
 | 0,p,hp=>hp
 | k+1,p,hp=>by
  unfold ziU
  split
  ·exact hp
  ·refine zrX B k _ fun v w hz=>zgR.2 (zcX.2 ⟨hp v w hz,fun r hr x=>?_⟩)
   obtain ⟨i,hi⟩:=List.mem_iff_getElem?.1 hr
   constructor
   ·rintro ⟨u,a,b,rfl⟩
    obtain ⟨u',c,d,e⟩:=B.forth hi hi hz a b
    exact ⟨u',c,d,(hp u u' e).symm⟩
   ·rintro ⟨u,a,b,rfl⟩
    obtain ⟨u',c,d,e⟩:=B.back hi hi hz a b
    exact ⟨u',c,d,hp u' u e⟩
def coa (n:Nat) (R:zN) (fa:Nat→Int):Nat→Nat:=ziU n R (n+1) (zR (zbP fa))
theorem znN {fa:Nat→Int} {v w:Nat} : zR (zbP fa) v=zR (zbP fa) w↔fa v=fa w:=by rw [zkf (zcv fa)];simp [zbP]
structure zkE (n:Nat) (R:zN) (fa:Nat→Int) (q:Nat→Nat):Prop where
 canon:zaR n q
 stab:zso n R q
 fac : ∀ v w,v < n→w < n→q v=q w→fa v=fa w
theorem zvr (n:Nat) (R:zN) (fa:Nat→Int):zkE n R fa (coa n R fa):=by
 obtain ⟨q,h1,h2,h3,h4,h5⟩:=zqu (R:=R) (n+1) (zR (zbP fa)) (zew (zcv fa) n) (by omega)
 unfold coa
 rw [h1]
 exact ⟨h2,fun v w hv hw e=>zgR.1 (by rw [h3 v hv,h3 w hw,e]),fun v w hv hw e=>znN.1 (h4 v w hv hw e)⟩
theorem zrN {n:Nat} {R:zN} {fa:Nat→Int} {Z:Nat→Nat→Prop} (B:zbK n n R R fa fa Z) {v w:Nat} (h:Z v w):coa n R fa v=coa n R fa w :=
 zrX B (n+1) _ (fun v w hz=>znN.2 (B.fac hz)) v w h
theorem zkE.bis {n:Nat} {R:zN} {fa:Nat→Int} {q:Nat→Nat} (S:zkE n R fa q):zbK n n R R fa fa fun v w=>v < n∧w < n∧q v=q w where
 len:=rfl
 lt h:=⟨h.1,h.2.1⟩
 fac h:=S.fac _ _ h.1 h.2.1 h.2.2
 forth h1 h2:=fun {v v' u} hz hu hr=>by
  rw [h1] at h2;cases h2
  obtain ⟨u',a,b,c⟩:=((zcX.1 (S.stab _ _ hz.1 hz.2.1 hz.2.2)).2 _ (List.mem_of_getElem? h1) (q u)).1 ⟨u,hu,hr,rfl⟩
  exact ⟨u',a,b,hu,a,c.symm⟩
 back h1 h2:=fun {v v' u} hz hu hr=>by
  rw [h1] at h2;cases h2
  obtain ⟨u',a,b,c⟩:=((zcX.1 (S.stab _ _ hz.1 hz.2.1 hz.2.2)).2 _ (List.mem_of_getElem? h1) (q u)).2 ⟨u,hu,hr,rfl⟩
  exact ⟨u',a,b,a,hu,c⟩
def zbe (n:Nat) (q:Nat→Nat):List Nat:=(List.range n).filter fun w=>decide (q w=w)
def zP (q:Nat→Nat) (w:Nat):Nat:=zG (q w) q
theorem zut {q:Nat→Nat} {u:Nat} (hu:q u=u) : ∀ n,u < n→(zbe n q)[zG u q]? = some u
 | 0,h=>by omega
 | n+1,h=>by
  unfold zbe
  rw [List.range_succ,List.filter_append]
  by_cases e:u=n
  ·subst e
   rw [List.getElem?_append_right (by show _≤zG u q;exact Nat.le_refl _)]
   show (List.filter _ [u])[zG u q - zG u q]? = _
   rw [Nat.sub_self]
   simp [hu]
  ·have ih:=zut hu n (by omega)
   have hlt:=(List.getElem?_eq_some_iff.1 ih).1
   rw [List.getElem?_append_left (by exact hlt)]
   exact ih
section
variable {n:Nat} {q:Nat→Nat} (hq:zaR n q)
include hq
theorem zfs {w:Nat} (hw:w < n):(zbe n q)[zP q w]? = some (q w):=zut (hq.idem w hw) n (by have:=hq.le w hw;omega)
theorem zb5 {w:Nat} (hw:w < n):zP q w < zG n q:=(List.getElem?_eq_some_iff.1 (zfs hq hw)).1
theorem zl9 {v w:Nat} (hv:v < n) (hw:w < n):zP q v=zP q w↔q v=q w:=by
 constructor
 ·intro h
  have h1:=zfs hq hv
  rw [h,zfs hq hw] at h1
  exact (Option.some.inj h1).symm
 ·intro h;unfold zP;rw [h]
theorem ziW {i:Nat} (hi:i < zG n q) : ∃ u,(zbe n q)[i]? = some u∧u < n∧q u=u∧zP q u=i:=by
 obtain ⟨u,h⟩ : ∃ u,(zbe n q)[i]? = some u:=⟨_,List.getElem?_eq_getElem hi⟩
 have h0:=List.mem_filter.1 (List.mem_of_getElem? h)
 have h1:=List.mem_range.1 h0.1
 have h2:=of_decide_eq_true h0.2
 refine ⟨u,h,h1,h2,?_⟩
 have h3:=zfs hq h1
 rw [h2] at h3
 have hnd:(zbe n q).Pairwise (· ≠ ·):=List.Pairwise.filter _ List.nodup_range
 obtain ⟨hi,ei⟩:=List.getElem?_eq_some_iff.1 h
 obtain ⟨hj,ej⟩:=List.getElem?_eq_some_iff.1 h3
 rw [List.pairwise_iff_getElem] at hnd
 rcases Nat.lt_trichotomy (zP q u) i with hl|hl|hl
 ·exact absurd (ej.trans ei.symm) (hnd _ _ hj hi hl)
 ·exact hl
 ·exact absurd (ei.trans ej.symm) (hnd _ _ hi hj hl)
end
def zf3 (n:Nat) (q:Nat→Nat) (r:Nat→Nat→Bool) (i j:Nat):Bool:=(List.range n).any fun v=>(List.range n).any fun w=>zP q v==i&&(zP q w==j&&r v w)
theorem zmd {n:Nat} {q:Nat→Nat} {r:Nat→Nat→Bool} {i j:Nat} : zf3 n q r i j=true ↔ ∃ v w,v < n∧w < n∧zP q v=i∧zP q w=j∧r v w=true:=by
 unfold zf3
 simp only [List.any_eq_true,List.mem_range,Bool.and_eq_true,beq_iff_eq]
 exact ⟨fun ⟨v,hv,w,hw,a,b,c⟩=>⟨v,w,hv,hw,a,b,c⟩,fun ⟨v,w,hv,hw,a,b,c⟩=>⟨v,hv,w,hw,a,b,c⟩⟩
def zqH (n:Nat) (q:Nat→Nat) (fa:Nat→Int) (i:Nat):Int:=fa ((zbe n q).getD i 0)
theorem zkE.quo {n:Nat} {R:zN} {fa:Nat→Int} {q:Nat→Nat} (S:zkE n R fa q):zbK n (zG n q) R (R.map (zf3 n q)) fa (zqH n q fa) fun w i=>w < n∧i=zP q w where
 len:=by simp
 lt:=fun {w i} h=>⟨h.1,by rw [h.2];exact zb5 S.canon h.1⟩
 fac:=fun {w i} h=>by
  rw [h.2];unfold zqH
  rw [List.getD,zfs S.canon h.1]
  have h1:=S.canon.le w h.1
  exact S.fac _ _ h.1 (by simp;omega) (S.canon.idem w h.1).symm
 forth h1 h2:=fun {v v' u} hz hu hr=>by
  rw [List.getElem?_map,h1] at h2;cases h2
  exact ⟨zP q u,zb5 S.canon hu,zmd.2 ⟨v,u,hz.1,hu,hz.2.symm,rfl,hr⟩,hu,rfl⟩
 back h1 h2:=fun {v v' u'} hz hu hr=>by
  rw [List.getElem?_map,h1] at h2;cases h2
  obtain ⟨a,b,ha,hb,e1,e2,e3⟩:=zmd.1 hr
  have e:=(zl9 S.canon ha hz.1).1 (e1.trans hz.2)
  obtain ⟨u,h3,h4,h5⟩:=((zcX.1 (S.stab a v ha hz.1 e)).2 _ (List.mem_of_getElem? h1) (q b)).1 ⟨b,hb,e3,rfl⟩
  exact ⟨u,h3,h4,h3,by rw [← e2];exact ((zl9 S.canon h3 hb).2 h5).symm⟩
end Go.Ab
namespace Go.Ab
def zpt (n:Nat) (R:zN) (fa:Nat→Int):Prop := ∀ i,i < n→coa n R fa i=i
theorem zpt.eq {n:Nat} {R:zN} {fa:Nat→Int} (h:zpt n R fa) {Z:Nat→Nat→Prop} (B:zbK n n R R fa fa Z) {v w:Nat} (hz:Z v w):v=w:=by
 have:=zrN B hz
 rwa [h v (B.lt hz).1,h w (B.lt hz).2] at this
theorem zvy {n n':Nat} {R R':zN} {fa fb:Nat→Int} {Z:Nat→Nat→Prop} (hd:zpt n R fa) (hd':zpt n' R' fb) (B:zbK n n' R R' fa fb Z) (ht : ∀ v,v < n → ∃ v',Z v v') (hs : ∀ v',v' < n' → ∃ v,Z v v'):n'=n ∧ ∃ f,zcK n fa fb R R' f ∧ ∀ v,v < n→Z v (f v):=by
 classical
 have inj : ∀ {v w v'},Z v v'→Z w v'→v=w:=fun {v w v'} h1 h2=>hd.eq (B.trans B.symm) ⟨v',h1,h2⟩
 have fn : ∀ {v v' w'},Z v v'→Z v w'→v'=w':=fun {v v' w'} h1 h2=>hd'.eq (B.symm.trans B) ⟨v,h1,h2⟩
 let f:Nat→Nat:=fun v=>if h:v < n then Classical.choose (ht v h) else 0
 have hf : ∀ v,v < n→Z v (f v):=fun v hv=>by
  have:f v=Classical.choose (ht v hv):=dif_pos hv
  rw [this];exact Classical.choose_spec (ht v hv)
 have hinj : ∀ v w,v < n→w < n→f v=f w→v=w:=fun v w hv hw e=>inj (hf v hv) (e▸hf w hw)
 have hn:n'=n:=by
  refine Nat.le_antisymm ?_ ?_
  ·have:=zek (l:=List.range n') (l':=(List.range n).map f) List.nodup_range fun x hx=>by
    obtain ⟨v,hv⟩:=hs x (List.mem_range.1 hx)
    have hvn:=(B.lt hv).1
    exact List.mem_map.2 ⟨v,List.mem_range.2 hvn,fn (hf v hvn) hv⟩
   simpa using this
  ·have:=zek (l:=(List.range n).map f) (l':=List.range n') (by
    rw [List.Nodup,List.pairwise_map]
    exact List.Pairwise.imp_of_mem (fun {a b} ha hb hab e=>hab (hinj a b (List.mem_range.1 ha) (List.mem_range.1 hb) e)) List.nodup_range) fun x hx=>by
    obtain ⟨v,hv,rfl⟩:=List.mem_map.1 hx
    exact List.mem_range.2 (B.lt (hf v (List.mem_range.1 hv))).2
   simpa using this
 subst hn
 refine ⟨rfl,f,⟨⟨fun v hv=>(B.lt (hf v hv)).2,hinj⟩,fun v hv=>(B.fac (hf v hv)).symm,B.len,fun i r r' h1 h2 v w hv hw=>?_⟩,hf⟩
 rw [Bool.eq_iff_iff]
 constructor
 ·intro h
  obtain ⟨u,a,b,c⟩:=B.back h1 h2 (hf v hv) (B.lt (hf w hw)).2 h
  rwa [inj c (hf w hw)] at b
 ·intro h
  obtain ⟨u,a,b,c⟩:=B.forth h1 h2 (hf v hv) hw h
  rwa [fn c (hf w hw)] at b
theorem zcK.bis {n:Nat} {fa fb:Nat→Int} {R R':zN} {f:Nat→Nat} (h:zcK n fa fb R R' f):zbK n n R R' fa fb fun v v'=>v < n∧v'=f v where
 len:=h.rel.len
 lt:=fun {v v'} hz=>⟨hz.1,by rw [hz.2];exact h.ren.lt v hz.1⟩
 fac:=fun {v v'} hz=>by rw [hz.2];exact (h.fac v hz.1).symm
 forth h1 h2:=fun {v v' u} hz hu hr=>⟨f u,h.ren.lt u hu,by rw [hz.2,h.rel.rel _ _ _ h1 h2 v u hz.1 hu];exact hr,hu,rfl⟩
 back h1 h2:=fun {v v' u'} hz hu hr=>by
  obtain ⟨u,h3,rfl⟩:=h.ren.surj hu
  exact ⟨u,h3,by rw [← h.rel.rel _ _ _ h1 h2 v u hz.1 h3,← hz.2];exact hr,h3,rfl⟩
end Go.Ab
namespace Go.Ab
def zpk (l:List Nat) (R:zN):zN:=R.map fun r=>fun i j=>r (l.getD i 0) (l.getD j 0)
def zs3 (l:List Nat) (fa:Nat→Int):Nat→Int:=fun i=>fa (l.getD i 0)
theorem zlX {l:List Nat} {i:Nat} (h:i < l.length):l.getD i 0∈l:=by
 rw [List.getD,List.getElem?_eq_getElem h];exact List.getElem_mem h
theorem zvS {l:List Nat} {x:Nat} (h:x∈l) : ∃ i,i < l.length∧l.getD i 0=x:=by
 obtain ⟨i,hi,rfl⟩:=List.mem_iff_getElem.1 h
 exact ⟨i,hi,by simp [List.getD,hi]⟩
end Go.Ab
namespace Go.Ab
theorem zco {n:Nat} (hn:n≤64) {f:Nat→Bool} {w:Nat} : (zao f n).getLsbD w=true↔w < n∧f w=true:=by
 rw [zku];simp only [Bool.and_eq_true,decide_eq_true_eq]
 exact ⟨fun h=>⟨h.1.2,h.2⟩,fun h=>⟨⟨by omega,h.1⟩,h.2⟩⟩
def zt (m:KM):zN:=m.rel.map fun r=>fun v w=>rb r v w
def zu (m:KM) (w:Nat):Int:=(zae m.val w m.val.length:Int)
def zbz (s:BitVec 64) (l:List Nat):BitVec 64:=zao (fun i=>s.getLsbD (l.getD i 0)) l.length
def zdE (m:KM) (l:List Nat):KM:=⟨l.length,m.val.map fun s=>zbz s l,m.rel.map fun r=>l.map fun w=>zbz (r.getD w 0#64) l⟩
theorem ziZ {s:BitVec 64} {l:List Nat} (hl:l.length≤64) {i:Nat} : (zbz s l).getLsbD i=true↔i < l.length∧s.getLsbD (l.getD i 0)=true:=zco hl
theorem zbG {n:Int} {s:BitVec 64} (h:0≤n):bad n s=false ↔ ∀ i,s.getLsbD i=true→i < n.toNat:=by
 rw [ztt h]
 exact ⟨fun k i hi=>by have:=k i hi;omega,fun k i hi=>by have:=k i hi;omega⟩
theorem zm1 {m:KM} (h:zfy m):zf m=0:=by
 obtain ⟨h1,h2,h3,h4,h5,h6,h7⟩:=h
 unfold zf
 rw [if_neg (by omega),if_neg (by omega),if_neg,if_neg,if_neg]
 ·simp only [List.any_eq_true,not_exists,not_and]
  intro r hr s hs e
  rw [h7 r hr s hs] at e;cases e
 ·simp only [List.any_eq_true,not_exists,not_and]
  intro s hs e
  rw [h6 s hs] at e;cases e
 ·simp only [List.any_eq_true,not_exists,not_and,decide_eq_true_eq]
  intro r hr e
  exact e (h5 r hr)
theorem zvg {m:KM} (hm:zfy m) {l:List Nat} (h1:1≤l.length) (h2:l.length≤64):zfy (zdE m l) where
 w1:=by show (1:Int)≤(l.length:Int);omega
 w2:=by show (l.length:Int)≤64;omega
 n4:=by have:=hm.n4;simpa [zdE] using this
 v8:=by have:=hm.v8;simpa [zdE] using this
 len:=fun r hr=>by
  obtain ⟨r',-,rfl⟩:=List.mem_map.1 hr
  simp [zdE]
 val:=fun s hs=>by
  obtain ⟨s',-,rfl⟩:=List.mem_map.1 hs
  rw [zbG (by show (0:Int)≤(l.length:Int);omega)]
  intro i hi
  exact ((ziZ h2).1 hi).1
 rel:=fun r hr s hs=>by
  obtain ⟨r',-,rfl⟩:=List.mem_map.1 hr
  obtain ⟨w,-,rfl⟩:=List.mem_map.1 hs
  rw [zbG (by show (0:Int)≤(l.length:Int);omega)]
  intro i hi
  exact ((ziZ h2).1 hi).1
theorem zy9 {m:KM} (hc:zf m=0) {l:List Nat} (h1:1≤l.length) (h2:l.length≤64):zf (zdE m l)=0:=zm1 (zvg (zq hc) h1 h2)
theorem zbS (m:KM):(zt m).length=m.rel.length:=by simp [zt]
theorem zw0 {m:KM} {l:List Nat} (h2:l.length≤64) {i:Nat} {r r':Nat→Nat→Bool} (h:(zt (zdE m l))[i]? = some r) (h':(zpk l (zt m))[i]? = some r') {v w:Nat} (hv:v < l.length) (hw:w < l.length):r v w=r' v w:=by
 unfold zt zdE at h
 unfold zpk zt at h'
 rw [List.map_map,List.getElem?_map,Option.map_eq_some_iff] at h
 rw [List.map_map,List.getElem?_map,Option.map_eq_some_iff] at h'
 obtain ⟨a,ha,rfl⟩:=h
 obtain ⟨b,hb,rfl⟩:=h'
 rw [ha] at hb;cases hb
 show rb (l.map fun w=>zbz (a.getD w 0#64) l) v w=rb a (l.getD v 0) (l.getD w 0)
 unfold rb
 rw [show (l.map fun w=>zbz (a.getD w 0#64) l).getD v 0#64=zbz (a.getD (l.getD v 0) 0#64) l by
  simp [List.getD,List.getElem?_map,List.getElem?_eq_getElem hv]]
 rw [Bool.eq_iff_iff,ziZ h2]
 exact ⟨fun h=>h.2,fun h=>⟨hw,h⟩⟩
theorem zmS (vl:List (BitVec 64)) {l:List Nat} (h2:l.length≤64) {i:Nat} (hi:i < l.length) : ∀ k,zae (vl.map fun s=>zbz s l) i k=zae vl (l.getD i 0) k
 | 0=>rfl
 | k+1=>by
  rw [zae,zae,zmS vl h2 hi k]
  have e:((vl.map fun s=>zbz s l).getD k 0#64).getLsbD i=(vl.getD k 0#64).getLsbD (l.getD i 0):=by
   simp only [List.getD,List.getElem?_map]
   cases hk:vl[k]? with
   | none=>simp
   | some s =>
    show (zbz s l).getLsbD i=s.getLsbD (l.getD i 0)
    rw [Bool.eq_iff_iff,ziZ h2]
    exact ⟨fun h=>h.2,fun h=>⟨hi,h⟩⟩
  rw [e]
theorem zwZ {m:KM} {l:List Nat} (h2:l.length≤64) {i:Nat} (hi:i < l.length):zu (zdE m l) i=zs3 l (zu m) i:=by
 unfold zu zs3 zdE
 rw [List.length_map,zmS _ h2 hi]
theorem zvG {l:List (BitVec 64)} {W:Int} (hW:0≤W) (h : ∀ s∈l,bad W s=false) (i w:Nat) (hw:(l.getD i 0#64).getLsbD w=true):w < W.toNat:=by
 cases hi:l[i]? with
 | none=>rw [List.getD,hi] at hw;simp at hw
 | some s =>
  rw [List.getD,hi] at hw
  exact (zbG hW).1 (h s (List.mem_of_getElem? hi)) w hw
theorem zbb {α:Type} {l:List α} {i:Nat} {d:α} (h:i < l.length):l[i]? = some (l.getD i d):=by simp [List.getD,h]
theorem zo9 {α:Type} {a b:List α} {d:α} (hl:a.length=b.length) (h : ∀ i,i < a.length→a.getD i d=b.getD i d):a=b:=by
 refine List.ext_getElem hl fun i h1 h2=>?_
 have:=h i h1
 rw [List.getD,List.getD,List.getElem?_eq_getElem h1,List.getElem?_eq_getElem h2] at this
 exact this
def zaM (to:List Int) (n:Nat):Bool:=decide (to.length=n∧(∀ x∈to,0≤x∧x < n)∧to.Nodup)
def zdO (to:List Int) (n:Nat):List Nat:=(List.range n).map fun (i:Nat)=>to.idxOf (i:Int)
def zcq:KM:=⟨0,[],[]⟩
def zn5 (m:KM) (to:List Int):KM×Int:=if zf m≠0 then (zcq,zf m) else if zaM to m.W.toNat=true then (zdE m (zdO to m.W.toNat),0) else (zcq,1)
theorem zbQ {to:List Int} {n:Nat} : zaM to n=true↔to.length=n∧(∀ x∈to,0≤x∧x < n)∧to.Nodup:=by simp only [zaM,decide_eq_true_eq]
theorem zv9 {to:List Int} {n:Nat} (h:zaM to n=true) {i:Nat} (hi:i < n):(i:Int)∈to:=by
 obtain ⟨h1,h2,h3⟩:=zbQ.1 h
 have key : ∀ x∈to,x∈(List.range n).map fun (i:Nat)=>(i:Int):=fun x hx=>List.mem_map.2 ⟨x.toNat,List.mem_range.2 (by have:=h2 x hx;omega),by have:=h2 x hx;omega⟩
 apply Classical.byContradiction
 intro hn
 have:=zek (l:=(i:Int)::to) (l':=(List.range n).map fun (i:Nat)=>(i:Int)) (List.nodup_cons.2 ⟨hn,h3⟩) fun x hx=>by
  rcases List.mem_cons.1 hx with rfl|hx
  ·exact List.mem_map.2 ⟨i,List.mem_range.2 hi,rfl⟩
  ·exact key x hx
 simp at this;omega
abbrev toF (to:List Int) (w:Nat):Nat:=(at0 to w).toNat
theorem zgV {to:List Int} {n:Nat} (h:zaM to n=true):Ren n (toF to):=by
 obtain ⟨h1,h2,h3⟩:=zbQ.1 h
 refine ⟨fun w hw=>?_,fun v w hv hw e=>?_⟩
 ·have:=h2 (at0 to w) (List.mem_of_getElem? (zdk (by omega)))
  unfold toF;omega
 ·have a1:=h2 (at0 to v) (List.mem_of_getElem? (zdk (by omega)))
  have a2:=h2 (at0 to w) (List.mem_of_getElem? (zdk (by omega)))
  have e':at0 to v=at0 to w:=by unfold toF at e;omega
  have g1:=zdk (l:=to) (i:=v) (by omega)
  have g2:=zdk (l:=to) (i:=w) (by omega)
  rw [e'] at g1
  obtain ⟨p1,q1⟩:=List.getElem?_eq_some_iff.1 g1
  obtain ⟨p2,q2⟩:=List.getElem?_eq_some_iff.1 g2
  exact (List.getElem_inj h3).1 (q1.trans q2.symm)
theorem zye {to:List Int} {n:Nat} (h:zaM to n=true) {w:Nat} (hw:w < n):to.idxOf ((toF to w:Nat):Int)=w:=by
 obtain ⟨h1,h2,h3⟩:=zbQ.1 h
 have g:=zdk (l:=to) (i:=w) (by omega)
 have a:=h2 (at0 to w) (List.mem_of_getElem? g)
 rw [show ((toF to w:Nat):Int)=at0 to w by unfold toF;omega]
 obtain ⟨p,q⟩:=List.getElem?_eq_some_iff.1 g
 rw [← q]
 exact h3.idxOf_getElem w p
theorem znS (to:List Int) (n:Nat):(zdO to n).length=n:=by simp [zdO]
theorem zvL {to:List Int} {n i:Nat} (hi:i < n):(zdO to n).getD i 0=to.idxOf (i:Int):=by simp [zdO,List.getD,hi]
theorem zm2 {to:List Int} {n:Nat} (h:zaM to n=true) {w:Nat} (hw:w < n):(zdO to n).getD (toF to w) 0=w:=by
 rw [zvL ((zgV h).lt w hw),zye h hw]
theorem zyf {to:List Int} {n:Nat} (h:zaM to n=true) {i:Nat} (hi:i < n):(zdO to n).getD i 0 < n:=by
 obtain ⟨w,hw,rfl⟩:=(zgV h).surj hi
 rw [zm2 h hw];exact hw
theorem zy8 {m:KM} (hc:zf m=0) {to:List Int} (h:zaM to m.W.toNat=true):zcK m.W.toNat (zu m) (zu (zdE m (zdO to m.W.toNat))) (zt m) (zt (zdE m (zdO to m.W.toNat))) (toF to):=by
 have hg:=zq hc
 have w1:=hg.w1
 have w2:=hg.w2
 have hl:(zdO to m.W.toNat).length=m.W.toNat:=znS _ _
 have hr:=zgV h
 refine ⟨hr,fun w hw=>?_,⟨by simp [zt,zdE],fun i r r' h1 h2 v w hv hw=>?_⟩⟩
 ·rw [zwZ (by omega) (by rw [hl];exact hr.lt w hw)]
  unfold zs3;rw [zm2 h hw]
 ·have h3:(zpk (zdO to m.W.toNat) (zt m))[i]? = some fun a b=>r ((zdO to m.W.toNat).getD a 0) ((zdO to m.W.toNat).getD b 0):=by
   unfold zpk;rw [List.getElem?_map,h1];rfl
  rw [zw0 (by omega) h2 h3 (by rw [hl];exact hr.lt v hv) (by rw [hl];exact hr.lt w hw),zm2 h hv,zm2 h hw]
end Go.Ab
namespace Go.Ab
theorem zwR {m:KM} (hc:zf m=0) {r:List (BitVec 64)} (hr:r∈m.rel) {v u:Nat} (h:rb r v u=true):v < m.W.toNat∧u < m.W.toNat:=by
 have hg:=zq hc
 have w1:=hg.w1
 refine ⟨?_,zvG (by omega) (hg.rel r hr) v u h⟩
 apply Classical.byContradiction
 intro hn
 have:=hg.len r hr
 rw [zyj (by omega)] at h;cases h
structure zu6 (m:KM) (out todo:BitVec 64) (w k:Nat) (o t:BitVec 64):Prop where
 o : ∀ v,o.getLsbD v=true↔out.getLsbD v=true ∨ ∃ r∈m.rel.take k,rb r w v=true
 t : ∀ v,t.getLsbD v=true↔(todo.getLsbD v=true∧v≠w)∨(out.getLsbD v=false ∧ ∃ r∈m.rel.take k,rb r w v=true)
theorem zjk {α:Type} {l:List α} {k:Nat} {x:α} (h:l[k]? = some x) (p:α→Prop):(∃ r∈l.take (k+1),p r)↔(∃ r∈l.take k,p r)∨p x:=by
 rw [List.take_add_one,h]
 simp only [Option.toList_some,List.mem_append,List.mem_singleton]
 constructor
 ·rintro ⟨r,h1|rfl,h2⟩
  ·exact .inl ⟨r,h1,h2⟩
  ·exact .inr h2
 ·rintro (⟨r,h1,h2⟩|h2)
  ·exact ⟨r,.inl h1,h2⟩
  ·exact ⟨x,.inr rfl,h2⟩
theorem zu6.next {m:KM} {out todo:BitVec 64} {w k:Nat} {o t:BitVec 64} (h:zu6 m out todo w k o t) {r:List (BitVec 64)} {x:BitVec 64} (hr:m.rel[k]? = some r) (hx:r[w]? = some x):zu6 m out todo w (k+1) (o|||x) (t|||(x &&& ~~~o)):=by
 have e : ∀ v,rb r w v=x.getLsbD v:=fun v=>zyR hx v
 refine ⟨fun v=>?_,fun v=>?_⟩
 ·rw [zjk hr,BitVec.getLsbD_or,Bool.or_eq_true,h.o v,e]
  simp only [or_assoc]
 ·rw [zjk hr,BitVec.getLsbD_or,Bool.or_eq_true,h.t v,BitVec.getLsbD_and,Bool.and_eq_true,BitVec.getLsbD_not,e]
  have ho:=h.o v
  by_cases hv:v < 64
  ·simp only [hv,decide_true,Bool.true_and,Bool.not_eq_true']
   by_cases h1:out.getLsbD v=true
   ·have:o.getLsbD v=true:=ho.2 (.inl h1)
    simp [h1,this]
   ·simp only [Bool.not_eq_true] at h1
    by_cases h2 : ∃ r∈m.rel.take k,rb r w v=true
    ·have:o.getLsbD v=true:=ho.2 (.inr h2)
     simp [h1,h2,this]
    ·have:o.getLsbD v=false:=by rw [← Bool.not_eq_true];intro h3;rcases ho.1 h3 with h3|h3; (rw [h1] at h3;cases h3);exact h2 h3
     simp [h1,h2,this]
  ·have:x.getLsbD v=false:=BitVec.getLsbD_of_ge _ _ (by omega)
   simp [hv,this]
def zx7 (s:BitVec 64):Nat:=(zx s).length
theorem zw7 {n:Nat} {s:BitVec 64} (h : ∀ v,s.getLsbD v=true→v < n):zx7 s≤n:=by
 have:=zek (zkh s) (l':=List.range n) fun v hv=>List.mem_range.2 (h v (ze6.1 hv))
 simpa [zx7] using this
theorem zhl {p:Nat→Bool} {n:Nat} (h : ∀ v,p v=true→v < n) : ∀ k,n≤k→(List.range k).filter p=(List.range n).filter p
 | 0,hk=>by rw [show n=0 by omega]
 | k+1,hk=>by
  by_cases e:n=k+1
  ·rw [e]
  ·rw [List.range_succ,List.filter_append,zhl h k (by omega)]
   have:p k=false:=by rw [← Bool.not_eq_true];intro hp;have:=h k hp;omega
   simp [this]
end Go.Ab
namespace Go.Ab
open Go Go.Proofs
set_option maxRecDepth 10000
set_option maxHeartbeats 4000000
variable {T:Nat→Obj→Prop}
theorem zxl (n:Int) (h:0≤n):Fn Tryz.prog T zlj [.d (.int .i64 n)] [] (.d (.u64 (znC n))) []:=by
 refine zi zy zrt (by show 1≤8;decide) ?_
 (repeat' ((conv=>whnf);first|refine vA ?_|(refine vF ?_ ?_<;>intro hc<;>try simp only [vL] at hc)|refine vT ?_|(refine vP ?_ ?_;·omega)|refine vY ?_));all_goals try conv=>whnf
 ·simp [znC, *]
 ·rw [znC,if_neg (by omega)];rfl
theorem zxh (l:List (BitVec 64)) (g:Nat) (y:D) (p:BitVec 64→Bool) (hF : ∀ x,Fn Tryz.prog T g [.d (.u64 x),.d y] [] (.d (.bool (p x))) []):Fn Tryz.prog T zbB [.d (dU l),.d (.fn g [y])] [] (.d (.int .i64 (zeY p l))) []:=by
 refine zi zy zef (by show 2≤19;decide) ?_
 (repeat' ((conv=>whnf);first|refine vA ?_|refine vJ fun hg=>?_|refine vT ?_));all_goals try conv=>whnf
 refine zaY (fun (k:Nat)=>[(0,.d (dU l)),(1,.d (.fn g [y])),(7,.d (.int .i64 ((l.map D.u64).length:Int))),(8,.d (.int .i64 ((k:Int))))]) (fun (k:Nat)=>k≤l.length ∧ ∀ (i:Nat) x,i < k→l[i]? = some x→p x=false) (fun (k:Nat)=>l.length - k) (0) (⟨by simp,fun i x h=>by omega⟩) (by (repeat' first|exact trivial|exact rfl|refine And.intro ?_ ?_)) ?_
 rintro k ⟨hk,hI⟩
 (repeat' ((conv=>whnf);first|refine vA ?_|((first|refine vF ?_ ?_|refine vI ?_ ?_)<;>intro hc<;>try simp only [vL] at hc)|refine vT ?_|(refine vQ ?_ fun x hx=>?_;·omega)|(refine vO ?_ ?_;·omega)|refine vX ?_|refine yD (hF _) (by (repeat refine ⟨⟨rfl,rfl⟩,?_⟩);rfl) rfl ?_));all_goals try conv=>whnf
 ·rw [zhm hx ‹_› hI]
 ·exact ⟨k+1,[],[],⟨by (omega),fun i z hi hz=>by
   by_cases e:i=k
   ·subst e;rw [hx] at hz;cases hz;assumption
   ·exact hI i z (by omega) hz⟩,by (omega),by (refine ⟨rfl,rfl,rfl,?_,?_⟩;repeat' first|exact trivial|exact rfl|refine And.intro ?_ ?_)⟩
 ·rw [ziH fun i x hi hx=>hI i x (by omega) hx]
theorem zvD (l:List (List (BitVec 64))) (g:Nat) (y:D) (p:List (BitVec 64)→Bool) (hF : ∀ x,Fn Tryz.prog T g [.d (dU x),.d y] [] (.d (.bool (p x))) []):Fn Tryz.prog T zbn [.d (dUU l),.d (.fn g [y])] [] (.d (.int .i64 (zeY p l))) []:=by
 refine zi zy zdQ (by show 2≤19;decide) ?_
 (repeat' ((conv=>whnf);first|refine vA ?_|refine vJ fun hg=>?_|refine vT ?_));all_goals try conv=>whnf
 refine zaY (fun (k:Nat)=>[(0,.d (dUU l)),(1,.d (.fn g [y])),(7,.d (.int .i64 ((l.map dU).length:Int))),(8,.d (.int .i64 ((k:Int))))]) (fun (k:Nat)=>k≤l.length ∧ ∀ (i:Nat) x,i < k→l[i]? = some x→p x=false) (fun (k:Nat)=>l.length - k) (0) (⟨by simp,fun i x h=>by omega⟩) (by (repeat' first|exact trivial|exact rfl|refine And.intro ?_ ?_)) ?_
 rintro k ⟨hk,hI⟩
 (repeat' ((conv=>whnf);first|refine vA ?_|((first|refine vF ?_ ?_|refine vI ?_ ?_)<;>intro hc<;>try simp only [vL] at hc)|refine vT ?_|(refine vQ ?_ fun x hx=>?_;·omega)|(refine vO ?_ ?_;·omega)|refine vX ?_|refine yD (hF _) (by (repeat refine ⟨⟨rfl,rfl⟩,?_⟩);rfl) rfl ?_));all_goals try conv=>whnf
 ·rw [zhm hx ‹_› hI]
 ·exact ⟨k+1,[],[],⟨by (omega),fun i z hi hz=>by
   by_cases e:i=k
   ·subst e;rw [hx] at hz;cases hz;assumption
   ·exact hI i z (by omega) hz⟩,by (omega),by (refine ⟨rfl,rfl,rfl,?_,?_⟩;repeat' first|exact trivial|exact rfl|refine And.intro ?_ ?_)⟩
 ·rw [ziH fun i x hi hx=>hI i x (by omega) hx]
theorem zoq {α:Type} {p:α→Bool} {l:List α} : decide (0≤zeY p l)=l.any p:=by
 rw [Bool.eq_iff_iff,decide_eq_true_eq,zp1,List.any_eq_true]
theorem zrq (n:Int) (h:0≤n) (s:BitVec 64):Fn Tryz.prog T zcF [.d (.u64 s),.d (.box [.int .i64 n])] [] (.d (.bool (bad n s))) []:=by
 refine zi zy zk7 (by show 2≤9;decide) ?_
 (repeat' ((conv=>whnf);first|refine vT ?_|refine vZ ?_|refine yD (zxl n h) ⟨⟨rfl,rfl⟩,rfl⟩ rfl ?_));all_goals try conv=>whnf
 rfl
theorem zlq (l:List (BitVec 64)) (n:Int) (h:0≤n):Fn Tryz.prog T zhk [.d (dU l),.d (.int .i64 n)] [] (.d (.bool (l.any (bad n)))) []:=by
 have c1:Fn Tryz.prog T zbg [.d (dU l),.d (.fn zcF [.box [.int .i64 n]])] [] (.d (.bool (l.any (bad n)))) []:=by
  refine zi zy zdA (by show 2≤9;decide) ?_
  (repeat' ((conv=>whnf);first|refine vT ?_|refine vZ ?_|refine yD (zxh l _ _ (bad n) (zrq n h)) ⟨⟨rfl,rfl⟩,⟨rfl,rfl⟩,rfl⟩ rfl ?_));all_goals try conv=>whnf
  exact zoq
 refine zi zy zne (by show 2≤8;decide) ?_
 (repeat' ((conv=>whnf);first|refine vT ?_|refine vZ ?_|refine yD c1 (by (repeat refine ⟨⟨rfl,rfl⟩,?_⟩);rfl) rfl ?_));all_goals try conv=>whnf
abbrev bKM (m:KM):D := .box [.int .i64 m.W,dU m.val,dUU m.rel]
theorem zaq (m:KM):Fn Tryz.prog T zep [.d (dKM m)] [] (.d (.int .i64 (zf m))) []:=by
 have c1:0≤m.W → ∀ x:List (BitVec 64),Fn Tryz.prog T zdx [.d (dU x),.d (bKM m)] [] (.d (.bool (x.any (bad m.W)))) []:=fun h x=>by
  refine zi zy znc (by show 2≤8;decide) ?_
  (repeat' ((conv=>whnf);first|refine vT ?_|refine vZ ?_|refine yD (zlq x m.W h) ⟨⟨rfl,rfl⟩,⟨rfl,rfl⟩,rfl⟩ rfl ?_));all_goals try conv=>whnf
 have c2:0≤m.W→Fn Tryz.prog T za3 [.d (dUU m.rel),.d (.fn zdx [bKM m])] [] (.d (.bool (m.rel.any fun x=>x.any (bad m.W)))) []:=fun h=>by
  refine zi zy zdf (by show 2≤9;decide) ?_
  (repeat' ((conv=>whnf);first|refine vT ?_|refine vZ ?_|refine yD (zvD m.rel _ _ (fun x=>x.any (bad m.W)) (c1 h)) ⟨⟨rfl,rfl⟩,⟨rfl,rfl⟩,rfl⟩ rfl ?_));all_goals try conv=>whnf
  exact zoq
 refine zi zy zo7 (by show 1≤47;decide) ?_
 (repeat' ((conv=>whnf);first|refine vA ?_|(refine vF ?_ ?_<;>intro hc<;>try simp only [vL] at hc)|refine vJ fun hg=>?_|refine vT ?_|refine vX ?_));all_goals try conv=>whnf
 ·rw [zf,if_pos (by omega)]
 ·rw [zf,if_pos (by omega)]
 ·rw [zf,if_neg (by omega),if_pos (by omega)]
 ·rw [zf,if_neg (by omega),if_pos (by omega)]
 ·have e0:zf m=if m.rel.any (fun r=>decide ((r.length:Int)≠m.W)) then 3 else if m.val.any (bad m.W) then 2 else if m.rel.any (fun r=>r.any (bad m.W)) then 2 else 0:=by rw [zf,if_neg (by omega),if_neg (by omega)]
  refine zo (fun (k:Nat)=>[(1,.ptr 0 0),(24,.d (dUU m.rel)),(25,.d (.int .i64 ((m.rel.map dU).length:Int))),(26,.d (.int .i64 ((k:Int))))]) (fun (k:Nat)=>[(0,some (zX m))]) 1 (fun (k:Nat)=>k≤m.rel.length∧m.rel.any (fun r=>decide ((r.length:Int)≠m.W))=(m.rel.drop k).any (fun r=>decide ((r.length:Int)≠m.W))) (fun (k:Nat)=>m.rel.length - k) (0) [(0,0)] [] (⟨by simp,rfl⟩) (by (refine ⟨rfl,rfl,rfl,?_,?_⟩;repeat' first|exact trivial|exact rfl|refine And.intro ?_ ?_|refine ⟨_,rfl,?_⟩|decide)) ?_
  rintro k ⟨hk,hI⟩
  (repeat' ((conv=>whnf);first|refine vA ?_|((first|refine vD ?_ ?_|refine vF ?_ ?_)<;>intro hc<;>try simp only [vL] at hc)|refine vJ fun hg=>?_|refine vT ?_|(refine vQ ?_ fun x hx=>?_;·omega)|(refine vO ?_ ?_;·omega)|refine vX ?_));all_goals try conv=>whnf
  ·rw [e0,if_pos (by rw [hI,zaL hx,List.any_cons,decide_eq_true (by simpa using ‹_›)];rfl)]
  ·exact ⟨k+1,[(0,0)],[],⟨by (omega),by rw [hI,zaL hx,List.any_cons,decide_eq_false (by simpa using ‹_›)];rfl⟩,by (omega),by (refine ⟨rfl,rfl,rfl,?_,?_⟩;repeat' first|exact trivial|exact rfl|refine And.intro ?_ ?_|refine ⟨_,rfl,?_⟩|decide)⟩
  ·have h1:m.rel.any (fun r=>decide ((r.length:Int)≠m.W))=false:=by rw [hI,List.drop_eq_nil_of_le (by omega)];rfl
   rw [h1,if_neg (by decide)] at e0
   have co:=zlq (T:=T) m.val m.W (by omega)
   have c2:=c2 (by omega)
   (repeat' ((conv=>whnf);first|(refine vI ?_ ?_<;>intro hc)|refine vT ?_|refine vX ?_|refine yD co ⟨⟨rfl,rfl⟩,⟨rfl,rfl⟩,rfl⟩ rfl ?_|refine yD c2 (by (repeat refine ⟨⟨rfl,rfl⟩,?_⟩);rfl) rfl ?_));all_goals try conv=>whnf
   ·rw [e0,if_pos ‹_›]
   ·rw [e0,if_neg (by simp [‹m.val.any (bad m.W)=false›]),if_pos ‹_›]
   ·rw [e0,if_neg (by simp [‹m.val.any (bad m.W)=false›]),if_neg (by simp [‹(m.rel.any fun x=>x.any (bad m.W))=false›])]
def zjR (m:KM) (w:Int):Int:=if zf m≠0∨w < 0∨m.W≤w then -1 else zu m w.toNat
theorem zhV {m:KM} (hc:zf m=0) {w:Nat} (hw:w < m.W.toNat):zjR m (w:Int)=zu m w:=by
 unfold zjR;rw [if_neg (by omega)];rfl
theorem zdM (m:KM) (w:Int):Fn Tryz.prog T zeq [.d (dKM m),.d (.int .i64 w)] [] (.d (.int .i64 (zjR m w))) []:=by
 refine zi zy zo8 (by show 2≤40;decide) ?_
 (repeat' ((conv=>whnf);first|refine vA ?_|((first|refine vD ?_ ?_|refine vF ?_ ?_)<;>intro hc<;>try simp only [vL] at hc)|refine vJ fun hg=>?_|refine vT ?_|refine vX ?_|refine yD (zaq m) ⟨⟨rfl,rfl⟩,rfl⟩ rfl ?_));all_goals try conv=>whnf
 ·rw [zjR,if_pos (by omega)]
 ·rw [zjR,if_pos (by omega)]
 ·rw [zjR,if_pos (by omega)]
 ·have hc0:zf m=0:=by omega
  have hg0:=zq hc0
  have w2:=hg0.w2
  have v8:=hg0.v8
  refine zo (fun ((k,f):Nat×Int)=>[(1,.d (.int .i64 (w))),(5,.d (.int .i64 (f))),(22,.d (dU m.val)),(23,.d (.int .i64 ((m.val.map D.u64).length:Int))),(24,.d (.int .i64 ((k:Int))))]) (fun ((k,f):Nat×Int)=>[(0,some (zX m))]) 1 (fun ((k,f):Nat×Int)=>k≤m.val.length∧f=(zae m.val w.toNat k:Int)) (fun ((k,f):Nat×Int)=>m.val.length - k) ((0,0)) [(0,0)] [] (⟨by simp,rfl⟩) (by (refine ⟨rfl,rfl,rfl,?_,?_⟩;repeat' first|exact trivial|exact rfl|refine And.intro ?_ ?_|refine ⟨_,rfl,?_⟩|decide)) ?_
  rintro ⟨k,f⟩ ⟨hk,hI⟩
  subst hI
  by_cases hkl:k < m.val.length
  ·obtain ⟨s,hs⟩ : ∃ s,m.val[k]? = some s:=⟨_,List.getElem?_eq_getElem hkl⟩
   have hw:w=((w.toNat:Nat):Int):=by omega
   have bs:(s >>> w.toNat&&&(1:BitVec 64)).toNat≤1:=ztx s _
   have hor:=zvA (w:=w.toNat) hs (by omega)
   have hsh:0≤(((s >>> w.toNat&&&(1:BitVec 64)).toNat:Int)) * 2 ^ (min (k:Int).toNat IntKind.i64.bits)∧(((s >>> w.toNat&&&(1:BitVec 64)).toNat:Int)) * 2 ^ (min (k:Int).toNat IntKind.i64.bits)≤9223372036854775807:=zuE bs (by omega)
   (repeat' ((conv=>whnf);first|refine vA ?_|(refine vF ?_ ?_<;>intro hc<;>try simp only [vL] at hc)|refine vT ?_|refine vN ‹_› ?_|((first|refine vO ?_ ?_|refine vP ?_ ?_);·omega)|refine vX ?_));all_goals try conv=>whnf
   ·refine ⟨(k+1,_),[(0,0)],[],?_,?_,by (refine ⟨rfl,rfl,rfl,?_,?_⟩;repeat' first|exact trivial|exact rfl|refine And.intro ?_ ?_|refine ⟨_,rfl,?_⟩|decide)⟩
    ·exact ⟨by (omega),hor⟩
    ·((simp only [vM] at *;omega))
   all_goals omega
  ·(repeat' ((conv=>whnf);first|refine vA ?_|(refine vF ?_ ?_<;>intro hc<;>try simp only [vL] at hc)|refine vT ?_|(refine vQ ?_ fun x hx=>?_;·omega)|((first|refine vO ?_ ?_|refine vP ?_ ?_);·omega)|refine vX ?_));all_goals try conv=>whnf
   ·omega
   ·unfold zjR
    rw [if_neg (by omega),show k=m.val.length by omega];rfl
abbrev dN (l:List Nat):D:=dI (l.map fun (x:Nat)=>(x:Int))
theorem zqd (s:BitVec 64) (l:List Nat) (hl:l.length≤64):Fn Tryz.prog T zjQ [.d (.u64 s),.d (dN l)] [] (.d (.u64 (zbz s l))) []:=by
 refine zi zy zqj (by show 2≤25;decide) ?_
 (repeat' ((conv=>whnf);first|refine vA ?_|refine vJ fun hg=>?_|refine vT ?_));all_goals try conv=>whnf
 refine zaY (fun ((k,o):Nat×BitVec 64)=>[(0,.d (.u64 (s))),(5,.d (.u64 (o))),(8,.d (dN l)),(9,.d (.int .i64 (((l.map fun (x:Nat)=>(x:Int)).map (D.int .i64)).length:Int))),(10,.d (.int .i64 ((k:Int))))]) (fun ((k,o):Nat×BitVec 64)=>k≤l.length∧o=zao (fun i=>s.getLsbD (l.getD i 0)) k) (fun ((k,o):Nat×BitVec 64)=>l.length - k) ((0,0#64)) (⟨by simp,rfl⟩) (by (repeat' first|exact trivial|exact rfl|refine And.intro ?_ ?_)) ?_
 rintro ⟨k,o⟩ ⟨hk,hI⟩
 by_cases hkl:k < l.length
 ·have e1:(l.map fun (x:Nat)=>(x:Int))[k]? = some ((l.getD k 0:Nat):Int):=by simp [hkl]
  (repeat' ((conv=>whnf);first|refine vA ?_|(refine vF ?_ ?_<;>intro hc<;>try simp only [vL] at hc)|refine vT ?_|refine vN ‹_› ?_|((first|refine vO ?_ ?_|refine vP ?_ ?_);·omega)|refine vY ?_));all_goals try conv=>whnf
  ·refine ⟨(k+1,_),[],[],?_,?_,by (refine ⟨rfl,rfl,rfl,?_,?_⟩;repeat' first|exact trivial|exact rfl|refine And.intro ?_ ?_)⟩
   ·refine ⟨by omega,?_⟩
    rw [zao,hI]
    show _|||(s >>> (l.getD k 0)&&&1#64) <<< k=_
    by_cases hb:s.getLsbD (l.getD k 0)=true
    ·rw [(zba _ _).2 hb,if_pos hb]
    ·rw [(zer _ _).2 (by simpa using hb),if_neg hb,BitVec.zero_shiftLeft,BitVec.or_zero]
   ·((simp only [vM] at *;omega))
  ·omega
 ·(repeat' ((conv=>whnf);first|refine vA ?_|(refine vF ?_ ?_<;>intro hc<;>try simp only [vL] at hc)|refine vT ?_|(refine vQ ?_ fun x hx=>?_;·omega)|((first|refine vO ?_ ?_|refine vP ?_ ?_);·omega)|refine vY ?_));all_goals try conv=>whnf
  ·omega
  ·rw [hI,show k=l.length by omega];rfl
theorem zgt {l:List Nat} {k:Nat} (h:k < l.length):(l.map fun (x:Nat)=>(x:Int))[k]? = some ((l.getD k 0:Nat):Int):=by simp [h]
abbrev zdq (l:List Nat):Nat:=((l.map fun (x:Nat)=>(x:Int)).map (D.int .i64)).length
theorem zgr (l:List Nat):zdq l=l.length:=by simp [zdq]
theorem zsN (m:KM) (l:List Nat) (hl:l.length≤64) (hr : ∀ r∈m.rel,∀ w∈l,w < r.length) (hv:m.val.length≤8) (hrl:m.rel.length≤4):Fn Tryz.prog T zeW [.d (dKM m),.d (dN l)] [] (.d (dKM (zdE m l))) []:=by
 refine zi zy znd (by show 2≤63;decide) ?_
 (repeat' ((conv=>whnf);first|refine vA ?_|refine vJ fun hg=>?_|refine vT ?_));all_goals try conv=>whnf
 refine zo (fun ((k,zs):Nat×List D)=>[(1,.d (dN l)),(2,.ptr 0 0),(4,.ptr 1 0),(5,.ptr 2 0),(17,.d (dU m.val)),(18,.d (.int .i64 ((m.val.map D.u64).length:Int))),(19,.d (.int .i64 ((k:Int))))]) (fun ((k,zs):Nat×List D)=>[(0,some (zX m)),(1,some (.box [.d (.int .i64 0),.nils 1,.nils 1])),(2,some (.box [.d (.int .i64 (zdq l:Int)),.own 3,.nils 1])),(3,some (.row 1 zs))]) 4 (fun ((k,zs):Nat×List D)=>k≤m.val.length∧zs=(m.val.take k).map fun s=>D.u64 (zbz s l)) (fun ((k,zs):Nat×List D)=>m.val.length - k) ((0,[])) [(0,0),(1,1),(2,2)]   [3] (⟨by simp,by simp⟩) (by (refine ⟨rfl,rfl,rfl,?_,?_⟩;repeat' first|exact trivial|exact rfl|exact ⟨_,rfl⟩|refine And.intro ?_ ?_|refine ⟨_,rfl,?_⟩|decide)) ?_
 rintro ⟨k,zs⟩ ⟨hk,hz⟩
 have hzl:zs.length≤8:=by rw [hz];simp;omega
 by_cases hkl:k < m.val.length
 ·obtain ⟨s,hs⟩ : ∃ s,m.val[k]? = some s:=⟨_,List.getElem?_eq_getElem hkl⟩
  (repeat' ((conv=>whnf);first|refine vA ?_|(refine vF ?_ ?_<;>intro hc<;>try simp only [vL] at hc)|refine vJ fun hg=>?_|refine vT ?_|refine vN ‹_› ?_|((first|refine vO ?_ ?_|refine vP ?_ ?_);·first|omega|(simp only [vM] at *;omega))|(refine vU ?_ ?_;·kernel_rfl)|refine yD (zqd s l hl) ⟨⟨rfl,rfl⟩,⟨rfl,rfl⟩,rfl⟩ rfl ?_));all_goals try conv=>whnf
  ·refine ⟨(k+1,_),[(0,0),(1,1),(2,2),(3,5)],[],?_,?_,by (refine ⟨rfl,rfl,rfl,?_,?_⟩;repeat' first|exact trivial|exact rfl|refine And.intro ?_ ?_|refine ⟨_,rfl,?_⟩|decide)⟩
   ·exact ⟨by omega,by rw [List.take_add_one,hs,hz];simp⟩
   ·((simp only [vM] at *;omega))
  all_goals omega
 ·have hzz:zs=m.val.map fun s=>D.u64 (zbz s l):=by rw [hz,List.take_of_length_le (by omega)]
  clear hz
  subst hzz
  (repeat' ((conv=>whnf);first|refine vA ?_|(refine vF ?_ ?_<;>intro hc<;>try simp only [vL] at hc)|refine vJ fun hg=>?_|refine vT ?_|(refine vQ ?_ fun x hx=>?_;·omega)|fail));all_goals try conv=>whnf
  ·omega
  refine zo (fun ((k,zs):Nat×List D)=>[(1,.d (dN l)),(4,.ptr 1 0),(5,.ptr 2 0),(33,.d (dUU m.rel)),(34,.d (.int .i64 ((m.rel.map dU).length:Int))),(35,.d (.int .i64 ((k:Int))))]) (fun ((k,zs):Nat×List D)=>[(1,some (.box [.d (.int .i64 0),.nils 1,.nils 1])),(2,some (.box [.d (.int .i64 (zdq l:Int)),.own 3,.own 4])),(3,some (.row 1 (m.val.map fun s=>D.u64 (zbz s l)))),(4,some (.row 1 zs))]) 5 (fun ((k,zs):Nat×List D)=>k≤m.rel.length∧zs=(m.rel.take k).map fun r=>dU (l.map fun w=>zbz (r.getD w 0#64) l)) (fun ((k,zs):Nat×List D)=>m.rel.length - k) ((0,[])) [(1,1),(2,2),(3,3)]   [4] (⟨by simp,by simp⟩) (by (refine ⟨rfl,rfl,rfl,?_,?_⟩;repeat' first|exact trivial|exact rfl|exact ⟨_,rfl⟩|refine And.intro ?_ ?_|refine ⟨_,rfl,?_⟩|decide)) ?_
  rintro ⟨k,zs⟩ ⟨hk,hz⟩
  have hzl:zs.length≤4:=by rw [hz];simp;omega
  by_cases hkl:k < m.rel.length
  ·obtain ⟨r,hrr⟩ : ∃ r,m.rel[k]? = some r:=⟨_,List.getElem?_eq_getElem hkl⟩
   have hrw:=hr r (List.mem_of_getElem? hrr)
   (repeat' ((conv=>whnf);first|refine vA ?_|(refine vF ?_ ?_<;>intro hc<;>try simp only [vL] at hc)|refine vJ fun hg=>?_|refine vT ?_|refine vN ‹_› ?_));all_goals try conv=>whnf
   ·refine zo (fun ((j,ys):Nat×List D)=>[(1,.d (dN l)),(4,.ptr 1 0),(5,.ptr 2 0),(9,.d (dU r)),(10,.own 5),(33,.d (dUU m.rel)),(34,.d (.int .i64 ((m.rel.map dU).length:Int))),(35,.d (.int .i64 ((k:Int)))),(39,.d (dN l)),(40,.d (.int .i64 (((l.map fun (x:Nat)=>(x:Int)).map (D.int .i64)).length:Int))),(41,.d (.int .i64 ((j:Int))))]) (fun ((j,ys):Nat×List D)=>[(1,some (.box [.d (.int .i64 0),.nils 1,.nils 1])),(2,some (.box [.d (.int .i64 (zdq l:Int)),.own 3,.own 4])),(3,some (.row 1 (m.val.map fun s=>D.u64 (zbz s l)))),(4,some (.row 1 zs)),(5,some (.row 1 ys))]) 6 (fun ((j,ys):Nat×List D)=>j≤l.length∧ys=(l.take j).map fun w=>D.u64 (zbz (r.getD w 0#64) l)) (fun ((j,ys):Nat×List D)=>l.length - j) ((0,[])) [(1,1),(2,2),(3,3),(4,4)]   [5] (⟨by simp,by simp⟩) (by (refine ⟨rfl,rfl,rfl,?_,?_⟩;repeat' first|exact trivial|exact rfl|exact ⟨_,rfl⟩|refine And.intro ?_ ?_|refine ⟨_,rfl,?_⟩|decide)) ?_
    rintro ⟨j,ys⟩ ⟨hj,hy⟩
    have hyl:ys.length≤64:=by rw [hy];simp;omega
    by_cases hjl:j < l.length
    ·have e1:=zgt hjl
     have e2:=hrw _ (zlX hjl)
     have e3:r[l.getD j 0]? = some (r.getD (l.getD j 0) 0#64):=zbb e2
     (repeat' ((conv=>whnf);first|refine vA ?_|(refine vF ?_ ?_<;>intro hc<;>try simp only [vL] at hc)|refine vT ?_|refine vN ‹_› ?_|((first|refine vO ?_ ?_|refine vP ?_ ?_);·first|omega|(simp only [vM] at *;omega))|refine yD (zqd (r.getD (l.getD j 0) 0#64) l hl) ⟨⟨rfl,rfl⟩,⟨rfl,rfl⟩,rfl⟩ rfl ?_));all_goals try conv=>whnf
     ·refine ⟨(j+1,_),[(1,1),(2,2),(3,3),(4,4),(5,7)],[],?_,?_,by (refine ⟨rfl,rfl,rfl,?_,?_⟩;repeat' first|exact trivial|exact rfl|refine And.intro ?_ ?_|refine ⟨_,rfl,?_⟩|decide)⟩
      ·exact ⟨by omega,by rw [List.take_add_one,hy,zbb (d:=0) hjl];simp⟩
      ·((simp only [vM] at *;omega))
     ·omega
    ·(repeat' ((conv=>whnf);first|refine vA ?_|(refine vF ?_ ?_<;>intro hc<;>try simp only [vL] at hc)|refine vT ?_|(refine vQ ?_ fun x hx=>?_;·omega)|((first|refine vO ?_ ?_|refine vS ?_ fun x hx=>?_|refine vP ?_ ?_);·first|omega|(simp only [vM] at *;omega))|fail));all_goals try conv=>whnf
     ·omega
     ·have hyy:ys=l.map fun w=>D.u64 (zbz (r.getD w 0#64) l):=by rw [hy,List.take_of_length_le (by omega)]
      refine ⟨(k+1,_),[(1,1),(2,2),(3,3),(4,7)],[],?_,?_,by (refine ⟨rfl,rfl,rfl,?_,?_⟩;repeat' first|exact trivial|exact rfl|refine And.intro ?_ ?_|refine ⟨_,rfl,?_⟩|decide)⟩
      ·refine ⟨by omega,?_⟩
       rw [List.take_add_one,hrr,hz,hyy];simp
      ·((simp only [vM] at *;omega))
   all_goals omega
  ·(repeat' ((conv=>whnf);first|refine vA ?_|(refine vF ?_ ?_<;>intro hc<;>try simp only [vL] at hc)|refine vJ fun hg=>?_|refine vT ?_|(refine vQ ?_ fun x hx=>?_;·omega)|fail));all_goals try conv=>whnf
   ·omega
   ·have hzz:zs=m.rel.map fun r=>dU (l.map fun w=>zbz (r.getD w 0#64) l):=by rw [hz,List.take_of_length_le (by omega)]
    subst hzz
    refine congrArg some (show D.agg [.int .i64 (zdq l:Int),.arr 1 (m.val.map fun s=>D.u64 (zbz s l)),.arr 1 (m.rel.map fun r=>dU (l.map fun w=>zbz (r.getD w 0#64) l))]=dKM (zdE m l) from ?_)
    rw [zgr]
    simp [zdE,Function.comp_def]
theorem zvI {m:KM} (hc:zf m=0) {l:List Nat} (h : ∀ w∈l,w < m.W.toNat) : ∀ r∈m.rel,∀ w∈l,w < r.length:=fun r hr w hw=>by
 have hg:=zq hc
 have:=hg.len r hr
 have:=h w hw
 have:=hg.w1
 omega
theorem zrk {m:KM} (hc:zf m=0) {l:List Nat} (hl:l.length≤64) (h : ∀ w∈l,w < m.W.toNat):Fn Tryz.prog T zeW [.d (dKM m),.d (dN l)] [] (.d (dKM (zdE m l))) [] :=
 zsN m l hl (zvI hc h) (zq hc).v8 (zq hc).n4
theorem zsv (s:BitVec 64):(zx s).length≤64:=by
 unfold zx;have:=List.length_filter_le (fun i=>s.getLsbD i) (List.range 64);simpa using this
theorem zsU {to:List Int} {k:Nat} (hk:k < to.length) (hn:at0 to k ∉ to.take k):to.idxOf (at0 to k)=k:=by
 have e:to=to.take k++at0 to k::to.drop (k+1):=by
  rw [← zaL (zdk hk),List.take_append_drop]
 have hl:(to.take k).length=k:=by simp;omega
 generalize at0 to k=x at e hn
 generalize to.take k=a at e hn hl
 rw [e,List.idxOf_append,if_neg hn,List.idxOf_cons_self,hl];simp
structure zjx (to:List Int) (k:Nat) (s:BitVec 64) (zs:List D):Prop where
 le:k≤to.length
 rng : ∀ x∈to.take k,0≤x∧x < to.length
 nd:(to.take k).Nodup
 bit : ∀ x:Nat,x < 64→(s.getLsbD x=true↔(x:Int)∈to.take k)
 row:zs=(List.range to.length).map fun (x:Nat)=>D.int .i64 (if (x:Int)∈to.take k then (to.idxOf (x:Int):Int) else 0)
theorem zjx.next {to:List Int} (h64:to.length≤64) {k:Nat} {s:BitVec 64} {zs:List D} (h:zjx to k s zs) (hk:k < to.length) {x:Nat} (hx:to[k]? = some (x:Int)) (hx1:x < to.length) (hx2:s.getLsbD x=false) :
  zjx to (k+1) (s|||1#64 <<< x) (zs.set x (.int .i64 (k:Int))):=by
 have e0:at0 to k=(x:Int):=zcM hx
 have hn:(x:Int) ∉ to.take k:=fun hm=>by rw [(h.bit x (by omega)).2 hm] at hx2;cases hx2
 have hi:to.idxOf (x:Int)=k:=by rw [← e0];exact zsU hk (by rw [e0];exact hn)
 have ht:to.take (k+1)=to.take k++[(x:Int)]:=by rw [List.take_add_one,hx];rfl
 refine ⟨by omega,fun y hy=>?_,?_,fun y hy=>?_,?_⟩
 ·rw [ht] at hy
  rcases List.mem_append.1 hy with hy|hy
  ·exact h.rng y hy
  ·simp only [List.mem_singleton] at hy;omega
 ·rw [ht]
  refine List.nodup_append.2 ⟨h.nd,by simp,fun a ha b hb e=>?_⟩
  simp only [List.mem_singleton] at hb
  subst hb;subst e;exact hn ha
 ·rw [ht,zgk (by omega),h.bit y hy,List.mem_append,List.mem_singleton]
  exact ⟨fun h=>h.elim .inl fun e => .inr (by omega),fun h=>h.elim .inl fun e => .inr (by omega)⟩
 ·rw [h.row]
  refine (zdX _).trans (zL fun u hu=>?_)
  rw [ht]
  by_cases e:u=x
  ·subst e;rw [if_pos rfl,if_pos (by simp),hi]
  ·rw [if_neg e]
   have:((u:Int)∈to.take k++[(x:Int)])↔(u:Int)∈to.take k:=by
    rw [List.mem_append,List.mem_singleton]
    exact ⟨fun h=>h.elim id fun e'=>absurd (by omega) e,.inl⟩
   by_cases h2:(u:Int)∈to.take k
   ·rw [if_pos h2,if_pos (this.2 h2)]
   ·rw [if_neg h2,if_neg (fun h=>h2 (this.1 h))]
theorem zjx.done {to:List Int} {s:BitVec 64} {zs:List D} (h:zjx to to.length s zs):zaM to to.length=true∧zs=(zdO to to.length).map fun (x:Nat)=>D.int .i64 (x:Int):=by
 have h1:=h.rng;have h2:=h.nd;have h3:=h.row
 rw [List.take_length] at h1 h2 h3
 have hp:zaM to to.length=true:=zbQ.2 ⟨rfl,h1,h2⟩
 refine ⟨hp,?_⟩
 rw [h3]
 unfold zdO
 rw [List.map_map]
 exact zL fun u hu=>by rw [if_pos (zv9 hp hu)];rfl
theorem zjx.bad {to:List Int} {k:Nat} {s:BitVec 64} {zs:List D} (h:zjx to k s zs) (h64:to.length≤64) {x:Int} (hx:to[k]? = some x) (hb:x < 0∨(to.length:Int)≤x∨s.getLsbD x.toNat=true):zaM to to.length=false:=by
 rw [← Bool.not_eq_true]
 intro hp
 obtain ⟨h1,h2,h3⟩:=zbQ.1 hp
 have hr:=h2 x (List.mem_of_getElem? hx)
 rcases hb with hb|hb|hb
 ·omega
 ·omega
 ·have hm:=(h.bit x.toNat (by omega)).1 hb
  rw [show ((x.toNat:Nat):Int)=x by omega] at hm
  obtain ⟨j,hj⟩:=List.getElem?_of_mem hm
  rw [List.getElem?_take] at hj
  split at hj
  ·rename_i hlt
   obtain ⟨a,a'⟩:=List.getElem?_eq_some_iff.1 hj
   obtain ⟨c,c'⟩:=List.getElem?_eq_some_iff.1 hx
   have:=(List.getElem_inj h3).1 (a'.trans c'.symm)
   omega
  ·cases hj
theorem zyH (m:KM) (to:List Int):Fn Tryz.prog T zhU [.d (dKM m),.d (dI to)] [] (.d (dKI (zn5 m to))) []:=by
 have cc:=zaq (T:=T) m
 refine zi zy znW (by show 2≤61;decide) ?_
 (repeat' ((conv=>whnf);first|refine vA ?_|(refine vD ?_ ?_<;>intro hc<;>try simp only [vL] at hc)|refine vJ fun hg=>?_|refine vT ?_|(refine vP ?_ ?_;·omega)|refine yD cc ⟨⟨rfl,rfl⟩,rfl⟩ rfl ?_));all_goals try conv=>whnf
 ·rw [zn5,if_pos (by omega)];rfl
 ·have hk0:zf m=0:=by omega
  have w1:=(zq hk0).w1
  rw [zn5,if_neg (by omega),if_neg (fun h=>by have:=(zbQ.1 h).1;omega)];rfl
 ·have hk0:zf m=0:=by omega
  have hg0:=zq hk0
  have w1:=hg0.w1
  have w2:=hg0.w2
  have h64:to.length≤64:=by omega
  have hW:m.W.toNat=to.length:=by omega
  (repeat' ((conv=>whnf);first|refine vA ?_|refine vJ fun hg=>?_|refine vT ?_|(refine vP ?_ ?_;·(simp only [vM] at *;omega))|fail));all_goals try conv=>whnf
  refine zo (fun ((k,s,zs):Nat×BitVec 64×List D)=>[(1,.d (dI to)),(2,.ptr 0 0),(4,.ptr 1 0),(7,.own 2),(8,.d (.u64 (s))),(26,.d (dI to)),(27,.d (.int .i64 ((to.map (D.int .i64)).length:Int))),(28,.d (.int .i64 ((k:Int))))]) (fun ((k,s,zs):Nat×BitVec 64×List D)=>[(0,some (zX m)),(1,some (.box [.d (.int .i64 0),.nils 1,.nils 1])),(2,some (.row 1 zs))]) 3 (fun ((k,s,zs):Nat×BitVec 64×List D)=>zjx to k s zs) (fun ((k,s,zs):Nat×BitVec 64×List D)=>to.length - k) ((0,0#64,List.replicate (((to.map (D.int .i64)).length:Int)).toNat (D.int .i64 0))) [(0,0),(1,1),(2,2)] [] (⟨by simp,by simp,by simp,by simp,by rw [List.length_map,Int.toNat_natCast,z8];simp⟩) (by (refine ⟨rfl,rfl,rfl,?_,?_⟩;repeat' first|exact trivial|exact rfl|refine And.intro ?_ ?_|refine ⟨_,rfl,?_⟩|decide)) ?_
  rintro ⟨k,s,zs⟩ hI
  have hle:=hI.le
  have hzl:zs.length=to.length:=by rw [hI.row];simp
  by_cases hkl:k < to.length
  ·obtain ⟨x,hx⟩ : ∃ x,to[k]? = some x:=⟨_,List.getElem?_eq_getElem hkl⟩
   have hb:(x < 0∨(to.length:Int)≤x∨s.getLsbD x.toNat=true)→(zcq,(1:Int))=zn5 m to:=fun h=>by
    have:=hI.bad h64 hx h
    rw [zn5,if_neg (by omega),if_neg (by rw [hW,this];decide)]
   (repeat' ((conv=>whnf);first|refine vA ?_|(refine vF ?_ ?_<;>intro hc<;>try simp only [vL] at hc)|refine vJ fun hg=>?_|refine vT ?_|refine vN ‹_› ?_|((first|refine vO ?_ ?_|refine vP ?_ ?_);·omega)|fail));all_goals try conv=>whnf
   ·rw [← hb (.inl ‹_›)];rfl
   ·rw [← hb (.inr (.inl ‹_›))];rfl
   ·rw [← hb (.inr (.inr ((zba _ _).1 ‹_›)))];rfl
   ·obtain ⟨y,rfl⟩ : ∃ y:Nat,x=(y:Int):=⟨x.toNat,by omega⟩
    refine ⟨(k+1,_,_),[(0,0),(1,1),(2,2)],[],?_,?_,by (refine ⟨rfl,rfl,rfl,?_,?_⟩;repeat' first|exact trivial|exact rfl|refine And.intro ?_ ?_|refine ⟨_,rfl,?_⟩|decide)⟩
    ·exact hI.next h64 hkl hx (by omega) (by rw [← Bool.not_eq_true];exact fun h=>absurd ((zba _ _).2 h) ‹¬_=(1:BitVec 64)›)
    ·((simp only [vM] at *;omega))
   ·omega
  ·have e0:k=to.length:=by omega
   subst e0
   obtain ⟨d1,d2⟩:=hI.done
   have ca:=zrk (T:=T) hk0 (l:=zdO to to.length) (by rw [znS];omega) (fun w hw=>by
    obtain ⟨i,hi,rfl⟩:=zvS hw
    rw [znS] at hi
    have:=zyf d1 hi;omega)
   have hz:zs=((zdO to to.length).map fun (x:Nat)=>(x:Int)).map (D.int .i64):=by rw [d2,List.map_map];rfl
   clear d2 hI
   subst hz
   (repeat' ((conv=>whnf);first|refine vA ?_|(refine vF ?_ ?_<;>intro hc<;>try simp only [vL] at hc)|refine vJ fun hg=>?_|refine vT ?_|(refine vQ ?_ fun x hx=>?_;·omega)|((first|refine vO ?_ ?_|refine vP ?_ ?_);·omega)|refine yN ca ⟨⟨rfl,rfl⟩,⟨rfl,rfl⟩,rfl⟩ ?_));all_goals try conv=>whnf
   all_goals try (exfalso;omega)
   rw [zn5,if_neg (by omega),if_pos (by rw [hW];exact d1),hW];rfl
end Go.Ab
namespace Go.Ab
open Go Go.Proofs
set_option maxRecDepth 10000
set_option maxHeartbeats 4000000
variable {T:Nat→Obj→Prop}
def zpZ (m:KM) (n:Int):Bool:=decide (¬(n < m.W∧m.W≤64)∧m.val.length≤20∧m.rel.length≤10 ∧ ∀ r∈m.rel,r.length≤70)
theorem zy7 (m:KM) (n:Int):Fn Tryz.prog T zfS [.d (dKM m),.d (.int .i64 n)] [] (.d (.bool (zpZ m n))) []:=by
 have no:(n < m.W∧m.W≤64∨20 < m.val.length∨10 < m.rel.length)→false=zpZ m n:=fun h=>by
  rw [zpZ,decide_eq_false];rintro ⟨a,b,c,-⟩;omega
 refine zi zy zkd (by show 2≤41;decide) ?_
 (repeat' ((conv=>whnf);first|refine vA ?_|(refine vF ?_ ?_<;>intro hc<;>try simp only [vL] at hc)|refine vJ fun hg=>?_|refine vT ?_|refine vZ ?_));all_goals try conv=>whnf
 iterate 3 exact no (by omega)
 rotate_left
 iterate 2 exact no (by omega)
 all_goals
  have h1 : ¬(n < m.W∧m.W≤64):=by omega
  refine zo (fun (k:Nat)=>[(2,.ptr 0 0),(5,.d (.int .i64 ((k:Int))))]) (fun (k:Nat)=>[(0,some (zX m))]) 1 (fun (k:Nat)=>k≤m.rel.length ∧ ∀ (i:Nat) r,i < k→m.rel[i]? = some r→r.length≤70) (fun (k:Nat)=>m.rel.length - k) (0) [(0,0)] [] (⟨by simp,fun i r hi=>by omega⟩) (by (refine ⟨rfl,rfl,rfl,?_,?_⟩;repeat' first|exact trivial|exact rfl|refine And.intro ?_ ?_|refine ⟨_,rfl,?_⟩|decide)) ?_
  rintro k ⟨hk,hI⟩
  (repeat' ((conv=>whnf);first|refine vA ?_|(refine vF ?_ ?_<;>intro hc<;>try simp only [vL] at hc)|refine vJ fun hg=>?_|refine vT ?_|(refine vQ ?_ fun x hx=>?_;·omega)|(refine vO ?_ ?_;·omega)|refine vZ ?_));all_goals try conv=>whnf
  ·rw [zpZ,decide_eq_false]
   rintro ⟨-,-,-,h⟩
   have:=h _ (List.mem_of_getElem? hx);omega
  ·exact ⟨k+1,[(0,0)],[],⟨by (omega),fun i r hi hr=>by
    by_cases e:i=k
    ·subst e;rw [hx] at hr;cases hr;omega
    ·exact hI i r (by omega) hr⟩,by (omega),by (refine ⟨rfl,rfl,rfl,?_,?_⟩;repeat' first|exact trivial|exact rfl|refine And.intro ?_ ?_|refine ⟨_,rfl,?_⟩|decide)⟩
  ·rw [zpZ,decide_eq_true]
   refine ⟨h1,by omega,by omega,fun r hr=>?_⟩
   obtain ⟨i,hi⟩:=List.getElem?_of_mem hr
   have:=(List.getElem?_eq_some_iff.1 hi).1
   exact hI i r (by omega) hi
end Go.Ab
namespace Go.Ab
theorem zxg {n:Nat} {fa fb:Nat→Int} {R R':zN} (hl:R'.length=R.length) {f:Nat→Nat} (hf:Ren n f) :
  (∀ v,v < n→fa v=fb (f v) ∧ ∀ u,u≤v→zgU R R' f v u=true)↔zcK n fa fb R R' f:=by
 constructor
 ·intro h
  refine ⟨hf,fun w hw=>(h w hw).1.symm,⟨hl,fun i r r' h1 h2 v w hv hw=>?_⟩⟩
  by_cases e:w≤v
  ·have:=(zeK hl).1 ((h v hv).2 w e) i r r' h1 h2
   simp only [Bool.and_eq_true,beq_iff_eq] at this
   exact this.1.symm
  ·have:=(zeK hl).1 ((h w hw).2 v (by omega)) i r r' h1 h2
   simp only [Bool.and_eq_true,beq_iff_eq] at this
   exact this.2.symm
 ·intro h v hv
  refine ⟨(h.fac v hv).symm,fun u hu=>(zeK hl).2 fun i r r' h1 h2=>?_⟩
  simp only [Bool.and_eq_true,beq_iff_eq]
  exact ⟨(h.rel.rel i r r' h1 h2 v u hv (by omega)).symm,(h.rel.rel i r r' h1 h2 u v (by omega) hv).symm⟩
def zbo (a b:KM):Int:=if zf a≠0 then zf a else if zf b≠0 then zf b else if a.rel.length≠b.rel.length∨a.val.length≠b.val.length then 1 else 0
theorem zoy {a b:KM} (h:zbo a b=0):zf a=0∧zf b=0∧a.rel.length=b.rel.length∧a.val.length=b.val.length:=by
 unfold zbo at h
 split at h
 ·contradiction
 ·split at h
  ·contradiction
  ·split at h
   ·cases h
   ·rename_i h1 h2 h3;exact ⟨by omega,by omega,by omega,by omega⟩
def znT (a b:KM) (to:List Int):Bool:=(List.range a.W.toNat).all fun v=>zu a v==zu b (toF to v)&&(List.range (v+1)).all fun u=>zgU (zt a) (zt b) (toF to) v u
def zch (a b:KM) (to:List Int):Int:=if zbo a b≠0 then zbo a b else if a.W≠b.W then 1 else if zaM to a.W.toNat=false then 3 else if znT a b to=true then 0 else 13
theorem zvM {a b:KM} (hl:b.rel.length=a.rel.length) {to:List Int} (h:zaM to a.W.toNat=true):znT a b to=true↔zcK a.W.toNat (zu a) (zu b) (zt a) (zt b) (toF to):=by
 rw [← zxg (by rw [zbS,zbS];exact hl) (zgV h)]
 unfold znT
 simp only [List.all_eq_true,List.mem_range,Bool.and_eq_true,beq_iff_eq]
 exact ⟨fun k v hv=>⟨(k v hv).1,fun u hu=>(k v hv).2 u (by omega)⟩,fun k v hv=>⟨(k v hv).1,fun u hu=>(k v hv).2 u (by omega)⟩⟩
theorem zxA {n:Nat} {q:Nat→Nat} (h:Ren n q):zaM (ptL n q) n=true:=by
 rw [zbQ]
 refine ⟨zby,fun x hx=>?_,?_⟩
 ·obtain ⟨w,hw,rfl⟩:=List.mem_map.1 hx
  have:=h.lt w (List.mem_range.1 hw);omega
 ·unfold ptL
  rw [List.Nodup,List.pairwise_map]
  exact List.Pairwise.imp_of_mem (fun {a b} ha hb hab e=>hab (h.inj a b (List.mem_range.1 ha) (List.mem_range.1 hb) (by omega))) List.nodup_range
theorem zyr {n:Nat} {q:Nat→Nat} {w:Nat} (hw:w < n):toF (ptL n q) w=q w:=by
 have:at0 (ptL n q) w=((q w:Nat):Int):=zcM (zaF hw)
 unfold toF;omega
end Go.Ab
namespace Go.Proofs
def Tryz.lays129_ren:Go.Shelf.Ren:=⟨fun|129=>65|n=>n,fun|53=>43|3=>3|4=>4|46=>44|5=>5|9=>9|n=>n,fun|n=>n⟩
theorem Tryz.lays129:Go.Proofs.Lays.n129 Tryz.prog Tryz.lays129_ren := {
 mixed:=by kernel_rfl
 f129:=Tryz.func65.trans (congrArg some (by kernel_rfl))
 t3:=Tryz.underlying3
 a3:=Tryz.isAgg3
 z3:=Tryz.sizeOf3
 v3:=Tryz.zeroValue3
 t4:=Tryz.underlying4
 a4:=Tryz.isAgg4
 z4:=Tryz.sizeOf4
 v4:=Tryz.zeroValue4
 t5:=Tryz.underlying5
 a5:=Tryz.isAgg5
 z5:=Tryz.sizeOf5
 v5:=Tryz.zeroValue5
 t9:=Tryz.underlying9
 a9:=Tryz.isAgg9
 z9:=Tryz.sizeOf9
 v9:=Tryz.zeroValue9
 t46:=Tryz.underlying44
 a46:=Tryz.isAgg44
 z46:=Tryz.sizeOf44
 v46:=Tryz.zeroValue44
 t53:=Tryz.underlying43
 a53:=Tryz.isAgg43
 z53:=Tryz.sizeOf43
 v53:=Tryz.zeroValue43 }
end Go.Proofs
namespace Go.Ab
open Go Go.Proofs
set_option maxRecDepth 10000
set_option maxHeartbeats 4000000
variable {T:Nat→Obj→Prop}
theorem zsx:zcs Tryz.prog zf9:=⟨_,Tryz.func65,by kernel_rfl,by kernel_rfl⟩
theorem zvE (x:BitVec 64):Fn Tryz.prog T zf9 [.d (.u64 x)] [] (.d (.int .i64 (Sort.bitsLen x.toNat:Int))) []:=by
 refine zrS (ds:=[.u64 x]) zsx fun w args hw hsz hargs=>?_
 obtain ⟨X,hX⟩:=hargs 0 (by simp)
 have ha:args = #[.int .u64 (x.toNat:Int)]:=by
  have h0:args.getD 0 undef = .int .u64 (x.toNat:Int):=by
   generalize args.getD 0 undef=y at hX
   cases hX;rfl
  obtain ⟨l⟩:=args
  match l,hsz with
  | [y],_=>rw [← h0];rfl
 rw [ha]
 have:=Any.bits_Len64 Tryz.lays129 (x.toNat:Int) w (by omega) (by have:=x.isLt;omega)
 refine this.mono fun e w' he=>⟨_,he.1,he.2,fun X=>?_⟩
 rw [Int.toNat_natCast,Go.Proofs.bitLen_eq _ x.isLt]
 exact .int _ _ (by decide)
theorem zp7 (x:BitVec 64):Fn Tryz.prog T zdw [.d (.u64 x)] [] (.d (.int .i64 (Sort.bitsLen x.toNat:Int))) []:=by
 refine zi zy znb (by show 1≤8;decide) ?_
 (repeat' ((conv=>whnf);first|refine vT ?_|refine vX ?_|refine yD (zvE _) ⟨⟨rfl,rfl⟩,rfl⟩ rfl ?_));all_goals try conv=>whnf
end Go.Ab
namespace Go.Ab
open Go Go.Proofs
set_option maxRecDepth 10000
set_option maxHeartbeats 4000000
section
variable {α:Type} [Inhabited α] [DecidableEq α]
def ddA (d:Array α):Nat→List α
 | 0=>[]
 | n+1=>if 0 < n∧d[n]! = d[n - 1]! then ddA d n else ddA d n++[d[n]!]
def Steps (d:Array α):Prop := ∀ j,0 < j→j < d.size→d[j]! ≠ d[j - 1]!
theorem zuY {d:Array α} {n:Nat} (h:n < d.size):d.toList.take (n+1)=d.toList.take n++[d[n]!]:=by
 rw [List.take_add_one,zbt h];rfl
theorem zkJ {d:Array α} : ∀ {n:Nat},n≤d.size→(∀ j,0 < j→j < n→d[j]! ≠ d[j - 1]!)→ddA d n=d.toList.take n
 | 0,_,_=>rfl
 | n+1,h,hs=>by
  rw [ddA,if_neg (fun hh=>hs n hh.1 (by omega) hh.2),zkJ (by omega) (fun j h0 h1=>hs j h0 (by omega)),zuY (by omega)]
theorem zpP {d:Array α} {k:Nat} (h0:0 < k) (h1:k < d.size) (hk : ∀ j,0 < j→j < k→d[j]! ≠ d[j - 1]!) (he:d[k]! = d[k - 1]!):d.toList.take k=ddA d (k+1):=by
 rw [ddA,if_pos ⟨h0,he⟩,zkJ (by omega) hk]
theorem zqX {e:Array α} {a:Nat} {x:α} (h:a < e.size):(e.setIfInBounds a x).toList.take (a+1)=e.toList.take a++[x]:=by
 have hl:a < e.toList.length:=by simpa using h
 rw [Array.toList_setIfInBounds,List.take_add_one,List.getElem?_set_self hl,List.take_set_of_le (Nat.le_refl a)];rfl
theorem zr9 {e:Array α} {a j:Nat} {x:α} (h:a≠j):(e.setIfInBounds a x)[j]! = e[j]! := by
 simp [getElem!_def,Array.getElem?_setIfInBounds_ne h]
theorem zrQ {d:Array α} {n:Nat} (h:0 < n) (he:d[n]! = d[n - 1]!):ddA d (n+1)=ddA d n:=by rw [ddA,if_pos ⟨h,he⟩]
theorem ztH {d:Array α} {n:Nat} (he:d[n]! ≠ d[n - 1]!):ddA d (n+1)=ddA d n++[d[n]!]:=by rw [ddA,if_neg (fun h=>he h.2)]
theorem zrP {enc:α→D} {e:Array α} {z:D} {a n:Nat} (h:a≤e.size):((List.take a (e.toList.map enc))++(List.replicate n z++List.drop (a+n) (e.toList.map enc))).take a=(e.toList.take a).map enc:=by
 rw [List.take_append_of_le_length (by simp;omega),List.take_take,Nat.min_self,List.map_take]
end
end Go.Ab
namespace Go.Ab
section
variable {α:Type} [Inhabited α] [DecidableEq α]
theorem zeD {d:Array α} {x:α} : ∀ {n:Nat},x∈ddA d n ↔ ∃ i,i < n∧d[i]! = x
 | 0=>by simp [ddA]
 | n+1=>by
  rw [ddA]
  constructor
  ·intro h
   split at h
   ·obtain ⟨i,h1,h2⟩:=zeD.1 h
    exact ⟨i,by omega,h2⟩
   ·rcases List.mem_append.1 h with h|h
    ·obtain ⟨i,h1,h2⟩:=zeD.1 h
     exact ⟨i,by omega,h2⟩
    ·exact ⟨n,by omega,by simp at h;exact h.symm⟩
  ·rintro ⟨i,h1,h2⟩
   split
   ·rename_i hc
    by_cases e:i=n
    ·subst e
     exact zeD.2 ⟨i - 1,by omega,by rw [← hc.2];exact h2⟩
    ·exact zeD.2 ⟨i,by omega,h2⟩
   ·by_cases e:i=n
    ·subst e;exact List.mem_append.2 (.inr (by simp [h2]))
    ·exact List.mem_append.2 (.inl (zeD.2 ⟨i,by omega,h2⟩))
theorem ziD {lt:α→α→Bool} {d:Array α} (hs : ∀ i j,i < j→j < d.size→lt d[j]! d[i]! = false) (tri : ∀ x y,lt x y=false→lt y x=false→x=y) : ∀ {n:Nat},n≤d.size→(ddA d n).Pairwise fun x y=>lt x y=true
 | 0,_=>List.Pairwise.nil
 | n+1,h=>by
  rw [ddA]
  split
  ·exact ziD hs tri (by omega)
  ·rename_i hc
   refine List.pairwise_append.2 ⟨ziD hs tri (by omega),List.pairwise_singleton _ _,fun x hx y hy=>?_⟩
   obtain ⟨i,hi,rfl⟩:=zeD.1 hx
   have hy:y=d[n]! := by simpa using hy
   subst hy
   cases hb:lt d[i]! d[n]! with
   | true=>rfl
   | false =>
    have e1:=tri _ _ hb (hs i n hi (by omega))
    refine absurd ⟨by omega,?_⟩ hc
    by_cases e:i=n - 1
    ·rw [← e];exact e1.symm
    ·refine (tri _ _ ?_ ?_)
     ·exact hs (n - 1) n (by omega) (by omega)
     ·rw [← e1];exact hs i (n - 1) (by omega) (by omega)
end
def ltT (x y:Tup):Bool:=decide (zaT x y < 0)
theorem zgs {x y:Tup} : ltT x y=true↔zaT x y < 0:=by simp [ltT]
theorem zqq {x y:Tup} : ltT x y=false↔0≤zaT x y:=by simp [ltT]
theorem zyq:Sort.SWO ltT:=by
 refine ⟨fun x=>zqq.2 (by rw [zat.refl];omega),fun x y z h1 h2=>zgs.2 (zat.tr (zgs.1 h1) (zgs.1 h2)),fun x y z h1 h2=>?_⟩
 rw [zqq] at *
 have a1:=zat.anti x y
 have a2:=zat.anti y z
 have a3:=zat.anti x z
 by_cases e1:zaT x y=0
 ·rw [zat.zero.1 e1];exact h2
 ·by_cases e2:zaT y z=0
  ·rw [← zat.zero.1 e2];exact h1
  ·have:=zat.tr (x:=z) (y:=y) (z:=x) (by omega) (by omega)
   omega
theorem zjW {α:Type} {p:α→Bool} : ∀ {S:List α} {i:Nat},i≤S.length→(∀ (k:Nat) x,k < i→S[k]? = some x→p x=true)→(∀ (k:Nat) x,i≤k→S[k]? = some x→p x=false)→(S.filter p).length=i
 | [],i,hi,_,_=>by simp at hi;simp [hi]
 | a::S,0,hi,h1,h2=>by
  have:(a::S).filter p=[]:=by
   rw [List.filter_eq_nil_iff]
   intro x hx
   obtain ⟨k,hk⟩:=List.getElem?_of_mem hx
   rw [h2 k x (by omega) hk];simp
  rw [this];rfl
 | a::S,i+1,hi,h1,h2=>by
  rw [List.filter_cons_of_pos (h1 0 a (by omega) rfl),List.length_cons,zjW (i:=i) (by simpa using hi) (fun k x hk hx=>h1 (k+1) x (by omega) (by simpa using hx)) fun k x hk hx=>h2 (k+1) x (by omega) (by simpa using hx)]
structure zb4 (ts S:List Tup):Prop where
 pw:S.Pairwise fun x y=>zaT x y < 0
 mem : ∀ x,x∈S↔x∈ts
theorem zb4.nodup {ts S:List Tup} (h:zb4 ts S):S.Nodup:=h.pw.imp fun {a b} h e=>by subst e;rw [zat.refl] at h;omega
theorem zb4.cnt {ts S:List Tup} (h:zb4 ts S):S.length=cnN ts:=zwK h.nodup h.mem
theorem zb4.le {ts S:List Tup} (h:zb4 ts S):S.length≤ts.length:=zek h.nodup fun x hx=>(h.mem x).1 hx
theorem zb4.rk {ts S:List Tup} (h:zb4 ts S) {t:Tup} {i:Nat} (hi:i≤S.length) (h1 : ∀ (k:Nat) x,k < i→S[k]? = some x→zaT x t < 0) (h2 : ∀ (k:Nat) x,i≤k→S[k]? = some x → ¬zaT x t < 0):i=rkN ts t:=by
 rw [← zwT h.nodup h.mem]
 exact (zjW hi (fun k x hk hx=>decide_eq_true (h1 k x hk hx)) fun k x hk hx=>decide_eq_false (h2 k x hk hx)).symm
theorem zb4.lt_of {ts S:List Tup} (h:zb4 ts S) {t:Tup} {i k:Nat} {x y:Tup} (hx:S[i]? = some x) (hy:S[k]? = some y) (hik:k≤i) (hl:zaT x t < 0):zaT y t < 0:=by
 by_cases e:k=i
 ·subst e;rw [hx] at hy;cases hy;exact hl
 ·obtain ⟨a,b⟩:=List.getElem?_eq_some_iff.1 hx
  obtain ⟨c,d⟩:=List.getElem?_eq_some_iff.1 hy
  have:=List.pairwise_iff_getElem.1 h.pw k i c a (by omega)
  rw [b,d] at this
  exact zat.tr this hl
theorem zoU (d:Array Tup):(Sort.sort ltT d).toList.Perm d.toList:=by
 obtain ⟨⟨h1,-,h2⟩,-⟩:=Sort.sort_sorts ltT zyq d
 have e1:(Sort.sort ltT d).extract 0 d.size=Sort.sort ltT d:=by rw [← h1];simp
 have e2:d.extract 0 d.size=d:=by simp
 rwa [e1,e2] at h2
theorem ztf {ts:List Tup} {S:Array Tup} (hS:S=Sort.sort ltT ts.toArray):zb4 ts (ddA S S.size):=by
 subst hS
 obtain ⟨⟨h1,-,-⟩,h3⟩:=Sort.sort_sorts _ zyq ts.toArray
 have hp:=zoU ts.toArray
 generalize Sort.sort ltT ts.toArray=S at h1 h3 hp
 refine ⟨?_,fun x=>?_⟩
 ·refine (ziD (fun i j hij hj=>h3 i j (Nat.zero_le _) hij (by rw [← h1];exact hj)) (fun x y h1 h2=>zat.zero.1 (by rw [zqq] at h1 h2;have:=zat.anti x y;omega)) (Nat.le_refl _)).imp fun h=>zgs.1 h
 ·rw [zeD]
  have:=hp.mem_iff (a:=x)
  rw [show ts.toArray.toList=ts from rfl] at this
  rw [← this]
  constructor
  ·rintro ⟨i,hi,rfl⟩;exact List.mem_of_getElem? (zbt hi)
  ·intro hx
   obtain ⟨i,hi⟩:=List.getElem?_of_mem hx
   exact ⟨i,(zaK hi).2,(zaK hi).1⟩
end Go.Ab
namespace Go.Ab
open Go Go.Proofs
set_option maxRecDepth 10000
set_option maxHeartbeats 4000000
variable {T:Nat→Obj→Prop}
theorem zdZ (a b:Int):Fn Tryz.prog T zbl [.d (.int .i64 a),.d (.int .i64 b)] [] (.d (.int .i64 (zbk a b))) []:=by
 have hn : ∀ z:Int,Fn Tryz.prog T zet [.d (.int .i64 z)] [] (.d (.bool false)) []:=fun z=>by
  refine zi zy zgN (by show 1≤6;decide) ?_
  (repeat' ((conv=>whnf);first|refine vT ?_|refine vZ ?_));all_goals try conv=>whnf
  simp
 refine zi zy zj8 (by show 2≤20;decide) ?_
 (repeat' ((conv=>whnf);first|refine vA ?_|refine vH ?_|(refine vF ?_ ?_<;>intro hc<;>try simp only [vL] at hc)|refine vT ?_|refine vX ?_|refine yD (hn _) (by (repeat refine ⟨⟨rfl,rfl⟩,?_⟩);rfl) rfl ?_));all_goals try conv=>whnf
 all_goals (unfold zbk;first|rw [if_pos ‹_›]|(rw [if_neg (by omega)];first|rw [if_pos ‹_›]|rw [if_neg (by omega)])|skip)
theorem zpL {α:Type} {c:α→α→Int} {a b:List α} {k:Nat} (h:k=min a.length b.length):zab c (a.drop k) (b.drop k)=zbk (a.length:Int) (b.length:Int):=by
 rcases Nat.lt_trichotomy a.length b.length with h1|h1|h1
 ·rw [List.drop_eq_nil_of_le (show a.length≤k by omega)]
  obtain ⟨x,hx⟩ : ∃ x,b[k]? = some x:=⟨_,List.getElem?_eq_getElem (by omega)⟩
  rw [zaL hx,zab,zbk,if_pos (by omega)]
 ·rw [List.drop_eq_nil_of_le (show a.length≤k by omega),List.drop_eq_nil_of_le (show b.length≤k by omega),zab,zbk,if_neg (by omega),if_neg (by omega)]
 ·rw [List.drop_eq_nil_of_le (show b.length≤k by omega)]
  obtain ⟨x,hx⟩ : ∃ x,a[k]? = some x:=⟨_,List.getElem?_eq_getElem (by omega)⟩
  rw [zaL hx,zab,zbk,if_neg (by omega),if_pos (by omega)]
theorem znR (a b:List Int) (ha:a.length≤1000000):Fn Tryz.prog T zd7 [.d (dI a),.d (dI b),.d (.fn zbl [])] [] (.d (.int .i64 (zab zbk a b))) []:=by
 refine zi zy zg9 (by show 3≤36;decide) ?_
 (repeat' ((conv=>whnf);first|refine vA ?_|refine vJ fun hg=>?_|refine vT ?_));all_goals try conv=>whnf
 refine zaY (fun (k:Nat)=>[(0,.d (dI a)),(1,.d (dI b)),(2,.d (.fn zbl [])),(13,.d (.int .i64 ((min ((a.map (D.int .i64)).length:Int) ((b.map (D.int .i64)).length:Int))))),(14,.d (.int .i64 ((k:Int))))]) (fun (k:Nat)=>k≤a.length∧k≤b.length∧zab zbk a b=zab zbk (a.drop k) (b.drop k)) (fun (k:Nat)=>a.length - k) (0) (⟨by simp,by simp,rfl⟩) (by (repeat' first|exact trivial|exact rfl|refine And.intro ?_ ?_)) ?_
 rintro k ⟨hk,hk2,hI⟩
 by_cases hkl:k < a.length∧k < b.length
 ·obtain ⟨x,hx⟩ : ∃ x,a[k]? = some x:=⟨_,List.getElem?_eq_getElem hkl.1⟩
  obtain ⟨y,hy⟩ : ∃ y,b[k]? = some y:=⟨_,List.getElem?_eq_getElem hkl.2⟩
  have hs:zab zbk a b=if zbk x y=0 then zab zbk (a.drop (k+1)) (b.drop (k+1)) else zbk x y:=by rw [hI,zaL hx,zaL hy,zab]
  (repeat' ((conv=>whnf);first|refine vA ?_|((first|refine vD ?_ ?_|refine vF ?_ ?_)<;>intro hc<;>try simp only [vL] at hc)|refine vJ fun hg=>?_|refine vT ?_|refine vN ‹_› ?_|(refine vO ?_ ?_;·omega)|(refine vU ?_ ?_;·kernel_rfl)|refine vX ?_|refine yD (zdZ _ _) ⟨⟨rfl,rfl⟩,⟨rfl,rfl⟩,rfl⟩ rfl ?_));all_goals try conv=>whnf
  ·rw [hs,if_neg hc]
  ·exact ⟨k+1,[],[],⟨by omega,by omega,by rw [hs,if_pos hc]⟩,by (omega),by (refine ⟨rfl,rfl,rfl,?_,?_⟩;repeat' first|exact trivial|exact rfl|refine And.intro ?_ ?_)⟩
  ·omega
 ·(repeat' ((conv=>whnf);first|refine vA ?_|((first|refine vD ?_ ?_|refine vF ?_ ?_)<;>intro hc<;>try simp only [vL] at hc)|refine vJ fun hg=>?_|refine vT ?_|(refine vQ ?_ fun x hx=>?_;·omega)|(refine vO ?_ ?_;·omega)|(refine vU ?_ ?_;·kernel_rfl)|refine vX ?_|refine yD (zdZ _ _) ⟨⟨rfl,rfl⟩,⟨rfl,rfl⟩,rfl⟩ rfl ?_));all_goals try conv=>whnf
  iterate 2 (exfalso;omega)
  ·rw [hI,zpL (by omega),List.length_map,List.length_map]
def Sml (t:Tup):Prop:=t.length≤1000 ∧ ∀ r∈t,r.length≤1000
theorem ztT (x y:List Int) (h:x.length≤1000000):Fn Tryz.prog T zbm [.d (dI x),.d (dI y)] [] (.d (.int .i64 (zab zbk x y))) []:=by
 refine zi zy zka (by show 2≤8;decide) ?_
 (repeat' ((conv=>whnf);first|refine vT ?_|refine vX ?_|refine yD (znR x y h) ⟨⟨rfl,rfl⟩,⟨rfl,rfl⟩,⟨rfl,rfl⟩,rfl⟩ rfl ?_));all_goals try conv=>whnf
theorem zqa (a b:Tup) (ha:a.length≤1000000) (hb : ∀ r∈a,r.length≤1000000):Fn Tryz.prog T zdJ [.d (dII a),.d (dII b),.d (.fn zbm [])] [] (.d (.int .i64 (zab (zab zbk) a b))) []:=by
 refine zi zy zgO (by show 3≤36;decide) ?_
 (repeat' ((conv=>whnf);first|refine vA ?_|refine vJ fun hg=>?_|refine vT ?_));all_goals try conv=>whnf
 refine zaY (fun (k:Nat)=>[(0,.d (dII a)),(1,.d (dII b)),(2,.d (.fn zbm [])),(13,.d (.int .i64 ((min ((a.map dI).length:Int) ((b.map dI).length:Int))))),(14,.d (.int .i64 ((k:Int))))]) (fun (k:Nat)=>k≤a.length∧k≤b.length∧zab (zab zbk) a b=zab (zab zbk) (a.drop k) (b.drop k)) (fun (k:Nat)=>a.length - k) (0) (⟨by simp,by simp,rfl⟩) (by (repeat' first|exact trivial|exact rfl|refine And.intro ?_ ?_)) ?_
 rintro k ⟨hk,hk2,hI⟩
 by_cases hkl:k < a.length∧k < b.length
 ·obtain ⟨x,hx⟩ : ∃ x,a[k]? = some x:=⟨_,List.getElem?_eq_getElem hkl.1⟩
  obtain ⟨y,hy⟩ : ∃ y,b[k]? = some y:=⟨_,List.getElem?_eq_getElem hkl.2⟩
  have hs:zab (zab zbk) a b=if (zab zbk) x y=0 then zab (zab zbk) (a.drop (k+1)) (b.drop (k+1)) else (zab zbk) x y:=by rw [hI,zaL hx,zaL hy,zab]
  have cA:=ztT (T:=T) x y (hb x (List.mem_of_getElem? hx))
  (repeat' ((conv=>whnf);first|refine vA ?_|((first|refine vD ?_ ?_|refine vF ?_ ?_)<;>intro hc<;>try simp only [vL] at hc)|refine vJ fun hg=>?_|refine vT ?_|refine vN ‹_› ?_|(refine vO ?_ ?_;·omega)|(refine vU ?_ ?_;·kernel_rfl)|refine vX ?_|refine yD cA ⟨⟨rfl,rfl⟩,⟨rfl,rfl⟩,rfl⟩ rfl ?_|refine yD (zdZ _ _) ⟨⟨rfl,rfl⟩,⟨rfl,rfl⟩,rfl⟩ rfl ?_));all_goals try conv=>whnf
  ·rw [hs,if_neg hc]
  ·exact ⟨k+1,[],[],⟨by omega,by omega,by rw [hs,if_pos hc]⟩,by (omega),by (refine ⟨rfl,rfl,rfl,?_,?_⟩;repeat' first|exact trivial|exact rfl|refine And.intro ?_ ?_)⟩
  ·omega
 ·(repeat' ((conv=>whnf);first|refine vA ?_|(refine vF ?_ ?_<;>intro hc<;>try simp only [vL] at hc)|refine vJ fun hg=>?_|refine vT ?_|(refine vQ ?_ fun x hx=>?_;·omega)|refine vX ?_|refine yD (zdZ _ _) ⟨⟨rfl,rfl⟩,⟨rfl,rfl⟩,rfl⟩ rfl ?_));all_goals try conv=>whnf
  ·exfalso;omega
  ·rw [hI,zpL (by omega),List.length_map,List.length_map]
theorem zgM (x y:Tup) (h:Sml x):Fn Tryz.prog T zH [.d (dII x),.d (dII y)] [] (.d (.int .i64 (zaT x y))) []:=by
 have cB:=zqa (T:=T) x y (by have:=h.1;omega) (fun r hr=>by have:=h.2 r hr;omega)
 refine zi zy zl4 (by show 2≤8;decide) ?_
 (repeat' ((conv=>whnf);first|refine vT ?_|refine vX ?_|refine yD cB ⟨⟨rfl,rfl⟩,⟨rfl,rfl⟩,⟨rfl,rfl⟩,rfl⟩ rfl ?_));all_goals try conv=>whnf
 rfl
theorem zxU {α:Type} [Inhabited α] {d:Array α} {i j:Nat} (hi:i < d.size) (hj:j < d.size) {x:α} (h:x∈(Sort.swp d i j).toList):x∈d.toList:=by
 have a1:=List.mem_of_getElem? (zbt hi)
 have a2:=List.mem_of_getElem? (zbt hj)
 unfold Sort.swp at h
 simp only [Array.set!_eq_setIfInBounds,Array.toList_setIfInBounds] at h
 rcases List.mem_or_eq_of_mem_set h with h|rfl
 ·rcases List.mem_or_eq_of_mem_set h with h|rfl
  ·exact h
  ·exact a2
 ·exact a1
abbrev zfu (d:Array Tup):Ob := .row 1 (d.toList.map dII)
theorem zxj (d:Array Tup) (b:Nat) (hd : ∀ x∈d.toList,Sml x) (hb:b≤d.size) (hs:d.size≤1000) :
  Fn Tryz.prog T zaB [.own 0,.d (.int .i64 0),.d (.int .i64 (b:Int)),.d (.fn zH [])] [zfu d] (.tup []) [some (zfu (Sort.insertionSort ltT d 0 b))]:=by
 refine zS zy zci (by show 4≤53;decide) _ (fun e env mem n h=>h) ?_
 (repeat' ((conv=>whnf);first|refine vT ?_|(refine vO ?_ ?_;·omega)|fail));all_goals try conv=>whnf
 refine zo (fun ((ii,xs):Int×List D)=>[(0,.own 0),(1,.d (.int .i64 (0))),(2,.d (.int .i64 ((b:Int)))),(3,.d (.fn zH [])),(8,.d (.int .i64 (ii))),(za,.own 0)]) (fun ((ii,xs):Int×List D)=>[(0,some (.row 1 xs))]) 1 (fun ((ii,xs):Int×List D) => ∃ (i:Nat) (e:Array Tup),ii=i∧xs=e.toList.map dII∧0 < i∧i≤b+1∧e.size=d.size∧(∀ x∈e.toList,Sml x)∧Sort.insOuter ltT 0 b i e=Sort.insertionSort ltT d 0 b) (fun ((ii,xs):Int×List D)=>(b - ii).toNat) (((0:Int)+1,d.toList.map dII)) [(0,0)] [] (⟨1,d,by omega,rfl,by omega,by omega,rfl,hd,rfl⟩) (by (refine ⟨rfl,rfl,rfl,?_,?_⟩;repeat' first|exact trivial|exact rfl|refine And.intro ?_ ?_|refine ⟨_,rfl,?_⟩|decide)) ?_
 rintro ⟨_,_⟩ ⟨i,e,rfl,rfl,hi,hi2,he,hsm,hI⟩
 (repeat' ((conv=>whnf);first|refine vA ?_|(refine vF ?_ ?_<;>intro hc<;>try simp only [vL] at hc)|refine vT ?_));all_goals try conv=>whnf
 ·refine zo (fun ((jj,xs):Int×List D)=>[(0,.own 0),(1,.d (.int .i64 (0))),(2,.d (.int .i64 ((b:Int)))),(3,.d (.fn zH [])),(8,.d (.int .i64 ((i:Int)))),(9,.d (.int .i64 (jj))),(za,.own 0)]) (fun ((jj,xs):Int×List D)=>[(0,some (.row 1 xs))]) 1 (fun ((jj,xs):Int×List D) => ∃ (j:Nat) (g:Array Tup),jj=j∧xs=g.toList.map dII∧j≤i∧g.size=d.size∧(∀ x∈g.toList,Sml x)∧Sort.insInner ltT 0 j g=Sort.insInner ltT 0 i e) (fun ((jj,xs):Int×List D)=>jj.toNat) (((i:Int),e.toList.map dII)) [(0,0)] [] (⟨i,e,rfl,rfl,by omega,he,hsm,rfl⟩) (by (refine ⟨rfl,rfl,rfl,?_,?_⟩;repeat' first|exact trivial|exact rfl|refine And.intro ?_ ?_|refine ⟨_,rfl,?_⟩|decide)) ?_
  rintro ⟨_,_⟩ ⟨j,g,rfl,rfl,hj,hg,hgm,hJ⟩
  have hgl:g.toList.length=d.size:=by rw [Array.length_toList];exact hg
  have stop : ¬(0 < j∧ltT g[j]! g[j - 1]! = true)→Sort.insOuter ltT 0 b (i+1) g=Sort.insertionSort ltT d 0 b:=fun h=>by
   rw [← hI,Sort.insOuter.eq_def ltT 0 b i,if_pos (by omega),← hJ,zjg h]
  by_cases hj0:0 < j
  ·have hx1:g.toList[j]? = some g[j]! := zbt (by omega)
   have hx2:g.toList[((j:Int) - 1).toNat]? = some g[j - 1]! := by rw [show ((j:Int) - 1).toNat=j - 1 by omega];exact zbt (by omega)
   have co:=zgM (T:=T) g[j]! g[j - 1]! (hgm _ (List.mem_of_getElem? hx1))
   (repeat' ((conv=>whnf);first|refine vA ?_|(refine vF ?_ ?_<;>intro hc<;>try simp only [vL] at hc)|refine vT ?_|refine vN ‹_› ?_|((first|refine vO ?_ ?_|refine vP ?_ ?_);·first|omega|(simp only [vM] at *;omega))|(refine vU ?_ ?_;·kernel_rfl)|refine yD co ⟨⟨rfl,rfl⟩,⟨rfl,rfl⟩,rfl⟩ rfl ?_));all_goals try conv=>whnf
   ·refine ⟨(_,_),[(0,0)],[],?_,?_,by (refine ⟨rfl,rfl,rfl,?_,?_⟩;repeat' first|exact trivial|exact rfl|refine And.intro ?_ ?_|refine ⟨_,rfl,?_⟩|decide)⟩
    ·refine ⟨j - 1,Sort.swp g j (j - 1),by omega,?_,by omega,by rw [zq1,hg],fun x hx=>hgm x (zxU (by omega) (by omega) hx),?_⟩
     ·rw [show ((j:Int) - 1).toNat=j - 1 by omega] at hx2 ⊢
      exact zsg hx1 hx2
     ·exact (zjf (d:=g) (j:=j) (by omega) (zgs.2 ‹_›)).symm.trans hJ
    ·((simp only [vM] at *;omega))
   ·refine ⟨(_,_),[(0,0)],[],?_,?_,by (refine ⟨rfl,rfl,rfl,?_,?_⟩;repeat' first|exact trivial|exact rfl|refine And.intro ?_ ?_|refine ⟨_,rfl,?_⟩|decide)⟩
    ·exact ⟨i+1,g,by omega,rfl,by omega,by omega,hg,hgm,stop fun h=>by
      have:=zgs.1 h.2;omega⟩
    ·((simp only [vM] at *;omega))
   ·exfalso;omega
  ·(repeat' ((conv=>whnf);first|refine vA ?_|(refine vF ?_ ?_<;>intro hc<;>try simp only [vL] at hc)|refine vT ?_|(refine vQ ?_ fun x hx=>?_;·omega)|((first|refine vO ?_ ?_|refine vP ?_ ?_);·omega)|(refine vU ?_ ?_;·kernel_rfl)|fail));all_goals try conv=>whnf
   ·exfalso;omega
   ·refine ⟨(_,_),[(0,0)],[],?_,?_,by (refine ⟨rfl,rfl,rfl,?_,?_⟩;repeat' first|exact trivial|exact rfl|refine And.intro ?_ ?_|refine ⟨_,rfl,?_⟩|decide)⟩
    ·exact ⟨i+1,g,by omega,rfl,by omega,by omega,hg,hgm,stop fun h=>by omega⟩
    ·((simp only [vM] at *;omega))
 ·have e0:Sort.insertionSort ltT d 0 b=e:=by
   rw [← hI,Sort.insOuter,if_neg (by omega)]
  rw [e0]
  refine ⟨trivial,_,[(0,0)],[],rfl,.inl (by (repeat' first|exact rfl|refine ⟨_,rfl,?_⟩)),⟨by rfl,by rfl,by rfl,trivial,by (repeat' first|exact trivial|exact rfl|refine And.intro ?_ ?_|refine ⟨_,rfl,?_⟩|exact of_decide_eq_true rfl)⟩,by (repeat' first|exact trivial|exact rfl|refine And.intro ?_ ?_)⟩
theorem zxm (d:Array Tup) (hd : ∀ x∈d.toList,Sml x) (h12:d.size≤12) (l:Nat) :
  Fn Tryz.prog T za4 [.own 0,.d (.int .i64 0),.d (.int .i64 (d.size:Int)),.d (.int .i64 (l:Int)),.d (.fn zH [])] [zfu d] (.tup []) [some (zfu (Sort.pdq ltT d 0 d.size l true true))]:=by
 have hR:Sort.pdq ltT d 0 d.size l true true=Sort.insertionSort ltT d 0 d.size:=by rw [Sort.pdq,if_pos (by omega)]
 rw [hR]
 refine zS zy zdg (by show 5≤148;decide) _ (fun e env mem n h=>h) ?_
 (repeat' ((conv=>whnf);refine vT ?_));all_goals try conv=>whnf
 refine zo (fun (u:Unit)=>[(0,.own 0),(1,.d (.int .i64 (0))),(2,.d (.int .i64 ((d.size:Int)))),(3,.d (.int .i64 ((l:Int)))),(4,.d (.fn zH [])),(10,.d (.bool (true))),(11,.d (.bool (true))),(za,.own 0)]) (fun (u:Unit)=>[(0,some (zfu d))]) 1 (fun (u:Unit)=>True) (fun (u:Unit)=>0) (()) [(0,0)] [] (trivial) (by (refine ⟨rfl,rfl,rfl,?_,?_⟩;repeat' first|exact trivial|exact rfl|exact .inr (.inl ⟨rfl,rfl⟩)|refine And.intro ?_ ?_|refine ⟨_,rfl,?_⟩|decide)) ?_
 rintro u -
 (repeat' ((conv=>whnf);first|refine zgB.but 39 rfl ?_|(refine vF ?_ ?_<;>intro hc<;>try simp only [vL] at hc)|refine vT ?_|(refine vO ?_ ?_;·omega)|fail));all_goals try conv=>whnf
 ·refine zU.objs [0] (zxj d d.size hd (Nat.le_refl _) (by omega)) (by (repeat' first|exact rfl|refine And.intro ?_ ?_|refine ⟨_,rfl,?_⟩)) (by (repeat' first|exact rfl|refine And.intro ?_ ?_)) (by rfl) (by rfl) (by simp) ?_
  (repeat' ((conv=>whnf);refine vT ?_));all_goals try conv=>whnf
  refine ⟨trivial,_,[(0,0)],[],rfl,.inl (by (repeat' first|exact rfl|refine ⟨_,rfl,?_⟩)),⟨by rfl,by rfl,by rfl,trivial,by (repeat' first|exact trivial|exact rfl|refine And.intro ?_ ?_|refine ⟨_,rfl,?_⟩|exact of_decide_eq_true rfl)⟩,by (repeat' first|exact trivial|exact rfl|refine And.intro ?_ ?_)⟩
 all_goals (exfalso;omega)
theorem zp8 (d:Array Tup) (hd : ∀ x∈d.toList,Sml x) (h12:d.size≤12):Fn Tryz.prog T zam [.own 0,.d (.fn zH [])] [zfu d] (.tup []) [some (zfu (Sort.sort ltT d))]:=by
 have hn:((BitVec.ofInt 64 (d.size:Int)).toNat)=d.size:=by simp;omega
 have hl:(d.toList.map dII).length=d.size:=by simp
 have hp:=zxm (T:=T) d hd h12 (Sort.bitsLen d.size)
 refine zS zy zbI (by show 2≤14;decide) _ (fun e env mem n h=>h) ?_
 (repeat' ((conv=>whnf);first|refine vJ fun hg=>?_|refine vT ?_|refine yD (zp7 _) ⟨⟨rfl,rfl⟩,rfl⟩ rfl ?_));all_goals try conv=>whnf
 have e1:((d.toList.map dII).length:Int)=(d.size:Int):=by rw [hl]
 have e2:(Sort.bitsLen (BitVec.ofInt 64 ((d.toList.map dII).length:Int)).toNat:Int)=(Sort.bitsLen d.size:Int):=by rw [hl,hn]
 rw [← e1,← e2] at hp
 refine zU.objs [0] (hp) (by (repeat' first|exact rfl|refine And.intro ?_ ?_|refine ⟨_,rfl,?_⟩)) (by (repeat' first|exact rfl|refine And.intro ?_ ?_)) (by rfl) (by rfl) (by simp) ?_
 (repeat' ((conv=>whnf);refine vT ?_));all_goals try conv=>whnf
 refine ⟨trivial,_,[(0,0)],[],rfl,.inl (by (repeat' first|exact rfl|refine ⟨_,rfl,?_⟩)),⟨by rfl,by rfl,by rfl,trivial,by (repeat' first|exact trivial|exact rfl|refine And.intro ?_ ?_|refine ⟨_,rfl,?_⟩|exact of_decide_eq_true rfl)⟩,by (repeat' first|exact trivial|exact rfl|refine And.intro ?_ ?_)⟩
end Go.Ab
namespace Go.Ab
open Go Go.Proofs
set_option maxRecDepth 10000
set_option maxHeartbeats 4000000
variable {T:Nat→Obj→Prop}
theorem zqb (x y:Tup) (h:Sml x):Fn Tryz.prog T zcd [.d (dII x),.d (dII y)] [] (.d (.bool (decide (x=y)))) []:=by
 have cA:=zgM (T:=T) x y h
 refine zi zy zkb (by show 2≤9;decide) ?_
 (repeat' ((conv=>whnf);first|refine vT ?_|refine vZ ?_|refine yD cA ⟨⟨rfl,rfl⟩,⟨rfl,rfl⟩,rfl⟩ rfl ?_));all_goals try conv=>whnf
 rw [Bool.eq_iff_iff,decide_eq_true_eq,decide_eq_true_eq];exact zat.zero
abbrev fEq:D := .fn zcd []
theorem zri (d:Array Tup) (hm : ∀ x∈d.toList,Sml x) (hs:d.size≤1000) (hd:Steps d):Fn Tryz.prog T zz [.own 0,.d fEq] [zfu d] (.own 1) [none,some (zfu d)]:=by
 have hln:d.toList.length=d.size:=Array.length_toList
 refine zS zy zad (by show 2≤66;decide) _ (fun e env mem n h=>h) ?_
 (repeat' ((conv=>whnf);first|refine vA ?_|(refine vF ?_ ?_<;>intro hc<;>try simp only [vL] at hc)|refine vJ fun hg=>?_|refine vT ?_));all_goals try conv=>whnf
 ·refine ⟨trivial,_,[(1,0)],[],rfl,.inl (by (repeat' exact rfl)),⟨by rfl,by rfl,by rfl,trivial,by (repeat' first|exact trivial|exact rfl|refine And.intro ?_ ?_|refine ⟨_,rfl,?_⟩|exact of_decide_eq_true rfl)⟩,by (repeat' first|exact trivial|refine And.intro ?_ ?_)⟩
 refine zo (fun (i:Int)=>[(0,.own 0),(1,.d fEq),(5,.d (.int .i64 (i))),(za,.own 0)]) (fun (i:Int)=>[(0,some (zfu d))]) 1 (fun (i:Int) => ∃ k:Nat,i=k∧0 < k∧k≤d.size) (fun (i:Int)=>(d.size - i).toNat) (1) [(0,0)] [] (⟨1,rfl,by omega,by omega⟩) (by (refine ⟨rfl,rfl,rfl,?_,?_⟩;repeat' first|exact trivial|exact rfl|refine And.intro ?_ ?_|refine ⟨_,rfl,?_⟩|decide)) ?_
 rintro _ ⟨k,rfl,hk0,hk1⟩
 by_cases hkl:k < d.size
 ·have hx1:d.toList[k]? = some d[k]! := zbt hkl
  have hx2:d.toList[((k:Int) - 1).toNat]? = some d[k - 1]! := by rw [show ((k:Int) - 1).toNat=k - 1 by omega];exact zbt (by omega)
  have cA:=zqb (T:=T) d[k]! d[k - 1]! (hm _ (List.mem_of_getElem? hx1))
  (repeat' ((conv=>whnf);first|refine vA ?_|(refine vF ?_ ?_<;>intro hc<;>try simp only [vL] at hc)|refine vJ fun hg=>?_|refine vT ?_|refine vN ‹_› ?_|((first|refine vO ?_ ?_|refine vP ?_ ?_);·first|omega|(simp only [vM] at *;omega))|(refine vU ?_ ?_;·kernel_rfl)|refine yD cA ⟨⟨rfl,rfl⟩,⟨rfl,rfl⟩,rfl⟩ rfl ?_));all_goals try conv=>whnf
  ·exact absurd ‹d[k]! = d[k - 1]!› (hd k hk0 hkl)
  ·refine ⟨_,[(0,0)],[],?_,?_,by (refine ⟨rfl,rfl,rfl,?_,?_⟩;repeat' first|exact trivial|exact rfl|refine And.intro ?_ ?_|refine ⟨_,rfl,?_⟩|decide)⟩
   ·exact ⟨k+1,by omega,by omega,by omega⟩
   ·(omega)
  ·exfalso;omega
 ·(repeat' ((conv=>whnf);first|refine vA ?_|(refine vF ?_ ?_<;>intro hc<;>try simp only [vL] at hc)|refine vJ fun hg=>?_|refine vT ?_|(refine vQ ?_ fun x hx=>?_;·omega)|((first|refine vO ?_ ?_|refine vP ?_ ?_);·omega)|fail));all_goals try conv=>whnf
  ·exfalso;omega
  ·refine ⟨trivial,_,[(1,0)],[],rfl,.inl (by (repeat' exact rfl)),⟨by rfl,by rfl,by rfl,trivial,by (repeat' first|exact trivial|exact rfl|refine And.intro ?_ ?_|refine ⟨_,rfl,?_⟩|exact of_decide_eq_true rfl)⟩,by (repeat' first|exact trivial|refine And.intro ?_ ?_)⟩
theorem zp5 (d:Array Tup) (hm : ∀ x∈d.toList,Sml x) (hs:d.size≤1000) (hd : ¬Steps d):Fn Tryz.prog T zz [.own 0,.d fEq] [zfu d] (.own 1) [none,some (.row 1 ((ddA d d.size).map dII))]:=by
 generalize hR:(ddA d d.size).map dII=R
 have hln:d.toList.length=d.size:=Array.length_toList
 refine zS zy zad (by show 2≤66;decide) _ (fun e env mem n h=>h) ?_
 (repeat' ((conv=>whnf);first|refine vA ?_|(refine vF ?_ ?_<;>intro hc<;>try simp only [vL] at hc)|refine vJ fun hg=>?_|refine vT ?_));all_goals try conv=>whnf
 ·exact absurd (fun j hj0 hj1=>by omega) hd
 refine zo (fun (i:Int)=>[(0,.own 0),(1,.d fEq),(5,.d (.int .i64 (i))),(za,.own 0)]) (fun (i:Int)=>[(0,some (zfu d))]) 1 (fun (i:Int) => ∃ k:Nat,i=k∧0 < k∧k≤d.size ∧ ∀ j,0 < j→j < k→d[j]! ≠ d[j - 1]!) (fun (i:Int)=>(d.size - i).toNat) (1) [(0,0)] [] (⟨1,rfl,by omega,by omega,fun j _ _=>by omega⟩) (by (refine ⟨rfl,rfl,rfl,?_,?_⟩;repeat' first|exact trivial|exact rfl|refine And.intro ?_ ?_|refine ⟨_,rfl,?_⟩|decide)) ?_
 rintro _ ⟨k,rfl,hk0,hk1,hk⟩
 by_cases hkl:k < d.size
 ·have hx1:d.toList[k]? = some d[k]! := zbt hkl
  have hx2:d.toList[((k:Int) - 1).toNat]? = some d[k - 1]! := by rw [show ((k:Int) - 1).toNat=k - 1 by omega];exact zbt (by omega)
  have cA:=zqb (T:=T) d[k]! d[k - 1]! (hm _ (List.mem_of_getElem? hx1))
  (repeat' ((conv=>whnf);first|refine vA ?_|(refine vF ?_ ?_<;>intro hc<;>try simp only [vL] at hc)|refine vJ fun hg=>?_|refine vT ?_|refine vN ‹_› ?_|((first|refine vO ?_ ?_|refine vP ?_ ?_);·first|omega|(simp only [vM] at *;omega))|(refine vU ?_ ?_;·kernel_rfl)|refine yD cA ⟨⟨rfl,rfl⟩,⟨rfl,rfl⟩,rfl⟩ rfl ?_));all_goals try conv=>whnf
  ·have hkk:d[k]! = d[k - 1]! := ‹_›
   refine zo (fun ((w,q,xs):Int×Int×List D)=>[(0,.own 0),(1,.d fEq),(5,.d (.int .i64 (w))),(6,.view 0 k ((d.toList.map dII).length - k)),(7,.d (.int .i64 (q))),(za,.own 0)]) (fun ((w,q,xs):Int×Int×List D)=>[(0,some (.row 1 xs))]) 1 (fun ((w,q,xs):Int×Int×List D) => ∃ (a b:Nat) (e:Array Tup),w=a∧q=b∧xs=e.toList.map dII∧0 < b∧k+b≤d.size∧a < k+b∧e.size=d.size∧e.toList.take a=ddA d (k+b) ∧ ∀ j,k+b - 1≤j→j < d.size→e[j]! = d[j]!) (fun ((w,q,xs):Int×Int×List D)=>(d.size - k - q).toNat) (((k:Int),(1:Int),d.toList.map dII)) [(0,0)] [] (⟨k,1,d,rfl,rfl,rfl,by omega,by omega,by omega,rfl,zpP hk0 hkl hk hkk,fun _ _ _=>rfl⟩) (by (refine ⟨rfl,rfl,rfl,?_,?_⟩;repeat' first|exact trivial|exact rfl|refine And.intro ?_ ?_|refine ⟨_,rfl,?_⟩|decide)) ?_
   rintro ⟨_,_,_⟩ ⟨a,b,e,rfl,rfl,rfl,hb0,hb1,hab,he,ha,hj⟩
   have hle:e.toList.length=e.size:=Array.length_toList
   by_cases hbl:k+b < d.size
   ·have hy1:e.toList[k+((b:Nat):Int).toNat]? = some e[k+b]! := by rw [Int.toNat_natCast];exact zbt (by omega)
    have hy2:e.toList[k+(((b:Nat):Int) - 1).toNat]? = some e[k+b - 1]! := by rw [show k+(((b:Nat):Int) - 1).toNat=k+b - 1 by omega];exact zbt (by omega)
    have e1:=hj (k+b) (by omega) (by omega)
    have e2:=hj (k+b - 1) (by omega) (by omega)
    have cC:=zqb (T:=T) e[k+b]! e[k+b - 1]! (by rw [e1];exact hm _ (List.mem_of_getElem? (zbt hbl)))
    (repeat' ((conv=>whnf);first|refine vA ?_|refine vE ?_|(refine vF ?_ ?_<;>intro hc<;>try simp only [vL] at hc)|refine vT ?_|refine vN ‹_› ?_|((first|refine vO ?_ ?_|refine vP ?_ ?_);·first|omega|(simp only [vM] at *;omega))|(refine vU ?_ ?_;·kernel_rfl)|refine yD cC ⟨⟨rfl,rfl⟩,⟨rfl,rfl⟩,rfl⟩ rfl ?_));all_goals try conv=>whnf
    ·refine ⟨(_,_,_),[(0,0)],[],?_,?_,by (refine ⟨rfl,rfl,rfl,?_,?_⟩;repeat' first|exact trivial|exact rfl|refine And.intro ?_ ?_|refine ⟨_,rfl,?_⟩|decide)⟩
     ·exact ⟨a,b+1,e,rfl,by omega,rfl,by omega,by omega,by omega,he,
       by rw [ha,← Nat.add_assoc,zrQ (by omega) (by rw [← e1,← e2];assumption)],
       fun j h0 h1=>hj j (by omega) h1⟩
     ·((simp only [vM] at *;omega))
    ·refine ⟨(_,_,_),[(0,0)],[],?_,?_,by (refine ⟨rfl,rfl,rfl,?_,?_⟩;repeat' first|exact trivial|exact rfl|refine And.intro ?_ ?_|refine ⟨_,rfl,?_⟩|decide)⟩
     ·exact ⟨a+1,b+1,e.setIfInBounds a e[k+b]!,by omega,by omega,by simp [List.map_set],by omega,by omega,by omega,by simp [he],
       by rw [zqX (by omega),ha,← Nat.add_assoc,ztH (by rw [← e1,← e2];assumption),e1],
       fun j h0 h1=>by rw [zr9 (by omega)];exact hj j (by omega) h1⟩
     ·((simp only [vM] at *;omega))
    ·exfalso;omega
   ·(repeat' ((conv=>whnf);first|refine vA ?_|(refine vF ?_ ?_<;>intro hc<;>try simp only [vL] at hc)|refine vT ?_|(refine vQ ?_ fun x hx=>?_;·omega)|((first|refine vO ?_ ?_|refine vP ?_ ?_);·first|omega|(simp only [vM] at *;omega))|fail));all_goals try conv=>whnf
    ·exfalso;omega
    ·have hE:=zrP (enc:=dII) (e:=e) (z:=D.arr 1 []) (a:=a) (n:=(e.toList.map dII).length - a) (by omega)
     rw [ha,show k+b=d.size by omega,hR] at hE
     subst hE
     refine zms.mk (by simp only [List.length_append,List.length_take,List.length_replicate,List.length_drop,List.length_map,hle];omega) ?_
     (repeat' ((conv=>whnf);refine vT ?_));all_goals try conv=>whnf
     refine ⟨trivial,_,[(1,1)],[],rfl,.inl (by (repeat' exact rfl)),⟨by rfl,by rfl,by rfl,trivial,by (repeat' first|exact trivial|exact rfl|refine And.intro ?_ ?_|refine ⟨_,rfl,?_⟩|exact of_decide_eq_true rfl)⟩,by (repeat' first|exact trivial|refine And.intro ?_ ?_)⟩
  ·refine ⟨_,[(0,0)],[],?_,?_,by (refine ⟨rfl,rfl,rfl,?_,?_⟩;repeat' first|exact trivial|exact rfl|refine And.intro ?_ ?_|refine ⟨_,rfl,?_⟩|decide)⟩
   ·exact ⟨k+1,by omega,by omega,by omega,fun j h0 h1=>by
     by_cases hjk:j=k
     ·subst hjk;assumption
     ·exact hk j h0 (by omega)⟩
   ·(omega)
  ·exfalso;omega
 ·(repeat' ((conv=>whnf);first|refine vA ?_|(refine vF ?_ ?_<;>intro hc<;>try simp only [vL] at hc)|refine vJ fun hg=>?_|refine vT ?_|(refine vQ ?_ fun x hx=>?_;·omega)|((first|refine vO ?_ ?_|refine vP ?_ ?_);·omega)|fail));all_goals try conv=>whnf
  ·exfalso;omega
  ·exact absurd (fun j h0 h1=>hk j h0 (by omega)) hd
theorem zvC (d:Array Tup) (hm : ∀ x∈d.toList,Sml x) (hs:d.size≤1000):Fn Tryz.prog T zz [.own 0,.d fEq] [zfu d] (.own 1) [none,some (.row 1 ((ddA d d.size).map dII))]:=by
 by_cases hd:Steps d
 ·have:=zri (T:=T) d hm hs hd
  rw [zkJ (Nat.le_refl _) hd,List.take_of_length_le (by rw [Array.length_toList];exact Nat.le_refl _)]
  exact this
 ·exact zp5 d hm hs hd
theorem ztO (ts:List Tup) (h:ts≠[]) (hl:ts.length≤1000):Fn Tryz.prog T zZ [.d (.arr 1 (ts.map dII))] [] (.own 0) [some (.row 1 (ts.map dII))]:=by
 refine zS zy zb2 (by show 1≤8;decide) _ (fun e env mem n h=>h) ?_
 (repeat' ((conv=>whnf);first|refine vA ?_|refine vB fun b hb=>?_|refine vE ?_|(refine vF ?_ ?_<;>intro hc)|refine vT ?_|(refine vP ?_ ?_;·(simp only [vM] at *;omega))|fail));all_goals try conv=>whnf
 ·refine ⟨trivial,_,[(0,1)],[],rfl,.inl (by (repeat' exact rfl)),⟨by rfl,by rfl,by rfl,trivial,by (repeat' first|exact trivial|exact rfl|refine And.intro ?_ ?_|refine ⟨_,rfl,?_⟩|exact of_decide_eq_true rfl)⟩,by (repeat' exact trivial)⟩
 ·exact absurd (List.map_eq_nil_iff.1 (hb (by simpa using hc))) h
theorem zyc (S:List Tup) (ts:List Tup) (hS:zb4 ts S) (hl:S.length≤1000) (hm : ∀ x∈S,Sml x) (t:Tup) :
  ∃ b:Bool,Fn Tryz.prog T zO [.d (.arr 1 (S.map dII)),.d (dII t),.d (.fn zH [])] [] (.d (.tup [.int .i64 (rkN ts t:Int),.bool b])) []:=by
 have key : ∀ i:Nat,i≤S.length→(∀ (k:Nat) x,k < i→S[k]? = some x→zaT x t < 0)→(∀ (k:Nat) x,i≤k→S[k]? = some x → ¬zaT x t < 0)→i=rkN ts t:=fun i h1 h2 h3=>hS.rk h1 h2 h3
 refine ⟨decide (rkN ts t < S.length∧zaT (S.getD (rkN ts t) []) t=0),?_⟩
 refine zi zy zar (by show 3≤49;decide) ?_
 (repeat' ((conv=>whnf);first|refine vA ?_|refine vJ fun hg=>?_|refine vT ?_));all_goals try conv=>whnf
 refine zaY (fun ((i,j):Nat×Nat)=>[(0,.d (.arr 1 (S.map dII))),(1,.d (dII t)),(2,.d (.fn zH [])),(8,.d (.int .i64 ((S.map dII).length:Int))),(9,.d (.int .i64 ((i:Int)))),(10,.d (.int .i64 ((j:Int))))]) (fun ((i,j):Nat×Nat)=>i≤j∧j≤S.length∧(∀ (k:Nat) x,k < i→S[k]? = some x→zaT x t < 0)∧(∀ (k:Nat) x,j≤k→S[k]? = some x → ¬zaT x t < 0)) (fun ((i,j):Nat×Nat)=>j - i) ((0,(S.map dII).length)) (⟨by omega,by simp,fun k x hk=>by omega,fun k x hk hx=>by have:=(List.getElem?_eq_some_iff.1 hx).1;simp at hk;omega⟩) (by (repeat' first|exact trivial|exact rfl|refine And.intro ?_ ?_)) ?_
 rintro ⟨i,j⟩ ⟨hij,hj,h1,h2⟩
 by_cases hlt:i < j
 ·have hh:(i+j) / 2 < S.length:=by omega
  have e2:(BitVec.ofInt 64 ((i:Int)+(j:Int)) >>> BitVec.toNat (1:BitVec 64)).toNat=(i+j) / 2:=by
   rw [BitVec.toNat_ushiftRight,show BitVec.toNat (1:BitVec 64)=1 from rfl,show ((i:Int)+(j:Int))=((i+j:Nat):Int) by omega,zuj (by omega),Nat.shiftRight_eq_div_pow,Nat.pow_one]
  have hx:S[(BitVec.ofInt 64 ((i:Int)+(j:Int)) >>> BitVec.toNat (1:BitVec 64)).toNat]? = some (S.getD ((i+j) / 2) []):=by rw [e2];exact zbb hh
  have hx':=zbb (d:=[]) hh
  have cA:=zgM (T:=T) (S.getD ((i+j) / 2) []) t (hm _ (List.mem_of_getElem? hx))
  (repeat' ((conv=>whnf);first|refine vA ?_|(refine vF ?_ ?_<;>intro hc<;>try simp only [vL] at hc)|refine vT ?_|refine vN ‹_› ?_|(refine vQ ?_ fun x hx=>?_;·omega)|(refine vO ?_ ?_;·omega)|refine yD cA ⟨⟨rfl,rfl⟩,⟨rfl,rfl⟩,rfl⟩ rfl ?_));all_goals try conv=>whnf
  ·refine ⟨((BitVec.ofInt 64 ((i:Int)+(j:Int)) >>> BitVec.toNat (1:BitVec 64)).toNat+1,j),[],[],?_,?_,by (refine ⟨rfl,rfl,rfl,?_,?_⟩;repeat' first|exact trivial|exact rfl|refine And.intro ?_ ?_)⟩
   ·rw [e2]
    refine ⟨by omega,hj,fun k x hk hxk=>?_,h2⟩
    by_cases e:k=(i+j) / 2
    ·subst e;rw [hx'] at hxk;cases hxk;assumption
    ·by_cases e':k < (i+j) / 2
     ·exact hS.lt_of hx' hxk (by omega) ‹_›
     ·exfalso;omega
   ·((simp only [vM] at *;omega))
  ·refine ⟨(i,(BitVec.ofInt 64 ((i:Int)+(j:Int)) >>> BitVec.toNat (1:BitVec 64)).toNat),[],[],?_,?_,by (refine ⟨rfl,rfl,rfl,?_,?_⟩;repeat' first|exact trivial|exact rfl|refine And.intro ?_ ?_)⟩
   ·rw [e2]
    refine ⟨by omega,by omega,h1,fun k x hk hxk hlk=>?_⟩
    have:=hS.lt_of hxk hx' hk hlk
    omega
   ·((simp only [vM] at *;omega))
  iterate 2 (exfalso;omega)
 ·have e0:j=i:=by omega
  subst e0
  have ek:=key j hj h1 h2
  by_cases hjl:j < S.length
  ·have hx:=zbb (d:=[]) hjl
   have cA:=zgM (T:=T) (S.getD j []) t (hm _ (List.mem_of_getElem? hx))
   (repeat' ((conv=>whnf);first|refine vA ?_|(refine vF ?_ ?_<;>intro hc<;>try simp only [vL] at hc)|refine vT ?_|refine vN ‹_› ?_|(refine vQ ?_ fun x hx=>?_;·omega)|(refine vO ?_ ?_;·omega)|refine yD cA ⟨⟨rfl,rfl⟩,⟨rfl,rfl⟩,rfl⟩ rfl ?_));all_goals try conv=>whnf
   ·exfalso;omega
   ·show some (D.tup [.int .i64 (j:Int),.bool (decide (zaT (S.getD j []) t=0))])=_
    rw [← ek];simp [hjl]
   ·exfalso;omega
  ·(repeat' ((conv=>whnf);first|refine vA ?_|(refine vF ?_ ?_<;>intro hc<;>try simp only [vL] at hc)|refine vT ?_|(refine vQ ?_ fun x hx=>?_;·omega)|(refine vO ?_ ?_;·omega)|fail));all_goals try conv=>whnf
   iterate 2 (exfalso;omega)
   show some (D.tup [.int .i64 (j:Int),.bool false])=_
   rw [← ek];simp [hjl]
theorem ztV (ts:List Tup) (h0:ts≠[]) (h12:ts.length≤12) (hm : ∀ x∈ts,Sml x):Fn Tryz.prog T zeu [.d (.arr 1 (ts.map dII))] [] (.d (.tup [dN (ts.map (rkN ts)),.int .i64 (cnN ts:Int)])) []:=by
 have c1:=ztO (T:=T) ts h0 (by omega)
 have c2:=zp8 (T:=T) ts.toArray hm (by simpa using h12)
 have hS:=ztf (ts:=ts) rfl
 have hp:=zoU ts.toArray
 have hms : ∀ x∈(Sort.sort ltT ts.toArray).toList,Sml x:=fun x hx=>hm x (hp.mem_iff.1 hx)
 have hsz:(Sort.sort ltT ts.toArray).size=ts.length:=by have:=hp.length_eq;simpa using this
 generalize Sort.sort ltT ts.toArray=A at c2 hS hp hms hsz
 have hmd : ∀ x∈ddA A A.size,Sml x:=fun x hx=>hm x ((hS.mem x).1 hx)
 have hcn:=hS.cnt
 have hle:=hS.le
 have cb:=fun t=>zyc (T:=T) (ddA A A.size) ts hS (by omega) hmd t
 have c3:=zvC (T:=T) A hms (by omega)
 generalize ddA A A.size=S at hS hmd hcn hle cb c3
 refine zi zy zl5 (by show 1≤37;decide) ?_
 (repeat' ((conv=>whnf);refine vT ?_));all_goals try conv=>whnf
 refine zU.res (c1) (by (repeat refine ⟨⟨rfl,rfl⟩,?_⟩);rfl) ?_
 (repeat' ((conv=>whnf);refine vT ?_));all_goals try conv=>whnf
 refine zU.objs [0] (c2) (by (repeat' first|exact rfl|refine And.intro ?_ ?_|refine ⟨_,rfl,?_⟩)) (by (repeat' first|exact rfl|refine And.intro ?_ ?_)) (by rfl) (by rfl) (by simp) ?_
 (repeat' ((conv=>whnf);refine vT ?_));all_goals try conv=>whnf
 refine zU.objs [0] (c3) (by (repeat' first|exact rfl|refine And.intro ?_ ?_|refine ⟨_,rfl,?_⟩)) (by (repeat' first|exact rfl|refine And.intro ?_ ?_)) (by rfl) (by rfl) (by simp) ?_
 (repeat' ((conv=>whnf);first|refine vA ?_|refine vJ fun hg=>?_|refine vT ?_|(refine vP ?_ ?_;·(simp only [vM] at *;omega))|fail));all_goals try conv=>whnf
 refine zo (fun ((k,zs):Nat×List D)=>[(4,.own 0),(5,.own 1),(17,.d (.arr 1 (ts.map dII))),(18,.d (.int .i64 ((ts.map dII).length:Int))),(19,.d (.int .i64 ((k:Int))))]) (fun ((k,zs):Nat×List D)=>[(0,some (.row 1 (S.map dII))),(1,some (.row 1 zs))]) 2 (fun ((k,zs):Nat×List D)=>k≤ts.length∧zs=(List.range ts.length).map fun i=>D.int .i64 (if i < k then (rkN ts (ts.getD i []):Int) else 0)) (fun ((k,zs):Nat×List D)=>ts.length - k) ((0,List.replicate (((ts.map dII).length:Int)).toNat (D.int .i64 0))) [(0,1),(1,2)] [] (⟨by omega,by simp only [Nat.not_lt_zero,if_false];rw [List.length_map,Int.toNat_natCast];exact z8 _ _⟩) (by (refine ⟨rfl,rfl,rfl,?_,?_⟩;repeat' first|exact trivial|exact rfl|refine And.intro ?_ ?_|refine ⟨_,rfl,?_⟩|decide)) ?_
 rintro ⟨k,zs⟩ ⟨hk,hz⟩
 have hzl:zs.length=ts.length:=by rw [hz];simp
 by_cases hkl:k < ts.length
 ·have hx:=zbb (d:=[]) hkl
  obtain ⟨b,cbk⟩:=cb (ts.getD k [])
  (repeat' ((conv=>whnf);first|refine vA ?_|(refine vF ?_ ?_<;>intro hc<;>try simp only [vL] at hc)|refine vJ fun hg=>?_|refine vT ?_|refine vN ‹_› ?_|((first|refine vO ?_ ?_|refine vP ?_ ?_);·omega)|refine yD cbk (by (repeat refine ⟨⟨rfl,rfl⟩,?_⟩);rfl) rfl ?_));all_goals try conv=>whnf
  ·refine ⟨(k+1,_),[(0,0),(1,1)],[],?_,?_,by (refine ⟨rfl,rfl,rfl,?_,?_⟩;repeat' first|exact trivial|exact rfl|refine And.intro ?_ ?_|refine ⟨_,rfl,?_⟩|decide)⟩
   ·refine ⟨by omega,?_⟩
    rw [hz]
    refine (zdX _).trans (zL fun u hu=>?_)
    show (if u=k then _ else _)=_
    by_cases e:u=k
    ·subst e;rw [if_pos rfl,if_pos (by omega)]
    ·rw [if_neg e]
     by_cases e2:u < k
     ·rw [if_pos e2,if_pos (by omega)]
     ·rw [if_neg e2,if_neg (by omega)]
   ·((simp only [vM] at *;omega))
  ·exfalso;omega
 ·(repeat' ((conv=>whnf);first|refine vA ?_|(refine vF ?_ ?_<;>intro hc<;>try simp only [vL] at hc)|refine vJ fun hg=>?_|refine vT ?_|(refine vQ ?_ fun x hx=>?_;·omega)|fail));all_goals try conv=>whnf
  ·exfalso;omega
  ·have e0:k=ts.length:=by omega
   subst e0
   have hzz:zs=(ts.map (rkN ts)).map fun (x:Nat)=>D.int .i64 (x:Int):=by
    rw [hz]
    refine zo9 (d := .nil) (by simp) fun i hi=>?_
    rw [List.length_map,List.length_range] at hi
    simp [List.getD,hi]
   refine congrArg some (show D.tup [.arr 1 zs,.int .i64 ((S.map dII).length:Int)]=_ from ?_)
   rw [hzz,List.length_map,hcn]
   simp [Function.comp_def]
end Go.Ab
namespace Go.Ab
open Go Go.Proofs
set_option maxRecDepth 10000
set_option maxHeartbeats 4000000
variable {T:Nat→Obj→Prop}
def ltI (x y:Int):Bool:=decide (x < y)
abbrev zbq (d:Array (Int)):Ob := .row 1 (d.toList.map (D.int .i64))
theorem zrj (x y:Int):Fn Tryz.prog T zhh [.d (.int .i64 x),.d (.int .i64 y)] [] (.d (.bool (ltI x y))) []:=by
 have hn : ∀ z:Int,Fn Tryz.prog T zet [.d (.int .i64 z)] [] (.d (.bool false)) []:=fun z=>by
  refine zi zy zgN (by show 1≤6;decide) ?_
  (repeat' ((conv=>whnf);first|refine vT ?_|refine vZ ?_));all_goals try conv=>whnf
  simp
 refine zi zy zm8 (by show 2≤17;decide) ?_
 (repeat' ((conv=>whnf);first|refine vA ?_|refine vH ?_|refine vT ?_|refine vZ ?_|refine yD (hn _) (by (repeat refine ⟨⟨rfl,rfl⟩,?_⟩);rfl) rfl ?_));all_goals try conv=>whnf
 rfl
theorem zsQ (d:Array (Int)) (a b:Nat) (hb:b≤d.size) (hs:d.size≤1073741824) (ha:a≤b) :
  Fn Tryz.prog T zax [.own 0,.d (.int .i64 (a:Int)),.d (.int .i64 (b:Int))] [zbq d] (.tup []) [some (zbq (Sort.insertionSort ltI d a b))]:=by
 refine zS zy zeg (by show 3≤49;decide) _ (fun e env mem n h=>h) ?_
 (repeat' ((conv=>whnf);first|refine vT ?_|(refine vO ?_ ?_;·omega)|fail));all_goals try conv=>whnf
 refine zo (fun ((ii,xs):Int×List D)=>[(0,.own 0),(1,.d (.int .i64 ((a:Int)))),(2,.d (.int .i64 ((b:Int)))),(6,.d (.int .i64 (ii))),(za,.own 0)]) (fun ((ii,xs):Int×List D)=>[(0,some (.row 1 xs))]) 1 (fun ((ii,xs):Int×List D) => ∃ (i:Nat) (e:Array (Int)),ii=i∧xs=e.toList.map (D.int .i64)∧a < i∧i≤b+1∧e.size=d.size∧Sort.insOuter ltI a b i e=Sort.insertionSort ltI d a b) (fun ((ii,xs):Int×List D)=>(b - ii).toNat) (((a:Int)+1,d.toList.map (D.int .i64))) [(0,0)] [] (⟨a+1,d,by omega,rfl,by omega,by omega,rfl,rfl⟩) (by (refine ⟨rfl,rfl,rfl,?_,?_⟩;repeat' first|exact trivial|exact rfl|refine And.intro ?_ ?_|refine ⟨_,rfl,?_⟩|decide)) ?_
 rintro ⟨_,_⟩ ⟨i,e,rfl,rfl,hi,hi2,he,hI⟩
 (repeat' ((conv=>whnf);first|refine vA ?_|(refine vF ?_ ?_<;>intro hc<;>try simp only [vL] at hc)|refine vT ?_));all_goals try conv=>whnf
 ·refine zo (fun ((jj,xs):Int×List D)=>[(0,.own 0),(1,.d (.int .i64 ((a:Int)))),(2,.d (.int .i64 ((b:Int)))),(6,.d (.int .i64 ((i:Int)))),(7,.d (.int .i64 (jj))),(za,.own 0)]) (fun ((jj,xs):Int×List D)=>[(0,some (.row 1 xs))]) 1 (fun ((jj,xs):Int×List D) => ∃ (j:Nat) (g:Array (Int)),jj=j∧xs=g.toList.map (D.int .i64)∧j≤i∧g.size=d.size∧Sort.insInner ltI a j g=Sort.insInner ltI a i e) (fun ((jj,xs):Int×List D)=>jj.toNat) (((i:Int),e.toList.map (D.int .i64))) [(0,0)] [] (⟨i,e,rfl,rfl,by omega,he,rfl⟩) (by (refine ⟨rfl,rfl,rfl,?_,?_⟩;repeat' first|exact trivial|exact rfl|refine And.intro ?_ ?_|refine ⟨_,rfl,?_⟩|decide)) ?_
  rintro ⟨_,_⟩ ⟨j,g,rfl,rfl,hj,hg,hJ⟩
  have hgl:g.toList.length=d.size:=by rw [Array.length_toList];exact hg
  have stop : ¬(a < j∧ltI g[j]! g[j - 1]! = true)→Sort.insOuter ltI a b (i+1) g=Sort.insertionSort ltI d a b:=fun h=>by
   rw [← hI,Sort.insOuter.eq_def ltI a b i,if_pos (by omega),← hJ,zjg h]
  (repeat' ((conv=>whnf);first|refine vA ?_|(refine vF ?_ ?_<;>intro hc<;>try simp only [vL] at hc)|refine vT ?_|refine vN ‹_› ?_|(refine vQ ?_ fun x hx=>?_;·omega)|((first|refine vO ?_ ?_|refine vP ?_ ?_);·first|omega|(simp only [vM] at *;omega))|(refine vU ?_ ?_;·kernel_rfl)|refine yD (zrj _ _) ⟨⟨rfl,rfl⟩,⟨rfl,rfl⟩,rfl⟩ rfl ?_));all_goals try conv=>whnf
  ·have e1:((j:Int) - 1).toNat=j - 1:=by omega
   have hx1:g.toList[j]? = some _:=‹g.toList[(j:Int).toNat]? = some _›
   have hx2:g.toList[j - 1]? = some x:=by rw [← e1];exact hx
   refine ⟨(_,_),[(0,0)],[],?_,?_,by (refine ⟨rfl,rfl,rfl,?_,?_⟩;repeat' first|exact trivial|exact rfl|refine And.intro ?_ ?_|refine ⟨_,rfl,?_⟩|decide)⟩
   ·refine ⟨j - 1,Sort.swp g j (j - 1),by omega,?_,by omega,by rw [zq1,hg],?_⟩
    ·rw [e1];exact zsg hx1 hx2
    ·exact (zjf (d:=g) (j:=j) (by omega) (by rw [(zaK hx1).1,(zaK hx2).1];exact decide_eq_true hc)).symm.trans hJ
   ·((simp only [vM] at *;omega))
  ·have e1:((j:Int) - 1).toNat=j - 1:=by omega
   have hx1:g.toList[j]? = some _:=‹g.toList[(j:Int).toNat]? = some _›
   have hx2:g.toList[j - 1]? = some x:=by rw [← e1];exact hx
   refine ⟨(_,_),[(0,0)],[],?_,?_,by (refine ⟨rfl,rfl,rfl,?_,?_⟩;repeat' first|exact trivial|exact rfl|refine And.intro ?_ ?_|refine ⟨_,rfl,?_⟩|decide)⟩
   ·exact ⟨i+1,g,by omega,rfl,by omega,by omega,hg,stop fun h=>by
     rw [(zaK hx1).1,(zaK hx2).1] at h
     have:=of_decide_eq_true h.2;omega⟩
   ·((simp only [vM] at *;omega))
  ·refine ⟨(_,_),[(0,0)],[],?_,?_,by (refine ⟨rfl,rfl,rfl,?_,?_⟩;repeat' first|exact trivial|exact rfl|refine And.intro ?_ ?_|refine ⟨_,rfl,?_⟩|decide)⟩
   ·exact ⟨i+1,g,by omega,rfl,by omega,by omega,hg,stop fun h=>by omega⟩
   ·((simp only [vM] at *;omega))
 ·have e0:Sort.insertionSort ltI d a b=e:=by
   rw [← hI,Sort.insOuter,if_neg (by omega)]
  rw [e0]
  refine ⟨trivial,_,[(0,0)],[],rfl,.inl (by (repeat' first|exact rfl|refine ⟨_,rfl,?_⟩)),⟨by rfl,by rfl,by rfl,trivial,by (repeat' first|exact trivial|exact rfl|refine And.intro ?_ ?_|refine ⟨_,rfl,?_⟩|exact of_decide_eq_true rfl)⟩,by (repeat' first|exact trivial|exact rfl|refine And.intro ?_ ?_)⟩
theorem zrp (d:Array Int) {a b:Nat} {ai bi:Int} (ea:ai=a) (eb:bi=b) (hb:b≤d.size) (hs:d.size≤1073741824) (ha:a≤b) :
  Fn Tryz.prog T zax [.own 0,.d (.int .i64 ai),.d (.int .i64 bi)] [zbq d] (.tup []) [some (zbq (Sort.insertionSort ltI d a b))]:=by
 subst ea;subst eb;exact zsQ d a b hb hs ha
theorem zsR (d:Array Int) {b l:Nat} {bi li:Int} (eb:bi=b) (el:li=l) (h12:b≤12) (hb:b≤d.size) (hs:d.size≤536870912) :
  Fn Tryz.prog T zcQ [.own 0,.d (.int .i64 0),.d (.int .i64 bi),.d (.int .i64 li)] [zbq d] (.tup []) [some (zbq (Sort.pdq ltI d 0 b l true true))]:=by
 subst eb;subst el
 have hR:Sort.pdq ltI d 0 b l true true=Sort.insertionSort ltI d 0 b:=by rw [Sort.pdq,if_pos (by omega)]
 rw [hR]
 refine zS zy zfo (by show 4≤134;decide) _ (fun e env mem n h=>h) ?_
 (repeat' ((conv=>whnf);refine vT ?_));all_goals try conv=>whnf
 refine zo (fun (u:Unit)=>[(0,.own 0),(1,.d (.int .i64 (0))),(2,.d (.int .i64 ((b:Int)))),(3,.d (.int .i64 ((l:Int)))),(8,.d (.bool (true))),(9,.d (.bool (true))),(za,.own 0)]) (fun (u:Unit)=>[(0,some (zbq d))]) 1 (fun (u:Unit)=>True) (fun (u:Unit)=>0) (()) [(0,0)] [] (trivial) (by (refine ⟨rfl,rfl,rfl,?_,?_⟩;repeat' first|exact trivial|exact rfl|exact .inr (.inl ⟨rfl,rfl⟩)|refine And.intro ?_ ?_|refine ⟨_,rfl,?_⟩|decide)) ?_
 rintro u -
 (repeat' ((conv=>whnf);first|refine zgB.but 35 rfl ?_|(refine vF ?_ ?_<;>intro hc<;>try simp only [vL] at hc)|refine vT ?_|(refine vO ?_ ?_;·omega)|fail));all_goals try conv=>whnf
 ·refine zU.objs [0] (zrp d (a:=0) (b:=b) rfl rfl (by omega) (by omega) (by omega)) (by (repeat' first|exact rfl|refine And.intro ?_ ?_|refine ⟨_,rfl,?_⟩)) (by (repeat' first|exact rfl|refine And.intro ?_ ?_)) (by rfl) (by rfl) (by simp) ?_
  (repeat' ((conv=>whnf);refine vT ?_));all_goals try conv=>whnf
  refine ⟨trivial,_,[(0,0)],[],rfl,.inl (by (repeat' first|exact rfl|refine ⟨_,rfl,?_⟩)),⟨by rfl,by rfl,by rfl,trivial,by (repeat' first|exact trivial|exact rfl|refine And.intro ?_ ?_|refine ⟨_,rfl,?_⟩|exact of_decide_eq_true rfl)⟩,by (repeat' first|exact trivial|exact rfl|refine And.intro ?_ ?_)⟩
 all_goals (exfalso;omega)
set_option maxHeartbeats 1000000 in
theorem zlo (d:Array Int) (hs:d.size≤12):Fn Tryz.prog T zd8 [.own 0] [zbq d] (.tup []) [some (zbq (Sort.sort ltI d))]:=by
 have hn:((BitVec.ofInt 64 (d.size:Int)).toNat)=d.size:=by simp;omega
 refine zS zy zha (by show 1≤11;decide) _ (fun e env mem n h=>h) ?_
 (repeat' ((conv=>whnf);first|refine vJ fun hg=>?_|refine vT ?_|refine yD (zp7 _) ⟨⟨rfl,rfl⟩,rfl⟩ rfl ?_));all_goals try conv=>whnf
 refine zU.objs [0] (zsR d (b:=d.size) (l:=Sort.bitsLen d.size) (bi:=((d.toList.map (D.int .i64)).length:Int)) (li:=((Sort.bitsLen (BitVec.ofInt 64 ((d.toList.map (D.int .i64)).length:Int)).toNat:Nat):Int)) (by simp) (by rw [List.length_map,Array.length_toList,hn]) hs (Nat.le_refl _) (by omega)) (by (repeat' first|exact rfl|refine And.intro ?_ ?_|refine ⟨_,rfl,?_⟩)) (by (repeat' first|exact rfl|refine And.intro ?_ ?_)) (by rfl) (by rfl) (by simp) ?_
 (repeat' ((conv=>whnf);refine vT ?_));all_goals try conv=>whnf
 refine ⟨trivial,_,[(0,0)],[],rfl,.inl (by (repeat' first|exact rfl|refine ⟨_,rfl,?_⟩)),⟨by rfl,by rfl,by rfl,trivial,by (repeat' first|exact trivial|exact rfl|refine And.intro ?_ ?_|refine ⟨_,rfl,?_⟩|exact of_decide_eq_true rfl)⟩,by (repeat' first|exact trivial|exact rfl|refine And.intro ?_ ?_)⟩
set_option maxHeartbeats 1000000 in
theorem zjZ (d:Array Int) (hs:d.size≤536870912) (hd : ¬Steps d):Fn Tryz.prog T zaH [.own 0] [zbq d] (.own 1) [none,some (.row 1 ((ddA d d.size).map (D.int .i64)))]:=by
 generalize hR:(ddA d d.size).map (D.int .i64)=R
 have hln:d.toList.length=d.size:=Array.length_toList
 refine zS zy zde (by show 1≤61;decide) _ (fun e env mem n h=>h) ?_
 (repeat' ((conv=>whnf);first|refine vA ?_|(refine vF ?_ ?_<;>intro hc<;>try simp only [vL] at hc)|refine vJ fun hg=>?_|refine vT ?_));all_goals try conv=>whnf
 ·exact absurd (fun j hj0 hj1=>by omega) hd
 refine zo (fun (i:Int)=>[(0,.own 0),(3,.d (.int .i64 (i))),(za,.own 0)]) (fun (i:Int)=>[(0,some (zbq d))]) 1 (fun (i:Int) => ∃ k:Nat,i=k∧0 < k∧k≤d.size ∧ ∀ j,0 < j→j < k→d[j]! ≠ d[j - 1]!) (fun (i:Int)=>(d.size - i).toNat) (1) [(0,0)] [] (⟨1,rfl,by omega,by omega,fun j _ _=>by omega⟩) (by (refine ⟨rfl,rfl,rfl,?_,?_⟩;repeat' first|exact trivial|exact rfl|refine And.intro ?_ ?_|refine ⟨_,rfl,?_⟩|decide)) ?_
 rintro _ ⟨k,rfl,hk0,hk1,hk⟩
 (repeat' ((conv=>whnf);first|refine vA ?_|(refine vF ?_ ?_<;>intro hc<;>try simp only [vL] at hc)|refine vJ fun hg=>?_|refine vT ?_|(refine vQ ?_ fun x hx=>?_;·omega)|((first|refine vO ?_ ?_|refine vP ?_ ?_);·first|omega|(simp only [vM] at *;omega))|(refine vU ?_ ?_;·kernel_rfl)|fail));all_goals try conv=>whnf
 ·have g1:=zaK (zfM k ‹d.toList[(k:Int).toNat]? = some _› rfl)
  have g2:=zaK (zfM (k - 1) ‹d.toList[((k:Int) - 1).toNat]? = some _› (by omega))
  have hkk:d[k]! = d[k - 1]! := g1.1.trans (‹_=_›.trans g2.1.symm)
  refine zo (fun ((w,q,xs):Int×Int×List D)=>[(0,.own 0),(3,.d (.int .i64 (w))),(4,.view 0 k ((d.toList.map (D.int .i64)).length - k)),(5,.d (.int .i64 (q))),(za,.own 0)]) (fun ((w,q,xs):Int×Int×List D)=>[(0,some (.row 1 xs))]) 1 (fun ((w,q,xs):Int×Int×List D) => ∃ (a b:Nat) (e:Array Int),w=a∧q=b∧xs=e.toList.map (D.int .i64)∧0 < b∧k+b≤d.size∧a < k+b∧e.size=d.size∧e.toList.take a=ddA d (k+b) ∧ ∀ j,k+b - 1≤j→j < d.size→e[j]! = d[j]!) (fun ((w,q,xs):Int×Int×List D)=>(d.size - k - q).toNat) (((k:Int),(1:Int),d.toList.map (D.int .i64))) [(0,0)] [] (⟨k,1,d,rfl,rfl,rfl,by omega,by omega,by omega,rfl,zpP hk0 g1.2 hk hkk,fun _ _ _=>rfl⟩) (by (refine ⟨rfl,rfl,rfl,?_,?_⟩;repeat' first|exact trivial|exact rfl|refine And.intro ?_ ?_|refine ⟨_,rfl,?_⟩|decide)) ?_
  rintro ⟨_,_,_⟩ ⟨a,b,e,rfl,rfl,rfl,hb0,hb1,hab,he,ha,hj⟩
  have hle:e.toList.length=e.size:=Array.length_toList
  (repeat' ((conv=>whnf);first|refine vA ?_|((first|refine vD ?_ ?_|refine vF ?_ ?_)<;>intro hc<;>try simp only [vL] at hc)|refine vT ?_|refine vN ‹_› ?_|(refine vQ ?_ fun x hx=>?_;·omega)|((first|refine vO ?_ ?_|refine vP ?_ ?_);·first|omega|(simp only [vM] at *;omega))|(refine vU ?_ ?_;·kernel_rfl)|fail));all_goals try conv=>whnf
  ·have h1:=zaK ‹e.toList[k+((b:Nat):Int).toNat]? = some _›
   have h2:=zaK (zfM (i:=((k+b - 1:Nat):Int)) (k+b - 1) (by rw [← ‹e.toList[k+(((b:Nat):Int) - 1).toNat]? = some _›];congr 1;omega) rfl)
   simp only [Int.toNat_natCast] at h1
   have e1:=hj (k+b) (by omega) (by omega)
   have e2:=hj (k+b - 1) (by omega) (by omega)
   refine ⟨(_,_,_),[(0,0)],[],?_,?_,by (refine ⟨rfl,rfl,rfl,?_,?_⟩;repeat' first|exact trivial|exact rfl|refine And.intro ?_ ?_|refine ⟨_,rfl,?_⟩|decide)⟩
   ·exact ⟨a+1,b+1,e.setIfInBounds a e[k+b]!,by omega,by omega,by rw [h1.1];simp [List.map_set],by omega,by omega,by omega,by simp [he],
     by rw [zqX (by omega),ha,← Nat.add_assoc,ztH (by rw [← e1,← e2,h1.1,h2.1];assumption),e1],
     fun j h0 h1=>by rw [zr9 (by omega)];exact hj j (by omega) h1⟩
   ·((simp only [vM] at *;omega))
  ·have h1:=zaK ‹e.toList[k+((b:Nat):Int).toNat]? = some _›
   have h2:=zaK (zfM (i:=((k+b - 1:Nat):Int)) (k+b - 1) (by rw [← ‹e.toList[k+(((b:Nat):Int) - 1).toNat]? = some _›];congr 1;omega) rfl)
   simp only [Int.toNat_natCast] at h1
   have e1:=hj (k+b) (by omega) (by omega)
   have e2:=hj (k+b - 1) (by omega) (by omega)
   refine ⟨(_,_,_),[(0,0)],[],?_,?_,by (refine ⟨rfl,rfl,rfl,?_,?_⟩;repeat' first|exact trivial|exact rfl|refine And.intro ?_ ?_|refine ⟨_,rfl,?_⟩|decide)⟩
   ·exact ⟨a,b+1,e,rfl,by omega,rfl,by omega,by omega,by omega,he,
     by rw [ha,← Nat.add_assoc,zrQ (by omega) (by rw [← e1,← e2,h1.1,h2.1];assumption)],
     fun j h0 h1=>hj j (by omega) h1⟩
   ·((simp only [vM] at *;omega))
  ·have hE:=zrP (enc:=(D.int .i64)) (e:=e) (z:=(D.int .i64 0)) (a:=a) (n:=(e.toList.map (D.int .i64)).length - a) (by omega)
   rw [ha,show k+b=d.size by omega,hR] at hE
   subst hE
   refine zms.mk (by simp only [List.length_append,List.length_take,List.length_replicate,List.length_drop,List.length_map,hle];omega) ?_
   (repeat' ((conv=>whnf);refine vT ?_));all_goals try conv=>whnf
   refine ⟨trivial,_,[(1,1)],[],rfl,.inl (by (repeat' exact rfl)),⟨by rfl,by rfl,by rfl,trivial,by (repeat' first|exact trivial|exact rfl|refine And.intro ?_ ?_|refine ⟨_,rfl,?_⟩|exact of_decide_eq_true rfl)⟩,by (repeat' first|exact trivial|refine And.intro ?_ ?_)⟩
 ·refine ⟨_,[(0,0)],[],?_,?_,by (refine ⟨rfl,rfl,rfl,?_,?_⟩;repeat' first|exact trivial|exact rfl|refine And.intro ?_ ?_|refine ⟨_,rfl,?_⟩|decide)⟩
  ·exact ⟨k+1,by omega,by omega,by omega,fun j h0 h1=>by
    by_cases hjk:j=k
    ·subst hjk
     have g1:=zaK (zfM j ‹d.toList[(j:Int).toNat]? = some _› rfl)
     have g2:=zaK (zfM (j - 1) ‹d.toList[((j:Int) - 1).toNat]? = some _› (by omega))
     rw [g1.1,g2.1];assumption
    ·exact hk j h0 (by omega)⟩
  ·(omega)
 ·exact absurd (fun j h0 h1=>hk j h0 (by omega)) hd
end Go.Ab
namespace Go.Ab
open Go Go.Proofs
set_option maxRecDepth 10000
set_option maxHeartbeats 4000000
variable {T:Nat→Obj→Prop}
theorem zy3:Sort.SWO ltI:=⟨fun x=>by simp [ltI],fun x y z h1 h2=>by simp [ltI] at *;omega,fun x y z h1 h2=>by simp [ltI] at *;omega⟩
theorem znt (l:List Int):(Sort.sort ltI l.toArray).toList=zaG l:=by
 obtain ⟨⟨h1,-,h2⟩,h3⟩:=Sort.sort_sorts ltI zy3 l.toArray
 have e1:(Sort.sort ltI l.toArray).extract 0 l.toArray.size=Sort.sort ltI l.toArray:=by rw [← h1];simp
 have e2:l.toArray.extract 0 l.toArray.size=l.toArray:=by simp
 rw [e1,e2] at h2
 refine zyp ?_ h2
 rw [List.pairwise_iff_getElem]
 intro i j hi hj hij
 rw [Array.length_toList] at hi hj
 have:=h3 i j (Nat.zero_le _) hij (by rw [← h1];exact hj)
 have a1:=(zaK (List.getElem?_eq_getElem (l:=(Sort.sort ltI l.toArray).toList) (by rw [Array.length_toList];exact hi))).1
 have a2:=(zaK (List.getElem?_eq_getElem (l:=(Sort.sort ltI l.toArray).toList) (by rw [Array.length_toList];exact hj))).1
 rw [a1,a2] at this
 have:=of_decide_eq_false this
 omega
theorem zvB (d:Array Int) (hs:d.size≤1000):Fn Tryz.prog T zaH [.own 0] [zbq d] (.own 1) [none,some (.row 1 ((ddA d d.size).map (D.int .i64)))]:=by
 by_cases hd:Steps d
 ·have hln:d.toList.length=d.size:=Array.length_toList
  have e0:ddA d d.size=d.toList:=by rw [zkJ (Nat.le_refl _) hd,List.take_of_length_le (by omega)]
  rw [e0]
  refine zS zy zde (by show 1≤61;decide) _ (fun e env mem n h=>h) ?_
  (repeat' ((conv=>whnf);first|refine vA ?_|(refine vF ?_ ?_<;>intro hc<;>try simp only [vL] at hc)|refine vJ fun hg=>?_|refine vT ?_));all_goals try conv=>whnf
  ·refine ⟨trivial,_,[(1,0)],[],rfl,.inl (by (repeat' exact rfl)),⟨by rfl,by rfl,by rfl,trivial,by (repeat' first|exact trivial|exact rfl|refine And.intro ?_ ?_|refine ⟨_,rfl,?_⟩|exact of_decide_eq_true rfl)⟩,by (repeat' first|exact trivial|refine And.intro ?_ ?_)⟩
  refine zo (fun (i:Int)=>[(0,.own 0),(3,.d (.int .i64 (i))),(za,.own 0)]) (fun (i:Int)=>[(0,some (zbq d))]) 1 (fun (i:Int) => ∃ k:Nat,i=k∧0 < k∧k≤d.size) (fun (i:Int)=>(d.size - i).toNat) (1) [(0,0)] [] (⟨1,rfl,by omega,by omega⟩) (by (refine ⟨rfl,rfl,rfl,?_,?_⟩;repeat' first|exact trivial|exact rfl|refine And.intro ?_ ?_|refine ⟨_,rfl,?_⟩|decide)) ?_
  rintro _ ⟨k,rfl,hk0,hk1⟩
  (repeat' ((conv=>whnf);first|refine vA ?_|(refine vF ?_ ?_<;>intro hc<;>try simp only [vL] at hc)|refine vJ fun hg=>?_|refine vT ?_|(refine vQ ?_ fun x hx=>?_;·omega)|((first|refine vO ?_ ?_|refine vP ?_ ?_);·first|omega|(simp only [vM] at *;omega))|(refine vU ?_ ?_;·kernel_rfl)|fail));all_goals try conv=>whnf
  ·have g1:=zaK (zfM k ‹d.toList[(k:Int).toNat]? = some _› rfl)
   have g2:=zaK (zfM (k - 1) ‹d.toList[((k:Int) - 1).toNat]? = some _› (by omega))
   exact absurd (g1.1.trans (‹_=_›.trans g2.1.symm)) (hd k hk0 g1.2)
  ·refine ⟨_,[(0,0)],[],?_,?_,by (refine ⟨rfl,rfl,rfl,?_,?_⟩;repeat' first|exact trivial|exact rfl|refine And.intro ?_ ?_|refine ⟨_,rfl,?_⟩|decide)⟩
   ·exact ⟨k+1,by omega,by omega,by omega⟩
   ·(omega)
  ·refine ⟨trivial,_,[(1,0)],[],rfl,.inl (by (repeat' exact rfl)),⟨by rfl,by rfl,by rfl,trivial,by (repeat' first|exact trivial|exact rfl|refine And.intro ?_ ?_|refine ⟨_,rfl,?_⟩|exact of_decide_eq_true rfl)⟩,by (repeat' first|exact trivial|refine And.intro ?_ ?_)⟩
 ·exact zjZ d (by omega) hd
theorem zyb (l:List Int):ddA (zaG l).toArray (zaG l).toArray.size=zgZ l:=by
 have hs:=zd5 l
 have hg : ∀ i,i < (zaG l).length→(zaG l)[i]? = some (zaG l).toArray[i]! := fun i hi=>by
  have:=zbt (d:=(zaG l).toArray) (i:=i) (by simpa using hi)
  simpa using this
 have hsz:(zaG l).toArray.size=(zaG l).length:=by simp
 have h1:(ddA (zaG l).toArray (zaG l).toArray.size).Pairwise fun x y=>ltI x y=true:=ziD (lt:=ltI) (fun i j hij hj=>by
   rw [hsz] at hj
   have a1:=hg i (by omega);have a2:=hg j hj
   obtain ⟨p1,q1⟩:=List.getElem?_eq_some_iff.1 a1
   obtain ⟨p2,q2⟩:=List.getElem?_eq_some_iff.1 a2
   have:=List.pairwise_iff_getElem.1 hs i j p1 p2 hij
   rw [q1,q2] at this
   unfold ltI
   rw [decide_eq_false_iff_not];omega) (fun x y h1 h2=>by simp [ltI] at h1 h2;omega) (Nat.le_refl _)
 have h1':(ddA (zaG l).toArray (zaG l).toArray.size).Pairwise (· < ·):=h1.imp fun h=>by simpa [ltI] using h
 have h2:(zgZ l).Nodup:=(zcz _).nodup_iff.2 (zdh l)
 refine zdi (h1'.imp fun h=>Int.le_of_lt h) (zd5 _) (ze7 (h1'.imp fun h e=>by subst e;omega) h2 fun x=>?_)
 rw [zeD,ziT]
 rw [← (zcz l).mem_iff]
 constructor
 ·rintro ⟨i,hi,rfl⟩;rw [hsz] at hi;exact List.mem_of_getElem? (hg i hi)
 ·intro hx
  obtain ⟨i,hi⟩:=List.getElem?_of_mem hx
  have hl:=(List.getElem?_eq_some_iff.1 hi).1
  refine ⟨i,by rw [hsz];exact hl,?_⟩
  have:=hg i hl;rw [hi] at this;exact (Option.some.inj this).symm
theorem zlp (hT:zdB T) (s:BitVec 64):Fn Tryz.prog T zfQ [.d (.u64 s)] [] (.d (dN (zx s))) []:=by
 refine zi zy zj9 (by show 1≤16;decide) ?_
 (repeat' ((conv=>whnf);first|refine vA ?_|refine vT ?_));all_goals try conv=>whnf
 refine zo (fun ((r,zs):BitVec 64×List D)=>[(0,.d (.u64 (r))),(3,.own 0)]) (fun ((r,zs):BitVec 64×List D)=>[(0,some (.row 1 zs))]) 1 (fun ((r,zs):BitVec 64×List D) => ∃ l:List Nat,zs=l.map (fun (x:Nat)=>D.int .i64 (x:Int))∧zx s=l++zx r) (fun ((r,zs):BitVec 64×List D)=>(zx r).length) ((s,[])) []   [0] (⟨[],rfl,rfl⟩) (by (refine ⟨rfl,rfl,rfl,?_,?_⟩;repeat' first|exact trivial|exact rfl|exact ⟨_,rfl⟩|refine And.intro ?_ ?_|decide)) ?_
 rintro ⟨r,zs⟩ ⟨l,rfl,hI⟩
 by_cases hr:r=0#64
 ·subst hr
  (repeat' ((conv=>whnf);first|refine vA ?_|refine vH ?_|refine vT ?_));all_goals try conv=>whnf
  rw [hI,zle,List.append_nil]
  show some (D.arr 1 _)=some (D.arr 1 _)
  rw [List.map_map];rfl
 ·have hb:=zhx r hr
  have hl:=congrArg List.length hI
  have hlen:=zsv s
  rw [List.length_append] at hl
  (repeat' ((conv=>whnf);first|refine vA ?_|(refine vD ?_ ?_<;>intro hc)|refine vT ?_|(refine vP ?_ ?_;·(simp only [vM] at *;omega))|refine yD (hT r) (by (repeat refine ⟨⟨rfl,rfl⟩,?_⟩);rfl) rfl ?_));all_goals try conv=>whnf
  ·refine ⟨(r&&&(r - 1#64),_),[(0,2)],[],?_,?_,by (refine ⟨rfl,rfl,rfl,?_,?_⟩;repeat' first|exact trivial|exact rfl|refine And.intro ?_ ?_|refine ⟨_,rfl,?_⟩|decide)⟩
   ·exact ⟨l++[Lib.ctz 64 r.toNat],by simp,by rw [hI,hb];simp⟩
   ·show (zx (r&&&(r - 1#64))).length < (zx r).length
    rw [hb];simp
  ·exact absurd ‹r=0› hr
def zbZ (q:Nat→Nat) (s:BitVec 64):List Int:=(zx s).map fun v=>(q v:Int)
theorem zw3 {n:Nat} {s:BitVec 64} (hs : ∀ v,s.getLsbD v=true→v < n):(zx s).length≤n:=zw7 hs
theorem zot (hT:zdB T) (q:Nat→Nat) {n:Nat} (hn:n≤12) {s:BitVec 64} (hs : ∀ v,s.getLsbD v=true→v < n) :
  Fn Tryz.prog T zed [.d (dI (ptL n q)),.d (.u64 s)] [] (.own 0) [some (.row 1 ((zaG (zbZ q s)).map (D.int .i64)))]:=by
 have hbl:=zw3 hs
 have hvl:(zbZ q s).length=(zx s).length:=by simp [zbZ]
 have c1:=zlo (T:=T) (zbZ q s).toArray (by simp [hvl];omega)
 rw [show zbq (Sort.sort ltI (zbZ q s).toArray) = .row 1 ((zaG (zbZ q s)).map (D.int .i64)) by rw [zbq,znt]] at c1
 have hln:(ptL n q).length=n:=zby
 refine zS zy zk6 (by show 2≤26;decide) _ (fun e env mem n h=>h) ?_
 (repeat' ((conv=>whnf);first|refine vA ?_|refine vJ fun hg=>?_|refine vT ?_|refine yN (zlp hT s) ⟨⟨rfl,rfl⟩,rfl⟩ ?_));all_goals try conv=>whnf
 refine zo (fun ((k,zs):Nat×List D)=>[(0,.d (dI (ptL n q))),(5,.own 0),(9,.d (dN (zx s))),(10,.d (.int .i64 ((zdq (zx s):Int)))),(11,.d (.int .i64 ((k:Int))))]) (fun ((k,zs):Nat×List D)=>[(0,some (.row 1 zs))]) 1 (fun ((k,zs):Nat×List D)=>k≤(zx s).length∧zs=((zbZ q s).take k).map (D.int .i64)) (fun ((k,zs):Nat×List D)=>(zx s).length - k) ((0,[])) []   [0] (⟨by omega,by simp⟩) (by (refine ⟨rfl,rfl,rfl,?_,?_⟩;repeat' first|exact trivial|exact rfl|exact ⟨_,rfl⟩|refine And.intro ?_ ?_|decide)) ?_
 rintro ⟨k,zs⟩ ⟨hk,hz⟩
 have hzl:zs.length≤12:=by rw [hz];simp;omega
 have hlD:=zgr (zx s)
 by_cases hkl:k < (zx s).length
 ·have e1:=zgt hkl
  have hw:=hs _ (ze6.1 (zlX hkl))
  have e2:=zaF (q:=q) hw
  (repeat' ((conv=>whnf);first|refine vA ?_|(refine vF ?_ ?_<;>intro hc<;>try simp only [vL] at hc)|refine vT ?_|refine vN ‹_› ?_|((first|refine vO ?_ ?_|refine vP ?_ ?_);·first|omega|(simp only [vM] at *;omega))|fail));all_goals try conv=>whnf
  ·refine ⟨(k+1,_),[(0,2)],[],?_,?_,by (refine ⟨rfl,rfl,rfl,?_,?_⟩;repeat' first|exact trivial|exact rfl|refine And.intro ?_ ?_|refine ⟨_,rfl,?_⟩|decide)⟩
   ·refine ⟨by omega,?_⟩
    have e3:(zbZ q s)[k]? = some ((q ((zx s).getD k 0):Nat):Int):=by
     rw [zbZ,List.getElem?_map,zbb (d:=0) hkl];rfl
    rw [List.take_add_one,e3,hz];simp
   ·((simp only [vM] at *;omega))
  ·exfalso;omega
 ·(repeat' ((conv=>whnf);first|refine vA ?_|(refine vF ?_ ?_<;>intro hc<;>try simp only [vL] at hc)|refine vT ?_|(refine vQ ?_ fun x hx=>?_;·omega)|((first|refine vO ?_ ?_|refine vS ?_ fun x hx=>?_|refine vP ?_ ?_);·omega)|fail));all_goals try conv=>whnf
  ·exfalso;omega
  ·have e0:zs=(zbZ q s).map (D.int .i64):=by rw [hz,List.take_of_length_le (by omega)]
   clear hz
   subst e0
   refine zU.objs [0] (c1) (by (repeat' first|exact rfl|refine And.intro ?_ ?_|refine ⟨_,rfl,?_⟩)) (by (repeat' first|exact rfl|refine And.intro ?_ ?_)) (by rfl) (by rfl) (by simp) ?_
   (repeat' ((conv=>whnf);refine vT ?_));all_goals try conv=>whnf
   refine ⟨trivial,_,[(0,0)],[],rfl,.inl (by (repeat' exact rfl)),⟨by rfl,by rfl,by rfl,trivial,by (repeat' first|exact trivial|exact rfl|refine And.intro ?_ ?_|refine ⟨_,rfl,?_⟩|exact of_decide_eq_true rfl)⟩,by (repeat' exact trivial)⟩
theorem zqV {n:Nat} {q:Nat→Nat} {s:BitVec 64} (hn:n≤64) (hs : ∀ v,s.getLsbD v=true→v < n) {r:Nat→Nat→Bool} {w:Nat} (hr : ∀ v,v < n→r w v=s.getLsbD v):zcy n r q w=zbZ q s:=by
 unfold zcy zbZ zx
 rw [zhl (n:=n) hs 64 hn]
 congr 1
 exact List.filter_congr fun v hv=>hr v (List.mem_range.1 hv)
def zmf (n:Nat) (r:List (BitVec 64)):List (BitVec 64):=(List.range n).map fun w=>zao (fun v=>rb r v w) n
theorem zrn (hT:zdB T) {n:Nat} (hn:n≤64) (r:List (BitVec 64)) (hr:r.length=n) (hs : ∀ w v,rb r w v=true→v < n):Fn Tryz.prog T zfd [.d (dU r)] [] (.d (dU (zmf n r))) []:=by
 refine zi zy zjs (by show 1≤36;decide) ?_
 (repeat' ((conv=>whnf);first|refine vA ?_|refine vJ fun hg=>?_|refine vT ?_|(refine vP ?_ ?_;·(simp only [vM] at *;omega))|fail));all_goals try conv=>whnf
 refine zo (fun ((k,zs):Nat×List D)=>[(3,.own 0),(11,.d (dU r)),(12,.d (.int .i64 ((r.map D.u64).length:Int))),(13,.d (.int .i64 ((k:Int))))]) (fun ((k,zs):Nat×List D)=>[(0,some (.row 1 zs))]) 1 (fun ((k,zs):Nat×List D)=>k≤n∧zs=(List.range n).map fun w=>D.u64 (zao (fun v=>rb r v w) k)) (fun ((k,zs):Nat×List D)=>n - k) ((0,List.replicate (((r.map D.u64).length:Int)).toNat (D.u64 0#64))) [(0,0)] [] (⟨by omega,by rw [List.length_map,Int.toNat_natCast,hr,z8];rfl⟩) (by (refine ⟨rfl,rfl,rfl,?_,?_⟩;repeat' first|exact trivial|exact rfl|refine And.intro ?_ ?_|refine ⟨_,rfl,?_⟩|decide)) ?_
 rintro ⟨k,zs⟩ ⟨hk,hz⟩
 subst hz
 by_cases hkl:k < n
 ·have hx:=zbb (l:=r) (d:=0#64) (show k < r.length by omega)
  have hrb : ∀ v,rb r k v=(r.getD k 0#64).getLsbD v:=fun v=>rfl
  generalize r.getD k 0#64=s at hx hrb
  have hsn : ∀ v,s.getLsbD v=true→v < n:=fun v hv=>hs k v (by rw [hrb];exact hv)
  (repeat' ((conv=>whnf);first|refine vA ?_|(refine vF ?_ ?_<;>intro hc<;>try simp only [vL] at hc)|refine vJ fun hg=>?_|refine vT ?_|refine vN ‹_› ?_|refine yN (zlp hT s) ⟨⟨rfl,rfl⟩,rfl⟩ ?_));all_goals try conv=>whnf
  ·refine zo (fun ((j,zs):Nat×List D)=>[(3,.own 0),(4,.d (.int .i64 ((k:Int)))),(11,.d (dU r)),(12,.d (.int .i64 ((r.map D.u64).length:Int))),(13,.d (.int .i64 ((k:Int)))),(19,.d (dN (zx s))),(20,.d (.int .i64 ((zdq (zx s):Int)))),(21,.d (.int .i64 ((j:Int))))]) (fun ((j,zs):Nat×List D)=>[(0,some (.row 1 zs))]) 1 (fun ((j,zs):Nat×List D)=>j≤(zx s).length∧zs=(List.range n).map fun w=>D.u64 (if w∈(zx s).take j then zao (fun v=>rb r v w) k|||1#64 <<< k else zao (fun v=>rb r v w) k)) (fun ((j,zs):Nat×List D)=>(zx s).length - j) ((0,(List.range n).map fun w=>D.u64 (zao (fun v=>rb r v w) k))) [(0,0)] [] (⟨by omega,by simp⟩) (by (refine ⟨rfl,rfl,rfl,?_,?_⟩;repeat' first|exact trivial|exact rfl|refine And.intro ?_ ?_|refine ⟨_,rfl,?_⟩|decide)) ?_
   rintro ⟨j,zs⟩ ⟨hj,hz⟩
   subst hz
   have hlD:=zgr (zx s)
   by_cases hjl:j < (zx s).length
   ·have e1:=zgt hjl
    have hw:=hsn _ (ze6.1 (zlX hjl))
    have er:(List.range n)[(zx s).getD j 0]? = some ((zx s).getD j 0):=List.getElem?_range hw
    have hnt:(zx s).getD j 0 ∉ (zx s).take j:=fun hm=>by
     obtain ⟨i,hi⟩:=List.getElem?_of_mem hm
     rw [List.getElem?_take] at hi
     split at hi
     ·rename_i hij
      obtain ⟨p1,q1⟩:=List.getElem?_eq_some_iff.1 hi
      obtain ⟨p2,q2⟩:=List.getElem?_eq_some_iff.1 (zbb (d:=0) hjl)
      have:=(List.getElem_inj (zkh s)).1 (q1.trans q2.symm)
      omega
     ·cases hi
    have ht : ∀ u,u∈(zx s).take (j+1)↔u∈(zx s).take j∨u=(zx s).getD j 0:=fun u=>by
     rw [List.take_add_one,zbb (d:=0) hjl];simp
    (repeat' ((conv=>whnf);first|refine vA ?_|(refine vF ?_ ?_<;>intro hc<;>try simp only [vL] at hc)|refine vT ?_|refine vN ‹_› ?_|((first|refine vO ?_ ?_|refine vP ?_ ?_);·first|omega|(simp only [vM] at *;omega))|(refine vU ?_ ?_;·kernel_rfl)|fail));all_goals try conv=>whnf
    ·refine ⟨(j+1,_),[(0,0)],[],?_,?_,by (refine ⟨rfl,rfl,rfl,?_,?_⟩;repeat' first|exact trivial|exact rfl|refine And.intro ?_ ?_|refine ⟨_,rfl,?_⟩|decide)⟩
     ·refine ⟨by omega,(zdX _).trans (zL fun u hu=>?_)⟩
      show (if u=(zx s).getD j 0 then _ else _)=_
      by_cases e:u=(zx s).getD j 0
      ·subst e
       rw [if_pos rfl,if_pos ((ht _).2 (.inr rfl)),if_neg hnt];rfl
      ·rw [if_neg e]
       by_cases e2:u∈(zx s).take j
       ·rw [if_pos e2,if_pos ((ht _).2 (.inl e2))]
       ·rw [if_neg e2,if_neg (fun h=>((ht _).1 h).elim e2 e)]
     ·((simp only [vM] at *;omega))
    ·exfalso;omega
   ·(repeat' ((conv=>whnf);first|refine vA ?_|(refine vF ?_ ?_<;>intro hc<;>try simp only [vL] at hc)|refine vT ?_|(refine vQ ?_ fun x hx=>?_;·omega)|((first|refine vO ?_ ?_|refine vP ?_ ?_);·omega)|(refine vU ?_ ?_;·kernel_rfl)|fail));all_goals try conv=>whnf
    ·exfalso;omega
    ·refine ⟨(k+1,_),[(0,0)],[],?_,?_,by (refine ⟨rfl,rfl,rfl,?_,?_⟩;repeat' first|exact trivial|exact rfl|refine And.intro ?_ ?_|refine ⟨_,rfl,?_⟩|decide)⟩
     ·refine ⟨by omega,zL fun u hu=>?_⟩
      rw [List.take_of_length_le (by omega),zao,hrb u]
      by_cases e:s.getLsbD u=true
      ·rw [if_pos (ze6.2 e),if_pos e]
      ·rw [if_neg (fun h=>e (ze6.1 h)),if_neg e]
     ·((simp only [vM] at *;omega))
  ·exfalso;omega
 ·(repeat' ((conv=>whnf);first|refine vA ?_|(refine vF ?_ ?_<;>intro hc<;>try simp only [vL] at hc)|refine vT ?_|(refine vQ ?_ fun x hx=>?_;·omega)|fail));all_goals try conv=>whnf
  ·exfalso;omega
  ·have e0:k=n:=by omega
   subst e0
   refine congrArg (fun l=>some (D.arr 1 l)) ?_
   unfold zmf
   rw [List.map_map];rfl
end Go.Ab
namespace Go.Ab
open Go Go.Proofs
set_option maxRecDepth 10000
set_option maxHeartbeats 4000000
variable {T:Nat→Obj→Prop}
abbrev dTs (l:List Tup):D := .arr 1 (l.map dII)
theorem zwd {n:Nat} (t:Nat→Tup):(((List.range n).map t).map (rkN ((List.range n).map t))).map (fun (x:Nat)=>(x:Int))=ptL n fun w=>rkN ((List.range n).map t) (t w):=by
 unfold ptL;simp [Function.comp_def]
theorem zos {n:Nat} (t:Nat→Tup) (h1:1≤n) (h12:n≤12) (hs : ∀ w,w < n→Sml (t w)) :
  Fn Tryz.prog T zeu [.d (dTs ((List.range n).map t))] [] (.d (.tup [dI (ptL n fun w=>rkN ((List.range n).map t) (t w)),.int .i64 (cnN ((List.range n).map t):Int)])) []:=by
 have h:=ztV (T:=T) ((List.range n).map t) (fun h=>by have:=congrArg List.length h;simp at this;omega) (by simpa using h12) (fun x hx=>by
  obtain ⟨w,hw,rfl⟩:=List.mem_map.1 hx
  exact hs w (List.mem_range.1 hw))
 rw [show dN (((List.range n).map t).map (rkN ((List.range n).map t)))=dI (ptL n fun w=>rkN ((List.range n).map t) (t w)) by rw [← zwd]] at h
 exact h
theorem zsS {n:Nat} (h1:1≤n) (h12:n≤12) (g:Nat) (y1 y2:D) (next:(Nat→Nat)→Nat→Tup) (first:Nat→Tup) (hF : ∀ q v w,v < n→w < n→next q v=next q w→q v=q w)
  (hs : ∀ q w,w < n→Sml (next q w)) (hf : ∀ w,w < n→Sml (first w)) (hx : ∀ (q:Nat→Nat) (w:Nat),w < n→Fn Tryz.prog T g [.d (dI (ptL n q)),.d (.int .i64 (w:Int)),.d y1,.d y2] [] (.d (dII (next q w))) []) :
  Fn Tryz.prog T zf7 [.d (dTs ((List.range n).map first)),.d (.fn g [y1,y2])] []
   (.d (.tup [dI (ptL n (zdU n next (n+1) (fun w=>rkN ((List.range n).map first) (first w)) (cnN ((List.range n).map first))).1),.int .i64 ((zdU n next (n+1) (fun w=>rkN ((List.range n).map first) (first w)) (cnN ((List.range n).map first))).2:Int)])) []:=by
 have c1:=zos (T:=T) first h1 h12 hf
 have c2:=fun q=>zos (T:=T) (next q) h1 h12 (hs q)
 generalize hq0:(fun w=>rkN ((List.range n).map first) (first w))=q0 at c1
 have hd0:cnN ((List.range n).map first)=dcN n q0:=by
  have:=zfv (n:=n) (next:=fun _=>first) (fun _=>0)
  unfold zcH rfT zel rfT at this
  rw [hq0] at this
  exact this.symm
 rw [hd0] at c1 ⊢
 generalize hR:zdU n next (n+1) q0 (dcN n q0)=R
 refine zi zy zk4 (by show 2≤45;decide) ?_
 (repeat' ((conv=>whnf);first|refine vT ?_|refine yN c1 ⟨⟨rfl,rfl⟩,rfl⟩ ?_));all_goals try conv=>whnf
 refine zaY (fun ((q,c):(Nat→Nat)×Nat)=>[(1,.d (.fn g [y1,y2])),(6,.d (dI (ptL n q))),(7,.d (.int .i64 ((c:Int))))]) (fun ((q,c):(Nat→Nat)×Nat)=>c=dcN n q∧zdU n next (n+1) q (dcN n q)=R) (fun ((q,c):(Nat→Nat)×Nat)=>n+1 - c) ((q0,dcN n q0)) (⟨rfl,hR⟩) (by (repeat' first|exact trivial|exact rfl|refine And.intro ?_ ?_)) ?_
 rintro ⟨q,c⟩ ⟨hc0,hI⟩
 have hln:(ptL n q).length=n:=zby
 (repeat' ((conv=>whnf);first|refine vA ?_|refine vJ fun hg=>?_|refine vK fun hg=>?_|refine vT ?_|(refine vP ?_ ?_;·(simp only [vM] at *;omega))|fail));all_goals try conv=>whnf
 ·refine zo (fun ((k,zs):Nat×List D)=>[(1,.d (.fn g [y1,y2])),(6,.d (dI (ptL n q))),(7,.d (.int .i64 ((c:Int)))),(8,.own 0),(21,.d (.int .i64 (((List.replicate ((((ptL n q).map (D.int .i64)).length:Int)).toNat (D.arr 1 []))).length:Int))),(22,.d (.int .i64 ((k:Int))))]) (fun ((k,zs):Nat×List D)=>[(0,some (.row 1 zs))]) 1 (fun ((k,zs):Nat×List D)=>k≤n∧zs=(List.range n).map fun w=>if w < k then dII (next q w) else D.arr 1 []) (fun ((k,zs):Nat×List D)=>n - k) ((0,List.replicate ((((ptL n q).map (D.int .i64)).length:Int)).toNat (D.arr 1 []))) [(0,0)] [] (⟨by omega,by simp only [Nat.not_lt_zero,if_false];rw [List.length_map,hln,Int.toNat_natCast];exact z8 _ _⟩) (by (refine ⟨rfl,rfl,rfl,?_,?_⟩;repeat' first|exact trivial|exact rfl|refine And.intro ?_ ?_|refine ⟨_,rfl,?_⟩|decide)) ?_
  rintro ⟨k,zs⟩ ⟨hk,hz⟩
  by_cases hkl:k < n
  ·subst hz
   have er:(List.range n)[k]? = some k:=List.getElem?_range hkl
   (repeat' ((conv=>whnf);first|refine vA ?_|(refine vF ?_ ?_<;>intro hc<;>try simp only [vL] at hc)|refine vT ?_));all_goals try conv=>whnf
   ·refine zU.dataN (hx q k hkl) (by (repeat refine ⟨⟨rfl,rfl⟩,?_⟩);rfl) ?_
    (repeat' ((conv=>whnf);first|refine vT ?_|((first|refine vO ?_ ?_|refine vP ?_ ?_);·first|omega|(simp only [vM] at *;omega))|fail));all_goals try conv=>whnf
    refine ⟨(k+1,_),[(0,0)],[],?_,?_,by (refine ⟨rfl,rfl,rfl,?_,?_⟩;repeat' first|exact trivial|exact rfl|refine And.intro ?_ ?_|refine ⟨_,rfl,?_⟩|decide)⟩
    ·refine ⟨by omega,(zdX _).trans (zL fun u hu=>?_)⟩
     show (if u=k then _ else _)=_
     by_cases e:u=k
     ·subst e;rw [if_pos rfl,if_pos (by omega)]
     ·rw [if_neg e]
      by_cases e2:u < k
      ·rw [if_pos e2,if_pos (by omega)]
      ·rw [if_neg e2,if_neg (by omega)]
    ·((simp only [vM] at *;omega))
   ·exfalso
    simp only [vM] at *;omega
  ·have hzz:zs=((List.range n).map (next q)).map dII:=by
    rw [hz,List.map_map];exact zL fun u hu=>by rw [if_pos (by omega)];rfl
   clear hz
   subst hzz
   have c3:=c2 q
   (repeat' ((conv=>whnf);first|refine vA ?_|(refine vF ?_ ?_<;>intro hc<;>try simp only [vL] at hc)|refine vT ?_|refine yN c3 (by (repeat refine ⟨⟨rfl,rfl⟩,?_⟩);rfl) ?_));all_goals try conv=>whnf
   ·exfalso;simp only [vM] at *;omega
   ·have e1:zcH n next q=dcN n q:=by have h:(cnN ((List.range n).map (next q)):Int)=(c:Int):=‹_›;unfold zcH rfT;omega
    rw [zdU,if_pos e1] at hI
    rw [← hI,hc0];rfl
   ·have e1:zcH n next q≠dcN n q:=fun e=>by
     have h : ¬(cnN ((List.range n).map (next q)):Int)=(c:Int):=‹_›
     unfold zcH rfT at e;omega
    have e2:=ztE hF q
    have e3:=zfv (n:=n) (next:=next) q
    have e4:=zx8 (n:=n) (next:=next) q
    refine ⟨(zel n next q,zcH n next q),[],[],?_,?_,by (refine ⟨rfl,rfl,rfl,?_,?_⟩;repeat' first|exact trivial|exact rfl|refine And.intro ?_ ?_)⟩
    ·refine ⟨e3.symm,?_⟩
     rw [zdU,if_neg e1,← e3] at hI
     rw [← hI]
     exact zr7 hF _ _ _ (by omega) (by omega)
    ·show n+1 - zcH n next q < n+1 - c
     omega
end Go.Ab
