/- A part of the proofs of this seat: functions and their contracts. -/
import Derived.Test.YtjpgnjhdeikncaaGreatDoorMC
import Derived.Test.YtjpgnjhdeikncaaGreatDoorProg
import Derived.Lib.TrailingZeros
import Derived.Sort.AssemblyPlain
import Derived.Shelf.Strconv.Itoa0
import Derived.Sort.WalkA14
set_option linter.unusedVariables false
set_option linter.unusedSimpArgs false
set_option linter.unusedSectionVars false
namespace Go.Ab.K
open Go
abbrev t:=Arg.t
abbrev c:=Arg.c
abbrev n (x:Int):V := .d (.int .i64 x)
abbrev u (x:BitVec 64):V := .d (.u64 x)
abbrev m (x:Nat):CO := .mv (.t x)
abbrev pf (x y:Nat):CO := .pick (.t x) (.t y) (.c .bf)
abbrev pt (x y:Nat):CO := .pick (.t x) (.c .bt) (.t y)
abbrev b (o:BinOp) (x y:Nat):CO := .bin o (.t x) (.t y)
abbrev bc (o:BinOp) (x:Nat) (y:V):CO := .bin o (.t x) (.c y)
abbrev l (x:Nat):CO := .load none (.t x)
abbrev la (k x:Nat):CO := .load (some k) (.t x)
abbrev f (o x:Nat):CO := .faddr o (.t x)
abbrev ia (s x i:Nat):CO := .iaddr s (.t x) (.t i)
abbrev e (x k:Nat):CO := .ext (.t x) k
abbrev ln (x:Nat):CO := .len (.t x)
abbrev o (d:Nat) (x:CO):COp:=⟨some d,none,x⟩
abbrev w (x:CO):COp:=⟨none,none,x⟩
abbrev g (d k:Nat) (v:Bool) (x:CO):COp:=⟨some d,some (k,v),x⟩
abbrev gw (k:Nat) (v:Bool) (x:CO):COp:=⟨none,some (k,v),x⟩
abbrev i (x:Nat) (p r:CC):CC := .cond (.t x) p r
def q:List CC→CC
 | [] => .skip
 | [x]=>x
 | x::y::r => .seq x (q (y::r))
end Go.Ab.K
namespace Go.Ab
open Go K
def zfo:Nat:=13
def zcD:Nat:=14
def zfF:Nat:=15
def zd6:Nat:=16
def zdc:Nat:=17
def zcu:Nat:=18
def zde:Nat:=19
def zgi:Nat:=20
def zes:Nat:=21
def zd3:Nat:=22
def zc0:Nat:=23
def zeF:Nat:=26
def zeq:Nat:=27
def zdR:Nat:=31
def zdQ:Nat:=32
def zeE:Nat:=46
def zfG:Nat:=47
def zbI:Nat:=48
def zdE:Nat:=49
def zer:Nat:=50
def zcE:Nat:=51
def zeK:Nat:=52
def zeH:Nat:=53
def zdD:Nat:=54
def zP:Nat:=55
def zbo:Nat:=56
def zgQ:Nat:=57
def zgR:Nat:=58
def zeI:Nat:=59
def zd4:Nat:=60
def zW:Nat:=61
def zdz:Nat:=68
def zd5:Nat:=69
def zkG:Nat:=73
def zay:Nat:=74
def zgS:Nat:=75
def zaX:Nat:=76
def zcZ:Nat:=77
def zfH:Nat:=92
def zfm:Nat:=98
def zdU:Nat:=99
def zdy:Nat:=100
def zfp:Nat:=101
def zd7:Nat:=102
def zd8:Nat:=103
def za3:Nat:=104
def zbz:Nat:=105
def zet:Nat:=106
def zdL:Nat:=107
def zeG:Nat:=108
def zfx:Nat:=111
def zfn:Nat:=112
def za7:Nat:=118
def zcm:Nat:=119
def zbc:Nat:=120
def zX:Nat:=133
def zam:Nat:=134
def zG:Nat:=135
def zx:Nat:=136
def zbZ:Nat:=137
def zO:Nat:=138
def zct:Nat:=139
def zcY:Nat:=140
def zeJ:Nat:=141
def zdM:Nat:=142
def zbn:Nat:=147
def zaY:Nat:=159
def zdd:Nat:=160
def zbb:Nat:=161
def zdx:Nat:=162
def zba:Nat:=163
def zaw:Nat:=164
def zgP:Nat:=170
def zaz:Nat:=183
def zdT:Nat:=191
def zjp:CFn:=⟨41,[.tmp 4],(q [(.reg [o 2 (.box 3 (t 0)),o 4 (.mv (c .bf))]),
 (q [(.reg [o 6 (f 0 2),o 7 (l 6),o 8 (m 1),o 9 (b .gtr 7 8),o 10 (m 9),g 11 10 true (f 0 2),g 12 10 true (l 11),g 13 10 true (bc .leq 12 (n 64)),o 14 (pf 10 13),o 15 (m 14),g 16 15 false (f 1 2),g 17 15 false (l 16),g 18 15 false (ln 17),g 19 15 false (bc .gtr 18 (n 20)),o 20 (pt 15 19),o 21 (m 20),g 22 21 false (f 2 2),g 23 21 false (l 22),g 24 21 false (ln 23),g 25 21 false (bc .gtr 24 (n 10)),o 26 (pt 21 25)]),
 (i 26 (q [(.reg [o 4 (.mv (c .bf))]),
 .ret]) .skip)]),
 (q [(.reg [o 5 (.mv (c (n 0)))]),
 (.block 0 (.loop (q [(q [(.reg [o 27 (m 5),o 28 (f 2 2),o 29 (l 28),o 30 (ln 29),o 31 (b .lss 27 30)]),
 (i 31 .skip (.exit 0))]),
 (.block 1 (q [(.reg [o 34 (f 2 2),o 35 (l 34),o 36 (m 5),o 37 (ia 1 35 36),o 38 (l 37),o 39 (ln 38),o 40 (bc .gtr 39 (n 70))]),
 (i 40 (q [(.reg [o 4 (.mv (c .bf))]),
 .ret]) .skip)])),
 (.reg [o 32 (m 5),o 33 (bc .add 32 (n 1)),o 5 (m 33)])])))]),
 (.reg [o 4 (.mv (c .bt))]),
 .ret])⟩
def zkv:CFn:=⟨51,[.tmp 2,.tmp 3],(q [(.reg [o 1 (.box 3 (t 0)),o 2 (.mv (c (.nils 1))),o 3 (.mv (c (n 0)))]),
 (q [(.reg [o 12 (la 3 1),o 13 (.call 32 [(t 12)]),o 4 (m 13)]),
 (.reg [o 14 (m 4),o 15 (bc .neq 14 (n 0))]),
 (i 15 (q [(.reg [o 16 (m 4),o 2 (.mv (c (.nils 1))),o 3 (m 16)]),
 .ret]) .skip)]),
 (.reg [o 5 (.mv (c (.nils 1)))]),
 (q [(.reg [o 17 (f 0 1),o 18 (l 17),o 19 (.mv (c (n 0)))]),
 (.block 0 (.loop (q [(.reg [o 20 (b .lss 19 18)]),
 (i 20 .skip (.exit 0)),
 (.block 1 (q [(.reg [o 21 (m 19),o 6 (m 21)]),
 (.reg [o 22 (m 5),o 23 (la 3 1),o 24 (m 6),o 25 (.call 31 [(t 23),(t 24)]),o 26 (.bslice 1 1 [(n 0)] [(0,(t 25))]),o 27 (.bslice 1 1 [(.nils 1)] [(0,(t 26))]),o 28 (.bslice 1 1 [(.nils 1)] [(0,(t 27))]),o 29 (.app 1 24 (t 22) (t 28)),o 5 (m 29)])])),
 (.reg [o 30 (bc .add 19 (n 1)),o 19 (m 30)])])))]),
 (.reg [o 7 (.alloc [(.nils 1)])]),
 (q [(.reg [o 31 (f 2 1),o 32 (l 31),o 33 (ln 32),o 34 (.mv (c (n 0)))]),
 (.block 2 (.loop (q [(.reg [o 35 (b .lss 34 33)]),
 (i 35 .skip (.exit 2)),
 (.block 3 (q [(.reg [o 36 (ia 1 32 34),o 37 (l 36),o 9 (m 37)]),
 (.regd [o 38 (l 7),o 39 (m 9),o 40 (.call 46 [(t 39)]),o 41 (.bslice 1 1 [(.nils 1)] [(0,(t 40))]),o 42 (.app 1 24 (t 38) (t 41)),w (.store 1 (t 7) (t 42))] [0,0,2,6,15,31])])),
 (.reg [o 43 (bc .add 34 (n 1)),o 34 (m 43)])])))]),
 (.reg [o 45 (m 5),o 46 (.fnew zbI [(t 1),(t 7)]),o 47 (.call 47 [(t 45),(t 46)]),o 44 (m 47),o 48 (e 44 0),o 49 (e 44 1),o 10 (m 48),o 11 (m 49)]),
 (.reg [o 50 (m 10),o 2 (m 50),o 3 (.mv (c (n 0)))]),
 .ret])⟩
def zhp:CFn:=⟨103,[.tmp 2,.tmp 3],(q [(.reg [o 1 (.box 3 (t 0)),o 2 (.mv (c (.nils 1))),o 3 (.mv (c (n 0)))]),
 (q [(.reg [o 16 (la 3 1),o 17 (.call 27 [(t 16)]),o 4 (m 17)]),
 (.reg [o 18 (m 4),o 19 (bc .neq 18 (n 0))]),
 (i 19 (q [(.reg [o 20 (m 4),o 2 (.mv (c (.nils 1))),o 3 (m 20)]),
 .ret]) .skip)]),
 (.reg [o 5 (.mv (c (.nils 1)))]),
 (q [(.reg [o 6 (.mv (c (n 0)))]),
 (.block 0 (.loop (q [(q [(.reg [o 21 (m 6),o 22 (f 0 1),o 23 (l 22),o 24 (b .lss 21 23)]),
 (i 24 .skip (.exit 0))]),
 (.block 1 (.reg [o 27 (m 5),o 28 (la 3 1),o 29 (m 6),o 30 (.call 50 [(t 28),(t 29)]),o 31 (.bslice 1 1 [(n 0)] [(0,(t 30))]),o 32 (.bslice 1 1 [(.nils 1)] [(0,(t 31))]),o 33 (.bslice 1 1 [(.nils 1)] [(0,(t 32))]),o 34 (.app 1 24 (t 27) (t 33)),o 5 (m 34)])),
 (.reg [o 25 (m 6),o 26 (bc .add 25 (n 1)),o 6 (m 26)])])))]),
 (.reg [o 36 (m 5),o 37 (.call 51 [(t 36)]),o 35 (m 37),o 38 (e 35 0),o 39 (e 35 1),o 7 (m 38),o 8 (m 39)]),
 (.block 2 (.loop (.block 3 (q [(.reg [o 9 (.mv (c (.nils 1)))]),
 (q [(.reg [o 10 (.mv (c (n 0)))]),
 (.block 4 (.loop (q [(q [(.reg [o 40 (m 10),o 41 (f 0 1),o 42 (l 41),o 43 (b .lss 40 42)]),
 (i 43 .skip (.exit 4))]),
 (.block 5 (q [(.reg [o 46 (m 7),o 47 (m 10),o 48 (ia 1 46 47),o 49 (l 48),o 50 (.bslice 1 1 [(n 0)] [(0,(t 49))]),o 51 (.bslice 1 1 [(.nils 1)] [(0,(t 50))]),o 11 (m 51)]),
 (q [(.reg [o 52 (f 2 1),o 53 (l 52),o 54 (ln 53),o 55 (.mv (c (n 0)))]),
 (.block 6 (.loop (q [(.reg [o 56 (b .lss 55 54)]),
 (i 56 .skip (.exit 6)),
 (.block 7 (q [(.reg [o 57 (m 55),o 12 (m 57)]),
 (.reg [o 58 (m 11),o 59 (m 7),o 60 (f 2 1),o 61 (l 60),o 62 (m 12),o 63 (ia 1 61 62),o 64 (l 63),o 65 (m 10),o 66 (ia 1 64 65),o 67 (l 66),o 68 (.call 52 [(t 59),(t 67),(c .bf)]),o 69 (.bslice 1 1 [(.nils 1)] [(0,(t 68))]),o 70 (.app 1 24 (t 58) (t 69)),o 11 (m 70)])])),
 (.reg [o 71 (bc .add 55 (n 1)),o 55 (m 71)])])))]),
 (q [(.reg [o 72 (f 2 1),o 73 (l 72),o 74 (ln 73),o 75 (.mv (c (n 0)))]),
 (.block 8 (.loop (q [(.reg [o 76 (b .lss 75 74)]),
 (i 76 .skip (.exit 8)),
 (.block 9 (q [(.reg [o 77 (m 75),o 13 (m 77)]),
 (.reg [o 78 (m 11),o 79 (m 7),o 80 (la 3 1),o 81 (m 13),o 82 (m 10),o 83 (.call 53 [(t 80),(t 81),(t 82)]),o 84 (.call 52 [(t 79),(t 83),(c .bf)]),o 85 (.bslice 1 1 [(.nils 1)] [(0,(t 84))]),o 86 (.app 1 24 (t 78) (t 85)),o 11 (m 86)])])),
 (.reg [o 87 (bc .add 75 (n 1)),o 75 (m 87)])])))]),
 (.reg [o 88 (m 9),o 89 (m 11),o 90 (.bslice 1 1 [(.nils 1)] [(0,(t 89))]),o 91 (.app 1 24 (t 88) (t 90)),o 9 (m 91)])])),
 (.reg [o 44 (m 10),o 45 (bc .add 44 (n 1)),o 10 (m 45)])])))]),
 (.reg [o 93 (m 9),o 94 (.call 51 [(t 93)]),o 92 (m 94),o 95 (e 92 0),o 96 (e 92 1),o 14 (m 95),o 15 (m 96)]),
 (q [(.reg [o 97 (m 15),o 98 (m 8),o 99 (b .eql 97 98)]),
 (i 99 (q [(.reg [o 100 (m 7),o 2 (m 100),o 3 (.mv (c (n 0)))]),
 .ret]) .skip)]),
 (.reg [o 101 (m 14),o 102 (m 15),o 7 (m 101),o 8 (m 102)])]))))])⟩
def zgb:CFn:=⟨19,[.tmp 2,.tmp 3],(q [(.reg [o 1 (.box 3 (t 0)),o 2 (.mv (c (n 0))),o 3 (.mv (c (n 0)))]),
 (q [(.reg [o 6 (la 3 1),o 7 (.call 32 [(t 6)]),o 4 (m 7)]),
 (.reg [o 8 (m 4),o 9 (bc .neq 8 (n 0))]),
 (i 9 (q [(.reg [o 10 (m 4),o 2 (.mv (c (n 0))),o 3 (m 10)]),
 .ret]) .skip)]),
 (q [(.reg [o 11 (f 0 1),o 12 (l 11),o 13 (bc .gtr 12 (n 8))]),
 (i 13 (q [(.reg [o 2 (.mv (c (n 0))),o 3 (.mv (c (n 8)))]),
 .ret]) .skip)]),
 (.reg [o 5 (.alloc [(n 0)]),w (.store 1 (t 5) (c (n 0)))]),
 (.reg [o 14 (la 3 1),o 15 (la 3 1),o 16 (.fnew zP [(t 5)]),o 17 (.call 54 [(t 14),(t 15),(t 16)])]),
 (.reg [o 18 (l 5),o 2 (m 18),o 3 (.mv (c (n 0)))]),
 .ret])⟩
def zeS:CFn:=⟨20,[.tmp 2,.tmp 3],(q [(.reg [o 1 (.box 3 (t 0)),o 2 (.mv (c (n 0))),o 3 (.mv (c (n 0)))]),
 (q [(.reg [o 6 (la 3 1),o 7 (.call 27 [(t 6)]),o 4 (m 7)]),
 (.reg [o 8 (m 4),o 9 (bc .neq 8 (n 0))]),
 (i 9 (q [(.reg [o 10 (m 4),o 2 (.mv (c (n 0))),o 3 (m 10)]),
 .ret]) .skip)]),
 (q [(.reg [o 11 (f 0 1),o 12 (l 11),o 13 (bc .gtr 12 (n 8))]),
 (i 13 (q [(.reg [o 2 (.mv (c (n 0))),o 3 (.mv (c (n 8)))]),
 .ret]) .skip)]),
 (.reg [o 14 (la 3 1),o 15 (la 3 1),o 16 (.build [(n 0),(.nils 1),(.nils 1),(n 0),(.nils 1),(.nils 1),(.nils 1),(.nils 1),(n 0),.bf] [(0,3,(t 14)),(3,3,(t 15))]),o 5 (.alloc [(n 0),(.nils 1),(.nils 1),(n 0),(.nils 1),(.nils 1),(.nils 1),(.nils 1),(n 0),.bf]),w (.store 10 (t 5) (t 16))]),
 (.reg [o 17 (.call 56 [(t 5),(c (n 0))])]),
 (.reg [o 18 (f 8 5),o 19 (l 18),o 2 (m 19),o 3 (.mv (c (n 0)))]),
 .ret])⟩
def zge:CFn:=⟨26,[.tmp 4],(q [(.reg [o 4 (.mv (c .bf))]),
 (q [(.reg [o 6 (m 0),o 7 (ln 6),o 8 (m 1),o 9 (ln 8),o 10 (b .neq 7 9)]),
 (i 10 (q [(.reg [o 4 (.mv (c .bf))]),
 .ret]) .skip)]),
 (q [(.reg [o 11 (m 0),o 12 (ln 11),o 13 (.mv (c (n 0)))]),
 (.block 0 (.loop (q [(.reg [o 14 (b .lss 13 12)]),
 (i 14 .skip (.exit 0)),
 (.block 1 (q [(.reg [o 15 (m 13),o 5 (m 15)]),
 (.regd [o 16 (m 0),o 17 (m 5),o 18 (ia 1 16 17),o 19 (l 18),o 20 (m 1),o 21 (m 5),o 22 (ia 1 20 21),o 23 (l 22),o 24 (b .neq 19 23)] [0,0,3,7,0,0,48,112,255]),
 (i 24 (q [(.reg [o 4 (.mv (c .bf))]),
 .ret]) .skip)])),
 (.reg [o 25 (bc .add 13 (n 1)),o 13 (m 25)])])))]),
 (.reg [o 4 (.mv (c .bt))]),
 .ret])⟩
def zk0:CFn:=⟨66,[.tmp 6],(q [(.reg [o 3 (.box 3 (t 0)),o 4 (.box 3 (t 1)),o 6 (.mv (c (n 0)))]),
 (q [(.reg [o 12 (la 3 3),o 13 (la 3 4),o 14 (.call 57 [(t 12),(t 13)]),o 7 (m 14)]),
 (.reg [o 15 (m 7),o 16 (bc .neq 15 (n 0))]),
 (i 16 (q [(.reg [o 17 (m 7),o 6 (m 17)]),
 .ret]) .skip)]),
 (q [(.reg [o 18 (f 0 3),o 19 (l 18),o 20 (f 0 4),o 21 (l 20),o 22 (b .neq 19 21)]),
 (i 22 (q [(.reg [o 6 (.mv (c (n 1)))]),
 .ret]) .skip)]),
 (.reg [o 8 (.mv (c (u 0)))]),
 (q [(.reg [o 23 (m 2),o 24 (ln 23),o 25 (.mv (c (n 0)))]),
 (.block 0 (.loop (q [(.reg [o 26 (b .lss 25 24)]),
 (i 26 .skip (.exit 0)),
 (.block 1 (q [(.reg [o 27 (ia 1 23 25),o 28 (l 27),o 10 (m 28)]),
 (q [(.reg [o 29 (m 10),o 30 (bc .lss 29 (n 0)),o 31 (m 30),g 32 31 false (m 10),g 33 31 false (f 0 4),g 34 31 false (l 33),g 35 31 false (b .geq 32 34),o 36 (pt 31 35),o 37 (m 36),g 38 37 false (m 8),g 39 37 false (m 10),g 40 37 false (b .shr 38 39),g 41 37 false (bc .and 40 (u 1)),g 42 37 false (bc .eql 41 (u 1)),o 43 (pt 37 42)]),
 (i 43 (q [(.reg [o 6 (.mv (c (n 3)))]),
 .ret]) .skip)]),
 (.reg [o 44 (m 8),o 45 (m 10),o 46 (.bin .shl (c (u 1)) (t 45)),o 47 (b .or 44 46),o 8 (m 47)])])),
 (.reg [o 48 (bc .add 25 (n 1)),o 25 (m 48)])])))]),
 (q [(.reg [o 49 (m 2),o 50 (ln 49),o 51 (f 0 3),o 52 (l 51),o 53 (b .neq 50 52)]),
 (i 53 (q [(.reg [o 6 (.mv (c (n 3)))]),
 .ret]) .skip)]),
 (q [(.reg [o 54 (m 2),o 55 (ln 54),o 56 (.mv (c (n 0)))]),
 (.block 2 (.loop (q [(.reg [o 57 (b .lss 56 55)]),
 (i 57 .skip (.exit 2)),
 (.block 3 (q [(.reg [o 58 (m 56),o 11 (m 58)]),
 (.reg [o 59 (la 3 3),o 60 (la 3 4),o 61 (m 2),o 62 (m 11),o 63 (.call 58 [(t 59),(t 60),(t 61),(t 62)]),o 64 (.un .not (t 63))]),
 (i 64 (q [(.reg [o 6 (.mv (c (n 13)))]),
 .ret]) .skip)])),
 (.reg [o 65 (bc .add 56 (n 1)),o 56 (m 65)])])))]),
 (.reg [o 6 (.mv (c (n 0)))]),
 .ret])⟩
def zic:CFn:=⟨33,[.tmp 6],(q [(.reg [o 3 (.box 3 (t 0)),o 4 (.box 3 (t 1)),o 6 (.mv (c (n 0)))]),
 (q [(.reg [o 10 (la 3 3),o 11 (la 3 4),o 12 (.call 59 [(t 10),(t 11)]),o 7 (m 12)]),
 (.reg [o 13 (m 7),o 14 (bc .neq 13 (n 0))]),
 (i 14 (q [(.reg [o 15 (m 7),o 6 (m 15)]),
 .ret]) .skip)]),
 (q [(.reg [o 16 (f 0 3),o 17 (l 16),o 18 (f 0 4),o 19 (l 18),o 20 (b .neq 17 19)]),
 (i 20 (q [(.reg [o 6 (.mv (c (n 1)))]),
 .ret]) .skip)]),
 (.reg [o 22 (la 3 3),o 23 (m 2),o 24 (.call 60 [(t 22),(t 23)]),o 21 (m 24),o 25 (e 21 0),o 26 (e 21 1),o 8 (.alloc [(n 0),(.nils 1),(.nils 1)]),w (.store 3 (t 8) (t 25)),o 9 (m 26)]),
 (q [(.reg [o 27 (m 9),o 28 (bc .neq 27 (n 0))]),
 (i 28 (q [(.reg [o 6 (.mv (c (n 3)))]),
 .ret]) .skip)]),
 (q [(.reg [o 29 (la 3 8),o 30 (la 3 4),o 31 (.call 26 [(t 29),(t 30)]),o 32 (.un .not (t 31))]),
 (i 32 (q [(.reg [o 6 (.mv (c (n 13)))]),
 .ret]) .skip)]),
 (.reg [o 6 (.mv (c (n 0)))]),
 .ret])⟩
def zhm:CFn:=⟨34,[.tmp 4,.tmp 5],(q [(.reg [o 2 (.box 3 (t 0)),o 3 (.box 3 (t 1)),o 4 (.mv (c (.nils 1))),o 5 (.mv (c (n 0)))]),
 (q [(.reg [o 8 (la 3 2),o 9 (la 3 3),o 10 (.call 57 [(t 8),(t 9)]),o 6 (m 10)]),
 (.reg [o 11 (m 6),o 12 (bc .neq 11 (n 0))]),
 (i 12 (q [(.reg [o 13 (m 6),o 4 (.mv (c (.nils 1))),o 5 (m 13)]),
 .ret]) .skip)]),
 (q [(.reg [o 14 (f 0 2),o 15 (l 14),o 16 (bc .gtr 15 (n 12)),o 17 (m 16),g 18 17 false (f 0 3),g 19 17 false (l 18),g 20 17 false (bc .gtr 19 (n 12)),o 21 (pt 17 20)]),
 (i 21 (q [(.reg [o 4 (.mv (c (.nils 1))),o 5 (.mv (c (n 8)))]),
 .ret]) .skip)]),
 (.reg [o 7 (.alloc [(.nils 1)])]),
 (q [(.reg [o 22 (f 0 2),o 23 (l 22),o 24 (f 0 3),o 25 (l 24),o 26 (b .eql 23 25)]),
 (i 26 (.reg [o 27 (la 3 2),o 28 (la 3 3),o 29 (.fnew zW [(t 7)]),o 30 (.call 54 [(t 27),(t 28),(t 29)])]) .skip)]),
 (q [(.reg [o 31 (l 7),o 32 (.eqN false (t 31) (c (.nils 1)))]),
 (i 32 (q [(.reg [o 4 (.mv (c (.nils 1))),o 5 (.mv (c (n 6)))]),
 .ret]) .skip)]),
 (.reg [o 33 (l 7),o 4 (m 33),o 5 (.mv (c (n 0)))]),
 .ret])⟩
def zfL:CFn:=⟨36,[.tmp 4,.tmp 5],(q [(.reg [o 2 (.box 3 (t 0)),o 3 (.box 3 (t 1)),o 4 (.mv (c (.nils 1))),o 5 (.mv (c (n 0)))]),
 (q [(.reg [o 8 (la 3 2),o 9 (la 3 3),o 10 (.call 59 [(t 8),(t 9)]),o 6 (m 10)]),
 (.reg [o 11 (m 6),o 12 (bc .neq 11 (n 0))]),
 (i 12 (q [(.reg [o 13 (m 6),o 4 (.mv (c (.nils 1))),o 5 (m 13)]),
 .ret]) .skip)]),
 (q [(.reg [o 14 (f 0 2),o 15 (l 14),o 16 (bc .gtr 15 (n 12)),o 17 (m 16),g 18 17 false (f 0 3),g 19 17 false (l 18),g 20 17 false (bc .gtr 19 (n 12)),o 21 (pt 17 20)]),
 (i 21 (q [(.reg [o 4 (.mv (c (.nils 1))),o 5 (.mv (c (n 8)))]),
 .ret]) .skip)]),
 (q [(.reg [o 22 (f 0 2),o 23 (l 22),o 24 (f 0 3),o 25 (l 24),o 26 (b .neq 23 25)]),
 (i 26 (q [(.reg [o 4 (.mv (c (.nils 1))),o 5 (.mv (c (n 6)))]),
 .ret]) .skip)]),
 (.reg [o 27 (la 3 2),o 28 (la 3 3),o 29 (.build [(n 0),(.nils 1),(.nils 1),(n 0),(.nils 1),(.nils 1),(.nils 1),(.nils 1),(n 0),.bf] [(0,3,(t 27)),(3,3,(t 28)),(9,1,(c .bt))]),o 7 (.alloc [(n 0),(.nils 1),(.nils 1),(n 0),(.nils 1),(.nils 1),(.nils 1),(.nils 1),(n 0),.bf]),w (.store 10 (t 7) (t 29))]),
 (.reg [o 30 (.call 56 [(t 7),(c (n 0))])]),
 (q [(.reg [o 31 (f 8 7),o 32 (l 31),o 33 (bc .eql 32 (n 0))]),
 (i 33 (q [(.reg [o 4 (.mv (c (.nils 1))),o 5 (.mv (c (n 6)))]),
 .ret]) .skip)]),
 (.reg [o 34 (f 7 7),o 35 (l 34),o 4 (m 35),o 5 (.mv (c (n 0)))]),
 .ret])⟩
def zi3:CFn:=⟨47,[.tmp 4],(q [(.reg [o 2 (.box 3 (t 0)),o 3 (.box 3 (t 1)),o 4 (.mv (c .bf))]),
 (q [(.reg [o 6 (f 0 2),o 7 (l 6),o 8 (f 0 3),o 9 (l 8),o 10 (b .neq 7 9),o 11 (m 10),g 12 11 false (f 1 2),g 13 11 false (l 12),g 14 11 false (f 1 3),g 15 11 false (l 14),g 16 11 false (.call 68 [(t 13),(t 15)]),g 17 11 false (.un .not (t 16)),o 18 (pt 11 17),o 19 (m 18),g 20 19 false (f 2 2),g 21 19 false (l 20),g 22 19 false (ln 21),g 23 19 false (f 2 3),g 24 19 false (l 23),g 25 19 false (ln 24),g 26 19 false (b .neq 22 25),o 27 (pt 19 26)]),
 (i 27 (q [(.reg [o 4 (.mv (c .bf))]),
 .ret]) .skip)]),
 (q [(.reg [o 5 (.mv (c (n 0)))]),
 (.block 0 (.loop (q [(q [(.reg [o 28 (m 5),o 29 (f 2 2),o 30 (l 29),o 31 (ln 30),o 32 (b .lss 28 31)]),
 (i 32 .skip (.exit 0))]),
 (.block 1 (q [(.regd [o 35 (f 2 2),o 36 (l 35),o 37 (m 5),o 38 (ia 1 36 37),o 39 (l 38),o 40 (f 2 3),o 41 (l 40),o 42 (m 5),o 43 (ia 1 41 42),o 44 (l 43),o 45 (.call 68 [(t 39),(t 44)]),o 46 (.un .not (t 45))] [0,1,0,7,15,0,32,0,224,480,1023,2047]),
 (i 46 (q [(.reg [o 4 (.mv (c .bf))]),
 .ret]) .skip)])),
 (.reg [o 33 (m 5),o 34 (bc .add 33 (n 1)),o 5 (m 34)])])))]),
 (.reg [o 4 (.mv (c .bt))]),
 .ret])⟩
def zia:CFn:=⟨59,[.tmp 2],(q [(.reg [o 1 (.box 3 (t 0)),o 2 (.mv (c (n 0)))]),
 (q [(.reg [o 5 (f 0 1),o 6 (l 5),o 7 (bc .lss 6 (n 1)),o 8 (m 7),g 9 8 false (f 0 1),g 10 8 false (l 9),g 11 8 false (bc .gtr 10 (n 64)),o 12 (pt 8 11)]),
 (i 12 (q [(.reg [o 2 (.mv (c (n 2)))]),
 .ret]) .skip)]),
 (q [(.reg [o 13 (f 2 1),o 14 (l 13),o 15 (ln 14),o 16 (bc .gtr 15 (n 4)),o 17 (m 16),g 18 17 false (f 1 1),g 19 17 false (l 18),g 20 17 false (ln 19),g 21 17 false (bc .gtr 20 (n 8)),o 22 (pt 17 21)]),
 (i 22 (q [(.reg [o 2 (.mv (c (n 8)))]),
 .ret]) .skip)]),
 (q [(.reg [o 3 (.mv (c (n 0)))]),
 (.block 0 (.loop (q [(q [(.reg [o 23 (m 3),o 24 (f 2 1),o 25 (l 24),o 26 (ln 25),o 27 (b .lss 23 26)]),
 (i 27 .skip (.exit 0))]),
 (.block 1 (q [(.regd [o 30 (f 2 1),o 31 (l 30),o 32 (m 3),o 33 (ia 1 31 32),o 34 (l 33),o 35 (ln 34),o 36 (f 0 1),o 37 (l 36),o 38 (b .neq 35 37)] [0,1,0,7,15,31,0,64,255]),
 (i 38 (q [(.reg [o 2 (.mv (c (n 3)))]),
 .ret]) .skip)])),
 (.reg [o 28 (m 3),o 29 (bc .add 28 (n 1)),o 3 (m 29)])])))]),
 (q [(.reg [o 39 (f 1 1),o 40 (l 39),o 41 (f 0 1),o 42 (l 41),o 43 (.call 69 [(t 40),(t 42)])]),
 (i 43 (q [(.reg [o 2 (.mv (c (n 2)))]),
 .ret]) .skip)]),
 (q [(.reg [o 4 (.mv (c (n 0)))]),
 (.block 2 (.loop (q [(q [(.reg [o 44 (m 4),o 45 (f 2 1),o 46 (l 45),o 47 (ln 46),o 48 (b .lss 44 47)]),
 (i 48 .skip (.exit 2))]),
 (.block 3 (q [(.regd [o 51 (f 2 1),o 52 (l 51),o 53 (m 4),o 54 (ia 1 52 53),o 55 (l 54),o 56 (f 0 1),o 57 (l 56),o 58 (.call 69 [(t 55),(t 57)])] [0,1,0,7,15,0,32,127]),
 (i 58 (q [(.reg [o 2 (.mv (c (n 2)))]),
 .ret]) .skip)])),
 (.reg [o 49 (m 4),o 50 (bc .add 49 (n 1)),o 4 (m 50)])])))]),
 (.reg [o 2 (.mv (c (n 0)))]),
 .ret])⟩
def znN:CFn:=⟨40,[.tmp 4],(q [(.reg [o 2 (.box 3 (t 0)),o 4 (.mv (c (n 0)))]),
 (q [(.reg [o 8 (la 3 2),o 9 (.call 32 [(t 8)]),o 10 (bc .neq 9 (n 0)),o 11 (m 10),g 12 11 false (m 1),g 13 11 false (bc .lss 12 (n 0)),o 14 (pt 11 13),o 15 (m 14),g 16 15 false (m 1),g 17 15 false (f 0 2),g 18 15 false (l 17),g 19 15 false (b .geq 16 18),o 20 (pt 15 19)]),
 (i 20 (q [(.reg [o 4 (.mv (c (n (-1))))]),
 .ret]) .skip)]),
 (.reg [o 5 (.mv (c (n 0)))]),
 (q [(.reg [o 21 (f 1 2),o 22 (l 21),o 23 (ln 22),o 24 (.mv (c (n 0)))]),
 (.block 0 (.loop (q [(.reg [o 25 (b .lss 24 23)]),
 (i 25 .skip (.exit 0)),
 (.block 1 (q [(.reg [o 26 (m 24),o 27 (ia 1 22 24),o 28 (l 27),o 6 (m 26),o 7 (m 28)]),
 (.reg [o 29 (m 5),o 30 (m 7),o 31 (m 1),o 32 (b .shr 30 31),o 33 (bc .and 32 (u 1)),o 34 (.conv .i64 (t 33)),o 35 (m 6),o 36 (b .shl 34 35),o 37 (b .or 29 36),o 5 (m 37)])])),
 (.reg [o 38 (bc .add 24 (n 1)),o 24 (m 38)])])))]),
 (.reg [o 39 (m 5),o 4 (m 39)]),
 .ret])⟩
def znM:CFn:=⟨47,[.tmp 2],(q [(.reg [o 1 (.box 3 (t 0)),o 2 (.mv (c (n 0)))]),
 (q [(.reg [o 5 (f 0 1),o 6 (l 5),o 7 (bc .lss 6 (n 1)),o 8 (m 7),g 9 8 false (f 0 1),g 10 8 false (l 9),g 11 8 false (bc .gtr 10 (n 64)),o 12 (pt 8 11)]),
 (i 12 (q [(.reg [o 2 (.mv (c (n 2)))]),
 .ret]) .skip)]),
 (q [(.reg [o 13 (f 2 1),o 14 (l 13),o 15 (ln 14),o 16 (bc .gtr 15 (n 4)),o 17 (m 16),g 18 17 false (f 1 1),g 19 17 false (l 18),g 20 17 false (ln 19),g 21 17 false (bc .gtr 20 (n 8)),o 22 (pt 17 21)]),
 (i 22 (q [(.reg [o 2 (.mv (c (n 8)))]),
 .ret]) .skip)]),
 (q [(.reg [o 23 (f 2 1),o 24 (l 23),o 25 (ln 24),o 26 (.mv (c (n 0)))]),
 (.block 0 (.loop (q [(.reg [o 27 (b .lss 26 25)]),
 (i 27 .skip (.exit 0)),
 (.block 1 (q [(.reg [o 28 (ia 1 24 26),o 29 (l 28),o 4 (m 29)]),
 (.reg [o 30 (m 4),o 31 (ln 30),o 32 (f 0 1),o 33 (l 32),o 34 (b .neq 31 33)]),
 (i 34 (q [(.reg [o 2 (.mv (c (n 3)))]),
 .ret]) .skip)])),
 (.reg [o 35 (bc .add 26 (n 1)),o 26 (m 35)])])))]),
 (q [(.reg [o 36 (f 1 1),o 37 (l 36),o 38 (f 0 1),o 39 (l 38),o 40 (.call 75 [(t 37),(t 39)]),o 41 (m 40),g 42 41 false (f 2 1),g 43 41 false (l 42),g 44 41 false (.fnew zcZ [(t 1)]),g 45 41 false (.call 76 [(t 43),(t 44)]),o 46 (pt 41 45)]),
 (i 46 (q [(.reg [o 2 (.mv (c (n 2)))]),
 .ret]) .skip)]),
 (.reg [o 2 (.mv (c (n 0)))]),
 .ret])⟩
def zi1:CFn:=⟨36,[.tmp 2],(q [(.reg [o 2 (.mv (c (.nils 1)))]),
 (.reg [o 8 (m 0),o 9 (ln 8),o 10 (.mkslice 1 8 [(u 0)] (t 9) (t 9)),o 3 (m 10)]),
 (q [(.reg [o 11 (m 0),o 12 (ln 11),o 13 (.mv (c (n 0)))]),
 (.block 0 (.loop (q [(.reg [o 14 (b .lss 13 12)]),
 (i 14 .skip (.exit 0)),
 (.block 1 (q [(.reg [o 15 (m 13),o 16 (ia 1 11 13),o 17 (l 16),o 4 (m 15),o 5 (m 17)]),
 (.reg [o 18 (m 5),o 19 (.call 98 [(t 18)]),o 20 (ln 19),o 21 (.mv (c (n 0)))]),
 (.block 2 (.loop (q [(.reg [o 22 (b .lss 21 20)]),
 (i 22 .skip (.exit 2)),
 (.block 3 (q [(.reg [o 23 (ia 1 19 21),o 24 (l 23),o 7 (m 24)]),
 (.regd [o 25 (m 3),o 26 (m 7),o 27 (ia 1 25 26),o 28 (l 27),o 29 (m 4),o 30 (.bin .shl (c (u 1)) (t 29)),o 31 (b .or 28 30),o 32 (ia 1 25 26),w (.store 1 (t 32) (t 31))] [0,0,3,7,0,16,63,127,255])])),
 (.reg [o 33 (bc .add 21 (n 1)),o 21 (m 33)])])))])),
 (.reg [o 34 (bc .add 13 (n 1)),o 13 (m 34)])])))]),
 (.reg [o 35 (m 3),o 2 (m 35)]),
 .ret])⟩
def zkw:CFn:=⟨45,[.tmp 4,.tmp 5],(q [(.reg [o 4 (.mv (c (.nils 1))),o 5 (.mv (c (n 0)))]),
 (.reg [o 13 (m 0),o 14 (.call 99 [(t 13)]),o 12 (m 14),o 15 (e 12 0),o 16 (e 12 1),o 6 (m 15),o 7 (m 16)]),
 (.block 0 (.loop (.block 1 (q [(.reg [o 17 (m 6),o 18 (ln 17),o 19 (.mkslice 1 24 [(.nils 1)] (t 18) (t 18)),o 8 (m 19)]),
 (q [(.reg [o 20 (m 8),o 21 (ln 20),o 22 (.mv (c (n 0)))]),
 (.block 2 (.loop (q [(.reg [o 23 (b .lss 22 21)]),
 (i 23 .skip (.exit 2)),
 (.block 3 (q [(.reg [o 24 (m 22),o 9 (m 24)]),
 (.reg [o 25 (m 8),o 26 (m 9),o 27 (m 1),o 28 (m 6),o 29 (m 9),o 30 (.callv (t 27) [(t 28),(t 29)]),o 31 (ia 1 25 26),w (.store 1 (t 31) (t 30))])])),
 (.reg [o 32 (bc .add 22 (n 1)),o 22 (m 32)])])))]),
 (.reg [o 34 (m 8),o 35 (.call 99 [(t 34)]),o 33 (m 35),o 36 (e 33 0),o 37 (e 33 1),o 10 (m 36),o 11 (m 37)]),
 (q [(.reg [o 38 (m 11),o 39 (m 7),o 40 (b .eql 38 39)]),
 (i 40 (q [(.reg [o 41 (m 6),o 42 (m 7),o 4 (m 41),o 5 (m 42)]),
 .ret]) .skip)]),
 (.reg [o 43 (m 10),o 44 (m 11),o 6 (m 43),o 7 (m 44)])]))))])⟩
def zi0:CFn:=⟨52,[.tmp 6],(q [(.reg [o 6 (.mv (c (.nils 1)))]),
 (.reg [o 12 (m 0),o 13 (m 1),o 14 (ia 1 12 13),o 15 (l 14),o 16 (.bslice 1 1 [(n 0)] [(0,(t 15))]),o 17 (.bslice 1 1 [(.nils 1)] [(0,(t 16))]),o 7 (m 17)]),
 (q [(.reg [o 18 (f 2 2),o 19 (l 18),o 20 (ln 19),o 21 (.mv (c (n 0)))]),
 (.block 0 (.loop (q [(.reg [o 22 (b .lss 21 20)]),
 (i 22 .skip (.exit 0)),
 (.block 1 (q [(.reg [o 23 (ia 1 19 21),o 24 (l 23),o 9 (m 24)]),
 (.reg [o 25 (m 7),o 26 (m 0),o 27 (m 9),o 28 (m 1),o 29 (ia 1 27 28),o 30 (l 29),o 31 (.call 49 [(t 26),(t 30)]),o 32 (.bslice 1 1 [(.nils 1)] [(0,(t 31))]),o 33 (.app 1 24 (t 25) (t 32)),o 7 (m 33)])])),
 (.reg [o 34 (bc .add 21 (n 1)),o 21 (m 34)])])))]),
 (q [(.reg [o 35 (l 3),o 36 (ln 35),o 37 (.mv (c (n 0)))]),
 (.block 2 (.loop (q [(.reg [o 38 (b .lss 37 36)]),
 (i 38 .skip (.exit 2)),
 (.block 3 (q [(.reg [o 39 (ia 1 35 37),o 40 (l 39),o 11 (m 40)]),
 (.reg [o 41 (m 7),o 42 (m 0),o 43 (m 11),o 44 (m 1),o 45 (ia 1 43 44),o 46 (l 45),o 47 (.call 49 [(t 42),(t 46)]),o 48 (.bslice 1 1 [(.nils 1)] [(0,(t 47))]),o 49 (.app 1 24 (t 41) (t 48)),o 7 (m 49)])])),
 (.reg [o 50 (bc .add 37 (n 1)),o 37 (m 50)])])))]),
 (.reg [o 51 (m 7),o 6 (m 51)]),
 .ret])⟩
def zky:CFn:=⟨26,[.tmp 4],(q [(.reg [o 4 (.mv (c (.nils 1)))]),
 (.reg [o 5 (.mv (c (.nils 1)))]),
 (q [(.reg [o 8 (m 1),o 9 (.call 98 [(t 8)]),o 10 (ln 9),o 11 (.mv (c (n 0)))]),
 (.block 0 (.loop (q [(.reg [o 12 (b .lss 11 10)]),
 (i 12 .skip (.exit 0)),
 (.block 1 (q [(.reg [o 13 (ia 1 9 11),o 14 (l 13),o 7 (m 14)]),
 (.reg [o 15 (m 5),o 16 (m 0),o 17 (m 7),o 18 (ia 1 16 17),o 19 (l 18),o 20 (.bslice 1 1 [(n 0)] [(0,(t 19))]),o 21 (.app 1 8 (t 15) (t 20)),o 5 (m 21)])])),
 (.reg [o 22 (bc .add 11 (n 1)),o 11 (m 22)])])))]),
 (.reg [o 23 (m 5),o 24 (.call 100 [(t 23)])]),
 (.reg [o 25 (m 5),o 4 (m 25)]),
 .ret])⟩
def zib:CFn:=⟨39,[.tmp 4],(q [(.reg [o 2 (.box 3 (t 0)),o 4 (.mv (c (n 0)))]),
 (q [(.reg [o 7 (la 3 2),o 8 (.call 27 [(t 7)]),o 9 (bc .neq 8 (n 0)),o 10 (m 9),g 11 10 false (m 1),g 12 10 false (bc .lss 11 (n 0)),o 13 (pt 10 12),o 14 (m 13),g 15 14 false (m 1),g 16 14 false (f 0 2),g 17 14 false (l 16),g 18 14 false (b .geq 15 17),o 19 (pt 14 18)]),
 (i 19 (q [(.reg [o 4 (.mv (c (n (-1))))]),
 .ret]) .skip)]),
 (.reg [o 5 (.mv (c (n 0)))]),
 (q [(.reg [o 6 (.mv (c (n 0)))]),
 (.block 0 (.loop (q [(q [(.reg [o 20 (m 6),o 21 (f 1 2),o 22 (l 21),o 23 (ln 22),o 24 (b .lss 20 23)]),
 (i 24 .skip (.exit 0))]),
 (.block 1 (q [(.reg [o 27 (f 1 2),o 28 (l 27),o 29 (m 6),o 30 (ia 1 28 29),o 31 (l 30),o 32 (m 1),o 33 (.call 101 [(t 31),(t 32)])]),
 (i 33 (.reg [o 34 (m 5),o 35 (m 6),o 36 (.bin .shl (c (n 1)) (t 35)),o 37 (b .add 34 36),o 5 (m 37)]) .skip)])),
 (.reg [o 25 (m 6),o 26 (bc .add 25 (n 1)),o 6 (m 26)])])))]),
 (.reg [o 38 (m 5),o 4 (m 38)]),
 .ret])⟩
def zie:CFn:=⟨64,[.tmp 2,.tmp 3],(q [(.reg [o 2 (.mv (c (.nils 1))),o 3 (.mv (c (n 0)))]),
 (.reg [o 4 (.mv (c (.nils 1)))]),
 (.reg [o 5 (.mv (c (n 0)))]),
 (q [(.reg [o 11 (m 0),o 12 (ln 11),o 13 (.mv (c (n 0)))]),
 (.block 0 (.loop (q [(.reg [o 14 (b .lss 13 12)]),
 (i 14 .skip (.exit 0)),
 (.block 1 (q [(.reg [o 15 (m 13),o 6 (m 15)]),
 (.reg [o 7 (.mv (c (n 0)))]),
 (q [(.reg [o 16 (m 0),o 17 (ln 16),o 18 (.mv (c (n 0)))]),
 (.block 2 (.loop (q [(.reg [o 19 (b .lss 18 17)]),
 (i 19 .skip (.exit 2)),
 (.block 3 (q [(.reg [o 20 (m 18),o 8 (m 20)]),
 (q [(.regd [o 21 (m 0),o 22 (m 8),o 23 (ia 1 21 22),o 24 (l 23),o 25 (m 0),o 26 (m 6),o 27 (ia 1 25 26),o 28 (l 27),o 29 (.call 102 [(t 24),(t 28)]),o 30 (bc .geq 29 (n 0))] [0,0,3,7,0,0,48,112,255,511]),
 (i 30 (.exit 3) .skip)]),
 (.reg [o 9 (.mv (c .bt))]),
 (q [(.reg [o 10 (.mv (c (n 0)))]),
 (.block 4 (.loop (q [(q [(.reg [o 31 (m 10),o 32 (m 8),o 33 (b .lss 31 32)]),
 (i 33 .skip (.exit 4))]),
 (.block 5 (.regd [o 36 (m 9),o 37 (m 36),g 38 37 true (m 0),g 39 37 true (m 10),g 40 37 true (ia 1 38 39),g 41 37 true (l 40),g 42 37 true (m 0),g 43 37 true (m 8),g 44 37 true (ia 1 42 43),g 45 37 true (l 44),g 46 37 true (.call 102 [(t 41),(t 45)]),g 47 37 true (bc .neq 46 (n 0)),o 48 (pf 37 47),o 9 (m 48)] [0,1,3,3,15,31,3,3,195,451,1023,2047,4095,8191])),
 (.reg [o 34 (m 10),o 35 (bc .add 34 (n 1)),o 10 (m 35)])])))]),
 (.reg [o 49 (m 9)]),
 (i 49 (.reg [o 50 (m 7),o 51 (bc .add 50 (n 1)),o 7 (m 51)]) .skip)])),
 (.reg [o 52 (bc .add 18 (n 1)),o 18 (m 52)])])))]),
 (.reg [o 53 (m 4),o 54 (m 7),o 55 (.bslice 1 1 [(n 0)] [(0,(t 54))]),o 56 (.app 1 8 (t 53) (t 55)),o 4 (m 56)]),
 (.reg [o 57 (m 5),o 58 (m 7),o 59 (bc .add 58 (n 1)),o 60 (.mm true (t 57) (t 59)),o 5 (m 60)])])),
 (.reg [o 61 (bc .add 13 (n 1)),o 13 (m 61)])])))]),
 (.reg [o 62 (m 4),o 63 (m 5),o 2 (m 62),o 3 (m 63)]),
 .ret])⟩
def zi8:CFn:=⟨28,[.tmp 6],(q [(.reg [o 6 (.mv (c (.nils 1)))]),
 (.reg [o 7 (.mv (c (.nils 1)))]),
 (q [(.reg [o 9 (m 0),o 10 (ln 9),o 11 (.mv (c (n 0)))]),
 (.block 0 (.loop (q [(.reg [o 12 (b .lss 11 10)]),
 (i 12 .skip (.exit 0)),
 (.block 1 (q [(.reg [o 13 (m 11),o 8 (m 13)]),
 (.reg [o 14 (m 1),o 15 (m 8),o 16 (.call 101 [(t 14),(t 15)])]),
 (i 16 (.reg [o 17 (m 7),o 18 (m 0),o 19 (m 8),o 20 (ia 1 18 19),o 21 (l 20),o 22 (.bslice 1 1 [(n 0)] [(0,(t 21))]),o 23 (.app 1 8 (t 17) (t 22)),o 7 (m 23)]) .skip)])),
 (.reg [o 24 (bc .add 11 (n 1)),o 11 (m 24)])])))]),
 (.reg [o 25 (m 7),o 26 (m 2),o 27 (.call 103 [(t 25),(t 26)]),o 6 (m 27)]),
 .ret])⟩
def zi5:CFn:=⟨32,[.tmp 6],(q [(.reg [o 3 (.box 3 (t 0)),o 6 (.mv (c (u 0)))]),
 (.reg [o 7 (.mv (c (u 0))),o 8 (.mv (c (u 1)))]),
 (q [(.reg [o 9 (.mv (c (n 0)))]),
 (.block 0 (.loop (q [(q [(.reg [o 10 (m 9),o 11 (f 0 3),o 12 (l 11),o 13 (b .lss 10 12)]),
 (i 13 .skip (.exit 0))]),
 (.block 1 (q [(q [(.reg [o 16 (f 2 3),o 17 (l 16),o 18 (m 1),o 19 (ia 1 17 18),o 20 (l 19),o 21 (m 9),o 22 (ia 1 20 21),o 23 (l 22),o 24 (m 2),o 25 (.call 101 [(t 23),(t 24)])]),
 (i 25 (.reg [o 26 (m 7),o 27 (m 8),o 28 (b .add 26 27),o 7 (m 28)]) .skip)]),
 (.reg [o 29 (m 8),o 30 (bc .mul 29 (u 2)),o 8 (m 30)])])),
 (.reg [o 14 (m 9),o 15 (bc .add 14 (n 1)),o 9 (m 15)])])))]),
 (.reg [o 31 (m 7),o 6 (m 31)]),
 .ret])⟩
def zkx:CFn:=⟨29,[],(q [(.reg [o 3 (.box 3 (t 0)),o 4 (.box 3 (t 1)),o 5 (.box 1 (t 2))]),
 (.reg [o 14 (la 3 3),o 15 (.call 15 [(t 14)]),o 13 (m 15),o 16 (e 13 0),o 17 (e 13 1),o 6 (.alloc [(.nils 1)]),w (.store 1 (t 6) (t 16)),o 7 (m 17)]),
 (.reg [o 19 (la 3 4),o 20 (.call 15 [(t 19)]),o 18 (m 20),o 21 (e 18 0),o 22 (e 18 1),o 8 (.alloc [(.nils 1)]),w (.store 1 (t 8) (t 21)),o 9 (m 22)]),
 (.reg [o 23 (f 0 3),o 24 (l 23),o 25 (.mkslice 1 8 [(n 0)] (c (n 0)) (t 24)),o 10 (.alloc [(.nils 1)]),w (.store 1 (t 10) (t 25))]),
 (.reg [o 11 (.alloc [(u 0)])]),
 (.reg [o 12 (.alloc [(.d .nil)])]),
 (.reg [o 26 (.fnew za3 [(t 10),(t 3),(t 5),(t 4),(t 11),(t 6),(t 8),(t 12)]),w (.store 1 (t 12) (t 26))]),
 (.reg [o 27 (l 12),o 28 (.callv (t 27) [])])])⟩
def zfv:CFn:=⟨6,[.tmp 3],(q [(.reg [o 3 (.mv (c .bf))]),
 (.reg [o 4 (l 1),o 5 (bc .add 4 (n 1)),w (.store 1 (t 1) (t 5))]),
 (.reg [o 3 (.mv (c .bt))]),
 .ret])⟩
def zid:CFn:=⟨76,[],(q [(q [(.reg [o 6 (m 0),o 7 (.nilck (t 6)),o 8 (f 9 7),o 9 (l 8),o 10 (m 9),g 11 10 true (m 0),g 12 10 true (.nilck (t 11)),g 13 10 true (f 8 12),g 14 10 true (l 13),g 15 10 true (bc .gtr 14 (n 0)),o 16 (pf 10 15)]),
 (i 16 .ret .skip)]),
 (q [(.reg [o 17 (m 1),o 18 (m 0),o 19 (.nilck (t 18)),o 20 (f 0 19),o 21 (f 0 20),o 22 (l 21),o 23 (b .eql 17 22)]),
 (i 23 (q [(.reg [o 24 (m 0),o 25 (.nilck (t 24)),o 26 (f 8 25),o 27 (l 26),o 28 (bc .add 27 (n 1)),o 29 (.nilck (t 24)),o 30 (f 8 29),w (.store 1 (t 30) (t 28))]),
 (.reg [o 4 (.mv (c (.nils 1)))]),
 (.reg [o 31 (m 0),o 32 (m 4),o 33 (m 0),o 34 (.nilck (t 33)),o 35 (f 6 34),o 36 (l 35),o 37 (.app 1 8 (t 32) (t 36)),o 38 (.nilck (t 31)),o 39 (f 7 38),w (.store 1 (t 39) (t 37))]),
 .ret]) .skip)]),
 (.reg [o 5 (.mv (c (n 0)))]),
 (.block 0 (.loop (q [(q [(.reg [o 40 (m 5),o 41 (m 0),o 42 (.nilck (t 41)),o 43 (f 3 42),o 44 (f 0 43),o 45 (l 44),o 46 (b .lss 40 45)]),
 (i 46 .skip (.exit 0))]),
 (.block 1 (q [(.reg [o 49 (m 0),o 50 (m 1),o 51 (m 5),o 52 (.call 106 [(t 49),(t 50),(t 51)])]),
 (i 52 (q [(.reg [o 53 (m 0),o 54 (m 0),o 55 (.nilck (t 54)),o 56 (f 6 55),o 57 (l 56),o 58 (m 5),o 59 (.bslice 1 1 [(n 0)] [(0,(t 58))]),o 60 (.app 1 8 (t 57) (t 59)),o 61 (.nilck (t 53)),o 62 (f 6 61),w (.store 1 (t 62) (t 60))]),
 (.reg [o 63 (m 0),o 64 (m 1),o 65 (bc .add 64 (n 1)),o 66 (.call 56 [(t 63),(t 65)])]),
 (.reg [o 67 (m 0),o 68 (m 0),o 69 (.nilck (t 68)),o 70 (f 6 69),o 71 (l 70),o 72 (m 1),o 73 (.slice 1 (t 71) none (some (t 72))),o 74 (.nilck (t 67)),o 75 (f 6 74),w (.store 1 (t 75) (t 73))])]) .skip)])),
 (.reg [o 47 (m 5),o 48 (bc .add 47 (n 1)),o 5 (m 48)])])))])⟩
def zlN:CFn:=⟨33,[.tmp 4],(q [(.reg [o 2 (.box 3 (t 0)),o 3 (.box 3 (t 1)),o 4 (.mv (c (n 0)))]),
 (q [(.reg [o 7 (la 3 2),o 8 (.call 32 [(t 7)]),o 5 (m 8)]),
 (.reg [o 9 (m 5),o 10 (bc .neq 9 (n 0))]),
 (i 10 (q [(.reg [o 11 (m 5),o 4 (m 11)]),
 .ret]) .skip)]),
 (q [(.reg [o 12 (la 3 3),o 13 (.call 32 [(t 12)]),o 6 (m 13)]),
 (.reg [o 14 (m 6),o 15 (bc .neq 14 (n 0))]),
 (i 15 (q [(.reg [o 16 (m 6),o 4 (m 16)]),
 .ret]) .skip)]),
 (q [(.reg [o 17 (f 2 2),o 18 (l 17),o 19 (ln 18),o 20 (f 2 3),o 21 (l 20),o 22 (ln 21),o 23 (b .neq 19 22),o 24 (m 23),g 25 24 false (f 1 2),g 26 24 false (l 25),g 27 24 false (ln 26),g 28 24 false (f 1 3),g 29 24 false (l 28),g 30 24 false (ln 29),g 31 24 false (b .neq 27 30),o 32 (pt 24 31)]),
 (i 32 (q [(.reg [o 4 (.mv (c (n 1)))]),
 .ret]) .skip)]),
 (.reg [o 4 (.mv (c (n 0)))]),
 .ret])⟩
def zlO:CFn:=⟨89,[.tmp 8],(q [(.reg [o 4 (.box 3 (t 0)),o 5 (.box 3 (t 1)),o 8 (.mv (c .bf))]),
 (q [(.regd [o 12 (la 3 4),o 13 (m 3),o 14 (.call 31 [(t 12),(t 13)]),o 15 (la 3 5),o 16 (m 2),o 17 (m 3),o 18 (ia 1 16 17),o 19 (l 18),o 20 (.call 31 [(t 15),(t 19)]),o 21 (b .neq 14 20)] [0,0,3,0,0,0,48,112,255,511]),
 (i 21 (q [(.reg [o 8 (.mv (c .bf))]),
 .ret]) .skip)]),
 (q [(.reg [o 22 (f 2 4),o 23 (l 22),o 24 (ln 23),o 25 (.mv (c (n 0)))]),
 (.block 0 (.loop (q [(.reg [o 26 (b .lss 25 24)]),
 (i 26 .skip (.exit 0)),
 (.block 1 (q [(.reg [o 27 (m 25),o 28 (ia 1 23 25),o 29 (l 28),o 9 (m 27),o 10 (m 29)]),
 (.reg [o 30 (m 3),o 31 (bc .add 30 (n 1)),o 32 (.mv (c (n 0)))]),
 (.block 2 (.loop (q [(.reg [o 33 (b .lss 32 31)]),
 (i 33 .skip (.exit 2)),
 (.block 3 (q [(.reg [o 34 (m 32),o 11 (m 34)]),
 (.regd [o 35 (m 10),o 36 (m 3),o 37 (ia 1 35 36),o 38 (l 37),o 39 (m 11),o 40 (b .shr 38 39),o 41 (bc .and 40 (u 1)),o 42 (f 2 5),o 43 (l 42),o 44 (m 9),o 45 (ia 1 43 44),o 46 (l 45),o 47 (m 2),o 48 (m 3),o 49 (ia 1 47 48),o 50 (l 49),o 51 (ia 1 46 50),o 52 (l 51),o 53 (m 2),o 54 (m 11),o 55 (ia 1 53 54),o 56 (l 55),o 57 (b .shr 52 56),o 58 (bc .and 57 (u 1)),o 59 (b .neq 41 58),o 60 (m 59),g 61 60 false (m 10),g 62 60 false (m 11),g 63 60 false (ia 1 61 62),g 64 60 false (l 63),g 65 60 false (m 3),g 66 60 false (b .shr 64 65),g 67 60 false (bc .and 66 (u 1)),g 68 60 false (f 2 5),g 69 60 false (l 68),g 70 60 false (m 9),g 71 60 false (ia 1 69 70),g 72 60 false (l 71),g 73 60 false (m 2),g 74 60 false (m 11),g 75 60 false (ia 1 73 74),g 76 60 false (l 75),g 77 60 false (ia 1 72 76),g 78 60 false (l 77),g 79 60 false (m 2),g 80 60 false (m 3),g 81 60 false (ia 1 79 80),g 82 60 false (l 81),g 83 60 false (b .shr 78 82),g 84 60 false (bc .and 83 (u 1)),g 85 60 false (b .neq 67 84),o 86 (pt 60 85)] [0,0,3,7,0,31,63,0,128,0,896,1920,0,0,12288,28672,65408,130944,0,0,786432,1835008,4194176,8388480,16777215,33554431,67108863,67108863,268435455,536870911,67108863,2147483647,4294967295,67108863,8657043455,67108863,60196651007,128916127743,67108863,67108863,824700829695,1924212457471,4389523685375,8787570196479,67108863,67108863,52776625242111,123145369419775,281466453884927,562941430595583,1125899906842623,2251799813685247]),
 (i 86 (q [(.reg [o 8 (.mv (c .bf))]),
 .ret]) .skip)])),
 (.reg [o 87 (bc .add 32 (n 1)),o 32 (m 87)])])))])),
 (.reg [o 88 (bc .add 25 (n 1)),o 25 (m 88)])])))]),
 (.reg [o 8 (.mv (c .bt))]),
 .ret])⟩
def zi6:CFn:=⟨33,[.tmp 4],(q [(.reg [o 2 (.box 3 (t 0)),o 3 (.box 3 (t 1)),o 4 (.mv (c (n 0)))]),
 (q [(.reg [o 7 (la 3 2),o 8 (.call 27 [(t 7)]),o 5 (m 8)]),
 (.reg [o 9 (m 5),o 10 (bc .neq 9 (n 0))]),
 (i 10 (q [(.reg [o 11 (m 5),o 4 (m 11)]),
 .ret]) .skip)]),
 (q [(.reg [o 12 (la 3 3),o 13 (.call 27 [(t 12)]),o 6 (m 13)]),
 (.reg [o 14 (m 6),o 15 (bc .neq 14 (n 0))]),
 (i 15 (q [(.reg [o 16 (m 6),o 4 (m 16)]),
 .ret]) .skip)]),
 (q [(.reg [o 17 (f 2 2),o 18 (l 17),o 19 (ln 18),o 20 (f 2 3),o 21 (l 20),o 22 (ln 21),o 23 (b .neq 19 22),o 24 (m 23),g 25 24 false (f 1 2),g 26 24 false (l 25),g 27 24 false (ln 26),g 28 24 false (f 1 3),g 29 24 false (l 28),g 30 24 false (ln 29),g 31 24 false (b .neq 27 30),o 32 (pt 24 31)]),
 (i 32 (q [(.reg [o 4 (.mv (c (n 1)))]),
 .ret]) .skip)]),
 (.reg [o 4 (.mv (c (n 0)))]),
 .ret])⟩
def zhn:CFn:=⟨28,[.cell 4 (some 3),.tmp 5],(q [(.reg [o 2 (.box 3 (t 0)),o 4 (.alloc [(n 0),(.nils 1),(.nils 1)]),o 5 (.mv (c (n 0)))]),
 (.reg [o 9 (la 3 2),o 10 (.call 27 [(t 9)]),o 6 (m 10)]),
 (q [(.reg [o 11 (m 6),o 12 (bc .neq 11 (n 0))]),
 (i 12 (q [(.reg [o 13 (.build [(n 0),(.nils 1),(.nils 1)] []),o 14 (m 6),w (.store 3 (t 4) (t 13)),o 5 (m 14)]),
 .ret]) .skip)]),
 (.reg [o 16 (m 1),o 17 (f 0 2),o 18 (l 17),o 19 (.call 107 [(t 16),(t 18)]),o 15 (m 19),o 20 (e 15 0),o 21 (e 15 1),o 7 (m 20),o 8 (m 21)]),
 (q [(.reg [o 22 (m 8),o 23 (.un .not (t 22))]),
 (i 23 (q [(.reg [o 24 (.build [(n 0),(.nils 1),(.nils 1)] []),w (.store 3 (t 4) (t 24)),o 5 (.mv (c (n 1)))]),
 .ret]) .skip)]),
 (.reg [o 25 (la 3 2),o 26 (m 7),o 27 (.call 108 [(t 25),(t 26)]),w (.store 3 (t 4) (t 27)),o 5 (.mv (c (n 0)))]),
 .ret])⟩
def zgE:CFn:=⟨5,[.tmp 3],(q [(.reg [o 3 (.mv (c .bf))]),
 (.reg [o 4 (m 0),w (.store 1 (t 1) (t 4))]),
 (.reg [o 3 (.mv (c .bf))]),
 .ret])⟩
def zgH:CFn:=⟨26,[.tmp 4],(q [(.reg [o 4 (.mv (c .bf))]),
 (q [(.reg [o 6 (m 0),o 7 (ln 6),o 8 (m 1),o 9 (ln 8),o 10 (b .neq 7 9)]),
 (i 10 (q [(.reg [o 4 (.mv (c .bf))]),
 .ret]) .skip)]),
 (q [(.reg [o 5 (.mv (c (n 0)))]),
 (.block 0 (.loop (q [(q [(.reg [o 11 (m 5),o 12 (m 0),o 13 (ln 12),o 14 (b .lss 11 13)]),
 (i 14 .skip (.exit 0))]),
 (.block 1 (q [(.regd [o 17 (m 0),o 18 (m 5),o 19 (ia 1 17 18),o 20 (l 19),o 21 (m 1),o 22 (m 5),o 23 (ia 1 21 22),o 24 (l 23),o 25 (b .neq 20 24)] [0,0,3,7,0,0,48,112,255]),
 (i 25 (q [(.reg [o 4 (.mv (c .bf))]),
 .ret]) .skip)])),
 (.reg [o 15 (m 5),o 16 (bc .add 15 (n 1)),o 5 (m 16)])])))]),
 (.reg [o 4 (.mv (c .bt))]),
 .ret])⟩
def zho:CFn:=⟨20,[.tmp 4],(q [(.reg [o 4 (.mv (c .bf))]),
 (q [(.reg [o 5 (.mv (c (n 0)))]),
 (.block 0 (.loop (q [(q [(.reg [o 6 (m 5),o 7 (m 0),o 8 (ln 7),o 9 (b .lss 6 8)]),
 (i 9 .skip (.exit 0))]),
 (.block 1 (q [(.regd [o 12 (m 0),o 13 (m 5),o 14 (ia 1 12 13),o 15 (l 14),o 16 (m 1),o 17 (.call 112 [(t 16)]),o 18 (b .andNot 15 17),o 19 (bc .neq 18 (u 0))] [0,0,3,7,0,16,63,127]),
 (i 19 (q [(.reg [o 4 (.mv (c .bt))]),
 .ret]) .skip)])),
 (.reg [o 10 (m 5),o 11 (bc .add 10 (n 1)),o 5 (m 11)])])))]),
 (.reg [o 4 (.mv (c .bf))]),
 .ret])⟩
def zpA:CFn:=⟨8,[.tmp 2],(q [(.reg [o 2 (.mv (c (u 0)))]),
 (q [(.reg [o 3 (m 0),o 4 (bc .geq 3 (n 64))]),
 (i 4 (q [(.reg [o 2 (.mv (c (u 18446744073709551615)))]),
 .ret]) .skip)]),
 (.reg [o 5 (m 0),o 6 (.bin .shl (c (u 1)) (t 5)),o 7 (bc .sub 6 (u 1)),o 2 (m 7)]),
 .ret])⟩
def zlR:CFn:=⟨8,[.tmp 4],(q [(.reg [o 3 (.box 1 (t 1)),o 4 (.mv (c .bf))]),
 (.reg [o 5 (m 0),o 6 (.fnew zcm [(t 3)]),o 7 (.call 118 [(t 5),(t 6)]),o 4 (m 7)]),
 .ret])⟩
def zcL:CFn:=⟨9,[.tmp 4],(q [(.reg [o 4 (.mv (c .bf))]),
 (.reg [o 5 (m 0),o 6 (m 1),o 7 (.call 120 [(t 5),(t 6)]),o 8 (bc .geq 7 (n 0)),o 4 (m 8)]),
 .ret])⟩
def zlQ:CFn:=⟨8,[.tmp 3],(q [(.reg [o 3 (.mv (c .bf))]),
 (.reg [o 4 (m 0),o 5 (f 0 1),o 6 (l 5),o 7 (.call 75 [(t 4),(t 6)]),o 3 (m 7)]),
 .ret])⟩
def zjl:CFn:=⟨16,[.tmp 2],(q [(.reg [o 2 (.mv (c (.nils 1)))]),
 (.reg [o 3 (.mv (c (.nils 1)))]),
 (.block 0 (.loop (q [(q [(.reg [o 4 (m 0),o 5 (bc .neq 4 (u 0))]),
 (i 5 .skip (.exit 0))]),
 (.block 1 (.reg [o 10 (m 3),o 11 (m 0),o 12 (.call 74 [(t 11)]),o 13 (.bslice 1 1 [(n 0)] [(0,(t 12))]),o 14 (.app 1 8 (t 10) (t 13)),o 3 (m 14)])),
 (.reg [o 6 (m 0),o 7 (m 0),o 8 (bc .sub 7 (u 1)),o 9 (b .and 6 8),o 0 (m 9)])]))),
 (.reg [o 15 (m 3),o 2 (m 15)]),
 .ret])⟩
def zk2:CFn:=⟨37,[.tmp 2,.tmp 3],(q [(.reg [o 2 (.mv (c (.nils 1))),o 3 (.mv (c (n 0)))]),
 (.reg [o 8 (m 0),o 9 (.call 133 [(t 8)]),o 4 (m 9)]),
 (.reg [o 10 (m 4),o 11 (.call 134 [(t 10),(c (.fn zG []))])]),
 (.reg [o 12 (m 4),o 13 (.call 136 [(t 12),(c (.fn zbZ []))]),o 4 (m 13)]),
 (.reg [o 14 (m 0),o 15 (ln 14),o 16 (.mkslice 1 8 [(n 0)] (t 15) (t 15)),o 5 (m 16)]),
 (q [(.reg [o 17 (m 0),o 18 (ln 17),o 19 (.mv (c (n 0)))]),
 (.block 0 (.loop (q [(.reg [o 20 (b .lss 19 18)]),
 (i 20 .skip (.exit 0)),
 (.block 1 (q [(.reg [o 21 (m 19),o 22 (ia 1 17 19),o 23 (l 22),o 6 (m 21),o 7 (m 23)]),
 (.reg [o 25 (m 5),o 26 (m 6),o 27 (m 4),o 28 (m 7),o 29 (.call 138 [(t 27),(t 28),(c (.fn zG []))]),o 24 (m 29),o 30 (e 24 0),o 31 (e 24 1),o 32 (ia 1 25 26),w (.store 1 (t 32) (t 30))])])),
 (.reg [o 33 (bc .add 19 (n 1)),o 19 (m 33)])])))]),
 (.reg [o 34 (m 5),o 35 (m 4),o 36 (ln 35),o 2 (m 34),o 3 (m 36)]),
 .ret])⟩
def zgG:CFn:=⟨11,[],(q [(.reg [o 3 (m 0),o 4 (ln 3),o 2 (m 4)]),
 (.reg [o 5 (m 0),o 6 (m 2),o 7 (m 2),o 8 (.conv .u64 (t 7)),o 9 (.call 140 [(t 8)]),o 10 (.call 139 [(t 5),(c (n 0)),(t 6),(t 9)])])])⟩
def zjq:CFn:=⟨18,[.tmp 4],(q [(.reg [o 4 (.mv (c .bf))]),
 (.reg [o 5 (m 1),o 6 (bc .geq 5 (n 0)),o 7 (m 6),g 8 7 true (m 1),g 9 7 true (bc .lss 8 (n 64)),o 10 (pf 7 9),o 11 (m 10),g 12 11 true (m 0),g 13 11 true (m 1),g 14 11 true (b .shr 12 13),g 15 11 true (bc .rem 14 (u 2)),g 16 11 true (bc .eql 15 (u 1)),o 17 (pf 11 16),o 4 (m 17)]),
 .ret])⟩
def zhq:CFn:=⟨25,[.tmp 4],(q [(.reg [o 4 (.mv (c (n 0)))]),
 (q [(.reg [o 7 (m 0),o 8 (ln 7),o 9 (.mv (c (n 0)))]),
 (.block 0 (.loop (q [(.reg [o 10 (b .lss 9 8)]),
 (i 10 .skip (.exit 0)),
 (.block 1 (q [(.reg [o 11 (m 9),o 5 (m 11)]),
 (.regd [o 12 (m 0),o 13 (m 5),o 14 (ia 1 12 13),o 15 (l 14),o 16 (m 1),o 17 (m 5),o 18 (ia 1 16 17),o 19 (l 18),o 20 (.call 141 [(t 15),(t 19)]),o 6 (m 20)] [0,0,3,7,0,0,48,112,255,511]),
 (.reg [o 21 (m 6),o 22 (bc .neq 21 (n 0))]),
 (i 22 (q [(.reg [o 23 (m 6),o 4 (m 23)]),
 .ret]) .skip)])),
 (.reg [o 24 (bc .add 9 (n 1)),o 9 (m 24)])])))]),
 (.reg [o 4 (.mv (c (n 0)))]),
 .ret])⟩
def zhr:CFn:=⟨70,[.tmp 4],(q [(.reg [o 4 (.mv (c (.nils 1)))]),
 (.reg [o 5 (.mv (c (.nils 1)))]),
 (q [(.reg [o 10 (m 0),o 11 (ln 10),o 12 (.mv (c (n 0)))]),
 (.block 0 (.loop (q [(.reg [o 13 (b .lss 12 11)]),
 (i 13 .skip (.exit 0)),
 (.block 1 (q [(.reg [o 14 (ia 1 10 12),o 15 (l 14),o 7 (m 15)]),
 (.reg [o 8 (.mv (c (n 0)))]),
 (.block 2 (.loop (q [(q [(.reg [o 16 (m 8),o 17 (m 5),o 18 (ln 17),o 19 (b .lss 16 18),o 20 (m 19),g 21 20 true (m 5),g 22 20 true (m 8),g 23 20 true (ia 1 21 22),g 24 20 true (l 23),g 25 20 true (m 7),g 26 20 true (b .lss 24 25),o 27 (pf 20 26)]),
 (i 27 .skip (.exit 2))]),
 (.block 3 (.reg [o 28 (m 8),o 29 (bc .add 28 (n 1)),o 8 (m 29)]))]))),
 (q [(.reg [o 30 (m 1),o 31 (m 30),g 32 31 true (m 8),g 33 31 true (m 5),g 34 31 true (ln 33),g 35 31 true (b .lss 32 34),o 36 (pf 31 35),o 37 (m 36),g 38 37 true (m 5),g 39 37 true (m 8),g 40 37 true (ia 1 38 39),g 41 37 true (l 40),g 42 37 true (m 7),g 43 37 true (b .eql 41 42),o 44 (pf 37 43)]),
 (i 44 (.exit 1) .skip)]),
 (.reg [o 45 (m 5),o 46 (.bslice 1 1 [(n 0)] [(0,(c (n 0)))]),o 47 (.app 1 8 (t 45) (t 46)),o 5 (m 47)]),
 (q [(.reg [o 48 (m 5),o 49 (ln 48),o 50 (bc .sub 49 (n 1)),o 9 (m 50)]),
 (.block 4 (.loop (q [(q [(.reg [o 51 (m 9),o 52 (m 8),o 53 (b .gtr 51 52)]),
 (i 53 .skip (.exit 4))]),
 (.block 5 (.reg [o 56 (m 5),o 57 (m 9),o 58 (m 5),o 59 (m 9),o 60 (bc .sub 59 (n 1)),o 61 (ia 1 58 60),o 62 (l 61),o 63 (ia 1 56 57),w (.store 1 (t 63) (t 62))])),
 (.reg [o 54 (m 9),o 55 (bc .sub 54 (n 1)),o 9 (m 55)])])))]),
 (.reg [o 64 (m 5),o 65 (m 8),o 66 (m 7),o 67 (ia 1 64 65),w (.store 1 (t 67) (t 66))])])),
 (.reg [o 68 (bc .add 12 (n 1)),o 12 (m 68)])])))]),
 (.reg [o 69 (m 5),o 4 (m 69)]),
 .ret])⟩
def zi2:CFn:=⟨66,[.tmp 8],(q [(.reg [o 8 (.mv (c .bf))]),
 (.reg [o 11 (l 0),o 12 (ln 11),o 9 (m 12)]),
 (q [(.reg [o 13 (m 9),o 14 (f 0 1),o 15 (l 14),o 16 (b .eql 13 15)]),
 (i 16 (q [(.regd [o 17 (l 2),o 18 (l 0),o 19 (.call 105 [(t 18)]),o 20 (.callv (t 17) [(t 19)]),o 8 (m 20)] [0,0,2,7,15]),
 .ret]) .skip)]),
 .skip,
 (q [(.reg [o 21 (f 0 3),o 22 (l 21),o 23 (.mv (c (n 0)))]),
 (.block 0 (.loop (q [(.reg [o 24 (b .lss 23 22)]),
 (i 24 .skip (.exit 0)),
 (.block 1 (q [(.reg [o 25 (m 23),o 10 (m 25)]),
 (q [(.regd [o 26 (l 4),o 27 (m 10),o 28 (b .shr 26 27),o 29 (bc .and 28 (u 1)),o 30 (bc .eql 29 (u 1)),o 31 (m 30),g 32 31 false (l 5),g 33 31 false (m 9),g 34 31 false (ia 1 32 33),g 35 31 false (l 34),g 36 31 false (l 6),g 37 31 false (m 10),g 38 31 false (ia 1 36 37),g 39 31 false (l 38),g 40 31 false (b .neq 35 39),o 41 (pt 31 40)] [0,0,3,7,15,31,63,63,255,511,63,63,3135,7231,16383,32767]),
 (i 41 (.exit 1) .skip)]),
 (.reg [o 42 (l 0),o 43 (m 10),o 44 (.bslice 1 1 [(n 0)] [(0,(t 43))]),o 45 (.app 1 8 (t 42) (t 44)),w (.store 1 (t 0) (t 45))]),
 (q [(.reg [o 46 (la 3 1),o 47 (la 3 3),o 48 (l 0),o 49 (m 9),o 50 (.call 58 [(t 46),(t 47),(t 48),(t 49)])]),
 (i 50 (q [(.regd [o 51 (l 4),o 52 (m 10),o 53 (.bin .shl (c (u 1)) (t 52)),o 54 (b .or 51 53),w (.store 1 (t 4) (t 54))] [0,0,2,7,15]),
 (q [(.reg [o 55 (l 7),o 56 (.callv (t 55) []),o 57 (.un .not (t 56))]),
 (i 57 (q [(.reg [o 8 (.mv (c .bf))]),
 .ret]) .skip)]),
 (.regd [o 58 (l 4),o 59 (m 10),o 60 (.bin .shl (c (u 1)) (t 59)),o 61 (b .andNot 58 60),w (.store 1 (t 4) (t 61))] [0,0,2,7,15])]) .skip)]),
 (.reg [o 62 (l 0),o 63 (m 9),o 64 (.slice 1 (t 62) none (some (t 63))),w (.store 1 (t 0) (t 64))])])),
 (.reg [o 65 (bc .add 23 (n 1)),o 23 (m 65)])])))]),
 (.reg [o 8 (.mv (c .bt))]),
 .ret])⟩
def zgd:CFn:=⟨8,[.tmp 2],(q [(.reg [o 2 (.mv (c (.nils 1)))]),
 (q [(.reg [o 3 (m 0),o 4 (.eqN false (t 3) (c (.nils 1)))]),
 (i 4 (q [(.reg [o 2 (.mv (c (.nils 1)))]),
 .ret]) .skip)]),
 (.reg [o 5 (.bslice 1 0 [(n 0)] []),o 6 (m 0),o 7 (.app 1 8 (t 5) (t 6)),o 2 (m 7)]),
 .ret])⟩
def zif:CFn:=⟨108,[.tmp 6],(q [(.reg [o 6 (.mv (c .bf))]),
 (q [(.regd [o 10 (m 0),o 11 (.nilck (t 10)),o 12 (f 0 11),o 13 (la 3 12),o 14 (m 1),o 15 (.call 50 [(t 13),(t 14)]),o 16 (m 0),o 17 (.nilck (t 16)),o 18 (f 3 17),o 19 (la 3 18),o 20 (m 2),o 21 (.call 50 [(t 19),(t 20)]),o 22 (b .neq 15 21)] [0,1,3,7,0,31,0,64,192,448,0,2047,4095]),
 (i 22 (q [(.reg [o 6 (.mv (c .bf))]),
 .ret]) .skip)]),
 (q [(.reg [o 7 (.mv (c (n 0)))]),
 (.block 0 (.loop (q [(q [(.reg [o 23 (m 7),o 24 (m 1),o 25 (b .leq 23 24)]),
 (i 25 .skip (.exit 0))]),
 (.block 1 (q [(.reg [o 28 (m 2),o 8 (m 28)]),
 (q [(.reg [o 29 (m 7),o 30 (m 1),o 31 (b .lss 29 30)]),
 (i 31 (q [(.reg [o 32 (m 0),o 33 (.nilck (t 32)),o 34 (f 6 33),o 35 (l 34),o 36 (m 7),o 37 (ia 1 35 36),o 38 (l 37),o 8 (m 38)]),
 (.reg [o 39 (m 8),o 40 (m 2),o 41 (b .eql 39 40)]),
 (i 41 (q [(.reg [o 6 (.mv (c .bf))]),
 .ret]) .skip)]) .skip)]),
 (.reg [o 42 (m 0),o 43 (.nilck (t 42)),o 44 (f 0 43),o 45 (f 2 44),o 46 (l 45),o 47 (ln 46),o 48 (.mv (c (n 0)))]),
 (.block 2 (.loop (q [(.reg [o 49 (b .lss 48 47)]),
 (i 49 .skip (.exit 2)),
 (.block 3 (q [(.reg [o 50 (m 48),o 9 (m 50)]),
 (.regd [o 51 (m 0),o 52 (.nilck (t 51)),o 53 (f 0 52),o 54 (f 2 53),o 55 (l 54),o 56 (m 9),o 57 (ia 1 55 56),o 58 (l 57),o 59 (m 1),o 60 (ia 1 58 59),o 61 (l 60),o 62 (m 7),o 63 (.call 101 [(t 61),(t 62)]),o 64 (m 0),o 65 (.nilck (t 64)),o 66 (f 3 65),o 67 (f 2 66),o 68 (l 67),o 69 (m 9),o 70 (ia 1 68 69),o 71 (l 70),o 72 (m 2),o 73 (ia 1 71 72),o 74 (l 73),o 75 (m 8),o 76 (.call 101 [(t 74),(t 75)]),o 77 (.eqB true (t 63) (t 76)),o 78 (m 77),g 79 78 false (m 0),g 80 78 false (.nilck (t 79)),g 81 78 false (f 0 80),g 82 78 false (f 2 81),g 83 78 false (l 82),g 84 78 false (m 9),g 85 78 false (ia 1 83 84),g 86 78 false (l 85),g 87 78 false (m 7),g 88 78 false (ia 1 86 87),g 89 78 false (l 88),g 90 78 false (m 1),g 91 78 false (.call 101 [(t 89),(t 90)]),g 92 78 false (m 0),g 93 78 false (.nilck (t 92)),g 94 78 false (f 3 93),g 95 78 false (f 2 94),g 96 78 false (l 95),g 97 78 false (m 9),g 98 78 false (ia 1 96 97),g 99 78 false (l 98),g 100 78 false (m 8),g 101 78 false (ia 1 99 100),g 102 78 false (l 101),g 103 78 false (m 2),g 104 78 false (.call 101 [(t 102),(t 103)]),g 105 78 false (.eqB true (t 91) (t 104)),o 106 (pt 78 105)] [0,1,3,7,15,0,63,127,0,511,1023,0,4095,0,8192,24576,57344,122880,0,516096,1040384,0,4186112,8380416,0,33554431,67108863,134217727,268435455,536870911,1073741823,2147483647,4294967295,268435455,17179869183,34359738367,268435455,137438953471,274877906943,268435455,1099511627775,268435455,2199291691007,6597338202111,15393431224319,32985617268735,268435455,138538733535231,279276221890559,268435455,1123701152022527,2249601058865151,268435455,9007199254740991,18014398509481983,36028797018963967]),
 (i 106 (q [(.reg [o 6 (.mv (c .bf))]),
 .ret]) .skip)])),
 (.reg [o 107 (bc .add 48 (n 1)),o 48 (m 107)])])))])),
 (.reg [o 26 (m 7),o 27 (bc .add 26 (n 1)),o 7 (m 27)])])))]),
 (.reg [o 6 (.mv (c .bt))]),
 .ret])⟩
def zg8:CFn:=⟨39,[.tmp 4,.tmp 5],(q [(.reg [o 4 (.mv (c (.nils 1))),o 5 (.mv (c .bf))]),
 (q [(.reg [o 9 (m 0),o 10 (ln 9),o 11 (m 1),o 12 (b .neq 10 11)]),
 (i 12 (q [(.reg [o 4 (.mv (c (.nils 1))),o 5 (.mv (c .bf))]),
 .ret]) .skip)]),
 (.reg [o 6 (.mv (c (.nils 1)))]),
 (q [(.reg [o 7 (.mv (c (n 0)))]),
 (.block 0 (.loop (q [(q [(.reg [o 13 (m 7),o 14 (m 1),o 15 (b .lss 13 14)]),
 (i 15 .skip (.exit 0))]),
 (.block 1 (q [(q [(.reg [o 8 (.mv (c (n 0)))]),
 (.block 2 (.loop (q [(q [(.reg [o 18 (m 8),o 19 (m 1),o 20 (b .lss 18 19)]),
 (i 20 .skip (.exit 2))]),
 (.block 3 (q [(.reg [o 23 (m 0),o 24 (m 8),o 25 (ia 1 23 24),o 26 (l 25),o 27 (m 7),o 28 (b .eql 26 27)]),
 (i 28 (.reg [o 29 (m 6),o 30 (m 8),o 31 (.bslice 1 1 [(n 0)] [(0,(t 30))]),o 32 (.app 1 8 (t 29) (t 31)),o 6 (m 32)]) .skip)])),
 (.reg [o 21 (m 8),o 22 (bc .add 21 (n 1)),o 8 (m 22)])])))]),
 (.reg [o 33 (m 6),o 34 (ln 33),o 35 (m 7),o 36 (bc .add 35 (n 1)),o 37 (b .neq 34 36)]),
 (i 37 (q [(.reg [o 4 (.mv (c (.nils 1))),o 5 (.mv (c .bf))]),
 .ret]) .skip)])),
 (.reg [o 16 (m 7),o 17 (bc .add 16 (n 1)),o 7 (m 17)])])))]),
 (.reg [o 38 (m 6),o 4 (m 38),o 5 (.mv (c .bt))]),
 .ret])⟩
def zi4:CFn:=⟨68,[.cell 4 (some 3)],(q [(.reg [o 2 (.box 3 (t 0)),o 4 (.alloc [(n 0),(.nils 1),(.nils 1)])]),
 (.reg [o 10 (m 1),o 11 (ln 10),o 12 (.build [(n 0),(.nils 1),(.nils 1)] [(0,1,(t 11))]),o 5 (.alloc [(n 0),(.nils 1),(.nils 1)]),w (.store 3 (t 5) (t 12))]),
 (q [(.reg [o 6 (.mv (c (n 0)))]),
 (.block 0 (.loop (q [(q [(.reg [o 13 (m 6),o 14 (f 1 2),o 15 (l 14),o 16 (ln 15),o 17 (b .lss 13 16)]),
 (i 17 .skip (.exit 0))]),
 (.block 1 (.regd [o 20 (f 1 5),o 21 (l 20),o 22 (f 1 2),o 23 (l 22),o 24 (m 6),o 25 (ia 1 23 24),o 26 (l 25),o 27 (m 1),o 28 (.call 142 [(t 26),(t 27)]),o 29 (.bslice 1 1 [(u 0)] [(0,(t 28))]),o 30 (.app 1 8 (t 21) (t 29)),o 31 (f 1 5),w (.store 1 (t 31) (t 30))] [0,1,0,4,0,28,60,0,252,508,1023,2047,4095])),
 (.reg [o 18 (m 6),o 19 (bc .add 18 (n 1)),o 6 (m 19)])])))]),
 (q [(.reg [o 7 (.mv (c (n 0)))]),
 (.block 2 (.loop (q [(q [(.reg [o 32 (m 7),o 33 (f 2 2),o 34 (l 33),o 35 (ln 34),o 36 (b .lss 32 35)]),
 (i 36 .skip (.exit 2))]),
 (.block 3 (q [(.reg [o 8 (.mv (c (.nils 1)))]),
 (q [(.reg [o 9 (.mv (c (n 0)))]),
 (.block 4 (.loop (q [(q [(.reg [o 39 (m 9),o 40 (m 1),o 41 (ln 40),o 42 (b .lss 39 41)]),
 (i 42 .skip (.exit 4))]),
 (.block 5 (.regd [o 45 (m 8),o 46 (f 2 2),o 47 (l 46),o 48 (m 7),o 49 (ia 1 47 48),o 50 (l 49),o 51 (m 1),o 52 (m 9),o 53 (ia 1 51 52),o 54 (l 53),o 55 (ia 1 50 54),o 56 (l 55),o 57 (m 1),o 58 (.call 142 [(t 56),(t 57)]),o 59 (.bslice 1 1 [(u 0)] [(0,(t 58))]),o 60 (.app 1 8 (t 45) (t 59)),o 8 (m 60)] [0,0,2,0,14,30,0,0,192,448,1022,2046,0,8190,16382,32767,65535])),
 (.reg [o 43 (m 9),o 44 (bc .add 43 (n 1)),o 9 (m 44)])])))]),
 (.reg [o 61 (f 2 5),o 62 (l 61),o 63 (m 8),o 64 (.bslice 1 1 [(.nils 1)] [(0,(t 63))]),o 65 (.app 1 24 (t 62) (t 64)),o 66 (f 2 5),w (.store 1 (t 66) (t 65))])])),
 (.reg [o 37 (m 7),o 38 (bc .add 37 (n 1)),o 7 (m 38)])])))]),
 (.reg [o 67 (la 3 5),w (.store 3 (t 4) (t 67))]),
 .ret])⟩
def zjo:CFn:=⟨8,[.tmp 2],(q [(.reg [o 2 (.mv (c (u 0)))]),
 (q [(.reg [o 3 (m 0),o 4 (bc .geq 3 (n 64))]),
 (i 4 (q [(.reg [o 2 (.mv (c (u 18446744073709551615)))]),
 .ret]) .skip)]),
 (.reg [o 5 (m 0),o 6 (.bin .shl (c (u 1)) (t 5)),o 7 (bc .sub 6 (u 1)),o 2 (m 7)]),
 .ret])⟩
def zc4:CFn:=⟨9,[.tmp 4],(q [(.reg [o 4 (.mv (c .bf))]),
 (.reg [o 5 (m 0),o 6 (m 1),o 7 (.call 147 [(t 5),(t 6)]),o 8 (bc .geq 7 (n 0)),o 4 (m 8)]),
 .ret])⟩
def zkz:CFn:=⟨9,[.tmp 3],(q [(.reg [o 3 (.mv (c .bf))]),
 (.reg [o 4 (m 0),o 5 (l 1),o 6 (.call 73 [(t 5)]),o 7 (b .andNot 4 6),o 8 (bc .neq 7 (u 0)),o 3 (m 8)]),
 .ret])⟩
def zc9:CFn:=⟨19,[.tmp 4],(q [(.reg [o 4 (.mv (c (n 0)))]),
 (q [(.reg [o 6 (m 0),o 7 (ln 6),o 8 (.mv (c (n 0)))]),
 (.block 0 (.loop (q [(.reg [o 9 (b .lss 8 7)]),
 (i 9 .skip (.exit 0)),
 (.block 1 (q [(.reg [o 10 (m 8),o 5 (m 10)]),
 (.reg [o 11 (m 1),o 12 (m 0),o 13 (m 5),o 14 (ia 1 12 13),o 15 (l 14),o 16 (.callv (t 11) [(t 15)])]),
 (i 16 (q [(.reg [o 17 (m 5),o 4 (m 17)]),
 .ret]) .skip)])),
 (.reg [o 18 (bc .add 8 (n 1)),o 8 (m 18)])])))]),
 (.reg [o 4 (.mv (c (n (-1))))]),
 .ret])⟩
def zbN:CFn:=⟨8,[.tmp 2],(q [(.reg [o 2 (.mv (c (.nils 1)))]),
 (q [(.reg [o 3 (m 0),o 4 (.eqN false (t 3) (c (.nils 1)))]),
 (i 4 (q [(.reg [o 2 (.mv (c (.nils 1)))]),
 .ret]) .skip)]),
 (.reg [o 5 (.bslice 1 0 [(.nils 1)] []),o 6 (m 0),o 7 (.app 1 24 (t 5) (t 6)),o 2 (m 7)]),
 .ret])⟩
def zbw:CFn:=⟨14,[],(q [(.reg [o 5 (m 0),o 6 (ln 5),o 4 (m 6)]),
 (.reg [o 7 (m 0),o 8 (m 4),o 9 (m 4),o 10 (.conv .u64 (t 9)),o 11 (.call 140 [(t 10)]),o 12 (m 1),o 13 (.call 159 [(t 7),(c (n 0)),(t 8),(t 11),(t 12)])])])⟩
def zk1:CFn:=⟨8,[.tmp 4],(q [(.reg [o 4 (.mv (c (n 0)))]),
 (.reg [o 5 (m 0),o 6 (m 1),o 7 (.call 160 [(t 5),(t 6),(c (.fn zbb []))]),o 4 (m 7)]),
 .ret])⟩
def zbj:CFn:=⟨66,[.tmp 4],(q [(.reg [o 4 (.mv (c (.nils 1)))]),
 (q [(.reg [o 8 (m 0),o 9 (ln 8),o 10 (bc .lss 9 (n 2))]),
 (i 10 (q [(.reg [o 11 (m 0),o 4 (m 11)]),
 .ret]) .skip)]),
 (q [(.reg [o 5 (.mv (c (n 1)))]),
 (.block 0 (.loop (q [(q [(.reg [o 12 (m 5),o 13 (m 0),o 14 (ln 13),o 15 (b .lss 12 14)]),
 (i 15 .skip (.exit 0))]),
 (.block 1 (q [(.regd [o 18 (m 1),o 19 (m 0),o 20 (m 5),o 21 (ia 1 19 20),o 22 (l 21),o 23 (m 0),o 24 (m 5),o 25 (bc .sub 24 (n 1)),o 26 (ia 1 23 25),o 27 (l 26),o 28 (.callv (t 18) [(t 22),(t 27)])] [0,0,0,6,14,0,0,64,224,480,1023]),
 (i 28 (q [(.reg [o 29 (m 0),o 30 (m 5),o 31 (.slice 1 (t 29) (some (t 30)) none),o 6 (m 31)]),
 (q [(.reg [o 7 (.mv (c (n 1)))]),
 (.block 2 (.loop (q [(q [(.reg [o 32 (m 7),o 33 (m 6),o 34 (ln 33),o 35 (b .lss 32 34)]),
 (i 35 .skip (.exit 2))]),
 (.block 3 (q [(.regd [o 38 (m 1),o 39 (m 6),o 40 (m 7),o 41 (ia 1 39 40),o 42 (l 41),o 43 (m 6),o 44 (m 7),o 45 (bc .sub 44 (n 1)),o 46 (ia 1 43 45),o 47 (l 46),o 48 (.callv (t 38) [(t 42),(t 47)]),o 49 (.un .not (t 48))] [0,0,0,6,14,0,0,64,224,480,1023,2047]),
 (i 49 (q [(.reg [o 50 (m 0),o 51 (m 5),o 52 (m 6),o 53 (m 7),o 54 (ia 1 52 53),o 55 (l 54),o 56 (ia 1 50 51),w (.store 1 (t 56) (t 55))]),
 (.reg [o 57 (m 5),o 58 (bc .add 57 (n 1)),o 5 (m 58)])]) .skip)])),
 (.reg [o 36 (m 7),o 37 (bc .add 36 (n 1)),o 7 (m 37)])])))]),
 (.reg [o 59 (m 0),o 60 (m 5),o 61 (.slice 1 (t 59) (some (t 60)) none),w (.clear 1 [(.nils 1)] (t 61))]),
 (.reg [o 62 (m 0),o 63 (m 5),o 64 (.slice 1 (t 62) none (some (t 63))),o 4 (m 64)]),
 .ret]) .skip)])),
 (.reg [o 16 (m 5),o 17 (bc .add 16 (n 1)),o 5 (m 17)])])))]),
 (.reg [o 65 (m 0),o 4 (m 65)]),
 .ret])⟩
def zjn:CFn:=⟨9,[.tmp 4],(q [(.reg [o 4 (.mv (c .bf))]),
 (.reg [o 5 (m 0),o 6 (m 1),o 7 (.call 135 [(t 5),(t 6)]),o 8 (bc .eql 7 (n 0)),o 4 (m 8)]),
 .ret])⟩
def zap:CFn:=⟨49,[.tmp 6,.tmp 7],(q [(.reg [o 6 (.mv (c (n 0))),o 7 (.mv (c .bf))]),
 (.reg [o 12 (m 0),o 13 (ln 12),o 8 (m 13)]),
 (.reg [o 14 (m 8),o 9 (.mv (c (n 0))),o 10 (m 14)]),
 (.block 0 (.loop (q [(q [(.reg [o 15 (m 9),o 16 (m 10),o 17 (b .lss 15 16)]),
 (i 17 .skip (.exit 0))]),
 (.block 1 (q [(.reg [o 18 (m 9),o 19 (m 10),o 20 (b .add 18 19),o 21 (.conv .u64 (t 20)),o 22 (bc .shr 21 (u 1)),o 23 (.conv .i64 (t 22)),o 11 (m 23)]),
 (.reg [o 24 (m 2),o 25 (m 0),o 26 (m 11),o 27 (ia 1 25 26),o 28 (l 27),o 29 (m 1),o 30 (.callv (t 24) [(t 28),(t 29)]),o 31 (bc .lss 30 (n 0))]),
 (i 31 (.reg [o 32 (m 11),o 33 (bc .add 32 (n 1)),o 9 (m 33)]) (.reg [o 34 (m 11),o 10 (m 34)]))]))]))),
 (.reg [o 35 (m 9),o 36 (m 9),o 37 (m 8),o 38 (b .lss 36 37),o 39 (m 38),g 40 39 true (m 2),g 41 39 true (m 0),g 42 39 true (m 9),g 43 39 true (ia 1 41 42),g 44 39 true (l 43),g 45 39 true (m 1),g 46 39 true (.callv (t 40) [(t 44),(t 45)]),g 47 39 true (bc .eql 46 (n 0)),o 48 (pf 39 47),o 6 (m 35),o 7 (m 48)]),
 .ret])⟩
def zeR:CFn:=⟨134,[],(q [(.reg [o 8 (.mv (c .bt))]),
 (.reg [o 9 (.mv (c .bt))]),
 (.block 0 (.loop (.block 1 (q [(.reg [o 19 (m 2),o 20 (m 1),o 21 (b .sub 19 20),o 10 (m 21)]),
 (q [(.reg [o 22 (m 10),o 23 (bc .leq 22 (n 12))]),
 (i 23 (q [(.reg [o 24 (m 0),o 25 (m 1),o 26 (m 2),o 27 (.call 164 [(t 24),(t 25),(t 26)])]),
 .ret]) .skip)]),
 (q [(.reg [o 28 (m 3),o 29 (bc .eql 28 (n 0))]),
 (i 29 (q [(.reg [o 30 (m 0),o 31 (m 1),o 32 (m 2),o 33 (.call 165 [(t 30),(t 31),(t 32)])]),
 .ret]) .skip)]),
 (q [(.reg [o 34 (m 8),o 35 (.un .not (t 34))]),
 (i 35 (q [(.reg [o 36 (m 0),o 37 (m 1),o 38 (m 2),o 39 (.call 166 [(t 36),(t 37),(t 38)])]),
 (.reg [o 40 (m 3),o 41 (bc .sub 40 (n 1)),o 3 (m 41)])]) .skip)]),
 (.reg [o 43 (m 0),o 44 (m 1),o 45 (m 2),o 46 (.call 167 [(t 43),(t 44),(t 45)]),o 42 (m 46),o 47 (e 42 0),o 48 (e 42 1),o 11 (m 47),o 12 (m 48)]),
 (q [(.reg [o 49 (m 12),o 50 (bc .eql 49 (n 2))]),
 (i 50 (q [(.reg [o 51 (m 0),o 52 (m 1),o 53 (m 2),o 54 (.call 168 [(t 51),(t 52),(t 53)])]),
 (.reg [o 55 (m 2),o 56 (bc .sub 55 (n 1)),o 57 (m 11),o 58 (m 1),o 59 (b .sub 57 58),o 60 (b .sub 56 59),o 11 (m 60)]),
 (.reg [o 12 (.mv (c (n 1)))])]) .skip)]),
 (q [(.reg [o 61 (m 8),o 62 (m 61),g 63 62 true (m 9),o 64 (pf 62 63),o 65 (m 64),g 66 65 true (m 12),g 67 65 true (bc .eql 66 (n 1)),o 68 (pf 65 67)]),
 (i 68 (q [(.reg [o 69 (m 0),o 70 (m 1),o 71 (m 2),o 72 (.call 169 [(t 69),(t 70),(t 71)])]),
 (i 72 .ret .skip)]) .skip)]),
 (q [(.regd [o 73 (m 1),o 74 (bc .gtr 73 (n 0)),o 75 (m 74),g 76 75 true (m 0),g 77 75 true (m 1),g 78 75 true (bc .sub 77 (n 1)),g 79 75 true (ia 1 76 78),g 80 75 true (l 79),g 81 75 true (m 0),g 82 75 true (m 11),g 83 75 true (ia 1 81 82),g 84 75 true (l 83),g 85 75 true (.call 170 [(t 80),(t 84)]),g 86 75 true (.un .not (t 85)),o 87 (pf 75 86)] [0,1,3,7,7,23,63,127,7,7,775,1799,4095,8191,16383]),
 (i 87 (q [(.reg [o 88 (m 0),o 89 (m 1),o 90 (m 2),o 91 (m 11),o 92 (.call 171 [(t 88),(t 89),(t 90),(t 91)]),o 13 (m 92)]),
 (.reg [o 93 (m 13),o 1 (m 93)]),
 (.exit 1)]) .skip)]),
 (.reg [o 95 (m 0),o 96 (m 1),o 97 (m 2),o 98 (m 11),o 99 (.call 172 [(t 95),(t 96),(t 97),(t 98)]),o 94 (m 99),o 100 (e 94 0),o 101 (e 94 1),o 14 (m 100),o 15 (m 101)]),
 (.reg [o 102 (m 15),o 9 (m 102)]),
 (.reg [o 103 (m 14),o 104 (m 1),o 105 (b .sub 103 104),o 106 (m 2),o 107 (m 14),o 108 (b .sub 106 107),o 16 (m 105),o 17 (m 108)]),
 (.reg [o 109 (m 10),o 110 (bc .quo 109 (n 8)),o 18 (m 110)]),
 (.reg [o 111 (m 16),o 112 (m 17),o 113 (b .lss 111 112)]),
 (i 113 (q [(.reg [o 114 (m 16),o 115 (m 18),o 116 (b .geq 114 115),o 8 (m 116)]),
 (.reg [o 117 (m 0),o 118 (m 1),o 119 (m 14),o 120 (m 3),o 121 (.call 139 [(t 117),(t 118),(t 119),(t 120)])]),
 (.reg [o 122 (m 14),o 123 (bc .add 122 (n 1)),o 1 (m 123)])]) (q [(.reg [o 124 (m 17),o 125 (m 18),o 126 (b .geq 124 125),o 8 (m 126)]),
 (.reg [o 127 (m 0),o 128 (m 14),o 129 (bc .add 128 (n 1)),o 130 (m 2),o 131 (m 3),o 132 (.call 139 [(t 127),(t 129),(t 130),(t 131)])]),
 (.reg [o 133 (m 14),o 2 (m 133)])]))]))))])⟩
def zlP:CFn:=⟨8,[.tmp 2],(q [(.reg [o 2 (.mv (c (n 0)))]),
 (.cond (c .bf) (q [(.reg [o 3 (m 0),o 4 (.conv .u32 (t 3)),o 5 (.call 173 [(t 4)]),o 2 (m 5)]),
 .ret]) .skip),
 (.reg [o 6 (m 0),o 7 (.call 92 [(t 6)]),o 2 (m 7)]),
 .ret])⟩
def zi7:CFn:=⟨39,[.tmp 4],(q [(.reg [o 4 (.mv (c (n 0)))]),
 (q [(.reg [o 6 (m 0),o 7 (ln 6),o 8 (.mv (c (n 0)))]),
 (.block 0 (.loop (q [(.reg [o 9 (b .lss 8 7)]),
 (i 9 .skip (.exit 0)),
 (.block 1 (q [(.reg [o 10 (m 8),o 5 (m 10)]),
 (q [(.reg [o 11 (m 5),o 12 (m 1),o 13 (ln 12),o 14 (b .geq 11 13)]),
 (i 14 (q [(.reg [o 4 (.mv (c (n 1)))]),
 .ret]) .skip)]),
 (.regd [o 15 (m 0),o 16 (m 5),o 17 (ia 1 15 16),o 18 (l 17),o 19 (m 1),o 20 (m 5),o 21 (ia 1 19 20),o 22 (l 21),o 23 (b .neq 18 22)] [0,0,3,7,0,0,48,112,255]),
 (i 23 (q [(q [(.regd [o 24 (m 0),o 25 (m 5),o 26 (ia 1 24 25),o 27 (l 26),o 28 (m 1),o 29 (m 5),o 30 (ia 1 28 29),o 31 (l 30),o 32 (b .lss 27 31)] [0,0,3,7,0,0,48,112,255]),
 (i 32 (q [(.reg [o 4 (.mv (c (n (-1))))]),
 .ret]) .skip)]),
 (.reg [o 4 (.mv (c (n 1)))]),
 .ret]) .skip)])),
 (.reg [o 33 (bc .add 8 (n 1)),o 8 (m 33)])])))]),
 (q [(.reg [o 34 (m 0),o 35 (ln 34),o 36 (m 1),o 37 (ln 36),o 38 (b .lss 35 37)]),
 (i 38 (q [(.reg [o 4 (.mv (c (n (-1))))]),
 .ret]) .skip)]),
 (.reg [o 4 (.mv (c (n 0)))]),
 .ret])⟩
def zg9:CFn:=⟨24,[.tmp 4],(q [(.reg [o 4 (.mv (c (u 0)))]),
 (.reg [o 5 (.mv (c (u 0)))]),
 (q [(.reg [o 6 (.mv (c (n 0)))]),
 (.block 0 (.loop (q [(q [(.reg [o 7 (m 6),o 8 (m 1),o 9 (ln 8),o 10 (b .lss 7 9)]),
 (i 10 .skip (.exit 0))]),
 (.block 1 (q [(.reg [o 13 (m 0),o 14 (m 1),o 15 (m 6),o 16 (ia 1 14 15),o 17 (l 16),o 18 (.call 101 [(t 13),(t 17)])]),
 (i 18 (.reg [o 19 (m 5),o 20 (m 6),o 21 (.bin .shl (c (u 1)) (t 20)),o 22 (b .or 19 21),o 5 (m 22)]) .skip)])),
 (.reg [o 11 (m 6),o 12 (bc .add 11 (n 1)),o 6 (m 12)])])))]),
 (.reg [o 23 (m 5),o 4 (m 23)]),
 .ret])⟩
def zdB:CFn:=⟨19,[.tmp 4],(q [(.reg [o 4 (.mv (c (n 0)))]),
 (q [(.reg [o 6 (m 0),o 7 (ln 6),o 8 (.mv (c (n 0)))]),
 (.block 0 (.loop (q [(.reg [o 9 (b .lss 8 7)]),
 (i 9 .skip (.exit 0)),
 (.block 1 (q [(.reg [o 10 (m 8),o 5 (m 10)]),
 (.reg [o 11 (m 1),o 12 (m 0),o 13 (m 5),o 14 (ia 1 12 13),o 15 (l 14),o 16 (.callv (t 11) [(t 15)])]),
 (i 16 (q [(.reg [o 17 (m 5),o 4 (m 17)]),
 .ret]) .skip)])),
 (.reg [o 18 (bc .add 8 (n 1)),o 8 (m 18)])])))]),
 (.reg [o 4 (.mv (c (n (-1))))]),
 .ret])⟩
def zcM:CFn:=⟨148,[],(q [(.reg [o 10 (.mv (c .bt))]),
 (.reg [o 11 (.mv (c .bt))]),
 (.block 0 (.loop (.block 1 (q [(.reg [o 21 (m 2),o 22 (m 1),o 23 (b .sub 21 22),o 12 (m 23)]),
 (q [(.reg [o 24 (m 12),o 25 (bc .leq 24 (n 12))]),
 (i 25 (q [(.reg [o 26 (m 0),o 27 (m 1),o 28 (m 2),o 29 (m 4),o 30 (.call 183 [(t 26),(t 27),(t 28),(t 29)])]),
 .ret]) .skip)]),
 (q [(.reg [o 31 (m 3),o 32 (bc .eql 31 (n 0))]),
 (i 32 (q [(.reg [o 33 (m 0),o 34 (m 1),o 35 (m 2),o 36 (m 4),o 37 (.call 184 [(t 33),(t 34),(t 35),(t 36)])]),
 .ret]) .skip)]),
 (q [(.reg [o 38 (m 10),o 39 (.un .not (t 38))]),
 (i 39 (q [(.reg [o 40 (m 0),o 41 (m 1),o 42 (m 2),o 43 (m 4),o 44 (.call 185 [(t 40),(t 41),(t 42),(t 43)])]),
 (.reg [o 45 (m 3),o 46 (bc .sub 45 (n 1)),o 3 (m 46)])]) .skip)]),
 (.reg [o 48 (m 0),o 49 (m 1),o 50 (m 2),o 51 (m 4),o 52 (.call 186 [(t 48),(t 49),(t 50),(t 51)]),o 47 (m 52),o 53 (e 47 0),o 54 (e 47 1),o 13 (m 53),o 14 (m 54)]),
 (q [(.reg [o 55 (m 14),o 56 (bc .eql 55 (n 2))]),
 (i 56 (q [(.reg [o 57 (m 0),o 58 (m 1),o 59 (m 2),o 60 (m 4),o 61 (.call 187 [(t 57),(t 58),(t 59),(t 60)])]),
 (.reg [o 62 (m 2),o 63 (bc .sub 62 (n 1)),o 64 (m 13),o 65 (m 1),o 66 (b .sub 64 65),o 67 (b .sub 63 66),o 13 (m 67)]),
 (.reg [o 14 (.mv (c (n 1)))])]) .skip)]),
 (q [(.reg [o 68 (m 10),o 69 (m 68),g 70 69 true (m 11),o 71 (pf 69 70),o 72 (m 71),g 73 72 true (m 14),g 74 72 true (bc .eql 73 (n 1)),o 75 (pf 72 74)]),
 (i 75 (q [(.reg [o 76 (m 0),o 77 (m 1),o 78 (m 2),o 79 (m 4),o 80 (.call 188 [(t 76),(t 77),(t 78),(t 79)])]),
 (i 80 .ret .skip)]) .skip)]),
 (q [(.regd [o 81 (m 1),o 82 (bc .gtr 81 (n 0)),o 83 (m 82),g 84 83 true (m 4),g 85 83 true (m 0),g 86 83 true (m 1),g 87 83 true (bc .sub 86 (n 1)),g 88 83 true (ia 1 85 87),g 89 83 true (l 88),g 90 83 true (m 0),g 91 83 true (m 13),g 92 83 true (ia 1 90 91),g 93 83 true (l 92),g 94 83 true (.callv (t 84) [(t 89),(t 93)]),g 95 83 true (bc .lss 94 (n 0)),g 96 83 true (.un .not (t 95)),o 97 (pf 83 96)] [0,1,3,7,7,7,39,119,247,7,7,1543,3591,8191,16383,32767,65535]),
 (i 97 (q [(.reg [o 98 (m 0),o 99 (m 1),o 100 (m 2),o 101 (m 13),o 102 (m 4),o 103 (.call 189 [(t 98),(t 99),(t 100),(t 101),(t 102)]),o 15 (m 103)]),
 (.reg [o 104 (m 15),o 1 (m 104)]),
 (.exit 1)]) .skip)]),
 (.reg [o 106 (m 0),o 107 (m 1),o 108 (m 2),o 109 (m 13),o 110 (m 4),o 111 (.call 190 [(t 106),(t 107),(t 108),(t 109),(t 110)]),o 105 (m 111),o 112 (e 105 0),o 113 (e 105 1),o 16 (m 112),o 17 (m 113)]),
 (.reg [o 114 (m 17),o 11 (m 114)]),
 (.reg [o 115 (m 16),o 116 (m 1),o 117 (b .sub 115 116),o 118 (m 2),o 119 (m 16),o 120 (b .sub 118 119),o 18 (m 117),o 19 (m 120)]),
 (.reg [o 121 (m 12),o 122 (bc .quo 121 (n 8)),o 20 (m 122)]),
 (.reg [o 123 (m 18),o 124 (m 19),o 125 (b .lss 123 124)]),
 (i 125 (q [(.reg [o 126 (m 18),o 127 (m 20),o 128 (b .geq 126 127),o 10 (m 128)]),
 (.reg [o 129 (m 0),o 130 (m 1),o 131 (m 16),o 132 (m 3),o 133 (m 4),o 134 (.call 159 [(t 129),(t 130),(t 131),(t 132),(t 133)])]),
 (.reg [o 135 (m 16),o 136 (bc .add 135 (n 1)),o 1 (m 136)])]) (q [(.reg [o 137 (m 19),o 138 (m 20),o 139 (b .geq 137 138),o 10 (m 139)]),
 (.reg [o 140 (m 0),o 141 (m 16),o 142 (bc .add 141 (n 1)),o 143 (m 2),o 144 (m 3),o 145 (m 4),o 146 (.call 159 [(t 140),(t 142),(t 143),(t 144),(t 145)])]),
 (.reg [o 147 (m 16),o 2 (m 147)])]))]))))])⟩
def zgc:CFn:=⟨36,[.tmp 6],(q [(.reg [o 6 (.mv (c (n 0)))]),
 (q [(.reg [o 9 (m 0),o 10 (ln 9),o 11 (m 1),o 12 (ln 11),o 13 (.mm false (t 10) (t 12)),o 14 (.mv (c (n 0)))]),
 (.block 0 (.loop (q [(.reg [o 15 (b .lss 14 13)]),
 (i 15 .skip (.exit 0)),
 (.block 1 (q [(.reg [o 16 (m 14),o 7 (m 16)]),
 (.regd [o 17 (m 2),o 18 (m 0),o 19 (m 7),o 20 (ia 1 18 19),o 21 (l 20),o 22 (m 1),o 23 (m 7),o 24 (ia 1 22 23),o 25 (l 24),o 26 (.callv (t 17) [(t 21),(t 25)]),o 8 (m 26)] [0,0,0,6,14,0,0,96,224,511,1023]),
 (.reg [o 27 (m 8),o 28 (bc .neq 27 (n 0))]),
 (i 28 (q [(.reg [o 29 (m 8),o 6 (m 29)]),
 .ret]) .skip)])),
 (.reg [o 30 (bc .add 14 (n 1)),o 14 (m 30)])])))]),
 (.reg [o 31 (m 0),o 32 (ln 31),o 33 (m 1),o 34 (ln 33),o 35 (.call 163 [(t 32),(t 34)]),o 6 (m 35)]),
 .ret])⟩
def zjm:CFn:=⟨8,[.tmp 4],(q [(.reg [o 4 (.mv (c (n 0)))]),
 (.reg [o 5 (m 0),o 6 (m 1),o 7 (.call 162 [(t 5),(t 6),(c (.fn zba []))]),o 4 (m 7)]),
 .ret])⟩
def zgF:CFn:=⟨36,[.tmp 6],(q [(.reg [o 6 (.mv (c (n 0)))]),
 (q [(.reg [o 9 (m 0),o 10 (ln 9),o 11 (m 1),o 12 (ln 11),o 13 (.mm false (t 10) (t 12)),o 14 (.mv (c (n 0)))]),
 (.block 0 (.loop (q [(.reg [o 15 (b .lss 14 13)]),
 (i 15 .skip (.exit 0)),
 (.block 1 (q [(.reg [o 16 (m 14),o 7 (m 16)]),
 (.regd [o 17 (m 2),o 18 (m 0),o 19 (m 7),o 20 (ia 1 18 19),o 21 (l 20),o 22 (m 1),o 23 (m 7),o 24 (ia 1 22 23),o 25 (l 24),o 26 (.callv (t 17) [(t 21),(t 25)]),o 8 (m 26)] [0,0,0,6,14,0,0,96,224,511,1023]),
 (.reg [o 27 (m 8),o 28 (bc .neq 27 (n 0))]),
 (i 28 (q [(.reg [o 29 (m 8),o 6 (m 29)]),
 .ret]) .skip)])),
 (.reg [o 30 (bc .add 14 (n 1)),o 14 (m 30)])])))]),
 (.reg [o 31 (m 0),o 32 (ln 31),o 33 (m 1),o 34 (ln 33),o 35 (.call 163 [(t 32),(t 34)]),o 6 (m 35)]),
 .ret])⟩
def zjk:CFn:=⟨20,[.tmp 4],(q [(.reg [o 4 (.mv (c (n 0)))]),
 (.reg [o 7 (m 0),o 8 (.call 191 [(t 7)]),o 5 (m 8)]),
 (.reg [o 9 (m 1),o 10 (.call 191 [(t 9)]),o 6 (m 10)]),
 (q [(.reg [o 11 (m 5)]),
 (i 11 (q [(q [(.reg [o 12 (m 6)]),
 (i 12 (q [(.reg [o 4 (.mv (c (n 0)))]),
 .ret]) .skip)]),
 (.reg [o 4 (.mv (c (n (-1))))]),
 .ret]) .skip)]),
 (q [(.reg [o 13 (m 6)]),
 (i 13 (q [(.reg [o 4 (.mv (c (n 1)))]),
 .ret]) .skip)]),
 (q [(.reg [o 14 (m 0),o 15 (m 1),o 16 (b .lss 14 15)]),
 (i 16 (q [(.reg [o 4 (.mv (c (n (-1))))]),
 .ret]) .skip)]),
 (q [(.reg [o 17 (m 0),o 18 (m 1),o 19 (b .gtr 17 18)]),
 (i 19 (q [(.reg [o 4 (.mv (c (n 1)))]),
 .ret]) .skip)]),
 (.reg [o 4 (.mv (c (n 0)))]),
 .ret])⟩
def zdC:CFn:=⟨49,[],(q [(.reg [o 8 (m 1),o 9 (bc .add 8 (n 1)),o 6 (m 9)]),
 (.block 0 (.loop (q [(q [(.reg [o 10 (m 6),o 11 (m 2),o 12 (b .lss 10 11)]),
 (i 12 .skip (.exit 0))]),
 (.block 1 (q [(.reg [o 15 (m 6),o 7 (m 15)]),
 (.block 2 (.loop (q [(q [(.regd [o 16 (m 7),o 17 (m 1),o 18 (b .gtr 16 17),o 19 (m 18),g 20 19 true (m 0),g 21 19 true (m 7),g 22 19 true (ia 1 20 21),g 23 19 true (l 22),g 24 19 true (m 0),g 25 19 true (m 7),g 26 19 true (bc .sub 25 (n 1)),g 27 19 true (ia 1 24 26),g 28 19 true (l 27),g 29 19 true (.call 170 [(t 23),(t 28)]),o 30 (pf 19 29)] [0,0,3,7,15,15,63,127,15,15,527,1807,3855,8191,16383]),
 (i 30 .skip (.exit 2))]),
 (.block 3 (.regd [o 33 (m 0),o 34 (m 7),o 35 (m 0),o 36 (m 7),o 37 (bc .sub 36 (n 1)),o 38 (m 0),o 39 (m 7),o 40 (bc .sub 39 (n 1)),o 41 (ia 1 38 40),o 42 (l 41),o 43 (m 0),o 44 (m 7),o 45 (ia 1 43 44),o 46 (l 45),o 47 (ia 1 33 34),w (.store 1 (t 47) (t 42)),o 48 (ia 1 35 37),w (.store 1 (t 48) (t 46))] [0,0,0,0,8,0,0,64,224,480,0,0,3072,7168,16355,32739,65535,131071])),
 (.reg [o 31 (m 7),o 32 (bc .sub 31 (n 1)),o 7 (m 32)])])))])),
 (.reg [o 13 (m 6),o 14 (bc .add 13 (n 1)),o 6 (m 14)])])))])⟩
def zlM:CFn:=⟨17,[.tmp 4],(q [(.reg [o 4 (.mv (c .bf))]),
 (.reg [o 5 (m 0),o 6 (.call 191 [(t 5)]),o 7 (m 6),g 8 7 true (m 1),g 9 7 true (.call 191 [(t 8)]),g 10 7 true (.un .not (t 9)),o 11 (pf 7 10),o 12 (m 11),g 13 12 false (m 0),g 14 12 false (m 1),g 15 12 false (b .lss 13 14),o 16 (pt 12 15),o 4 (m 16)]),
 .ret])⟩
def zbX:CFn:=⟨53,[],(q [(.reg [o 10 (m 1),o 11 (bc .add 10 (n 1)),o 8 (m 11)]),
 (.block 0 (.loop (q [(q [(.reg [o 12 (m 8),o 13 (m 2),o 14 (b .lss 12 13)]),
 (i 14 .skip (.exit 0))]),
 (.block 1 (q [(.reg [o 17 (m 8),o 9 (m 17)]),
 (.block 2 (.loop (q [(q [(.regd [o 18 (m 9),o 19 (m 1),o 20 (b .gtr 18 19),o 21 (m 20),g 22 21 true (m 3),g 23 21 true (m 0),g 24 21 true (m 9),g 25 21 true (ia 1 23 24),g 26 21 true (l 25),g 27 21 true (m 0),g 28 21 true (m 9),g 29 21 true (bc .sub 28 (n 1)),g 30 21 true (ia 1 27 29),g 31 21 true (l 30),g 32 21 true (.callv (t 22) [(t 26),(t 31)]),g 33 21 true (bc .lss 32 (n 0)),o 34 (pf 21 33)] [0,0,3,7,15,15,15,111,239,15,15,1039,3599,7695,16383,32767,65535]),
 (i 34 .skip (.exit 2))]),
 (.block 3 (.regd [o 37 (m 0),o 38 (m 9),o 39 (m 0),o 40 (m 9),o 41 (bc .sub 40 (n 1)),o 42 (m 0),o 43 (m 9),o 44 (bc .sub 43 (n 1)),o 45 (ia 1 42 44),o 46 (l 45),o 47 (m 0),o 48 (m 9),o 49 (ia 1 47 48),o 50 (l 49),o 51 (ia 1 37 38),w (.store 1 (t 51) (t 46)),o 52 (ia 1 39 41),w (.store 1 (t 52) (t 50))] [0,0,0,0,8,0,0,64,224,480,0,0,3072,7168,16355,32739,65535,131071])),
 (.reg [o 35 (m 9),o 36 (bc .sub 35 (n 1)),o 9 (m 36)])])))])),
 (.reg [o 15 (m 8),o 16 (bc .add 15 (n 1)),o 8 (m 16)])])))])⟩
def zkZ:CFn:=⟨6,[.tmp 2],(q [(.reg [o 2 (.mv (c .bf))]),
 (.reg [o 3 (m 0),o 4 (m 0),o 5 (b .neq 3 4),o 2 (m 5)]),
 .ret])⟩
end Go.Ab
namespace Go.Ab
open Go Go.Proofs
theorem zp:Tryz.prog.follows .mixedOrders=true:=by kernel_rfl
theorem zjS:zi Tryz.prog zfo=some zjp:=by kernel_rfl
theorem zfI:zi Tryz.prog zfF=some zkv:=by kernel_rfl
theorem zec:zi Tryz.prog zd6=some zhp:=by kernel_rfl
theorem zgn:zi Tryz.prog zdc=some zgb:=by kernel_rfl
theorem za5:zi Tryz.prog zcu=some zeS:=by kernel_rfl
theorem zgq:zi Tryz.prog zde=some zge:=by kernel_rfl
theorem zli:zi Tryz.prog zgi=some zk0:=by kernel_rfl
theorem zbp:zi Tryz.prog zes=some zic:=by kernel_rfl
theorem zaK:zi Tryz.prog zd3=some zhm:=by kernel_rfl
theorem zag:zi Tryz.prog zc0=some zfL:=by kernel_rfl
theorem zjb:zi Tryz.prog zeF=some zi3:=by kernel_rfl
theorem zix:zi Tryz.prog zeq=some zia:=by kernel_rfl
theorem znQ:zi Tryz.prog zdR=some znN:=by kernel_rfl
theorem znP:zi Tryz.prog zdQ=some znM:=by kernel_rfl
theorem zja:zi Tryz.prog zeE=some zi1:=by kernel_rfl
theorem zkA:zi Tryz.prog zfG=some zkw:=by kernel_rfl
theorem zi9:zi Tryz.prog zbI=some zi0:=by kernel_rfl
theorem zkB:zi Tryz.prog zdE=some zky:=by kernel_rfl
theorem ziy:zi Tryz.prog zer=some zib:=by kernel_rfl
theorem ziz:zi Tryz.prog zcE=some zie:=by kernel_rfl
theorem zjg:zi Tryz.prog zeK=some zi8:=by kernel_rfl
theorem zjd:zi Tryz.prog zeH=some zi5:=by kernel_rfl
theorem zfJ:zi Tryz.prog zdD=some zkx:=by kernel_rfl
theorem zfz:zi Tryz.prog zP=some zfv:=by kernel_rfl
theorem zbq:zi Tryz.prog zbo=some zid:=by kernel_rfl
theorem zme:zi Tryz.prog zgQ=some zlN:=by kernel_rfl
theorem zmf:zi Tryz.prog zgR=some zlO:=by kernel_rfl
theorem zje:zi Tryz.prog zeI=some zi6:=by kernel_rfl
theorem zhG:zi Tryz.prog zd4=some zhn:=by kernel_rfl
theorem zgI:zi Tryz.prog zW=some zgE:=by kernel_rfl
theorem zgL:zi Tryz.prog zdz=some zgH:=by kernel_rfl
theorem zhH:zi Tryz.prog zd5=some zho:=by kernel_rfl
theorem zpW:zi Tryz.prog zkG=some zpA:=by kernel_rfl
theorem zmi:zi Tryz.prog zgS=some zlR:=by kernel_rfl
theorem zcN:zi Tryz.prog zaX=some zcL:=by kernel_rfl
theorem zmh:zi Tryz.prog zcZ=some zlQ:=by kernel_rfl
theorem zjO:zi Tryz.prog zfm=some zjl:=by kernel_rfl
theorem zlk:zi Tryz.prog zdU=some zk2:=by kernel_rfl
theorem zgK:zi Tryz.prog zdy=some zgG:=by kernel_rfl
theorem zjT:zi Tryz.prog zfp=some zjq:=by kernel_rfl
theorem zhI:zi Tryz.prog zd7=some zhq:=by kernel_rfl
theorem zhJ:zi Tryz.prog zd8=some zhr:=by kernel_rfl
theorem zbJ:zi Tryz.prog za3=some zi2:=by kernel_rfl
theorem zgp:zi Tryz.prog zbz=some zgd:=by kernel_rfl
theorem ziA:zi Tryz.prog zet=some zif:=by kernel_rfl
theorem zhc:zi Tryz.prog zdL=some zg8:=by kernel_rfl
theorem zjc:zi Tryz.prog zeG=some zi4:=by kernel_rfl
theorem zjR:zi Tryz.prog zfn=some zjo:=by kernel_rfl
theorem zc5:zi Tryz.prog za7=some zc4:=by kernel_rfl
theorem zkC:zi Tryz.prog zcm=some zkz:=by kernel_rfl
theorem zdh:zi Tryz.prog zbc=some zc9:=by kernel_rfl
theorem zbO:zi Tryz.prog zX=some zbN:=by kernel_rfl
theorem zbx:zi Tryz.prog zam=some zbw:=by kernel_rfl
theorem zlj:zi Tryz.prog zG=some zk1:=by kernel_rfl
theorem zad:zi Tryz.prog zx=some zbj:=by kernel_rfl
theorem zjQ:zi Tryz.prog zbZ=some zjn:=by kernel_rfl
theorem zaq:zi Tryz.prog zO=some zap:=by kernel_rfl
theorem zeY:zi Tryz.prog zct=some zeR:=by kernel_rfl
theorem zmg:zi Tryz.prog zcY=some zlP:=by kernel_rfl
theorem zjf:zi Tryz.prog zeJ=some zi7:=by kernel_rfl
theorem zhd:zi Tryz.prog zdM=some zg9:=by kernel_rfl
theorem zdF:zi Tryz.prog zbn=some zdB:=by kernel_rfl
theorem zcO:zi Tryz.prog zaY=some zcM:=by kernel_rfl
theorem zgo:zi Tryz.prog zdd=some zgc:=by kernel_rfl
theorem zjP:zi Tryz.prog zbb=some zjm:=by kernel_rfl
theorem zgJ:zi Tryz.prog zdx=some zgF:=by kernel_rfl
theorem zjN:zi Tryz.prog zba=some zjk:=by kernel_rfl
theorem zdG:zi Tryz.prog zaw=some zdC:=by kernel_rfl
theorem zmd:zi Tryz.prog zgP=some zlM:=by kernel_rfl
theorem zb3:zi Tryz.prog zaz=some zbX:=by kernel_rfl
theorem zgm:zi Tryz.prog zdT=some zkZ:=by kernel_rfl
end Go.Ab
namespace Go.Ab
open Go Go.Proofs
set_option maxRecDepth 10000
set_option maxHeartbeats 4000000
variable {T:Nat→Obj→Prop}
def zg7 (n:Int):BitVec 64:=if n ≥ 64 then -1 else (1#64 <<< n.toNat) - 1#64
def bad (n:Int) (s:BitVec 64):Bool:=s &&& ~~~ (zg7 n)≠0
def zsu (worlds agents:Int) (val:List (BitVec 64)):Int :=
 if worlds < 1∨64 < worlds then 2 else if 8 < val.length∨4 < agents then 8 else if val.any (bad worlds) then 3 else 0
theorem zvH (a b:List Int):Fn Tryz.prog T zde [.d (dI a),.d (dI b)] [] (.d (.bool (a==b))) []:=by
 refine zg zp zgq (by show 2≤26;decide) ?_
 (repeat' ((conv=>whnf);first|refine vA ?_|(refine vD ?_ ?_<;>intro hc<;>try simp only [vL] at hc)|refine vJ fun hg=>?_|refine vT ?_|refine vZ ?_));all_goals try conv=>whnf
 ·have:a≠b:=fun e=>hc (by rw [e])
  simp [this]
 ·refine zaE (fun (k:Nat)=>[(0,.d (dI a)),(1,.d (dI b)),(12,.d (.int .i64 ((a.map (D.int .i64)).length:Int))),(13,.d (.int .i64 ((k:Int))))]) (fun (k:Nat)=>k≤a.length∧(a==b)=(a.drop k==b.drop k)) (fun (k:Nat)=>a.length - k) (0) (⟨by simp,by simp⟩) (by (repeat' first|exact trivial|exact rfl|refine And.intro ?_ ?_)) ?_
  rintro k ⟨hk,hI⟩
  (repeat' ((conv=>whnf);first|refine vA ?_|((first|refine vD ?_ ?_|refine vF ?_ ?_)<;>intro hc<;>try simp only [vL] at hc)|refine vT ?_|(refine vQ ?_ fun x hx=>?_;·omega)|(refine vO ?_ ?_;·omega)|(refine vU ?_ ?_;·kernel_rfl)|refine vZ ?_));all_goals try conv=>whnf
  ·rw [hI,zz ‹a[k]? = some _›,zz ‹b[k]? = some _›];simp [hc]
  ·exact ⟨k+1,[],[],⟨by (omega),by rw [hI,zz ‹a[k]? = some _›,zz ‹b[k]? = some _›];simp [hc]⟩,by (omega),by (refine ⟨rfl,rfl,rfl,?_,?_⟩;repeat' first|exact trivial|exact rfl|refine And.intro ?_ ?_)⟩
  ·rw [hI,List.drop_eq_nil_of_le (by omega),List.drop_eq_nil_of_le (by omega)];rfl
structure PM where
 W:Int
 val:List (BitVec 64)
 cell:List (List Int)
 rank:List (List Int)
 deriving DecidableEq
theorem zbS (s:BitVec 64) (n:Nat):(s >>> n)&&&1#64=1#64↔s.getLsbD n=true:=by
 constructor
 ·intro h
  have:=congrArg (fun x=>x.getLsbD 0) h
  simpa using this
 ·intro h
  apply BitVec.eq_of_getLsbD_eq
  intro i hi
  by_cases h0:i=0
  ·subst h0;simpa using h
  ·simp [h0]
theorem zeO (s:BitVec 64) (n:Nat):(s >>> n)&&&1#64=0#64↔s.getLsbD n=false:=by
 constructor
 ·intro h
  have:=congrArg (fun x=>x.getLsbD 0) h
  simpa using this
 ·intro h
  apply BitVec.eq_of_getLsbD_eq
  intro i hi
  by_cases h0:i=0
  ·subst h0;simpa using h
  ·simp [h0]
@[irreducible] def bit (s:BitVec 64) (i:Nat):Bool:=s.getLsbD i
def at0 (l:List Int) (i:Nat):Int:=l.getD i 0
theorem zog {l:List Int} {i:Nat} {x:Int} (h:l[i]? = some x):at0 l i=x:=by simp [at0,List.getD,h]
theorem zds {l:List Int} {i:Nat} (h:i < l.length):l[i]? = some (at0 l i):=by simp [at0,List.getD,h]
abbrev zvX (cell:List Int):Prop := ∀ w,w < cell.length→0≤at0 cell w∧at0 cell w≤w∧at0 cell (at0 cell w).toNat=at0 cell w
abbrev zvz (cell rank:List Int):Prop := ∀ w,w < cell.length→0≤at0 rank w∧(at0 rank w=0 ∨ ∃ v,v < cell.length∧at0 cell v=at0 cell w∧at0 rank v=at0 rank w - 1)
end Go.Ab
namespace Go.Ab
open Go Go.Proofs
set_option maxRecDepth 10000
set_option maxHeartbeats 4000000
variable {T:Nat→Obj→Prop}
def zas (f:Nat→Bool):Nat→BitVec 64
 | 0=>0#64
 | k+1=>if f k then zas f k|||1#64 <<< k else zas f k
theorem zmD (k i:Nat):(1#64 <<< k).getLsbD i=(decide (i < 64)&&decide (i=k)):=by
 rw [BitVec.getLsbD_shiftLeft]
 by_cases h:i < 64
 ·by_cases h1:i < k
  ·simp [h,h1];omega
  ·by_cases h2:i=k
   ·subst h2;simp [h]
   ·have:i - k≠0:=by omega
    simp [h,h1,h2,this]
 ·simp [h]
theorem zg5 (f:Nat→Bool) : ∀ (n i:Nat),(zas f n).getLsbD i=(decide (i < 64)&&decide (i < n)&&f i)
 | 0,i=>by simp [zas]
 | n+1,i=>by
  have ih:=zg5 f n i
  unfold zas
  split
  ·rename_i h
   rw [BitVec.getLsbD_or,ih,zmD]
   by_cases h1:i=n
   ·subst h1;simp [h]
   ·by_cases h2:i < n
    ·simp [h1,h2,show i < n+1 by omega]
    ·simp [h1,h2,show ¬ i < n+1 by omega]
  ·rename_i h
   rw [ih]
   by_cases h1:i=n
   ·subst h1;simp [h]
   ·by_cases h2:i < n
    ·simp [h2,show i < n+1 by omega]
    ·simp [h2,show ¬ i < n+1 by omega]
end Go.Ab
namespace Go.Ab
open Go Go.Proofs
set_option maxRecDepth 10000
set_option maxHeartbeats 4000000
variable {T:Nat→Obj→Prop}
def zmt (l:List (List Int)) (a:Nat):List Int:=l.getD a []
abbrev zwj (p:PM):Prop := ∀ a,a < p.cell.length→((zmt p.cell a).length:Int)=p.W∧((zmt p.rank a).length:Int)=p.W
abbrev zs0 (p:PM):Prop := ∀ a,a < p.cell.length→zvX (zmt p.cell a)
abbrev zry (p:PM):Prop := ∀ a,a < p.cell.length→zvz (zmt p.cell a) (zmt p.rank a)
def zrL (p:PM):Int :=
 if zsu p.W p.cell.length p.val≠0 then zsu p.W p.cell.length p.val
 else if p.rank.length≠p.cell.length then 3
 else if ¬zwj p then 3
 else if ¬zs0 p then 1
 else if ¬zry p then 9
 else 0
end Go.Ab
namespace Go.Ab
open Go Go.Proofs
set_option maxRecDepth 10000
set_option maxHeartbeats 4000000
variable {T:Nat→Obj→Prop}
structure At (p:PM) (a w:Int):Prop where
 ok:zrL p=0
 a0:0≤a
 a1:a < p.cell.length
 w0:0≤w
 w1:w < p.W
instance (p:PM) (a w:Int):Decidable (At p a w):=decidable_of_iff (zrL p=0∧0≤a∧a < p.cell.length∧0≤w∧w < p.W) ⟨fun ⟨a,b,c,d,e⟩=>⟨a,b,c,d,e⟩,fun ⟨a,b,c,d,e⟩=>⟨a,b,c,d,e⟩⟩
theorem zsg {k:Nat} (h:k < 18446744073709551616):(BitVec.ofInt 64 (k:Int)).toNat=k:=by
 rw [BitVec.toNat_ofInt,Int.emod_eq_of_lt (by omega) (by omega)];rfl
theorem zed {β:Type} {g:Nat→β} {n k:Nat} (x:β):((List.range n).map g).set k x=(List.range n).map fun u=>if u=k then x else g u:=by
 refine List.ext_getElem (by simp) fun i h1 h2=>?_
 rw [List.getElem_set]
 by_cases e:k=i
 ·subst e;simp
 ·simp [e,Ne.symm e]
theorem zai {β:Type} {g h:Nat→β} {n:Nat} (e : ∀ u,u < n→g u=h u):(List.range n).map g=(List.range n).map h :=
 List.map_congr_left fun u hu=>e u (List.mem_range.1 hu)
theorem zeA {β:Type} (x:β) (n:Nat):List.replicate n x=(List.range n).map fun _=>x:=by
 refine List.ext_getElem (by simp) fun i h1 h2=>by simp
end Go.Ab
namespace Go.Ab
open Go Go.Proofs
set_option maxRecDepth 10000
set_option maxHeartbeats 4000000
variable {T:Nat→Obj→Prop}
structure KM where
 W:Int
 val:List (BitVec 64)
 rel:List (List (BitVec 64))
 deriving DecidableEq
abbrev dKM (m:KM):D := .agg [.int .i64 m.W,dU m.val,dUU m.rel]
abbrev zR (m:KM):Ob := .box [.d (.int .i64 m.W),.d (dU m.val),.d (dUU m.rel)]
abbrev dKI (x:KM×Int):D := .tup [dKM x.1,.int .i64 x.2]
end Go.Ab
namespace Go.Ab
open Go Go.Proofs
set_option maxRecDepth 10000
set_option maxHeartbeats 4000000
variable {T:Nat→Obj→Prop}
theorem zoc {n:Int} {i:Nat} (h1:0≤n) (hi:i < 64):(zg7 n).getLsbD i=decide ((i:Int) < n):=by
 unfold zg7
 split
 ·rename_i h
  rw [show ((-1:BitVec 64))=BitVec.allOnes 64 from rfl,BitVec.getLsbD_allOnes]
  simp [hi];omega
 ·rename_i h
  obtain ⟨m,rfl⟩:=Int.eq_ofNat_of_zero_le h1
  have hm:m < 64:=by omega
  rw [show (1#64 <<< (m:Int).toNat - 1#64)=BitVec.setWidth 64 (BitVec.allOnes m) from ?_]
  ·rw [BitVec.getLsbD_setWidth,BitVec.getLsbD_allOnes];simp [hi]
  ·apply BitVec.eq_of_toNat_eq
   have h2:2 ^ m < 2 ^ 64:=Nat.pow_lt_pow_right (by omega) hm
   have h3:0 < 2 ^ m:=Nat.two_pow_pos m
   rw [BitVec.toNat_sub,BitVec.toNat_shiftLeft,BitVec.toNat_setWidth,BitVec.toNat_allOnes]
   simp only [Int.toNat_natCast,Nat.shiftLeft_eq]
   rw [show (1#64).toNat=1 from rfl,Nat.one_mul,Nat.mod_eq_of_lt h2,Nat.mod_eq_of_lt (show 2 ^ m - 1 < 2 ^ 64 by omega)]
   omega
end Go.Ab
namespace Go.Ab
open Go Go.Proofs
set_option maxRecDepth 10000
set_option maxHeartbeats 4000000
variable {T:Nat→Obj→Prop}
def zB (s:BitVec 64):List Nat:=(List.range 64).filter fun i=>s.getLsbD i
theorem zjE {p:Nat→Bool} {k:Nat} (hk:p k=true) (hlow : ∀ i,i < k→p i=false) : ∀ n,k < n→(List.range n).filter p=k::(List.range n).filter fun i=>p i&&i != k
 | 0,h=>by omega
 | n+1,h=>by
  rw [List.range_succ,List.filter_append,List.filter_append]
  by_cases e:k=n
  ·subst e
   have h1:(List.range k).filter p=[]:=by
    rw [List.filter_eq_nil_iff];intro i hi;rw [hlow i (List.mem_range.1 hi)];simp
   have h2:((List.range k).filter fun i=>p i&&i != k)=[]:=by
    rw [List.filter_eq_nil_iff];intro i hi;rw [hlow i (List.mem_range.1 hi)];simp
   rw [h1,h2]
   simp [hk]
  ·rw [zjE hk hlow n (by omega)]
   have:(n != k)=true:=by simp;omega
   have:List.filter (fun i=>p i&&i != k) [n]=List.filter p [n]:=by
    simp only [List.filter,this,Bool.and_true]
   rw [this];rfl
theorem zu5 (s:BitVec 64) (h:s≠0#64):Lib.ctz 64 s.toNat < 64∧s.getLsbD (Lib.ctz 64 s.toNat)=true∧(∀ i,i < Lib.ctz 64 s.toNat→s.getLsbD i=false) ∧
  ∀ i,(s&&&(s - 1#64)).getLsbD i=(s.getLsbD i&&i != Lib.ctz 64 s.toNat):=by
 have h0:s.toNat≠0:=fun e=>h (BitVec.eq_of_toNat_eq (by simpa using e))
 have hc:Lib.ctz 64 s.toNat=Lib.ctzFrom 64 s.toNat:=by rw [Lib.ctz,if_neg h0]
 rw [hc]
 obtain ⟨m,hm,hlt⟩:=Lib.ctzFrom_spec 64 s.toNat (by omega) s.isLt
 generalize Lib.ctzFrom 64 s.toNat=k at hm hlt
 have hp:0 < 2 ^ k:=Nat.two_pow_pos k
 have hs:s.toNat=2 ^ k * (2 * m+1)+0:=hm
 have hbit : ∀ i,s.getLsbD i=if i < k then false else (2 * m+1).testBit (i - k):=fun i=>by
  rw [BitVec.getLsbD,hs,Nat.testBit_two_pow_mul_add _ hp]
  simp
 have hsub:(s - 1#64).toNat=2 ^ k * (2 * m)+(2 ^ k - 1):=by
  rw [BitVec.toNat_sub]
  have hlt':=s.isLt
  rw [hm] at hlt' ⊢
  rw [show (1#64).toNat=1 from rfl,Nat.mul_add,Nat.mul_one]
  rw [Nat.mul_add,Nat.mul_one] at hlt'
  omega
 have hbit' : ∀ i,(s - 1#64).getLsbD i=if i < k then (2 ^ k - 1).testBit i else (2 * m).testBit (i - k):=fun i=>by
  rw [BitVec.getLsbD,hsub,Nat.testBit_two_pow_mul_add _ (by omega)]
 refine ⟨hlt,?_,fun i hi=>?_,fun i=>?_⟩
 ·rw [hbit,if_neg (by omega),Nat.sub_self,Nat.testBit_zero];simp
 ·rw [hbit,if_pos hi]
 ·rw [BitVec.getLsbD_and,hbit,hbit']
  by_cases h1:i < k
  ·simp [h1]
  ·simp only [h1,if_false]
   by_cases h2:i=k
   ·subst h2;simp [Nat.testBit_zero]
   ·obtain ⟨j,hj⟩ : ∃ j,i - k=j+1:=⟨i - k - 1,by omega⟩
    rw [hj,Nat.testBit_succ,Nat.testBit_succ]
    have e1:(2 * m+1) / 2=m:=by omega
    have e2:2 * m / 2=m:=by omega
    rw [e1,e2]
    simp [h2]
theorem zpy (s:BitVec 64) (h:s≠0#64):zB s=Lib.ctz 64 s.toNat::zB (s&&&(s - 1#64)):=by
 obtain ⟨h1,h2,h3,h4⟩:=zu5 s h
 rw [zB,zjE h2 h3 64 h1,zB]
 congr 1
 exact List.filter_congr fun i _=>(h4 i).symm
theorem zpz:zB 0#64=[]:=by decide
def zeN (T:Nat→Obj→Prop):Prop := ∀ x:BitVec 64,Fn Tryz.prog T zay [.d (.u64 x)] [] (.d (.int .i64 (Lib.ctz 64 x.toNat))) []
def rb (r:List (BitVec 64)) (w v:Nat):Bool:=(r.getD w 0#64).getLsbD v
theorem zwf {r:List (BitVec 64)} {w:Nat} {s:BitVec 64} (h:r[w]? = some s) (v:Nat):rb r w v=s.getLsbD v:=by simp [rb,List.getD,h]
theorem zvP {r:List (BitVec 64)} {w v:Nat} (h:r.length≤w):rb r w v=false:=by simp [rb,List.getD,h]
theorem zew {s:BitVec 64} {v:Nat} : v∈zB s↔s.getLsbD v=true:=by
 rw [zB,List.mem_filter,List.mem_range]
 constructor
 ·exact fun h=>h.2
 ·exact fun h=>⟨BitVec.lt_of_getLsbD h,h⟩
theorem zjW (s:BitVec 64):(zB s).Nodup:=List.nodup_range.filter _
def zfO {α:Type} (p:α→Bool) (l:List α):Int:=if l.findIdx p < l.length then (l.findIdx p:Int) else -1
theorem znb {α:Type} {p:α→Bool} {l:List α} {k:Nat} {x:α} (h:l[k]? = some x) (hp:p x=true) (hI : ∀ i y,i < k→l[i]? = some y→p y=false):zfO p l=k:=by
 obtain ⟨hk,rfl⟩:=List.getElem?_eq_some_iff.1 h
 have:l.findIdx p=k:=by
  rw [List.findIdx_eq hk]
  exact ⟨hp,fun j hj=>by simpa using hI j l[j] hj (List.getElem?_eq_getElem (by omega))⟩
 rw [zfO,this,if_pos hk]
theorem zl0 {α:Type} {p:α→Bool} {l:List α} (hI : ∀ i y,i < l.length→l[i]? = some y→p y=false):zfO p l = -1:=by
 rw [zfO,if_neg]
 intro h
 have h1:=List.findIdx_getElem (p:=p) (xs:=l) (w:=h)
 rw [hI _ _ h (List.getElem?_eq_getElem h)] at h1;cases h1
theorem zoB {α:Type} {p:α→Bool} {l:List α} : 0≤zfO p l ↔ ∃ x∈l,p x=true:=by
 rw [zfO,← List.findIdx_lt_length]
 split<;>omega
theorem zrE {n:Int} {s:BitVec 64} (h:0≤n):bad n s=false ↔ ∀ i,s.getLsbD i=true→(i:Int) < n:=by
 rw [bad,decide_eq_false_iff_not,Classical.not_not]
 constructor
 ·intro e i hi
  have hlt:=BitVec.lt_of_getLsbD hi
  have:=congrArg (fun x=>x.getLsbD i) e
  simp only [BitVec.getLsbD_and,BitVec.getLsbD_not,hlt,decide_true,Bool.true_and,hi,zoc h hlt] at this
  simpa using this
 ·intro hs
  apply BitVec.eq_of_getLsbD_eq
  intro i hi
  rw [BitVec.getLsbD_and,BitVec.getLsbD_not,zoc h hi]
  cases hb:s.getLsbD i with
  | false=>simp
  | true=>have:=hs i hb;simp [hi,this]
end Go.Ab
namespace Go.Ab
open Go Go.Proofs
set_option maxRecDepth 10000
set_option maxHeartbeats 4000000
variable {T:Nat→Obj→Prop}
theorem zM.objs {P:Program} {M:Nat→Option Ob} {n f:Nat} {vs lvs:List V} {obs:List Ob} {lv:V} {obs':List (Option Ob)} {K:V→Upd→Nat→Prop} (js:List Nat) (hf:Fn P T f lvs obs lv obs') (ha:VPasses M js [] 20 lvs vs)
  (ho:zau M js [] obs js) (hnd:nodup js=true) (hsj:zcW js (zC M vs)=true) (hle:js.length≤obs'.length)
  (hK:K (zhh js n 20 lv) (ze9 js [] n obs' false) (obs'.length - js.length)):zM (zcz P T) M n f vs K :=
 ⟨⟨_,_,_,⟨js,[],false,lvs,obs,lv,obs',hf,ha,ho,hnd,by simp [zcT],hsj,by simp [zcW],hle,nofun,rfl,rfl,rfl⟩,hK⟩⟩
section
variable {α:Type} [Inhabited α]
theorem zbv {d:Array α} {i:Nat} (h:i < d.size):d.toList[i]? = some d[i]! := by
 simp [h]
theorem zdJ {d:Array α} {i:Nat} {x:α} (h:d.toList[i]? = some x):d[i]! = x∧i < d.size:=by
 obtain ⟨h1,h2⟩:=List.getElem?_eq_some_iff.1 h
 rw [Array.length_toList] at h1
 exact ⟨by simp [h1];simpa using h2,h1⟩
theorem zqA {enc:α→D} {d:Array α} {i j:Nat} {x y:α} (hi:d.toList[i]? = some x) (hj:d.toList[j]? = some y):((d.toList.map enc).set i (enc y)).set j (enc x)=(Sort.swp d i j).toList.map enc:=by
 obtain ⟨e1,_⟩:=zdJ hi
 obtain ⟨e2,_⟩:=zdJ hj
 simp [Sort.swp,e1,e2,List.map_set]
theorem zpt (d:Array α) (i j:Nat):(Sort.swp d i j).size=d.size:=by simp [Sort.swp]
variable {lt:α→α→Bool}
theorem ziW {a j:Nat} {d:Array α} (h : ¬(a < j∧lt d[j]! d[j - 1]! = true)):Sort.insInner lt a j d=d:=by
 cases j with
 | zero=>rfl
 | succ j =>
  unfold Sort.insInner
  rw [if_neg]
  simpa using h
theorem ziV {a j:Nat} {d:Array α} (h1:a < j) (h2:lt d[j]! d[j - 1]! = true):Sort.insInner lt a j d=Sort.insInner lt a (j - 1) (Sort.swp d j (j - 1)):=by
 cases j with
 | zero=>omega
 | succ j =>
  rw [Sort.insInner,if_pos]
  ·simp
  ·simp at h2 ⊢;exact ⟨by omega,h2⟩
end
end Go.Ab
namespace Go.Ab
open Go Go.Proofs
set_option maxRecDepth 10000
set_option maxHeartbeats 4000000
variable {T:Nat→Obj→Prop}
theorem zuE (s:BitVec 64) (n:Nat):(s >>> n) % 2#64=1#64↔s.getLsbD n=true:=by
 rw [← BitVec.toNat_inj,BitVec.toNat_umod,BitVec.toNat_ushiftRight,← BitVec.testBit_toNat,Nat.shiftRight_eq_div_pow,Nat.testBit_eq_decide_div_mod_eq,decide_eq_true_eq]
 rfl
theorem zhA (s:BitVec 64) (k:Nat):Fn Tryz.prog T zfp [.d (.u64 s),.d (.int .i64 (k:Int))] [] (.d (.bool (s.getLsbD k))) []:=by
 refine zg zp zjT (by show 2≤18;decide) ?_
 (repeat' ((conv=>whnf);first|refine vA ?_|refine vB fun b hb=>?_|refine vC (fun hl=>?_) fun i kv vv hi=>?_|refine vE ?_|refine vG ?_|refine vH ?_|((first|refine vD ?_ ?_|refine vF ?_ ?_|refine vI ?_ ?_)<;>intro hc<;>try simp only [vL] at hc)|refine vJ fun hg=>?_|refine vK fun hg=>?_|refine vT ?_|refine vN ‹_› ?_|(refine vQ ?_ fun x hx=>?_;·first|omega|(simp only [vM] at *;omega))|((first|refine vO ?_ ?_|refine vR ?_ ‹_› ?_|refine vS ?_ fun x hx=>?_|refine vP ?_ ?_);·first|omega|(simp only [vM] at *;omega))|refine vW ⟨by omega,by omega⟩ ?_|(refine vU ?_ ?_;·kernel_rfl)|refine vX ?_|refine vY ?_|refine vZ ?_|refine za.mk _ ‹_› ?_|refine vP (show (_:BitVec 64)≠_ by decide) ?_));all_goals try conv=>whnf
 ·show decide (s >>> k % 2#64=1#64)=_
  rw [Bool.eq_iff_iff,decide_eq_true_eq];exact zuE s k
 ·rw [BitVec.getLsbD_of_ge _ _ (by omega)]
theorem zqL {x:BitVec 64} {k:Nat} (h:1&&&x.toNat >>> k=0):x.getLsbD k=false:=by
 show (1&&&x.toNat >>> k != 0)=false
 simp [h]
theorem zqM {x:BitVec 64} {k:Nat} (h : ¬1&&&x.toNat >>> k=0):x.getLsbD k=true:=by
 show (1&&&x.toNat >>> k != 0)=true
 rw [bne_iff_ne];exact h
theorem ztt (n:Int) (h:0≤n):Fn Tryz.prog T zfn [.d (.int .i64 n)] [] (.d (.u64 (zg7 n))) []:=by
 refine zg zp zjR (by show 1≤8;decide) ?_
 (repeat' ((conv=>whnf);first|refine vA ?_|refine vB fun b hb=>?_|refine vC (fun hl=>?_) fun i kv vv hi=>?_|refine vE ?_|refine vG ?_|refine vH ?_|((first|refine vD ?_ ?_|refine vF ?_ ?_|refine vI ?_ ?_)<;>intro hc<;>try simp only [vL] at hc)|refine vJ fun hg=>?_|refine vK fun hg=>?_|refine vT ?_|refine vN ‹_› ?_|(refine vQ ?_ fun x hx=>?_;·first|omega|(simp only [vM] at *;omega))|((first|refine vO ?_ ?_|refine vR ?_ ‹_› ?_|refine vS ?_ fun x hx=>?_|refine vP ?_ ?_);·first|omega|(simp only [vM] at *;omega))|refine vW ⟨by omega,by omega⟩ ?_|(refine vU ?_ ?_;·kernel_rfl)|refine vX ?_|refine vY ?_|refine vZ ?_|refine za.mk _ ‹_› ?_|refine vP (show (_:BitVec 64)≠_ by decide) ?_));all_goals try conv=>whnf
 ·rw [zg7,if_pos (by omega)];rfl
 ·rw [zg7,if_neg (by omega)];rfl
theorem znf (l:List (BitVec 64)) (n:Int) (h:0≤n):Fn Tryz.prog T zd5 [.d (dU l),.d (.int .i64 n)] [] (.d (.bool (l.any (bad n)))) []:=by
 refine zg zp zhH (by show 2≤20;decide) ?_
 (repeat' ((conv=>whnf);first|refine vA ?_|refine vB fun b hb=>?_|refine vC (fun hl=>?_) fun i kv vv hi=>?_|refine vE ?_|refine vG ?_|refine vH ?_|((first|refine vD ?_ ?_|refine vF ?_ ?_|refine vI ?_ ?_)<;>intro hc<;>try simp only [vL] at hc)|refine vJ fun hg=>?_|refine vK fun hg=>?_|refine vT ?_|refine vN ‹_› ?_|(refine vQ ?_ fun x hx=>?_;·first|omega|(simp only [vM] at *;omega))|((first|refine vO ?_ ?_|refine vR ?_ ‹_› ?_|refine vS ?_ fun x hx=>?_|refine vP ?_ ?_);·first|omega|(simp only [vM] at *;omega))|refine vW ⟨by omega,by omega⟩ ?_|(refine vU ?_ ?_;·kernel_rfl)|refine vX ?_|refine vY ?_|refine vZ ?_|refine za.mk _ ‹_› ?_|refine vP (show (_:BitVec 64)≠_ by decide) ?_));all_goals try conv=>whnf
 refine zaE (fun (k:Nat)=>[(0,.d (dU l)),(1,.d (.int .i64 (n))),(5,.d (.int .i64 ((k:Int))))]) (fun (k:Nat)=>k≤l.length∧l.any (bad n)=(l.drop k).any (bad n)) (fun (k:Nat)=>l.length - k) (0) (⟨by simp,rfl⟩) (by (repeat' first|exact trivial|exact rfl|exact ⟨_,rfl⟩|exact .inl rfl|exact .inr (.inl ⟨rfl,rfl⟩)|exact .inr (.inr ⟨rfl,rfl⟩)|refine And.intro ?_ ?_|refine ⟨_,rfl,?_⟩|decide|exact of_decide_eq_true rfl)) ?_
 rintro k ⟨hk,hI⟩
 (repeat' ((conv=>whnf);first|refine vA ?_|refine vB fun b hb=>?_|refine vC (fun hl=>?_) fun i kv vv hi=>?_|refine vE ?_|refine vG ?_|refine vH ?_|((first|refine vD ?_ ?_|refine vF ?_ ?_|refine vI ?_ ?_)<;>intro hc<;>try simp only [vL] at hc)|refine vJ fun hg=>?_|refine vK fun hg=>?_|refine vT ?_|refine vN ‹_› ?_|(refine vQ ?_ fun x hx=>?_;·first|omega|(simp only [vM] at *;omega))|((first|refine vO ?_ ?_|refine vR ?_ ‹_› ?_|refine vS ?_ fun x hx=>?_|refine vP ?_ ?_);·first|omega|(simp only [vM] at *;omega))|refine vW ⟨by omega,by omega⟩ ?_|(refine vU ?_ ?_;·kernel_rfl)|refine vX ?_|refine vY ?_|refine vZ ?_|refine yD (ztt n h) ⟨⟨rfl,rfl⟩,rfl⟩ rfl ?_|refine za.mk _ ‹_› ?_|refine vP (show (_:BitVec 64)≠_ by decide) ?_));all_goals try conv=>whnf
 ·rw [hI,zz hx,List.any_cons,show bad n x=true from decide_eq_true ‹_›];rfl
 ·exact ⟨k+1,[],[],⟨by (first|omega|(simp only [vM] at *;omega)),by rw [hI,zz hx,List.any_cons,show bad n x=false from decide_eq_false (by simpa using ‹x &&& ~~~zg7 n=0#64›)];rfl⟩,by (first|omega|(simp only [vM] at *;omega)),by (refine ⟨rfl,rfl,rfl,?_,?_⟩;repeat' first|exact trivial|exact rfl|exact ⟨_,rfl⟩|exact .inl rfl|exact .inr (.inl ⟨rfl,rfl⟩)|exact .inr (.inr ⟨rfl,rfl⟩)|refine And.intro ?_ ?_|refine ⟨_,rfl,?_⟩|decide|exact of_decide_eq_true rfl)⟩
 ·rw [hI,List.drop_eq_nil_of_le (by omega)];rfl
def zj (m:KM):Int :=
 if m.W < 1∨64 < m.W then 2 else if 4 < m.rel.length∨8 < m.val.length then 8 else if m.rel.any (fun r=>decide ((r.length:Int)≠m.W)) then 3 else if m.val.any (bad m.W) then 2 else if m.rel.any (fun r=>r.any (bad m.W)) then 2 else 0
structure zlB (m:KM):Prop where
 w1:1≤m.W
 w2:m.W≤64
 n4:m.rel.length≤4
 v8:m.val.length≤8
 len : ∀ r∈m.rel,(r.length:Int)=m.W
 val : ∀ s∈m.val,bad m.W s=false
 rel : ∀ r∈m.rel,∀ s∈r,bad m.W s=false
theorem zw {m:KM} (h:zj m=0):zlB m:=by
 unfold zj at h
 split at h
 ·cases h
 ·split at h
  ·cases h
  ·split at h
   ·cases h
   ·split at h
    ·cases h
    ·split at h
     ·cases h
     ·rename_i h1 h2 h3 h4 h5
      refine ⟨by omega,by omega,by omega,by omega,fun r hr=>?_,fun s hs=>?_,fun r hr s hs=>?_⟩
      ·simp only [List.any_eq_true,not_exists,not_and] at h3;simpa using h3 r hr
      ·simp only [List.any_eq_true,not_exists,not_and] at h4;simpa using h4 s hs
      ·simp only [List.any_eq_true,not_exists,not_and] at h5;simpa using h5 r hr s hs
theorem zd9 (m:KM):Fn Tryz.prog T zeq [.d (dKM m)] [] (.d (.int .i64 (zj m))) []:=by
 refine zg zp zix (by show 1≤59;decide) ?_
 (repeat' ((conv=>whnf);first|refine vA ?_|refine vB fun b hb=>?_|refine vC (fun hl=>?_) fun i kv vv hi=>?_|refine vE ?_|refine vG ?_|refine vH ?_|((first|refine vD ?_ ?_|refine vF ?_ ?_|refine vI ?_ ?_)<;>intro hc<;>try simp only [vL] at hc)|refine vJ fun hg=>?_|refine vK fun hg=>?_|refine vT ?_|refine vN ‹_› ?_|(refine vQ ?_ fun x hx=>?_;·first|omega|(simp only [vM] at *;omega))|((first|refine vO ?_ ?_|refine vR ?_ ‹_› ?_|refine vS ?_ fun x hx=>?_|refine vP ?_ ?_);·first|omega|(simp only [vM] at *;omega))|refine vW ⟨by omega,by omega⟩ ?_|(refine vU ?_ ?_;·kernel_rfl)|refine vX ?_|refine vY ?_|refine vZ ?_|refine za.mk _ ‹_› ?_|refine vP (show (_:BitVec 64)≠_ by decide) ?_));all_goals try conv=>whnf
 ·rw [zj,if_pos (by omega)]
 ·rw [zj,if_pos (by omega)]
 ·rw [zj,if_neg (by omega),if_pos (by omega)]
 ·rw [zj,if_neg (by omega),if_pos (by omega)]
 ·have e0:zj m=if m.rel.any (fun r=>decide ((r.length:Int)≠m.W)) then 3 else if m.val.any (bad m.W) then 2 else if m.rel.any (fun r=>r.any (bad m.W)) then 2 else 0:=by rw [zj,if_neg (by omega),if_neg (by omega)]
  refine zk (fun (k:Nat)=>[(1,.ptr 0 0),(3,.d (.int .i64 ((k:Int))))]) (fun (k:Nat)=>[(0,some (zR m))]) 1 (fun (k:Nat)=>k≤m.rel.length∧m.rel.any (fun r=>decide ((r.length:Int)≠m.W))=(m.rel.drop k).any (fun r=>decide ((r.length:Int)≠m.W))) (fun (k:Nat)=>m.rel.length - k) (0) [(0,0)] [] (⟨by simp,rfl⟩) (by (refine ⟨rfl,rfl,rfl,?_,?_⟩;repeat' first|exact trivial|exact rfl|exact ⟨_,rfl⟩|exact .inl rfl|exact .inr (.inl ⟨rfl,rfl⟩)|exact .inr (.inr ⟨rfl,rfl⟩)|refine And.intro ?_ ?_|refine ⟨_,rfl,?_⟩|decide|exact of_decide_eq_true rfl)) ?_
  rintro k ⟨hk,hI⟩
  (repeat' ((conv=>whnf);first|refine vA ?_|refine vB fun b hb=>?_|refine vC (fun hl=>?_) fun i kv vv hi=>?_|refine vE ?_|refine vG ?_|refine vH ?_|((first|refine vD ?_ ?_|refine vF ?_ ?_|refine vI ?_ ?_)<;>intro hc<;>try simp only [vL] at hc)|refine vJ fun hg=>?_|refine vK fun hg=>?_|refine vT ?_|refine vN ‹_› ?_|(refine vQ ?_ fun x hx=>?_;·first|omega|(simp only [vM] at *;omega))|((first|refine vO ?_ ?_|refine vR ?_ ‹_› ?_|refine vS ?_ fun x hx=>?_|refine vP ?_ ?_);·first|omega|(simp only [vM] at *;omega))|refine vW ⟨by omega,by omega⟩ ?_|(refine vU ?_ ?_;·kernel_rfl)|refine vX ?_|refine vY ?_|refine vZ ?_|refine za.mk _ ‹_› ?_|refine vP (show (_:BitVec 64)≠_ by decide) ?_));all_goals try conv=>whnf
  ·rw [e0,if_pos (by rw [hI,zz hx,List.any_cons,decide_eq_true (by simpa using ‹_›)];rfl)]
  ·exact ⟨k+1,[(0,0)],[],⟨by (first|omega|(simp only [vM] at *;omega)),by rw [hI,zz hx,List.any_cons,decide_eq_false (by simpa using ‹_›)];rfl⟩,by (first|omega|(simp only [vM] at *;omega)),by (refine ⟨rfl,rfl,rfl,?_,?_⟩;repeat' first|exact trivial|exact rfl|exact ⟨_,rfl⟩|exact .inl rfl|exact .inr (.inl ⟨rfl,rfl⟩)|exact .inr (.inr ⟨rfl,rfl⟩)|refine And.intro ?_ ?_|refine ⟨_,rfl,?_⟩|decide|exact of_decide_eq_true rfl)⟩
  ·have h1:m.rel.any (fun r=>decide ((r.length:Int)≠m.W))=false:=by rw [hI,List.drop_eq_nil_of_le (by omega)];rfl
   rw [h1,if_neg (by decide)] at e0
   (repeat' ((conv=>whnf);first|refine vA ?_|refine vB fun b hb=>?_|refine vC (fun hl=>?_) fun i kv vv hi=>?_|refine vE ?_|refine vG ?_|refine vH ?_|((first|refine vD ?_ ?_|refine vF ?_ ?_|refine vI ?_ ?_)<;>intro hc<;>try simp only [vL] at hc)|refine vJ fun hg=>?_|refine vK fun hg=>?_|refine vT ?_|refine vN ‹_› ?_|(refine vQ ?_ fun x hx=>?_;·first|omega|(simp only [vM] at *;omega))|((first|refine vO ?_ ?_|refine vR ?_ ‹_› ?_|refine vS ?_ fun x hx=>?_|refine vP ?_ ?_);·first|omega|(simp only [vM] at *;omega))|refine vW ⟨by omega,by omega⟩ ?_|(refine vU ?_ ?_;·kernel_rfl)|refine vX ?_|refine vY ?_|refine vZ ?_|refine yD (znf _ m.W (by omega)) ⟨⟨rfl,rfl⟩,⟨rfl,rfl⟩,rfl⟩ rfl ?_|refine za.mk _ ‹_› ?_|refine vP (show (_:BitVec 64)≠_ by decide) ?_));all_goals try conv=>whnf
   ·rw [e0,if_pos ‹_›]
   ·rw [show m.val.any (bad m.W)=false from ‹_›,if_neg (by decide)] at e0
    refine zk (fun (k:Nat)=>[(1,.ptr 0 0),(4,.d (.int .i64 ((k:Int))))]) (fun (k:Nat)=>[(0,some (zR m))]) 1 (fun (k:Nat)=>k≤m.rel.length∧m.rel.any (fun r=>r.any (bad m.W))=(m.rel.drop k).any (fun r=>r.any (bad m.W))) (fun (k:Nat)=>m.rel.length - k) (0) [(0,0)] [] (⟨by simp,rfl⟩) (by (refine ⟨rfl,rfl,rfl,?_,?_⟩;repeat' first|exact trivial|exact rfl|exact ⟨_,rfl⟩|exact .inl rfl|exact .inr (.inl ⟨rfl,rfl⟩)|exact .inr (.inr ⟨rfl,rfl⟩)|refine And.intro ?_ ?_|refine ⟨_,rfl,?_⟩|decide|exact of_decide_eq_true rfl)) ?_
    clear hI hk
    rintro k ⟨hk,hI⟩
    (repeat' ((conv=>whnf);first|refine vA ?_|refine vB fun b hb=>?_|refine vC (fun hl=>?_) fun i kv vv hi=>?_|refine vE ?_|refine vG ?_|refine vH ?_|((first|refine vD ?_ ?_|refine vF ?_ ?_|refine vI ?_ ?_)<;>intro hc<;>try simp only [vL] at hc)|refine vJ fun hg=>?_|refine vK fun hg=>?_|refine vT ?_|refine vN ‹_› ?_|(refine vQ ?_ fun x hx=>?_;·first|omega|(simp only [vM] at *;omega))|((first|refine vO ?_ ?_|refine vR ?_ ‹_› ?_|refine vS ?_ fun x hx=>?_|refine vP ?_ ?_);·first|omega|(simp only [vM] at *;omega))|refine vW ⟨by omega,by omega⟩ ?_|(refine vU ?_ ?_;·kernel_rfl)|refine vX ?_|refine vY ?_|refine vZ ?_|refine yD (znf _ m.W (by omega)) ⟨⟨rfl,rfl⟩,⟨rfl,rfl⟩,rfl⟩ rfl ?_|refine za.mk _ ‹_› ?_|refine vP (show (_:BitVec 64)≠_ by decide) ?_));all_goals try conv=>whnf
    ·rw [e0,if_pos (by rw [hI,zz hx,List.any_cons,show x.any (bad m.W)=true from ‹_›];rfl)]
    ·exact ⟨k+1,[(0,0)],[],⟨by (first|omega|(simp only [vM] at *;omega)),by rw [hI,zz hx,List.any_cons,show x.any (bad m.W)=false from ‹_›];rfl⟩,by (first|omega|(simp only [vM] at *;omega)),by (refine ⟨rfl,rfl,rfl,?_,?_⟩;repeat' first|exact trivial|exact rfl|exact ⟨_,rfl⟩|exact .inl rfl|exact .inr (.inl ⟨rfl,rfl⟩)|exact .inr (.inr ⟨rfl,rfl⟩)|refine And.intro ?_ ?_|refine ⟨_,rfl,?_⟩|decide|exact of_decide_eq_true rfl)⟩
    ·rw [e0,if_neg]
     rw [hI,List.drop_eq_nil_of_le (by omega)];simp
theorem zsf {k:IntKind} {a:Nat} (h:a < 2 ^ k.bits):(BitVec.ofInt k.bits (a:Int)).toNat=a:=by
 rw [BitVec.toNat_ofInt,Int.emod_eq_of_lt (Int.natCast_nonneg a) (show (a:Int) < ((2 ^ k.bits:Nat):Int) from Int.ofNat_lt.2 h)]
 rfl
theorem zuj {a:Nat} (h:a < 2 ^ 63):IntKind.wrap .i64 (a:Int)=a:=zpx ⟨by omega,by omega⟩
theorem zqd {a b:Nat} (ha:a < 2 ^ 63) (hb:b < 2 ^ 63):zcB .i64 (fun p q=>p|||q) (a:Int) (b:Int)=((a|||b:Nat):Int):=by
 unfold zcB
 rw [BitVec.toNat_or,zsf (k := .i64) (by simp [IntKind.bits];omega),zsf (k := .i64) (by simp [IntKind.bits];omega)]
 exact zuj (Nat.or_lt_two_pow ha hb)
theorem ziD {x:BitVec 64} {k i:Nat} (hk:k < 64):(x|||1#64 <<< k).getLsbD i=true↔x.getLsbD i=true∨i=k:=by
 rw [BitVec.getLsbD_or,Bool.or_eq_true,zmD]
 constructor
 ·rintro (h|h)
  ·exact .inl h
  ·simp at h;exact .inr h.2
 ·rintro (h|rfl)
  ·exact .inl h
  ·exact .inr (by simp [hk])
def zaA (l:List (BitVec 64)) (w:Nat):Nat→Nat
 | 0=>0
 | k+1=>zaA l w k+if (l.getD k 0#64).getLsbD w=true then 2 ^ k else 0
theorem zil (l:List (BitVec 64)) (w:Nat) : ∀ k,zaA l w k < 2 ^ k
 | 0=>by simp [zaA]
 | k+1=>by
  have:=zil l w k
  have h2:=Nat.two_pow_pos k
  rw [zaA,Nat.pow_succ]
  split<;>omega
theorem zjC (l:List (BitVec 64)) (w:Nat) {i:Nat} : ∀ k,(zaA l w k).testBit i=true↔i < k∧(l.getD i 0#64).getLsbD w=true
 | 0=>by simp [zaA]
 | k+1=>by
  have hlt:=zil l w k
  have ih:=zjC l w (i:=i) k
  have e:zaA l w (k+1)=2 ^ k * (if (l.getD k 0#64).getLsbD w=true then 1 else 0)+zaA l w k:=by
   rw [zaA];split<;>omega
  rw [e,Nat.testBit_two_pow_mul_add _ hlt]
  by_cases h:i < k
  ·rw [if_pos h,ih]
   exact ⟨fun ⟨a,b⟩=>⟨by omega,b⟩,fun ⟨a,b⟩=>⟨h,b⟩⟩
  ·rw [if_neg h]
   by_cases h2:i=k
   ·subst h2
    rw [Nat.sub_self]
    split
    ·rename_i hb;exact ⟨fun _=>⟨by omega,hb⟩,fun _=>by decide⟩
    ·rename_i hb;exact ⟨fun h=>by simp at h,fun h=>absurd h.2 hb⟩
   ·constructor
    ·intro h3
     exfalso
     obtain ⟨m,hm⟩ : ∃ m,i - k=m+1:=⟨i - k - 1,by omega⟩
     rw [hm,Nat.testBit_succ] at h3
     split at h3<;>simp at h3
    ·rintro ⟨a,-⟩;omega
theorem zvb {x k:Nat} (h:x < 2 ^ k):x|||2 ^ k=x+2 ^ k:=by
 have:=Nat.two_pow_add_eq_or_of_lt (i:=k) h 1
 rw [Nat.or_comm,show 2 ^ k=2 ^ k * 1 by omega,← this];omega
theorem ztr {l:List (BitVec 64)} {w k:Nat} {s:BitVec 64} (hs:l[k]? = some s) (hk:k < 8) :
  zcB .i64 (fun p q=>p|||q) (zaA l w k:Int) ((((s >>> w&&&1#64).toNat:Int)) * 2 ^ (min k IntKind.i64.bits))=(zaA l w (k+1):Int):=by
 have h1:=zil l w k
 have hp:2 ^ k≤2 ^ 7:=Nat.pow_le_pow_right (by decide) (by omega)
 have hb:min k IntKind.i64.bits=k:=by show min k 64=k;omega
 rw [hb,zaA,show l.getD k 0#64=s by rw [List.getD,hs];rfl]
 by_cases h:s.getLsbD w=true
 ·have e:s >>> w&&&1#64=1#64:=(zbS s w).2 h
  rw [e,if_pos h]
  have:=zqd (a:=zaA l w k) (b:=2 ^ k) (by omega) (by omega)
  rw [show ((1#64).toNat:Int) * 2 ^ k=((2 ^ k:Nat):Int) by simp,this,zvb h1]
 ·have e:s >>> w&&&1#64=0#64:=(zeO s w).2 (by simpa using h)
  rw [e,if_neg h]
  have:=zqd (a:=zaA l w k) (b:=0) (by omega) (by omega)
  rw [show ((0#64).toNat:Int) * 2 ^ k=((0:Nat):Int) by simp,this];simp
theorem zrI (s:BitVec 64) (w:Nat):(s >>> w&&&1#64).toNat≤1:=by
 cases h:s.getLsbD w with
 | true=>rw [(zbS s w).2 h];decide
 | false=>rw [(zeO s w).2 h];decide
theorem zsw {x k:Nat} (hx:x≤1) (hk:k < 8):0≤(x:Int) * 2 ^ (min (k:Int).toNat IntKind.i64.bits)∧(x:Int) * 2 ^ (min (k:Int).toNat IntKind.i64.bits)≤9223372036854775807:=by
 have hp:2 ^ k≤2 ^ 7:=Nat.pow_le_pow_right (by decide) (by omega)
 have hb:min (k:Int).toNat IntKind.i64.bits=k:=by show min k 64=k;omega
 rw [hb]
 match x,hx with
 | 0,_=>simp
 | 1,_ =>
  rw [show ((1:Nat):Int) * 2 ^ k=((2 ^ k:Nat):Int) by simp]
  have h7:(2:Nat) ^ 7=128:=rfl
  exact ⟨Int.natCast_nonneg _,Int.ofNat_le.2 (show 2 ^ k≤9223372036854775807 by omega)⟩
theorem zsj {i:Int} (h0:0≤i) (h7:i≤7):(-9223372036854775808≤(1:Int) * 2 ^ (min i.toNat IntKind.i64.bits)∧(1:Int) * 2 ^ (min i.toNat IntKind.i64.bits)≤9223372036854775807)∧((2 ^ i.toNat:Nat):Int)=(1:Int) * 2 ^ (min i.toNat IntKind.i64.bits):=by
 have:i=0∨i=1∨i=2∨i=3∨i=4∨i=5∨i=6∨i=7:=by omega
 rcases this with rfl|rfl|rfl|rfl|rfl|rfl|rfl|rfl<;>decide
def ptL (n:Nat) (q:Nat→Nat):List Int:=(List.range n).map fun w=>((q w:Nat):Int)
theorem zez {n:Nat} {q:Nat→Nat} {w:Nat} (hw:w < n):(ptL n q)[w]? = some ((q w:Nat):Int):=by simp [ptL,hw]
theorem zks {n:Nat} {q:Nat→Nat} : (ptL n q).length=n:=by simp [ptL]
theorem zuA {x:BitVec 64} {m:Nat} (h:x.getLsbD m=false):x+1#64 <<< m=x|||1#64 <<< m:=by
 refine BitVec.add_eq_or_of_and_eq_zero _ _ (BitVec.eq_of_getLsbD_eq fun i hi=>?_)
 rw [BitVec.getLsbD_and,BitVec.getLsbD_shiftLeft,BitVec.getLsbD_zero]
 by_cases e:i=m
 ·subst e;rw [h];rfl
 ·by_cases e2:i < m
  ·simp [e2]
  ·rw [BitVec.getLsbD_one];simp;omega
end Go.Ab
namespace Go.Ab
def zL {α:Type} (c:α→α→Int):List α→List α→Int
 | [],[]=>0
 | [],_::_ => -1
 | _::_,[]=>1
 | x::r,y::s=>if c x y=0 then zL c r s else c x y
structure zke {α:Type} (c:α→α→Int):Prop where
 zero : ∀ {x y},c x y=0↔x=y
 anti : ∀ x y,c y x = - c x y
 tr : ∀ {x y z},c x y < 0→c y z < 0→c x z < 0
theorem zke.refl {α:Type} {c:α→α→Int} (h:zke c) (x:α):c x x=0:=h.zero.2 rfl
theorem zqg {α:Type} {c:α→α→Int} (h:zke c):zke (zL c) where
 zero:=by
  intro x
  induction x with
  | nil=>intro y;cases y<;>simp [zL]
  | cons a r ih =>
   intro y
   cases y with
   | nil=>simp [zL]
   | cons b s =>
    unfold zL
    by_cases e:c a b=0
    ·rw [if_pos e,ih,h.zero.1 e];simp
    ·rw [if_neg e]
     constructor
     ·intro h';exact absurd h' e
     ·intro h';cases h';exact absurd (h.refl _) e
 anti:=by
  intro x
  induction x with
  | nil=>intro y;cases y<;>simp [zL]
  | cons a r ih =>
   intro y
   cases y with
   | nil=>simp [zL]
   | cons b s =>
    unfold zL
    have:=h.anti a b
    by_cases e:c a b=0
    ·rw [if_pos e,if_pos (by omega),ih]
    ·rw [if_neg e,if_neg (by omega),this]
 tr:=by
  intro x
  induction x with
  | nil =>
   intro y z h1 h2
   cases y with
   | nil=>simp [zL] at h1
   | cons b s=>cases z with
    | nil=>simp [zL] at h2
    | cons d t=>simp [zL]
  | cons a r ih =>
   intro y z h1 h2
   cases y with
   | nil=>simp [zL] at h1
   | cons b s=>cases z with
    | nil=>simp [zL] at h2
    | cons d t =>
     unfold zL at h1 h2 ⊢
     by_cases e1:c a b=0
     ·obtain rfl:=h.zero.1 e1
      rw [if_pos e1] at h1
      by_cases e2:c a d=0
      ·rw [if_pos e2] at h2 ⊢;exact ih h1 h2
      ·rw [if_neg e2] at h2 ⊢;exact h2
     ·rw [if_neg e1] at h1
      by_cases e2:c b d=0
      ·obtain rfl:=h.zero.1 e2
       rw [if_neg e1];exact h1
      ·rw [if_neg e2] at h2
       have h3:=h.tr h1 h2
       rw [if_neg (by omega)];exact h3
def zaa (x y:Int):Int:=if x < y then -1 else if y < x then 1 else 0
theorem zqh:zke zaa where
 zero:=by
  intro x y;unfold zaa
  by_cases h1:x < y
  ·rw [if_pos h1];omega
  ·rw [if_neg h1]
   by_cases h2:y < x
   ·rw [if_pos h2];omega
   ·rw [if_neg h2];omega
 anti:=by
  intro x y;unfold zaa
  by_cases h1:x < y
  ·rw [if_pos h1,if_neg (by omega),if_pos h1];rfl
  ·rw [if_neg h1]
   by_cases h2:y < x
   ·rw [if_pos h2,if_neg h1,if_pos h2]
   ·rw [if_neg h2,if_neg h1,if_neg h2];rfl
 tr:=by
  intro x y z;unfold zaa
  by_cases h1:x < y
  ·rw [if_pos h1]
   by_cases h2:y < z
   ·rw [if_pos h2,if_pos (by omega)];simp
   ·rw [if_neg h2]
    by_cases h3:z < y
    ·rw [if_pos h3];intro _ h;omega
    ·rw [if_neg h3];intro _ h;omega
  ·rw [if_neg h1]
   by_cases h2:y < x
   ·rw [if_pos h2];intro h;omega
   ·rw [if_neg h2];intro h;omega
abbrev Tup:=List (List Int)
def zab:Tup→Tup→Int:=zL (zL zaa)
theorem z2:zke zab:=zqg (zqg zqh)
def ddT {α:Type} [DecidableEq α]:List α→List α
 | []=>[]
 | x::r=>if x∈r then ddT r else x::ddT r
theorem zan {α:Type} [DecidableEq α] {x:α} : ∀ {l:List α},x∈ddT l↔x∈l
 | []=>Iff.rfl
 | y::r=>by
  unfold ddT
  have ih:=zan (x:=x) (l:=r)
  by_cases h:y∈r
  ·rw [if_pos h,ih,List.mem_cons]
   exact ⟨.inr,fun h'=>h'.elim (fun e=>e▸h) id⟩
  ·rw [if_neg h,List.mem_cons,List.mem_cons,ih]
theorem zb5 {α:Type} [DecidableEq α] : ∀ l:List α,(ddT l).Nodup
 | []=>List.nodup_nil
 | y::r=>by
  unfold ddT
  by_cases h:y∈r
  ·rw [if_pos h];exact zb5 r
  ·rw [if_neg h];exact List.nodup_cons.2 ⟨fun h'=>h (zan.1 h'),zb5 r⟩
def rkN (ts:List Tup) (t:Tup):Nat:=((ddT ts).filter fun s=>decide (zab s t < 0)).length
def cnN (ts:List Tup):Nat:=(ddT ts).length
theorem zex {α:Type} [DecidableEq α] {l l':List α} (h:l.Nodup) (h':l'.Nodup) (hm : ∀ x,x∈l↔x∈l'):l.Perm l':=by
 rw [List.perm_iff_count]
 intro a
 have c : ∀ l:List α,l.Nodup→l.count a=if a∈l then 1 else 0:=fun l hl=>by
  by_cases ha:a∈l
  ·rw [if_pos ha]
   have h1:=List.nodup_iff_count.1 hl a
   have h2:=List.count_pos_iff.2 ha
   omega
  ·rw [if_neg ha];exact List.count_eq_zero.2 ha
 rw [c l h,c l' h']
 by_cases ha:a∈l
 ·rw [if_pos ha,if_pos ((hm a).1 ha)]
 ·rw [if_neg ha,if_neg (fun h=>ha ((hm a).2 h))]
theorem zrm {ts S:List Tup} (hn:S.Nodup) (hm : ∀ x,x∈S↔x∈ts) (t:Tup):(S.filter fun s=>decide (zab s t < 0)).length=rkN ts t :=
 ((zex hn (zb5 _) fun x=>by rw [hm,zan]).filter _).length_eq
theorem zup {ts S:List Tup} (hn:S.Nodup) (hm : ∀ x,x∈S↔x∈ts):S.length=cnN ts :=
 (zex hn (zb5 _) fun x=>by rw [hm,zan]).length_eq
theorem ztZ {ts ts':List Tup} (hm : ∀ x,x∈ts↔x∈ts') (t:Tup):rkN ts t=rkN ts' t :=
 zrm (zb5 _) (fun x=>by rw [zan];exact hm x) t
theorem ztk {ts ts':List Tup} (hm : ∀ x,x∈ts↔x∈ts'):cnN ts=cnN ts' :=
 zup (zb5 _) (fun x=>by rw [zan];exact hm x)
theorem znz {ts:List Tup} {s t:Tup} (hs:s∈ts) (ht:t∈ts):rkN ts s < rkN ts t↔zab s t < 0:=by
 have key : ∀ {s t:Tup},s∈ts→zab s t < 0→rkN ts s < rkN ts t:=by
  intro s t hs h
  unfold rkN
  have h1 : ∀ x,decide (zab x s < 0)=true→decide (zab x t < 0)=true:=fun x hx=>decide_eq_true (z2.tr (of_decide_eq_true hx) h)
  have h2:s∈(ddT ts):=zan.2 hs
  generalize (ddT ts)=l at h2
  induction l with
  | nil=>cases h2
  | cons a r ih =>
   have hle:(r.filter fun x=>decide (zab x s < 0)).length≤(r.filter fun x=>decide (zab x t < 0)).length:=by
    clear ih h2
    induction r with
    | nil=>simp
    | cons b r ih =>
     simp only [List.filter_cons]
     by_cases hb:decide (zab b s < 0)=true
     ·rw [if_pos hb,if_pos (h1 b hb)];simpa using ih
     ·rw [if_neg hb]
      split
      ·rw [List.length_cons];omega
      ·exact ih
   simp only [List.filter_cons]
   by_cases hb:decide (zab a s < 0)=true
   ·rw [if_pos hb,if_pos (h1 a hb)]
    rcases List.mem_cons.1 h2 with rfl|h2
    ·have:=z2.refl s;have:=of_decide_eq_true hb;omega
    ·simpa using ih h2
   ·rw [if_neg hb]
    rcases List.mem_cons.1 h2 with rfl|h2
    ·rw [if_pos (decide_eq_true h)];simp;omega
    ·have:=ih h2
     split
     ·rw [List.length_cons];omega
     ·exact this
 refine ⟨fun h=>?_,key hs⟩
 have ha:=z2.anti s t
 rcases Int.lt_trichotomy (zab s t) 0 with h'|h'|h'
 ·exact h'
 ·rw [z2.zero.1 h'] at h;omega
 ·have:=key (s:=t) (t:=s) ht (by omega);omega
theorem zsp {ts:List Tup} {s t:Tup} (hs:s∈ts) (ht:t∈ts) (h:rkN ts s=rkN ts t):s=t:=by
 have h1:=znz hs ht
 have h2:=znz ht hs
 have h3:=z2.anti s t
 exact z2.zero.1 (by omega)
theorem zlr {ts:List Tup} {t:Tup} (ht:t∈ts):rkN ts t < cnN ts:=by
 unfold rkN cnN
 have h2:t∈(ddT ts):=zan.2 ht
 refine Nat.lt_of_le_of_ne (List.length_filter_le _ _) fun h=>?_
 have:=List.length_filter_eq_length_iff.1 h t h2
 have h3:=z2.refl t
 have:=of_decide_eq_true this
 omega
end Go.Ab
namespace Go.Ab
theorem zb6 {α:Type} [DecidableEq α] : ∀ {l l':List α},l.Nodup→(∀ x∈l,x∈l')→l.length≤l'.length
 | [],_,_,_=>Nat.zero_le _
 | x::t,l',h,hs=>by
  obtain ⟨h1,h2⟩:=List.nodup_cons.1 h
  have:=zb6 (l:=t) (l':=l'.erase x) h2 fun y hy=>by
   have hne:y≠x:=fun e=>h1 (e▸hy)
   exact (List.mem_erase_of_ne hne).2 (hs y (List.mem_cons_of_mem _ hy))
  have hx:=hs x (by simp)
  rw [List.length_erase_of_mem hx] at this
  have:=List.length_pos_of_mem hx
  rw [List.length_cons];omega
def dcN (n:Nat) (q:Nat→Nat):Nat:=(ddT ((List.range n).map q)).length
theorem zop (n:Nat) (q:Nat→Nat):dcN n q≤n:=by
 have:=zb6 (zb5 ((List.range n).map q)) (l':=(List.range n).map q) fun x hx=>zan.1 hx
 rwa [List.length_map,List.length_range] at this
theorem zqV {α β:Type} [DecidableEq α] [DecidableEq β] {n:Nat} {f:Nat→α} {g:Nat→β} (h : ∀ v w,v < n→w < n→f v=f w→g v=g w):(ddT ((List.range n).map g)).length≤(ddT ((List.range n).map f)).length:=by
 classical
 by_cases h0:n=0
 ·subst h0;exact Nat.le_refl _
 let pick:α→β:=fun a=>g (((List.range n).find? fun w=>decide (f w=a)).getD 0)
 have:=zb6 (zb5 ((List.range n).map g)) (l':=(ddT ((List.range n).map f)).map pick) fun x hx=>by
  obtain ⟨w,hw,rfl⟩:=List.mem_map.1 (zan.1 hx)
  have hw':=List.mem_range.1 hw
  refine List.mem_map.2 ⟨f w,zan.2 (List.mem_map.2 ⟨w,hw,rfl⟩),?_⟩
  show g (((List.range n).find? fun u=>decide (f u=f w)).getD 0)=g w
  cases hf:(List.range n).find? fun u=>decide (f u=f w) with
  | none =>
   have:=List.find?_eq_none.1 hf w hw
   simp at this
  | some u =>
   have h1:=List.find?_some hf
   have h2:=List.mem_range.1 (List.mem_of_find?_eq_some hf)
   exact h u w h2 hw' (of_decide_eq_true h1)
 rwa [List.length_map] at this
section
variable (n:Nat) (next:(Nat→Nat)→Nat→Tup)
def rfT (q:Nat→Nat):List Tup:=(List.range n).map (next q)
def zcQ (q:Nat→Nat):Nat→Nat:=fun w=>rkN (rfT n next q) (next q w)
def zaT (q:Nat→Nat):Nat:=cnN (rfT n next q)
def zbP:Nat→(Nat→Nat)→Nat→(Nat→Nat)×Nat
 | 0,q,k=>(q,k)
 | f+1,q,k=>if zaT n next q=k then (q,k) else zbP f (zcQ n next q) (zaT n next q)
end
section
variable {n:Nat} {next:(Nat→Nat)→Nat→Tup} (hF : ∀ q v w,v < n→w < n→next q v=next q w→q v=q w)
theorem zqu {q:Nat→Nat} {w:Nat} (hw:w < n):next q w∈rfT n next q:=List.mem_map.2 ⟨w,List.mem_range.2 hw,rfl⟩
theorem zps {q:Nat→Nat} {v w:Nat} (hv:v < n) (hw:w < n):zcQ n next q v=zcQ n next q w↔next q v=next q w :=
 ⟨fun h=>zsp (zqu hv) (zqu hw) h,fun h=>by unfold zcQ;rw [h]⟩
theorem zdm (q:Nat→Nat):dcN n (zcQ n next q)=zaT n next q:=by
 have h1:=zqV (n:=n) (f:=next q) (g:=zcQ n next q) fun v w hv hw h=>(zps hv hw).2 h
 have h2:=zqV (n:=n) (f:=zcQ n next q) (g:=next q) fun v w hv hw h=>(zps hv hw).1 h
 exact Nat.le_antisymm h1 h2
theorem zrP (q:Nat→Nat):zaT n next q≤n:=by rw [← zdm];exact zop _ _
include hF
theorem zon (q:Nat→Nat):dcN n q≤zaT n next q:=zqV fun v w hv hw h=>hF q v w hv hw h
theorem zmU : ∀ (f g:Nat) (q:Nat→Nat),n < f+dcN n q→n < g+dcN n q→zbP n next f q (dcN n q)=zbP n next g q (dcN n q)
 | 0,g,q,h,_=>by have:=zop n q;omega
 | f+1,0,q,_,h=>by have:=zop n q;omega
 | f+1,g+1,q,h1,h2=>by
  unfold zbP
  by_cases h:zaT n next q=dcN n q
  ·rw [if_pos h,if_pos h]
  ·rw [if_neg h,if_neg h]
   have h3:=zon hF q
   have h4:=zmU f g (zcQ n next q) (by rw [zdm];omega) (by rw [zdm];omega)
   rwa [zdm] at h4
end
end Go.Ab
namespace Go.Ab
structure Ren (n:Nat) (f:Nat→Nat):Prop where
 lt : ∀ w,w < n→f w < n
 inj : ∀ v w,v < n→w < n→f v=f w→v=w
theorem Ren.surj {n:Nat} {f:Nat→Nat} (h:Ren n f) {x:Nat} (hx:x < n) : ∃ w,w < n∧f w=x:=by
 refine Classical.byContradiction fun hn=>?_
 have:=zb6 (l:=x::(List.range n).map f) (l':=List.range n) (List.nodup_cons.2 ⟨fun hm=>?_,?_⟩) fun y hy=>?_
 ·simp at this
  omega
 ·obtain ⟨w,hw,e⟩:=List.mem_map.1 hm
  exact hn ⟨w,List.mem_range.1 hw,e⟩
 ·rw [List.Nodup,List.pairwise_map]
  exact List.Pairwise.imp_of_mem (fun {a b} ha hb hab e=>hab (h.inj a b (List.mem_range.1 ha) (List.mem_range.1 hb) e)) List.nodup_range
 ·rcases List.mem_cons.1 hy with rfl|hy
  ·exact List.mem_range.2 hx
  ·obtain ⟨w,hw,rfl⟩:=List.mem_map.1 hy
   exact List.mem_range.2 (h.lt w (List.mem_range.1 hw))
section
variable {n:Nat} {f:Nat→Nat} (hf:Ren n f) {t t':Nat→Tup} (ht : ∀ w,w < n→t' (f w)=t w)
include hf ht
theorem zqr (x:Tup):x∈(List.range n).map t'↔x∈(List.range n).map t:=by
 constructor
 ·intro h
  obtain ⟨y,hy,rfl⟩:=List.mem_map.1 h
  obtain ⟨w,hw,rfl⟩:=hf.surj (List.mem_range.1 hy)
  exact List.mem_map.2 ⟨w,List.mem_range.2 hw,(ht w hw).symm⟩
 ·intro h
  obtain ⟨w,hw,rfl⟩:=List.mem_map.1 h
  exact List.mem_map.2 ⟨f w,List.mem_range.2 (hf.lt w (List.mem_range.1 hw)),ht w (List.mem_range.1 hw)⟩
theorem zsn {w:Nat} (hw:w < n):rkN ((List.range n).map t') (t' (f w))=rkN ((List.range n).map t) (t w):=by
 rw [ht w hw];exact ztZ (zqr hf ht) _
theorem zsm:cnN ((List.range n).map t')=cnN ((List.range n).map t):=ztk (zqr hf ht)
end
theorem zpd {n:Nat} {f:Nat→Nat} (hf:Ren n f) {next next':(Nat→Nat)→Nat→Tup} (hn : ∀ q q',(∀ w,w < n→q' (f w)=q w) → ∀ w,w < n→next' q' (f w)=next q w) :
  ∀ (k:Nat) (q q':Nat→Nat) (c:Nat),(∀ w,w < n→q' (f w)=q w)→(∀ w,w < n→(zbP n next' k q' c).1 (f w)=(zbP n next k q c).1 w)∧(zbP n next' k q' c).2=(zbP n next k q c).2
 | 0,q,q',c,h=>⟨h,rfl⟩
 | k+1,q,q',c,h=>by
  have ht:=hn q q' h
  have hc:zaT n next' q'=zaT n next q:=zsm hf ht
  unfold zbP
  rw [hc]
  by_cases he:zaT n next q=c
  ·rw [if_pos he,if_pos he];exact ⟨h,rfl⟩
  ·rw [if_neg he,if_neg he]
   exact zpd hf hn k _ _ _ fun w hw=>zsn hf ht hw
def leI (x y:Int):Bool:=decide (x≤y)
theorem zvM (a b c:Int) (h1:leI a b=true) (h2:leI b c=true):leI a c=true:=by simp [leI] at *;omega
theorem zu3 (a b:Int):(leI a b||leI b a)=true:=by simp [leI];omega
def zbF (l:List Int):List Int:=l.mergeSort leI
theorem zcj (l:List Int):(zbF l).Perm l:=List.mergeSort_perm l leI
theorem zeB (l:List Int):(zbF l).Pairwise (· ≤ ·):=(List.pairwise_mergeSort zvM zu3 l).imp fun h=>by simpa [leI] using h
theorem zdS : ∀ {l l':List Int},l.Pairwise (· ≤ ·)→l'.Pairwise (· ≤ ·)→l.Perm l'→l=l'
 | [],l',_,_,h=>(List.nil_perm.1 h).symm
 | a::r,[],_,_,h=>by cases List.perm_nil.1 h
 | a::r,b::s,h1,h2,h=>by
  obtain ⟨h3,h4⟩:=List.pairwise_cons.1 h1
  obtain ⟨h5,h6⟩:=List.pairwise_cons.1 h2
  have e:a=b:=by
   have hb:b∈a::r:=h.mem_iff.2 (by simp)
   have ha:a∈b::s:=h.mem_iff.1 (by simp)
   rcases List.mem_cons.1 hb with e|hb
   ·exact e.symm
   ·rcases List.mem_cons.1 ha with e|ha
    ·exact e
    ·have:=h3 b hb;have:=h5 a ha;omega
  subst e
  rw [zdS h4 h6 ((List.perm_cons a).1 h)]
theorem znH {l l':List Int} (h:l.Perm l'):zbF l=zbF l':=zdS (zeB l) (zeB l') (((zcj l).trans h).trans (zcj l').symm)
theorem zsQ {l s:List Int} (hs:s.Pairwise (· ≤ ·)) (hp:s.Perm l):s=zbF l:=zdS hs (zeB l) (hp.trans (zcj l).symm)
def zgy (l:List Int):List Int:=zbF (ddT l)
theorem zto {α:Type} [DecidableEq α] {l l':List α} (h : ∀ x,x∈l↔x∈l'):(ddT l).Perm (ddT l'):=by
 rw [List.perm_iff_count]
 intro a
 have c : ∀ l:List α,(ddT l).count a=if a∈l then 1 else 0:=fun l=>by
  by_cases ha:a∈l
  ·rw [if_pos ha]
   have h1:=List.nodup_iff_count.1 (zb5 l) a
   have h2:=List.count_pos_iff.2 (zan.2 ha)
   omega
  ·rw [if_neg ha];exact List.count_eq_zero.2 (fun h=>ha (zan.1 h))
 rw [c,c]
 by_cases ha:a∈l
 ·rw [if_pos ha,if_pos ((h a).1 ha)]
 ·rw [if_neg ha,if_neg (fun h'=>ha ((h a).2 h'))]
theorem zrv {l l':List Int} (h : ∀ x,x∈l↔x∈l'):zgy l=zgy l':=znH (zto h)
abbrev zaG:=List (Nat→Nat→Bool)
def zbm (n:Nat) (r:Nat→Nat→Bool) (q:Nat→Nat) (w:Nat):List Int:=((List.range n).filter fun v=>r w v).map fun v=>(q v:Int)
def zZ (n:Nat) (R:zaG) (q:Nat→Nat) (w:Nat):Tup:=[(q w:Int)]::R.map fun r=>zbF (zbm n r q w)
def zg3 (n:Nat) (R:zaG) (q:Nat→Nat) (w:Nat):Tup:=[(q w:Int)]::R.map fun r=>zgy (zbm n r q w)
theorem zmj {n:Nat} {R:zaG} (q:Nat→Nat) (v w:Nat) (_:v < n) (_:w < n) (h:zZ n R q v=zZ n R q w):q v=q w:=by
 unfold zZ at h
 have:=(List.cons.inj h).1
 simp at this;omega
structure zeM (n:Nat) (f:Nat→Nat) (R R':zaG):Prop where
 len:R'.length=R.length
 rel : ∀ (i:Nat) (r r':Nat→Nat→Bool),R[i]? = some r→R'[i]? = some r' → ∀ v w,v < n→w < n→r' (f v) (f w)=r v w
theorem zt5 {n:Nat} {f:Nat→Nat} (hf:Ren n f) {r r':Nat→Nat→Bool} (h : ∀ v w,v < n→w < n→r' (f v) (f w)=r v w) {q q':Nat→Nat} (hq : ∀ w,w < n→q' (f w)=q w) {w:Nat} (hw:w < n):(zbm n r' q' (f w)).Perm (zbm n r q w):=by
 have h1:((List.range n).filter fun v=>r' (f w) v).Perm (((List.range n).filter fun v=>r w v).map f):=by
  refine zex (List.Nodup.sublist List.filter_sublist List.nodup_range) ?_ fun x=>?_
  ·rw [List.Nodup,List.pairwise_map]
   refine List.Pairwise.imp_of_mem (fun {a b} ha hb hab e=>hab (hf.inj a b ?_ ?_ e)) (List.Nodup.sublist List.filter_sublist List.nodup_range)
   ·exact List.mem_range.1 (List.mem_filter.1 ha).1
   ·exact List.mem_range.1 (List.mem_filter.1 hb).1
  ·constructor
   ·intro hx
    obtain ⟨h1,h2⟩:=List.mem_filter.1 hx
    obtain ⟨v,hv,rfl⟩:=hf.surj (List.mem_range.1 h1)
    exact List.mem_map.2 ⟨v,List.mem_filter.2 ⟨List.mem_range.2 hv,by rw [← h w v hw hv];exact h2⟩,rfl⟩
   ·intro hx
    obtain ⟨v,hv,rfl⟩:=List.mem_map.1 hx
    obtain ⟨h1,h2⟩:=List.mem_filter.1 hv
    have h1:=List.mem_range.1 h1
    exact List.mem_filter.2 ⟨List.mem_range.2 (hf.lt v h1),by rw [h w v hw h1];exact h2⟩
 unfold zbm
 refine (h1.map _).trans ?_
 rw [List.map_map]
 refine List.Perm.of_eq (List.map_congr_left fun v hv=>?_)
 have:=List.mem_range.1 (List.mem_filter.1 hv).1
 show ((q' (f v):Nat):Int)=_
 rw [hq v this]
theorem zo1 {n:Nat} {f:Nat→Nat} (hf:Ren n f) {R R':zaG} (hR:zeM n f R R') {q q':Nat→Nat} (hq : ∀ w,w < n→q' (f w)=q w) {w:Nat} (hw:w < n):zZ n R' q' (f w)=zZ n R q w∧zg3 n R' q' (f w)=zg3 n R q w:=by
 have key : ∀ (g:List Int→List Int),(∀ l l':List Int,l.Perm l'→g l=g l')→(R'.map fun r=>g (zbm n r q' (f w)))=R.map fun r=>g (zbm n r q w):=by
  intro g hg
  refine List.ext_getElem? fun i=>?_
  rw [List.getElem?_map,List.getElem?_map]
  by_cases hi:i < R.length
  ·obtain ⟨r,hr⟩ : ∃ r,R[i]? = some r:=⟨_,List.getElem?_eq_getElem hi⟩
   obtain ⟨r',hr'⟩ : ∃ r',R'[i]? = some r':=⟨_,List.getElem?_eq_getElem (by rw [hR.len];exact hi)⟩
   rw [hr,hr']
   exact congrArg some (hg _ _ (zt5 hf (hR.rel i r r' hr hr') hq hw))
  ·rw [List.getElem?_eq_none (by rw [hR.len];omega),List.getElem?_eq_none (by omega)];rfl
 exact ⟨by unfold zZ;rw [hq w hw,key zbF fun l l' h=>znH h],by unfold zg3;rw [hq w hw,key zgy fun l l' h=>zrv fun x=>h.mem_iff]⟩
def zmS (n:Nat) (R:zaG) (first:Nat→Tup):(Nat→Nat)×Nat:=zbP n (zZ n R) (n+1) (fun w=>rkN ((List.range n).map first) (first w)) (cnN ((List.range n).map first))
def zpb (n:Nat) (R:zaG) (first:Nat→Tup):(Nat→Nat)×Nat:=zbP n (zg3 n R) (n+1) (fun w=>rkN ((List.range n).map first) (first w)) (cnN ((List.range n).map first))
theorem zvd {n:Nat} {f:Nat→Nat} (hf:Ren n f) {R R':zaG} (hR:zeM n f R R') {first first':Nat→Tup} (h1 : ∀ w,w < n→first' (f w)=first w) :
  (∀ w,w < n→(zmS n R' first').1 (f w)=(zmS n R first).1 w)∧(zmS n R' first').2=(zmS n R first).2∧(∀ w,w < n→(zpb n R' first').1 (f w)=(zpb n R first).1 w)∧(zpb n R' first').2=(zpb n R first).2:=by
 have hc:=zsm hf h1
 have hr : ∀ w,w < n→(fun w=>rkN ((List.range n).map first') (first' w)) (f w)=(fun w=>rkN ((List.range n).map first) (first w)) w:=fun w hw=>zsn hf h1 hw
 have ha:=zpd hf (next:=zZ n R) (next':=zZ n R') (fun q q' hq w hw=>(zo1 hf hR hq hw).1) (n+1) (fun w=>rkN ((List.range n).map first) (first w)) (fun w=>rkN ((List.range n).map first') (first' w)) (cnN ((List.range n).map first)) hr
 have ho:=zpd hf (next:=zg3 n R) (next':=zg3 n R') (fun q q' hq w hw=>(zo1 hf hR hq hw).2) (n+1) (fun w=>rkN ((List.range n).map first) (first w)) (fun w=>rkN ((List.range n).map first') (first' w)) (cnN ((List.range n).map first)) hr
 unfold zmS zpb
 rw [hc]
 exact ⟨ha.1,ha.2,ho.1,ho.2⟩
end Go.Ab
namespace Go.Ab
structure zcR (n:Nat) (fa fb:Nat→Int) (R R':zaG) (f:Nat→Nat):Prop where
 ren:Ren n f
 fac : ∀ w,w < n→fb (f w)=fa w
 rel:zeM n f R R'
def zae (R:zaG):zaG:=R.map fun r=>fun v w=>r w v
theorem zeM.back {n:Nat} {f:Nat→Nat} {R R':zaG} (h:zeM n f R R'):zeM n f (R++zae R) (R'++zae R'):=by
 refine ⟨by simp [zae,h.len],fun i r r' h1 h2 v w hv hw=>?_⟩
 by_cases hi:i < R.length
 ·rw [List.getElem?_append_left hi] at h1
  rw [List.getElem?_append_left (by rw [h.len];exact hi)] at h2
  exact h.rel i r r' h1 h2 v w hv hw
 ·rw [List.getElem?_append_right (by omega),zae,List.getElem?_map,Option.map_eq_some_iff] at h1
  rw [List.getElem?_append_right (by rw [h.len];omega),zae,List.getElem?_map,Option.map_eq_some_iff] at h2
  obtain ⟨s,hs,rfl⟩:=h1
  obtain ⟨s',hs',rfl⟩:=h2
  exact h.rel _ s s' hs (by rw [← h.len];exact hs') w v hw hv
def zfw (n:Nat) (fa:Nat→Int) (R:zaG):(Nat→Nat)×Nat:=zmS n (R++zae R) fun w=>[[fa w]]
theorem zuK {n:Nat} {fa fb:Nat→Int} {R R':zaG} {f:Nat→Nat} (h:zcR n fa fb R R' f) : ∀ w,w < n→(zfw n fb R').1 (f w)=(zfw n fa R).1 w :=
 (zvd h.ren h.rel.back (first:=fun w=>[[fa w]]) (first':=fun w=>[[fb w]]) fun w hw=>by rw [h.fac w hw]).1
def dfs (ok:List Nat→Nat→Bool) (n:Nat):Nat→List Nat→List (List Nat)
 | 0,to=>[to]
 | k+1,to=>(List.range n).flatMap fun w=>if ok to w=true then dfs ok n k (to++[w]) else []
theorem zdo {ok:List Nat→Nat→Bool} {n:Nat} : ∀ {k:Nat} {to x:List Nat},x∈dfs ok n k to↔x.length=to.length+k∧to <+: x ∧ ∀ v,to.length≤v→v < x.length→x.getD v 0 < n∧ok (x.take v) (x.getD v 0)=true
 | 0,to,x=>by
  unfold dfs
  rw [List.mem_singleton]
  constructor
  ·rintro rfl;exact ⟨rfl,List.prefix_rfl,fun v h1 h2=>by omega⟩
  ·rintro ⟨h1,h2,-⟩;exact (h2.eq_of_length (by omega)).symm
 | k+1,to,x=>by
  unfold dfs
  rw [List.mem_flatMap]
  constructor
  ·rintro ⟨w,hw,hx⟩
   by_cases hok:ok to w=true
   ·rw [if_pos hok] at hx
    obtain ⟨h1,h2,h3⟩:=zdo.1 hx
    rw [List.length_append,List.length_singleton] at h1 h3
    have hp:to <+: x:=(List.prefix_append to [w]).trans h2
    refine ⟨by omega,hp,fun v h4 h5=>?_⟩
    by_cases e:v=to.length
    ·subst e
     obtain ⟨s,rfl⟩:=h2
     have e1:(to++[w]++s).getD to.length 0=w:=by simp [List.getD]
     have e2:(to++[w]++s).take to.length=to:=by simp
     rw [e1,e2]
     exact ⟨List.mem_range.1 hw,hok⟩
    ·exact h3 v (by omega) h5
   ·rw [if_neg hok] at hx;cases hx
  ·rintro ⟨h1,h2,h3⟩
   obtain ⟨s,rfl⟩:=h2
   match s,h1 with
   | [],h1=>simp at h1
   | w::s,h1 =>
    have e1:(to++w::s).getD to.length 0=w:=by simp [List.getD]
    have e2:(to++w::s).take to.length=to:=by simp
    obtain ⟨h4,h5⟩:=h3 to.length (Nat.le_refl _) (by simp)
    rw [e1] at h4 h5
    rw [e2] at h5
    refine ⟨w,List.mem_range.2 h4,?_⟩
    rw [if_pos h5]
    exact zdo.2 ⟨by simp at *;omega,⟨s,by simp⟩,fun v h6 h7=>h3 v (by simp at h6;omega) h7⟩
theorem zjv {ok:List Nat→Nat→Bool} {n:Nat} : ∀ (k:Nat) (to:List Nat),(dfs ok n k to).Nodup
 | 0,to=>by unfold dfs;simp
 | k+1,to=>by
  unfold dfs
  rw [List.Nodup,List.pairwise_flatMap]
  constructor
  ·intro w _
   by_cases h:ok to w=true
   ·rw [if_pos h];exact zjv k _
   ·rw [if_neg h];exact List.Pairwise.nil
  ·refine List.nodup_range.imp fun {v w} hne x hx y hy e=>?_
   subst e
   by_cases h:ok to v=true
   ·rw [if_pos h] at hx
    by_cases h':ok to w=true
    ·rw [if_pos h'] at hy
     obtain ⟨s,h1⟩:=(zdo.1 hx).2.1
     obtain ⟨t,h2⟩:=(zdo.1 hy).2.1
     rw [← h2] at h1
     have:=congrArg (fun l=>l.getD to.length 0) h1
     simp [List.getD] at this
     exact hne this
    ·rw [if_neg h'] at hy;cases hy
   ·rw [if_neg h] at hx;cases hx
abbrev fnL (x:List Nat):Nat→Nat:=fun v=>x.getD v 0
section
variable (n:Nat) (fa fb:Nat→Int) (R R':zaG)
def zgt (x:Nat→Nat) (v u:Nat):Bool:=(R.zip R').all fun r=>r.1 v u==r.2 (x v) (x u)&&r.1 u v==r.2 (x u) (x v)
def okS (to:List Nat) (w:Nat):Bool := !to.contains w&&(fa to.length==fb w&&(List.range (to.length+1)).all fun u=>zgt R R' (fnL (to++[w])) to.length u)
end
theorem zeg {R R':zaG} (hl:R'.length=R.length) {p:(Nat→Nat→Bool)×(Nat→Nat→Bool)→Bool} : (R.zip R').all p=true ↔ ∀ (i:Nat) r r',R[i]? = some r→R'[i]? = some r'→p (r,r')=true:=by
 rw [List.all_eq_true]
 constructor
 ·intro h i r r' h1 h2
  refine h (r,r') (List.mem_of_getElem? (i:=i) ?_)
  rw [List.getElem?_zip_eq_some]
  exact ⟨h1,h2⟩
 ·intro h x hx
  obtain ⟨i,hi⟩:=List.mem_iff_getElem?.1 hx
  obtain ⟨h1,h2⟩:=List.getElem?_zip_eq_some.1 hi
  exact h i x.1 x.2 h1 h2
theorem ziL {x:List Nat} {v u:Nat} (hv:v < x.length) (hu:u≤v):fnL (x.take v++[x.getD v 0]) u=fnL x u:=by
 have:x.take v++[x.getD v 0]=x.take (v+1):=by
  rw [List.take_add_one,List.getElem?_eq_getElem hv]
  simp [List.getD,hv]
 show (x.take v++[x.getD v 0]).getD u 0=x.getD u 0
 rw [this,List.getD,List.getD,List.getElem?_take_of_lt (by omega)]
theorem zmQ {n:Nat} {fa fb:Nat→Int} {R R':zaG} (hl:R'.length=R.length) {x:List Nat} (hx:x.length=n) :
  (∀ v,v < n→x.getD v 0 < n∧okS fa fb R R' (x.take v) (x.getD v 0)=true)↔zcR n fa fb R R' (fnL x):=by
 constructor
 ·intro h
  have h1 : ∀ v,v < n → ∀ u,u < v→fnL x u≠fnL x v:=fun v hv u hu e=>by
   have:=(h v hv).2
   unfold okS at this
   simp only [Bool.and_eq_true,Bool.not_eq_true',List.contains_iff_mem] at this
   have h2 : ¬(x.take v).contains (x.getD v 0)=true:=by rw [this.1];decide
   refine h2 (List.contains_iff_mem.2 ?_)
   rw [← (show fnL x u=x.getD v 0 from e)]
   exact List.mem_of_getElem? (i:=u) (by rw [List.getElem?_take_of_lt hu,List.getElem?_eq_getElem (by omega)];simp [fnL,List.getD,show u < x.length by omega])
  have h2 : ∀ v,v < n→fa v=fb (fnL x v) ∧ ∀ u,u≤v→zgt R R' (fnL x) v u=true:=fun v hv=>by
   have:=(h v hv).2
   unfold okS at this
   simp only [Bool.and_eq_true,List.length_take,beq_iff_eq,List.all_eq_true,List.mem_range] at this
   rw [show min v x.length=v by omega] at this
   refine ⟨this.2.1,fun u hu=>?_⟩
   have h3:=this.2.2 u (by omega)
   unfold zgt at h3 ⊢
   rw [ziL (by omega) (Nat.le_refl _),ziL (by omega) hu] at h3
   exact h3
  refine ⟨⟨fun w hw=>(h w hw).1,fun v w hv hw e=>?_⟩,fun w hw=>(h2 w hw).1.symm,hl,fun i r r' hr hr' v w hv hw=>?_⟩
  ·rcases Nat.lt_trichotomy v w with hlt|e'|hlt
   ·exact absurd e (h1 w hw v hlt)
   ·exact e'
   ·exact absurd e.symm (h1 v hv w hlt)
  ·rcases Nat.le_total w v with hle|hle
   ·have:=(zeg hl).1 ((h2 v hv).2 w hle) i r r' hr hr'
    simp only [Bool.and_eq_true,beq_iff_eq] at this
    exact this.1.symm
   ·have:=(zeg hl).1 ((h2 w hw).2 v hle) i r r' hr hr'
    simp only [Bool.and_eq_true,beq_iff_eq] at this
    exact this.2.symm
 ·intro h v hv
  refine ⟨h.ren.lt v hv,?_⟩
  unfold okS
  simp only [Bool.and_eq_true,List.length_take,beq_iff_eq,List.all_eq_true,List.mem_range]
  rw [show min v x.length=v by omega]
  refine ⟨?_,(h.fac v hv).symm,fun u hu=>?_⟩
  ·rw [Bool.not_eq_true',← Bool.not_eq_true,List.contains_iff_mem]
   intro hm
   obtain ⟨u,hu⟩:=List.mem_iff_getElem?.1 hm
   have hlt:u < v:=by have:=(List.getElem?_eq_some_iff.1 hu).1;simp at this;omega
   rw [List.getElem?_take_of_lt hlt] at hu
   have:fnL x u=fnL x v:=by show x.getD u 0=_;rw [List.getD,hu];rfl
   have:=h.ren.inj u v (by omega) hv this
   omega
  ·unfold zgt
   rw [ziL (by omega) (Nat.le_refl _),ziL (by omega) (by omega)]
   refine (zeg hl).2 fun i r r' hr hr'=>?_
   simp only [Bool.and_eq_true,beq_iff_eq]
   exact ⟨(h.rel.rel i r r' hr hr' v u hv (by omega)).symm,(h.rel.rel i r r' hr hr' u v (by omega) hv).symm⟩
def okC (n:Nat) (fa fb:Nat→Int) (R R':zaG) (to:List Nat) (w:Nat):Bool:=decide ((zfw n fa R).1 to.length=(zfw n fb R').1 w)&&okS fa fb R R' to w
theorem zoQ {n:Nat} {fa fb:Nat→Int} {R R':zaG} (hl:R'.length=R.length) {x:List Nat} : x∈dfs (okS fa fb R R') n n []↔x.length=n∧zcR n fa fb R R' (fnL x):=by
 rw [zdo]
 constructor
 ·rintro ⟨h1,-,h3⟩
  have h1:x.length=n:=by simpa using h1
  exact ⟨h1,(zmQ hl h1).1 fun v hv=>h3 v (Nat.zero_le _) (by omega)⟩
 ·rintro ⟨h1,h2⟩
  exact ⟨by simpa using h1,List.nil_prefix,fun v _ hv=>(zmQ hl h1).2 h2 v (by omega)⟩
theorem zr5 {n:Nat} {fa fb:Nat→Int} {R R':zaG} (hl:R'.length=R.length) {x:List Nat} : x∈dfs (okC n fa fb R R') n n []↔x.length=n∧zcR n fa fb R R' (fnL x):=by
 rw [← zoQ hl,zdo,zdo]
 constructor
 ·rintro ⟨h1,h2,h3⟩
  exact ⟨h1,h2,fun v hv hv'=>⟨(h3 v hv hv').1,by have:=(h3 v hv hv').2;unfold okC at this;exact (Bool.and_eq_true _ _▸this).2⟩⟩
 ·rintro ⟨h1,h2,h3⟩
  have hn:x.length=n:=by simpa using h1
  have hiso:=(zmQ hl hn).1 fun v hv=>h3 v (Nat.zero_le _) (by omega)
  refine ⟨h1,h2,fun v hv hv'=>⟨(h3 v hv hv').1,?_⟩⟩
  unfold okC
  rw [(h3 v hv hv').2,Bool.and_true,List.length_take,show min v x.length=v by omega]
  exact decide_eq_true (zuK hiso v (by omega)).symm
theorem zr4 {n:Nat} {fa fb:Nat→Int} {R R':zaG} (hl:R'.length=R.length):(dfs (okC n fa fb R R') n n []).length=(dfs (okS fa fb R R') n n []).length :=
 (zex (zjv _ _) (zjv _ _) fun x=>by rw [zr5 hl,zoQ hl]).length_eq
end Go.Ab
namespace Go.Ab
def zhb (n:Nat) (f:Nat→Nat) (x:Nat):Nat:=((List.range n).find? fun w=>decide (f w=x)).getD 0
theorem zwa {n:Nat} {f:Nat→Nat} (hf:Ren n f) {w:Nat} (hw:w < n):zhb n f (f w)=w:=by
 unfold zhb
 cases h:(List.range n).find? fun u=>decide (f u=f w) with
 | none=>have:=List.find?_eq_none.1 h w (List.mem_range.2 hw);simp at this
 | some u =>
  have h1:=List.find?_some h
  exact hf.inj u w (List.mem_range.1 (List.mem_of_find?_eq_some h)) hw (of_decide_eq_true h1)
theorem zfe {n:Nat} {f:Nat→Nat} (hf:Ren n f) {x:Nat} (hx:x < n):zhb n f x < n∧f (zhb n f x)=x:=by
 obtain ⟨w,hw,rfl⟩:=hf.surj hx
 rw [zwa hf hw];exact ⟨hw,rfl⟩
theorem Ren.inv {n:Nat} {f:Nat→Nat} (hf:Ren n f):Ren n (zhb n f) :=
 ⟨fun x hx=>(zfe hf hx).1,fun x y hx hy e=>by rw [← (zfe hf hx).2,← (zfe hf hy).2,e]⟩
theorem Ren.comp {n:Nat} {f g:Nat→Nat} (hf:Ren n f) (hg:Ren n g):Ren n fun w=>g (f w) :=
 ⟨fun w hw=>hg.lt _ (hf.lt w hw),fun v w hv hw e=>hf.inj v w hv hw (hg.inj _ _ (hf.lt v hv) (hf.lt w hw) e)⟩
theorem zeM.inv {n:Nat} {f:Nat→Nat} {R R':zaG} (hf:Ren n f) (h:zeM n f R R'):zeM n (zhb n f) R' R :=
 ⟨h.len.symm,fun i r r' h1 h2 v w hv hw=>by
  have e:=h.rel i r' r h2 h1 (zhb n f v) (zhb n f w) (zfe hf hv).1 (zfe hf hw).1
  rw [(zfe hf hv).2,(zfe hf hw).2] at e
  exact e.symm⟩
theorem zeM.comp {n:Nat} {f g:Nat→Nat} {R R' R2:zaG} (hf:Ren n f) (h:zeM n f R R') (h':zeM n g R' R2):zeM n (fun w=>g (f w)) R R2 :=
 ⟨h'.len.trans h.len,fun i r r2 h1 h2 v w hv hw=>by
  obtain ⟨r',hr'⟩ : ∃ r',R'[i]? = some r':=⟨_,List.getElem?_eq_getElem (by have:=(List.getElem?_eq_some_iff.1 h1).1;rw [h.len];exact this)⟩
  rw [h'.rel i r' r2 hr' h2 _ _ (hf.lt v hv) (hf.lt w hw),h.rel i r r' h1 hr' v w hv hw]⟩
theorem zcR.inv {n:Nat} {fa fb:Nat→Int} {R R':zaG} {f:Nat→Nat} (h:zcR n fa fb R R' f):zcR n fb fa R' R (zhb n f) :=
 ⟨h.ren.inv,fun x hx=>by rw [← h.fac _ (zfe h.ren hx).1,(zfe h.ren hx).2],h.rel.inv h.ren⟩
theorem zcR.comp {n:Nat} {fa fb fc:Nat→Int} {R R' R2:zaG} {f g:Nat→Nat} (h:zcR n fa fb R R' f) (h':zcR n fb fc R' R2 g):zcR n fa fc R R2 fun w=>g (f w) :=
 ⟨h.ren.comp h'.ren,fun w hw=>by rw [h'.fac _ (h.ren.lt w hw),h.fac w hw],h.rel.comp h.ren h'.rel⟩
theorem zcR.congr {n:Nat} {fa fb:Nat→Int} {R R':zaG} {f g:Nat→Nat} (h:zcR n fa fb R R' f) (e : ∀ w,w < n→g w=f w):zcR n fa fb R R' g :=
 ⟨⟨fun w hw=>by rw [e w hw];exact h.ren.lt w hw,fun v w hv hw h'=>h.ren.inj v w hv hw (by rw [← e v hv,← e w hw,h'])⟩,fun w hw=>by rw [e w hw];exact h.fac w hw,
  ⟨h.rel.len,fun i r r' h1 h2 v w hv hw=>by rw [e v hv,e w hw];exact h.rel.rel i r r' h1 h2 v w hv hw⟩⟩
end Go.Ab
namespace Go.Ab
theorem zoX {l:List Int} {x:Int} : x∈zgy l↔x∈l:=by
 unfold zgy;rw [(zcj _).mem_iff];exact zan
end Go.Ab
namespace Go.Ab
def zn2 (l:List Nat) (R:zaG):zaG:=R.map fun r=>fun i j=>r (l.getD i 0) (l.getD j 0)
def zrh (l:List Nat) (fa:Nat→Int):Nat→Int:=fun i=>fa (l.getD i 0)
theorem zir {l:List Nat} {i:Nat} (h:i < l.length):l.getD i 0∈l:=by
 rw [List.getD,List.getElem?_eq_getElem h];exact List.getElem_mem h
theorem zoW {l:List Nat} {x:Nat} (h:x∈l) : ∃ i,i < l.length∧l.getD i 0=x:=by
 obtain ⟨i,hi,rfl⟩:=List.mem_iff_getElem.1 h
 exact ⟨i,hi,by simp [List.getD,hi]⟩
end Go.Ab
namespace Go.Ab
theorem zfs {n:Nat} (hn:n≤64) {f:Nat→Bool} {w:Nat} : (zas f n).getLsbD w=true↔w < n∧f w=true:=by
 rw [zg5];simp only [Bool.and_eq_true,decide_eq_true_eq]
 exact ⟨fun h=>⟨h.1.2,h.2⟩,fun h=>⟨⟨by omega,h.1⟩,h.2⟩⟩
def zu (m:KM):zaG:=m.rel.map fun r=>fun v w=>rb r v w
def zS (m:KM) (w:Nat):Int:=(zaA m.val w m.val.length:Int)
def zbi (s:BitVec 64) (l:List Nat):BitVec 64:=zas (fun i=>s.getLsbD (l.getD i 0)) l.length
def zcq (m:KM) (l:List Nat):KM:=⟨l.length,m.val.map fun s=>zbi s l,m.rel.map fun r=>l.map fun w=>zbi (r.getD w 0#64) l⟩
theorem ziF {s:BitVec 64} {l:List Nat} (hl:l.length≤64) {i:Nat} : (zbi s l).getLsbD i=true↔i < l.length∧s.getLsbD (l.getD i 0)=true:=zfs hl
theorem zmB {n:Int} {s:BitVec 64} (h:0≤n):bad n s=false ↔ ∀ i,s.getLsbD i=true→i < n.toNat:=by
 rw [zrE h]
 exact ⟨fun k i hi=>by have:=k i hi;omega,fun k i hi=>by have:=k i hi;omega⟩
theorem ztc {m:KM} (hm:zlB m) {l:List Nat} (h1:1≤l.length) (h2:l.length≤64):zlB (zcq m l) where
 w1:=by show (1:Int)≤(l.length:Int);omega
 w2:=by show (l.length:Int)≤64;omega
 n4:=by have:=hm.n4;simpa [zcq] using this
 v8:=by have:=hm.v8;simpa [zcq] using this
 len:=fun r hr=>by
  obtain ⟨r',-,rfl⟩:=List.mem_map.1 hr
  simp [zcq]
 val:=fun s hs=>by
  obtain ⟨s',-,rfl⟩:=List.mem_map.1 hs
  rw [zmB (by show (0:Int)≤(l.length:Int);omega)]
  intro i hi
  exact ((ziF h2).1 hi).1
 rel:=fun r hr s hs=>by
  obtain ⟨r',-,rfl⟩:=List.mem_map.1 hr
  obtain ⟨w,-,rfl⟩:=List.mem_map.1 hs
  rw [zmB (by show (0:Int)≤(l.length:Int);omega)]
  intro i hi
  exact ((ziF h2).1 hi).1
theorem ziG (m:KM):(zu m).length=m.rel.length:=by simp [zu]
theorem zuC {m:KM} {l:List Nat} (h2:l.length≤64) {i:Nat} {r r':Nat→Nat→Bool} (h:(zu (zcq m l))[i]? = some r) (h':(zn2 l (zu m))[i]? = some r') {v w:Nat} (hv:v < l.length) (hw:w < l.length):r v w=r' v w:=by
 unfold zu zcq at h
 unfold zn2 zu at h'
 rw [List.map_map,List.getElem?_map,Option.map_eq_some_iff] at h
 rw [List.map_map,List.getElem?_map,Option.map_eq_some_iff] at h'
 obtain ⟨a,ha,rfl⟩:=h
 obtain ⟨b,hb,rfl⟩:=h'
 rw [ha] at hb;cases hb
 show rb (l.map fun w=>zbi (a.getD w 0#64) l) v w=rb a (l.getD v 0) (l.getD w 0)
 unfold rb
 rw [show (l.map fun w=>zbi (a.getD w 0#64) l).getD v 0#64=zbi (a.getD (l.getD v 0) 0#64) l by
  simp [List.getD,List.getElem?_map,List.getElem?_eq_getElem hv]]
 rw [Bool.eq_iff_iff,ziF h2]
 exact ⟨fun h=>h.2,fun h=>⟨hw,h⟩⟩
theorem zlZ (vl:List (BitVec 64)) {l:List Nat} (h2:l.length≤64) {i:Nat} (hi:i < l.length) : ∀ k,zaA (vl.map fun s=>zbi s l) i k=zaA vl (l.getD i 0) k
 | 0=>rfl
 | k+1=>by
  rw [zaA,zaA,zlZ vl h2 hi k]
  have e:((vl.map fun s=>zbi s l).getD k 0#64).getLsbD i=(vl.getD k 0#64).getLsbD (l.getD i 0):=by
   simp only [List.getD,List.getElem?_map]
   cases hk:vl[k]? with
   | none=>simp
   | some s =>
    show (zbi s l).getLsbD i=s.getLsbD (l.getD i 0)
    rw [Bool.eq_iff_iff,ziF h2]
    exact ⟨fun h=>h.2,fun h=>⟨hi,h⟩⟩
  rw [e]
theorem zuB {m:KM} {l:List Nat} (h2:l.length≤64) {i:Nat} (hi:i < l.length):zS (zcq m l) i=zrh l (zS m) i:=by
 unfold zS zrh zcq
 rw [List.length_map,zlZ _ h2 hi]
theorem zrT {a b:List (BitVec 64)} {w:Nat} (hl:a.length=b.length) (h:zaA a w a.length=zaA b w b.length) (i:Nat):(a.getD i 0#64).getLsbD w=(b.getD i 0#64).getLsbD w:=by
 by_cases hi:i < a.length
 ·have h1:=zjC a w (i:=i) a.length
  have h2:=zjC b w (i:=i) b.length
  rw [h] at h1
  rw [Bool.eq_iff_iff]
  exact ⟨fun e=>(h2.1 (h1.2 ⟨hi,e⟩)).2,fun e=>(h1.1 (h2.2 ⟨by omega,e⟩)).2⟩
 ·rw [List.getD,List.getD,List.getElem?_eq_none (by omega),List.getElem?_eq_none (by omega)]
theorem zgk {l:List (BitVec 64)} {W:Int} (hW:0≤W) (h : ∀ s∈l,bad W s=false) (i w:Nat) (hw:(l.getD i 0#64).getLsbD w=true):w < W.toNat:=by
 cases hi:l[i]? with
 | none=>rw [List.getD,hi] at hw;simp at hw
 | some s =>
  rw [List.getD,hi] at hw
  exact (zmB hW).1 (h s (List.mem_of_getElem? hi)) w hw
theorem zV {α:Type} {l:List α} {i:Nat} {d:α} (h:i < l.length):l[i]? = some (l.getD i d):=by simp [List.getD,h]
theorem zbT {α:Type} {a b:List α} {d:α} (hl:a.length=b.length) (h : ∀ i,i < a.length→a.getD i d=b.getD i d):a=b:=by
 refine List.ext_getElem hl fun i h1 h2=>?_
 have:=h i h1
 rw [List.getD,List.getD,List.getElem?_eq_getElem h1,List.getElem?_eq_getElem h2] at this
 exact this
theorem zvL {a b:KM} (ga:zlB a) (gb:zlB b) (hW:a.W=b.W) (hv:a.val.length=b.val.length) (hr:a.rel.length=b.rel.length)
  (hf : ∀ w,w < a.W.toNat→zS a w=zS b w)
  (hR : ∀ (i:Nat) r r',(zu a)[i]? = some r→(zu b)[i]? = some r' → ∀ v w,v < a.W.toNat→w < a.W.toNat→r v w=r' v w):a=b:=by
 have w1:=ga.w1
 have e1:a.val=b.val:=zbT (d:=0#64) hv fun i hi=>by
  refine BitVec.eq_of_getLsbD_eq fun w _=>?_
  by_cases hw:w < a.W.toNat
  ·exact zrT hv (Int.ofNat_inj.1 (hf w hw)) i
  ·have h1:=fun h=>hw (zgk (by omega) ga.val i w h)
   have h2:=fun h=>hw (by have:=zgk (by omega) gb.val i w h;omega)
   rw [Bool.eq_iff_iff]
   exact ⟨fun h=>absurd h h1,fun h=>absurd h h2⟩
 have e2:a.rel=b.rel:=zbT (d:=[]) hr fun i hi=>by
  have hi2:i < b.rel.length:=by omega
  have g1:=ga.len _ (List.getElem_mem hi)
  have g2:=gb.len _ (List.getElem_mem hi2)
  have f1:=ga.rel _ (List.getElem_mem hi)
  have f2:=gb.rel _ (List.getElem_mem hi2)
  have hR:=hR i (fun v w=>rb a.rel[i] v w) (fun v w=>rb b.rel[i] v w) (by simp [zu,hi]) (by simp [zu,hi2])
  rw [show a.rel.getD i []=a.rel[i] by simp [List.getD,hi],show b.rel.getD i []=b.rel[i] by simp [List.getD,hi2]]
  generalize a.rel[i]=x at g1 f1 hR
  generalize b.rel[i]=y at g2 f2 hR
  refine zbT (d:=0#64) (by omega) fun v hv=>BitVec.eq_of_getLsbD_eq fun w _=>?_
  by_cases hw:w < a.W.toNat
  ·exact hR v w (by omega) hw
  ·have h1:=fun h=>hw (zgk (by omega) f1 v w h)
   have h2:=fun h=>hw (by have:=zgk (by omega) f2 v w h;omega)
   rw [Bool.eq_iff_iff]
   exact ⟨fun h=>absurd h h1,fun h=>absurd h h2⟩
 cases a;cases b;simp only at hW e1 e2;subst hW e1 e2;rfl
def z1 (to:List Int) (n:Nat):Bool:=decide (to.length=n∧(∀ x∈to,0≤x∧x < n)∧to.Nodup)
def zbB (to:List Int) (n:Nat):List Nat:=(List.range n).map fun (i:Nat)=>to.idxOf (i:Int)
def zsX:KM:=⟨0,[],[]⟩
def zmT (m:KM) (to:List Int):KM×Int:=if zj m≠0 then (zsX,zj m) else if z1 to m.W.toNat=true then (zcq m (zbB to m.W.toNat),0) else (zsX,1)
theorem zbl {to:List Int} {n:Nat} : z1 to n=true↔to.length=n∧(∀ x∈to,0≤x∧x < n)∧to.Nodup:=by simp only [z1,decide_eq_true_eq]
theorem zo9 {to:List Int} {n:Nat} (h:z1 to n=true) {i:Nat} (hi:i < n):(i:Int)∈to:=by
 obtain ⟨h1,h2,h3⟩:=zbl.1 h
 have key : ∀ x∈to,x∈(List.range n).map fun (i:Nat)=>(i:Int):=fun x hx=>List.mem_map.2 ⟨x.toNat,List.mem_range.2 (by have:=h2 x hx;omega),by have:=h2 x hx;omega⟩
 apply Classical.byContradiction
 intro hn
 have:=zb6 (l:=(i:Int)::to) (l':=(List.range n).map fun (i:Nat)=>(i:Int)) (List.nodup_cons.2 ⟨hn,h3⟩) fun x hx=>by
  rcases List.mem_cons.1 hx with rfl|hx
  ·exact List.mem_map.2 ⟨i,List.mem_range.2 hi,rfl⟩
  ·exact key x hx
 simp at this;omega
abbrev toF (to:List Int) (w:Nat):Nat:=(at0 to w).toNat
theorem zgu {to:List Int} {n:Nat} (h:z1 to n=true):Ren n (toF to):=by
 obtain ⟨h1,h2,h3⟩:=zbl.1 h
 refine ⟨fun w hw=>?_,fun v w hv hw e=>?_⟩
 ·have:=h2 (at0 to w) (List.mem_of_getElem? (zds (by omega)))
  unfold toF;omega
 ·have a1:=h2 (at0 to v) (List.mem_of_getElem? (zds (by omega)))
  have a2:=h2 (at0 to w) (List.mem_of_getElem? (zds (by omega)))
  have e':at0 to v=at0 to w:=by unfold toF at e;omega
  have g1:=zds (l:=to) (i:=v) (by omega)
  have g2:=zds (l:=to) (i:=w) (by omega)
  rw [e'] at g1
  obtain ⟨p1,q1⟩:=List.getElem?_eq_some_iff.1 g1
  obtain ⟨p2,q2⟩:=List.getElem?_eq_some_iff.1 g2
  exact (List.getElem_inj h3).1 (q1.trans q2.symm)
theorem zvI {to:List Int} {n:Nat} (h:z1 to n=true) {w:Nat} (hw:w < n):to.idxOf ((toF to w:Nat):Int)=w:=by
 obtain ⟨h1,h2,h3⟩:=zbl.1 h
 have g:=zds (l:=to) (i:=w) (by omega)
 have a:=h2 (at0 to w) (List.mem_of_getElem? g)
 rw [show ((toF to w:Nat):Int)=at0 to w by unfold toF;omega]
 obtain ⟨p,q⟩:=List.getElem?_eq_some_iff.1 g
 rw [← q]
 exact h3.idxOf_getElem w p
theorem zko (to:List Int) (n:Nat):(zbB to n).length=n:=by simp [zbB]
theorem ztC {to:List Int} {n i:Nat} (hi:i < n):(zbB to n).getD i 0=to.idxOf (i:Int):=by simp [zbB,List.getD,hi]
theorem zma {to:List Int} {n:Nat} (h:z1 to n=true) {w:Nat} (hw:w < n):(zbB to n).getD (toF to w) 0=w:=by
 rw [ztC ((zgu h).lt w hw),zvI h hw]
theorem zvJ {to:List Int} {n:Nat} (h:z1 to n=true) {i:Nat} (hi:i < n):(zbB to n).getD i 0 < n:=by
 obtain ⟨w,hw,rfl⟩:=(zgu h).surj hi
 rw [zma h hw];exact hw
theorem zve {m:KM} (hc:zj m=0) {to:List Int} (h:z1 to m.W.toNat=true):zcR m.W.toNat (zS m) (zS (zcq m (zbB to m.W.toNat))) (zu m) (zu (zcq m (zbB to m.W.toNat))) (toF to):=by
 have hg:=zw hc
 have w1:=hg.w1
 have w2:=hg.w2
 have hl:(zbB to m.W.toNat).length=m.W.toNat:=zko _ _
 have hr:=zgu h
 refine ⟨hr,fun w hw=>?_,⟨by simp [zu,zcq],fun i r r' h1 h2 v w hv hw=>?_⟩⟩
 ·rw [zuB (by omega) (by rw [hl];exact hr.lt w hw)]
  unfold zrh;rw [zma h hw]
 ·have h3:(zn2 (zbB to m.W.toNat) (zu m))[i]? = some fun a b=>r ((zbB to m.W.toNat).getD a 0) ((zbB to m.W.toNat).getD b 0):=by
   unfold zn2;rw [List.getElem?_map,h1];rfl
  rw [zuC (by omega) h2 h3 (by rw [hl];exact hr.lt v hv) (by rw [hl];exact hr.lt w hw),zma h hv,zma h hw]
end Go.Ab
namespace Go.Ab
theorem zuv {m:KM} (hc:zj m=0) {r:List (BitVec 64)} (hr:r∈m.rel) {v u:Nat} (h:rb r v u=true):v < m.W.toNat∧u < m.W.toNat:=by
 have hg:=zw hc
 have w1:=hg.w1
 refine ⟨?_,zgk (by omega) (hg.rel r hr) v u h⟩
 apply Classical.byContradiction
 intro hn
 have:=hg.len r hr
 rw [zvP (by omega)] at h;cases h
structure zs2 (m:KM) (out todo:BitVec 64) (w k:Nat) (o t:BitVec 64):Prop where
 o : ∀ v,o.getLsbD v=true↔out.getLsbD v=true ∨ ∃ r∈m.rel.take k,rb r w v=true
 t : ∀ v,t.getLsbD v=true↔(todo.getLsbD v=true∧v≠w)∨(out.getLsbD v=false ∧ ∃ r∈m.rel.take k,rb r w v=true)
theorem ziX {α:Type} {l:List α} {k:Nat} {x:α} (h:l[k]? = some x) (p:α→Prop):(∃ r∈l.take (k+1),p r)↔(∃ r∈l.take k,p r)∨p x:=by
 rw [List.take_add_one,h]
 simp only [Option.toList_some,List.mem_append,List.mem_singleton]
 constructor
 ·rintro ⟨r,h1|rfl,h2⟩
  ·exact .inl ⟨r,h1,h2⟩
  ·exact .inr h2
 ·rintro (⟨r,h1,h2⟩|h2)
  ·exact ⟨r,.inl h1,h2⟩
  ·exact ⟨x,.inr rfl,h2⟩
theorem zs2.next {m:KM} {out todo:BitVec 64} {w k:Nat} {o t:BitVec 64} (h:zs2 m out todo w k o t) {r:List (BitVec 64)} {x:BitVec 64} (hr:m.rel[k]? = some r) (hx:r[w]? = some x):zs2 m out todo w (k+1) (o|||x) (t|||(x &&& ~~~o)):=by
 have e : ∀ v,rb r w v=x.getLsbD v:=fun v=>zwf hx v
 refine ⟨fun v=>?_,fun v=>?_⟩
 ·rw [ziX hr,BitVec.getLsbD_or,Bool.or_eq_true,h.o v,e]
  simp only [or_assoc]
 ·rw [ziX hr,BitVec.getLsbD_or,Bool.or_eq_true,h.t v,BitVec.getLsbD_and,Bool.and_eq_true,BitVec.getLsbD_not,e]
  have ho:=h.o v
  by_cases hv:v < 64
  ·simp only [hv,decide_true,Bool.true_and,Bool.not_eq_true']
   by_cases h1:out.getLsbD v=true
   ·have:o.getLsbD v=true:=ho.2 (.inl h1)
    simp [h1,this]
   ·simp only [Bool.not_eq_true] at h1
    by_cases h2 : ∃ r∈m.rel.take k,rb r w v=true
    ·have:o.getLsbD v=true:=ho.2 (.inr h2)
     simp [h1,h2,this]
    ·have:o.getLsbD v=false:=by rw [← Bool.not_eq_true];intro h3;rcases ho.1 h3 with h3|h3; (rw [h1] at h3;cases h3);exact h2 h3
     simp [h1,h2,this]
  ·have:x.getLsbD v=false:=BitVec.getLsbD_of_ge _ _ (by omega)
   simp [hv,this]
def zvE (s:BitVec 64):Nat:=(zB s).length
theorem zuJ {n:Nat} {s:BitVec 64} (h : ∀ v,s.getLsbD v=true→v < n):zvE s≤n:=by
 have:=zb6 (zjW s) (l':=List.range n) fun v hv=>List.mem_range.2 (h v (zew.1 hv))
 simpa [zvE] using this
theorem zgT {p:Nat→Bool} {n:Nat} (h : ∀ v,p v=true→v < n) : ∀ k,n≤k→(List.range k).filter p=(List.range n).filter p
 | 0,hk=>by rw [show n=0 by omega]
 | k+1,hk=>by
  by_cases e:n=k+1
  ·rw [e]
  ·rw [List.range_succ,List.filter_append,zgT h k (by omega)]
   have:p k=false:=by rw [← Bool.not_eq_true];intro hp;have:=h k hp;omega
   simp [this]
end Go.Ab
namespace Go.Ab
open Go Go.Proofs
set_option maxRecDepth 10000
set_option maxHeartbeats 4000000
variable {T:Nat→Obj→Prop}
theorem zuY (n:Int) (h:0≤n):Fn Tryz.prog T zkG [.d (.int .i64 n)] [] (.d (.u64 (zg7 n))) []:=by
 refine zg zp zpW (by show 1≤8;decide) ?_
 (repeat' ((conv=>whnf);first|refine vA ?_|refine vB fun b hb=>?_|refine vC (fun hl=>?_) fun i kv vv hi=>?_|refine vE ?_|refine vG ?_|refine vH ?_|((first|refine vD ?_ ?_|refine vF ?_ ?_|refine vI ?_ ?_)<;>intro hc<;>try simp only [vL] at hc)|refine vJ fun hg=>?_|refine vK fun hg=>?_|refine vT ?_|refine vN ‹_› ?_|(refine vQ ?_ fun x hx=>?_;·first|omega|(simp only [vM] at *;omega))|((first|refine vO ?_ ?_|refine vR ?_ ‹_› ?_|refine vS ?_ fun x hx=>?_|refine vP ?_ ?_);·first|omega|(simp only [vM] at *;omega))|refine vW ⟨by omega,by omega⟩ ?_|(refine vU ?_ ?_;·kernel_rfl)|refine vX ?_|refine vY ?_|refine vZ ?_|refine za.mk _ ‹_› ?_|refine vP (show (_:BitVec 64)≠_ by decide) ?_));all_goals try conv=>whnf
 ·simp [zg7, *]
 ·rw [zg7,if_neg (by omega)];rfl
theorem zuQ (l:List (BitVec 64)) (g:Nat) (y:D) (p:BitVec 64→Bool) (hF : ∀ x,Fn Tryz.prog T g [.d (.u64 x),.d y] [] (.d (.bool (p x))) []):Fn Tryz.prog T zbn [.d (dU l),.d (.fn g [y])] [] (.d (.int .i64 (zfO p l))) []:=by
 refine zg zp zdF (by show 2≤19;decide) ?_
 (repeat' ((conv=>whnf);first|refine vA ?_|refine vB fun b hb=>?_|refine vC (fun hl=>?_) fun i kv vv hi=>?_|refine vE ?_|refine vG ?_|refine vH ?_|((first|refine vD ?_ ?_|refine vF ?_ ?_|refine vI ?_ ?_)<;>intro hc<;>try simp only [vL] at hc)|refine vJ fun hg=>?_|refine vK fun hg=>?_|refine vT ?_|refine vN ‹_› ?_|(refine vQ ?_ fun x hx=>?_;·first|omega|(simp only [vM] at *;omega))|((first|refine vO ?_ ?_|refine vR ?_ ‹_› ?_|refine vS ?_ fun x hx=>?_|refine vP ?_ ?_);·first|omega|(simp only [vM] at *;omega))|refine vW ⟨by omega,by omega⟩ ?_|(refine vU ?_ ?_;·kernel_rfl)|refine vX ?_|refine vY ?_|refine vZ ?_|refine za.mk _ ‹_› ?_|refine vP (show (_:BitVec 64)≠_ by decide) ?_));all_goals try conv=>whnf
 refine zaE (fun (k:Nat)=>[(0,.d (dU l)),(1,.d (.fn g [y])),(7,.d (.int .i64 ((l.map D.u64).length:Int))),(8,.d (.int .i64 ((k:Int))))]) (fun (k:Nat)=>k≤l.length ∧ ∀ (i:Nat) x,i < k→l[i]? = some x→p x=false) (fun (k:Nat)=>l.length - k) (0) (⟨by simp,fun i x h=>by omega⟩) (by (repeat' first|exact trivial|exact rfl|exact ⟨_,rfl⟩|exact .inl rfl|exact .inr (.inl ⟨rfl,rfl⟩)|exact .inr (.inr ⟨rfl,rfl⟩)|refine And.intro ?_ ?_|refine ⟨_,rfl,?_⟩|decide|exact of_decide_eq_true rfl)) ?_
 rintro k ⟨hk,hI⟩
 (repeat' ((conv=>whnf);first|refine vA ?_|refine vB fun b hb=>?_|refine vC (fun hl=>?_) fun i kv vv hi=>?_|refine vE ?_|refine vG ?_|refine vH ?_|((first|refine vD ?_ ?_|refine vF ?_ ?_|refine vI ?_ ?_)<;>intro hc<;>try simp only [vL] at hc)|refine vJ fun hg=>?_|refine vK fun hg=>?_|refine vT ?_|refine vN ‹_› ?_|(refine vQ ?_ fun x hx=>?_;·first|omega|(simp only [vM] at *;omega))|((first|refine vO ?_ ?_|refine vR ?_ ‹_› ?_|refine vS ?_ fun x hx=>?_|refine vP ?_ ?_);·first|omega|(simp only [vM] at *;omega))|refine vW ⟨by omega,by omega⟩ ?_|(refine vU ?_ ?_;·kernel_rfl)|refine vX ?_|refine vY ?_|refine vZ ?_|refine yD (hF _) (by (repeat refine ⟨⟨rfl,rfl⟩,?_⟩);rfl) rfl ?_|refine yN (hF _) (by (repeat refine ⟨⟨rfl,rfl⟩,?_⟩);rfl) ?_|refine za.mk _ ‹_› ?_|refine vP (show (_:BitVec 64)≠_ by decide) ?_));all_goals try conv=>whnf
 ·rw [znb hx ‹_› hI]
 ·exact ⟨k+1,[],[],⟨by (first|omega|(simp only [vM] at *;omega)),fun i z hi hz=>by
   by_cases e:i=k
   ·subst e;rw [hx] at hz;cases hz;assumption
   ·exact hI i z (by omega) hz⟩,by (first|omega|(simp only [vM] at *;omega)),by (refine ⟨rfl,rfl,rfl,?_,?_⟩;repeat' first|exact trivial|exact rfl|exact ⟨_,rfl⟩|exact .inl rfl|exact .inr (.inl ⟨rfl,rfl⟩)|exact .inr (.inr ⟨rfl,rfl⟩)|refine And.intro ?_ ?_|refine ⟨_,rfl,?_⟩|decide|exact of_decide_eq_true rfl)⟩
 ·rw [zl0 fun i x hi hx=>hI i x (by omega) hx]
theorem ztw (l:List (List (BitVec 64))) (g:Nat) (y:D) (p:List (BitVec 64)→Bool) (hF : ∀ x,Fn Tryz.prog T g [.d (dU x),.d y] [] (.d (.bool (p x))) []):Fn Tryz.prog T zbc [.d (dUU l),.d (.fn g [y])] [] (.d (.int .i64 (zfO p l))) []:=by
 refine zg zp zdh (by show 2≤19;decide) ?_
 (repeat' ((conv=>whnf);first|refine vA ?_|refine vB fun b hb=>?_|refine vC (fun hl=>?_) fun i kv vv hi=>?_|refine vE ?_|refine vG ?_|refine vH ?_|((first|refine vD ?_ ?_|refine vF ?_ ?_|refine vI ?_ ?_)<;>intro hc<;>try simp only [vL] at hc)|refine vJ fun hg=>?_|refine vK fun hg=>?_|refine vT ?_|refine vN ‹_› ?_|(refine vQ ?_ fun x hx=>?_;·first|omega|(simp only [vM] at *;omega))|((first|refine vO ?_ ?_|refine vR ?_ ‹_› ?_|refine vS ?_ fun x hx=>?_|refine vP ?_ ?_);·first|omega|(simp only [vM] at *;omega))|refine vW ⟨by omega,by omega⟩ ?_|(refine vU ?_ ?_;·kernel_rfl)|refine vX ?_|refine vY ?_|refine vZ ?_|refine za.mk _ ‹_› ?_|refine vP (show (_:BitVec 64)≠_ by decide) ?_));all_goals try conv=>whnf
 refine zaE (fun (k:Nat)=>[(0,.d (dUU l)),(1,.d (.fn g [y])),(7,.d (.int .i64 ((l.map dU).length:Int))),(8,.d (.int .i64 ((k:Int))))]) (fun (k:Nat)=>k≤l.length ∧ ∀ (i:Nat) x,i < k→l[i]? = some x→p x=false) (fun (k:Nat)=>l.length - k) (0) (⟨by simp,fun i x h=>by omega⟩) (by (repeat' first|exact trivial|exact rfl|exact ⟨_,rfl⟩|exact .inl rfl|exact .inr (.inl ⟨rfl,rfl⟩)|exact .inr (.inr ⟨rfl,rfl⟩)|refine And.intro ?_ ?_|refine ⟨_,rfl,?_⟩|decide|exact of_decide_eq_true rfl)) ?_
 rintro k ⟨hk,hI⟩
 (repeat' ((conv=>whnf);first|refine vA ?_|refine vB fun b hb=>?_|refine vC (fun hl=>?_) fun i kv vv hi=>?_|refine vE ?_|refine vG ?_|refine vH ?_|((first|refine vD ?_ ?_|refine vF ?_ ?_|refine vI ?_ ?_)<;>intro hc<;>try simp only [vL] at hc)|refine vJ fun hg=>?_|refine vK fun hg=>?_|refine vT ?_|refine vN ‹_› ?_|(refine vQ ?_ fun x hx=>?_;·first|omega|(simp only [vM] at *;omega))|((first|refine vO ?_ ?_|refine vR ?_ ‹_› ?_|refine vS ?_ fun x hx=>?_|refine vP ?_ ?_);·first|omega|(simp only [vM] at *;omega))|refine vW ⟨by omega,by omega⟩ ?_|(refine vU ?_ ?_;·kernel_rfl)|refine vX ?_|refine vY ?_|refine vZ ?_|refine yD (hF _) (by (repeat refine ⟨⟨rfl,rfl⟩,?_⟩);rfl) rfl ?_|refine yN (hF _) (by (repeat refine ⟨⟨rfl,rfl⟩,?_⟩);rfl) ?_|refine za.mk _ ‹_› ?_|refine vP (show (_:BitVec 64)≠_ by decide) ?_));all_goals try conv=>whnf
 ·rw [znb hx ‹_› hI]
 ·exact ⟨k+1,[],[],⟨by (first|omega|(simp only [vM] at *;omega)),fun i z hi hz=>by
   by_cases e:i=k
   ·subst e;rw [hx] at hz;cases hz;assumption
   ·exact hI i z (by omega) hz⟩,by (first|omega|(simp only [vM] at *;omega)),by (refine ⟨rfl,rfl,rfl,?_,?_⟩;repeat' first|exact trivial|exact rfl|exact ⟨_,rfl⟩|exact .inl rfl|exact .inr (.inl ⟨rfl,rfl⟩)|exact .inr (.inr ⟨rfl,rfl⟩)|refine And.intro ?_ ?_|refine ⟨_,rfl,?_⟩|decide|exact of_decide_eq_true rfl)⟩
 ·rw [zl0 fun i x hi hx=>hI i x (by omega) hx]
theorem zna {α:Type} {p:α→Bool} {l:List α} : decide (0≤zfO p l)=l.any p:=by
 rw [Bool.eq_iff_iff,decide_eq_true_eq,zoB,List.any_eq_true]
theorem zpT (n:Int) (h:0≤n) (s:BitVec 64):Fn Tryz.prog T zcm [.d (.u64 s),.d (.box [.int .i64 n])] [] (.d (.bool (bad n s))) []:=by
 refine zg zp zkC (by show 2≤9;decide) ?_
 (repeat' ((conv=>whnf);first|refine vA ?_|refine vB fun b hb=>?_|refine vC (fun hl=>?_) fun i kv vv hi=>?_|refine vE ?_|refine vG ?_|refine vH ?_|((first|refine vD ?_ ?_|refine vF ?_ ?_|refine vI ?_ ?_)<;>intro hc<;>try simp only [vL] at hc)|refine vJ fun hg=>?_|refine vK fun hg=>?_|refine vT ?_|refine vN ‹_› ?_|(refine vQ ?_ fun x hx=>?_;·first|omega|(simp only [vM] at *;omega))|((first|refine vO ?_ ?_|refine vR ?_ ‹_› ?_|refine vS ?_ fun x hx=>?_|refine vP ?_ ?_);·first|omega|(simp only [vM] at *;omega))|refine vW ⟨by omega,by omega⟩ ?_|(refine vU ?_ ?_;·kernel_rfl)|refine vX ?_|refine vY ?_|refine vZ ?_|refine yD (zuY n h) ⟨⟨rfl,rfl⟩,rfl⟩ rfl ?_|refine za.mk _ ‹_› ?_|refine vP (show (_:BitVec 64)≠_ by decide) ?_));all_goals try conv=>whnf
 rfl
theorem zkL (l:List (BitVec 64)) (n:Int) (h:0≤n):Fn Tryz.prog T zgS [.d (dU l),.d (.int .i64 n)] [] (.d (.bool (l.any (bad n)))) []:=by
 have c1:Fn Tryz.prog T za7 [.d (dU l),.d (.fn zcm [.box [.int .i64 n]])] [] (.d (.bool (l.any (bad n)))) []:=by
  refine zg zp zc5 (by show 2≤9;decide) ?_
  (repeat' ((conv=>whnf);first|refine vA ?_|refine vB fun b hb=>?_|refine vC (fun hl=>?_) fun i kv vv hi=>?_|refine vE ?_|refine vG ?_|refine vH ?_|((first|refine vD ?_ ?_|refine vF ?_ ?_|refine vI ?_ ?_)<;>intro hc<;>try simp only [vL] at hc)|refine vJ fun hg=>?_|refine vK fun hg=>?_|refine vT ?_|refine vN ‹_› ?_|(refine vQ ?_ fun x hx=>?_;·first|omega|(simp only [vM] at *;omega))|((first|refine vO ?_ ?_|refine vR ?_ ‹_› ?_|refine vS ?_ fun x hx=>?_|refine vP ?_ ?_);·first|omega|(simp only [vM] at *;omega))|refine vW ⟨by omega,by omega⟩ ?_|(refine vU ?_ ?_;·kernel_rfl)|refine vX ?_|refine vY ?_|refine vZ ?_|refine yD (zuQ l _ _ (bad n) (zpT n h)) ⟨⟨rfl,rfl⟩,⟨rfl,rfl⟩,rfl⟩ rfl ?_|refine za.mk _ ‹_› ?_|refine vP (show (_:BitVec 64)≠_ by decide) ?_));all_goals try conv=>whnf
  exact zna
 refine zg zp zmi (by show 2≤8;decide) ?_
 (repeat' ((conv=>whnf);first|refine vA ?_|refine vB fun b hb=>?_|refine vC (fun hl=>?_) fun i kv vv hi=>?_|refine vE ?_|refine vG ?_|refine vH ?_|((first|refine vD ?_ ?_|refine vF ?_ ?_|refine vI ?_ ?_)<;>intro hc<;>try simp only [vL] at hc)|refine vJ fun hg=>?_|refine vK fun hg=>?_|refine vT ?_|refine vN ‹_› ?_|(refine vQ ?_ fun x hx=>?_;·first|omega|(simp only [vM] at *;omega))|((first|refine vO ?_ ?_|refine vR ?_ ‹_› ?_|refine vS ?_ fun x hx=>?_|refine vP ?_ ?_);·first|omega|(simp only [vM] at *;omega))|refine vW ⟨by omega,by omega⟩ ?_|(refine vU ?_ ?_;·kernel_rfl)|refine vX ?_|refine vY ?_|refine vZ ?_|refine yD c1 (by (repeat refine ⟨⟨rfl,rfl⟩,?_⟩);rfl) rfl ?_|refine yN c1 (by (repeat refine ⟨⟨rfl,rfl⟩,?_⟩);rfl) ?_|refine za.mk _ ‹_› ?_|refine vP (show (_:BitVec 64)≠_ by decide) ?_));all_goals try conv=>whnf
abbrev bKM (m:KM):D := .box [.int .i64 m.W,dU m.val,dUU m.rel]
theorem zea (m:KM):Fn Tryz.prog T zdQ [.d (dKM m)] [] (.d (.int .i64 (zj m))) []:=by
 have c1:0≤m.W → ∀ x:List (BitVec 64),Fn Tryz.prog T zcZ [.d (dU x),.d (bKM m)] [] (.d (.bool (x.any (bad m.W)))) []:=fun h x=>by
  refine zg zp zmh (by show 2≤8;decide) ?_
  (repeat' ((conv=>whnf);first|refine vA ?_|refine vB fun b hb=>?_|refine vC (fun hl=>?_) fun i kv vv hi=>?_|refine vE ?_|refine vG ?_|refine vH ?_|((first|refine vD ?_ ?_|refine vF ?_ ?_|refine vI ?_ ?_)<;>intro hc<;>try simp only [vL] at hc)|refine vJ fun hg=>?_|refine vK fun hg=>?_|refine vT ?_|refine vN ‹_› ?_|(refine vQ ?_ fun x hx=>?_;·first|omega|(simp only [vM] at *;omega))|((first|refine vO ?_ ?_|refine vR ?_ ‹_› ?_|refine vS ?_ fun x hx=>?_|refine vP ?_ ?_);·first|omega|(simp only [vM] at *;omega))|refine vW ⟨by omega,by omega⟩ ?_|(refine vU ?_ ?_;·kernel_rfl)|refine vX ?_|refine vY ?_|refine vZ ?_|refine yD (zkL x m.W h) ⟨⟨rfl,rfl⟩,⟨rfl,rfl⟩,rfl⟩ rfl ?_|refine za.mk _ ‹_› ?_|refine vP (show (_:BitVec 64)≠_ by decide) ?_));all_goals try conv=>whnf
 have c2:0≤m.W→Fn Tryz.prog T zaX [.d (dUU m.rel),.d (.fn zcZ [bKM m])] [] (.d (.bool (m.rel.any fun x=>x.any (bad m.W)))) []:=fun h=>by
  refine zg zp zcN (by show 2≤9;decide) ?_
  (repeat' ((conv=>whnf);first|refine vA ?_|refine vB fun b hb=>?_|refine vC (fun hl=>?_) fun i kv vv hi=>?_|refine vE ?_|refine vG ?_|refine vH ?_|((first|refine vD ?_ ?_|refine vF ?_ ?_|refine vI ?_ ?_)<;>intro hc<;>try simp only [vL] at hc)|refine vJ fun hg=>?_|refine vK fun hg=>?_|refine vT ?_|refine vN ‹_› ?_|(refine vQ ?_ fun x hx=>?_;·first|omega|(simp only [vM] at *;omega))|((first|refine vO ?_ ?_|refine vR ?_ ‹_› ?_|refine vS ?_ fun x hx=>?_|refine vP ?_ ?_);·first|omega|(simp only [vM] at *;omega))|refine vW ⟨by omega,by omega⟩ ?_|(refine vU ?_ ?_;·kernel_rfl)|refine vX ?_|refine vY ?_|refine vZ ?_|refine yD (ztw m.rel _ _ (fun x=>x.any (bad m.W)) (c1 h)) ⟨⟨rfl,rfl⟩,⟨rfl,rfl⟩,rfl⟩ rfl ?_|refine za.mk _ ‹_› ?_|refine vP (show (_:BitVec 64)≠_ by decide) ?_));all_goals try conv=>whnf
  exact zna
 refine zg zp znP (by show 1≤47;decide) ?_
 (repeat' ((conv=>whnf);first|refine vA ?_|refine vB fun b hb=>?_|refine vC (fun hl=>?_) fun i kv vv hi=>?_|refine vE ?_|refine vG ?_|refine vH ?_|((first|refine vD ?_ ?_|refine vF ?_ ?_|refine vI ?_ ?_)<;>intro hc<;>try simp only [vL] at hc)|refine vJ fun hg=>?_|refine vK fun hg=>?_|refine vT ?_|refine vN ‹_› ?_|(refine vQ ?_ fun x hx=>?_;·first|omega|(simp only [vM] at *;omega))|((first|refine vO ?_ ?_|refine vR ?_ ‹_› ?_|refine vS ?_ fun x hx=>?_|refine vP ?_ ?_);·first|omega|(simp only [vM] at *;omega))|refine vW ⟨by omega,by omega⟩ ?_|(refine vU ?_ ?_;·kernel_rfl)|refine vX ?_|refine vY ?_|refine vZ ?_|refine za.mk _ ‹_› ?_|refine vP (show (_:BitVec 64)≠_ by decide) ?_));all_goals try conv=>whnf
 ·rw [zj,if_pos (by omega)]
 ·rw [zj,if_pos (by omega)]
 ·rw [zj,if_neg (by omega),if_pos (by omega)]
 ·rw [zj,if_neg (by omega),if_pos (by omega)]
 ·have e0:zj m=if m.rel.any (fun r=>decide ((r.length:Int)≠m.W)) then 3 else if m.val.any (bad m.W) then 2 else if m.rel.any (fun r=>r.any (bad m.W)) then 2 else 0:=by rw [zj,if_neg (by omega),if_neg (by omega)]
  refine zk (fun (k:Nat)=>[(1,.ptr 0 0),(24,.d (dUU m.rel)),(25,.d (.int .i64 ((m.rel.map dU).length:Int))),(26,.d (.int .i64 ((k:Int))))]) (fun (k:Nat)=>[(0,some (zR m))]) 1 (fun (k:Nat)=>k≤m.rel.length∧m.rel.any (fun r=>decide ((r.length:Int)≠m.W))=(m.rel.drop k).any (fun r=>decide ((r.length:Int)≠m.W))) (fun (k:Nat)=>m.rel.length - k) (0) [(0,0)] [] (⟨by simp,rfl⟩) (by (refine ⟨rfl,rfl,rfl,?_,?_⟩;repeat' first|exact trivial|exact rfl|exact ⟨_,rfl⟩|exact .inl rfl|exact .inr (.inl ⟨rfl,rfl⟩)|exact .inr (.inr ⟨rfl,rfl⟩)|refine And.intro ?_ ?_|refine ⟨_,rfl,?_⟩|decide|exact of_decide_eq_true rfl)) ?_
  rintro k ⟨hk,hI⟩
  (repeat' ((conv=>whnf);first|refine vA ?_|refine vB fun b hb=>?_|refine vC (fun hl=>?_) fun i kv vv hi=>?_|refine vE ?_|refine vG ?_|refine vH ?_|((first|refine vD ?_ ?_|refine vF ?_ ?_|refine vI ?_ ?_)<;>intro hc<;>try simp only [vL] at hc)|refine vJ fun hg=>?_|refine vK fun hg=>?_|refine vT ?_|refine vN ‹_› ?_|(refine vQ ?_ fun x hx=>?_;·first|omega|(simp only [vM] at *;omega))|((first|refine vO ?_ ?_|refine vR ?_ ‹_› ?_|refine vS ?_ fun x hx=>?_|refine vP ?_ ?_);·first|omega|(simp only [vM] at *;omega))|refine vW ⟨by omega,by omega⟩ ?_|(refine vU ?_ ?_;·kernel_rfl)|refine vX ?_|refine vY ?_|refine vZ ?_|refine za.mk _ ‹_› ?_|refine vP (show (_:BitVec 64)≠_ by decide) ?_));all_goals try conv=>whnf
  ·rw [e0,if_pos (by rw [hI,zz hx,List.any_cons,decide_eq_true (by simpa using ‹_›)];rfl)]
  ·exact ⟨k+1,[(0,0)],[],⟨by (first|omega|(simp only [vM] at *;omega)),by rw [hI,zz hx,List.any_cons,decide_eq_false (by simpa using ‹_›)];rfl⟩,by (first|omega|(simp only [vM] at *;omega)),by (refine ⟨rfl,rfl,rfl,?_,?_⟩;repeat' first|exact trivial|exact rfl|exact ⟨_,rfl⟩|exact .inl rfl|exact .inr (.inl ⟨rfl,rfl⟩)|exact .inr (.inr ⟨rfl,rfl⟩)|refine And.intro ?_ ?_|refine ⟨_,rfl,?_⟩|decide|exact of_decide_eq_true rfl)⟩
  ·have h1:m.rel.any (fun r=>decide ((r.length:Int)≠m.W))=false:=by rw [hI,List.drop_eq_nil_of_le (by omega)];rfl
   rw [h1,if_neg (by decide)] at e0
   have co:=zkL (T:=T) m.val m.W (by omega)
   have c2:=c2 (by omega)
   (repeat' ((conv=>whnf);first|refine vA ?_|refine vB fun b hb=>?_|refine vC (fun hl=>?_) fun i kv vv hi=>?_|refine vE ?_|refine vG ?_|refine vH ?_|((first|refine vD ?_ ?_|refine vF ?_ ?_|refine vI ?_ ?_)<;>intro hc<;>try simp only [vL] at hc)|refine vJ fun hg=>?_|refine vK fun hg=>?_|refine vT ?_|refine vN ‹_› ?_|(refine vQ ?_ fun x hx=>?_;·first|omega|(simp only [vM] at *;omega))|((first|refine vO ?_ ?_|refine vR ?_ ‹_› ?_|refine vS ?_ fun x hx=>?_|refine vP ?_ ?_);·first|omega|(simp only [vM] at *;omega))|refine vW ⟨by omega,by omega⟩ ?_|(refine vU ?_ ?_;·kernel_rfl)|refine vX ?_|refine vY ?_|refine vZ ?_|refine yD co ⟨⟨rfl,rfl⟩,⟨rfl,rfl⟩,rfl⟩ rfl ?_|refine yD c2 (by (repeat refine ⟨⟨rfl,rfl⟩,?_⟩);rfl) rfl ?_|refine yN c2 (by (repeat refine ⟨⟨rfl,rfl⟩,?_⟩);rfl) ?_|refine za.mk _ ‹_› ?_|refine vP (show (_:BitVec 64)≠_ by decide) ?_));all_goals try conv=>whnf
   ·rw [e0,if_pos ‹_›]
   ·rw [e0,if_neg (by simp [‹m.val.any (bad m.W)=false›]),if_pos ‹_›]
   ·rw [e0,if_neg (by simp [‹m.val.any (bad m.W)=false›]),if_neg (by simp [‹(m.rel.any fun x=>x.any (bad m.W))=false›])]
def zeV (m:KM) (w:Int):Int:=if zj m≠0∨w < 0∨m.W≤w then -1 else zS m w.toNat
theorem zfZ {m:KM} (hc:zj m=0) {w:Nat} (hw:w < m.W.toNat):zeV m (w:Int)=zS m w:=by
 unfold zeV;rw [if_neg (by omega)];rfl
theorem zgX (m:KM) (w:Int):Fn Tryz.prog T zdR [.d (dKM m),.d (.int .i64 w)] [] (.d (.int .i64 (zeV m w))) []:=by
 refine zg zp znQ (by show 2≤40;decide) ?_
 (repeat' ((conv=>whnf);first|refine vA ?_|refine vB fun b hb=>?_|refine vC (fun hl=>?_) fun i kv vv hi=>?_|refine vE ?_|refine vG ?_|refine vH ?_|((first|refine vD ?_ ?_|refine vF ?_ ?_|refine vI ?_ ?_)<;>intro hc<;>try simp only [vL] at hc)|refine vJ fun hg=>?_|refine vK fun hg=>?_|refine vT ?_|refine vN ‹_› ?_|(refine vQ ?_ fun x hx=>?_;·first|omega|(simp only [vM] at *;omega))|((first|refine vO ?_ ?_|refine vR ?_ ‹_› ?_|refine vS ?_ fun x hx=>?_|refine vP ?_ ?_);·first|omega|(simp only [vM] at *;omega))|refine vW ⟨by omega,by omega⟩ ?_|(refine vU ?_ ?_;·kernel_rfl)|refine vX ?_|refine vY ?_|refine vZ ?_|refine yD (zea m) ⟨⟨rfl,rfl⟩,rfl⟩ rfl ?_|refine za.mk _ ‹_› ?_|refine vP (show (_:BitVec 64)≠_ by decide) ?_));all_goals try conv=>whnf
 ·rw [zeV,if_pos (by omega)]
 ·rw [zeV,if_pos (by omega)]
 ·rw [zeV,if_pos (by omega)]
 ·have hc0:zj m=0:=by omega
  have hg0:=zw hc0
  have w2:=hg0.w2
  have v8:=hg0.v8
  refine zk (fun ((k,f):Nat×Int)=>[(1,.d (.int .i64 (w))),(5,.d (.int .i64 (f))),(22,.d (dU m.val)),(23,.d (.int .i64 ((m.val.map D.u64).length:Int))),(24,.d (.int .i64 ((k:Int))))]) (fun ((k,f):Nat×Int)=>[(0,some (zR m))]) 1 (fun ((k,f):Nat×Int)=>k≤m.val.length∧f=(zaA m.val w.toNat k:Int)) (fun ((k,f):Nat×Int)=>m.val.length - k) ((0,0)) [(0,0)] [] (⟨by simp,rfl⟩) (by (refine ⟨rfl,rfl,rfl,?_,?_⟩;repeat' first|exact trivial|exact rfl|exact ⟨_,rfl⟩|exact .inl rfl|exact .inr (.inl ⟨rfl,rfl⟩)|exact .inr (.inr ⟨rfl,rfl⟩)|refine And.intro ?_ ?_|refine ⟨_,rfl,?_⟩|decide|exact of_decide_eq_true rfl)) ?_
  rintro ⟨k,f⟩ ⟨hk,hI⟩
  subst hI
  by_cases hkl:k < m.val.length
  ·obtain ⟨s,hs⟩ : ∃ s,m.val[k]? = some s:=⟨_,List.getElem?_eq_getElem hkl⟩
   have hw:w=((w.toNat:Nat):Int):=by omega
   have bs:(s >>> w.toNat&&&(1:BitVec 64)).toNat≤1:=zrI s _
   have hor:=ztr (w:=w.toNat) hs (by omega)
   have hsh:0≤(((s >>> w.toNat&&&(1:BitVec 64)).toNat:Int)) * 2 ^ (min (k:Int).toNat IntKind.i64.bits)∧(((s >>> w.toNat&&&(1:BitVec 64)).toNat:Int)) * 2 ^ (min (k:Int).toNat IntKind.i64.bits)≤9223372036854775807:=zsw bs (by omega)
   (repeat' ((conv=>whnf);first|refine vA ?_|refine vB fun b hb=>?_|refine vC (fun hl=>?_) fun i kv vv hi=>?_|refine vE ?_|refine vG ?_|refine vH ?_|((first|refine vD ?_ ?_|refine vF ?_ ?_|refine vI ?_ ?_)<;>intro hc<;>try simp only [vL] at hc)|refine vJ fun hg=>?_|refine vK fun hg=>?_|refine vT ?_|refine vN ‹_› ?_|(refine vQ ?_ fun x hx=>?_;·first|omega|(simp only [vM] at *;omega))|((first|refine vO ?_ ?_|refine vR ?_ ‹_› ?_|refine vS ?_ fun x hx=>?_|refine vP ?_ ?_);·first|omega|(simp only [vM] at *;omega))|refine vW ⟨by omega,by omega⟩ ?_|(refine vU ?_ ?_;·kernel_rfl)|refine vX ?_|refine vY ?_|refine vZ ?_|refine za.mk _ ‹_› ?_|refine vP (show (_:BitVec 64)≠_ by decide) ?_));all_goals try conv=>whnf
   ·refine ⟨(k+1,_),[(0,0)],[],?_,?_,by (refine ⟨rfl,rfl,rfl,?_,?_⟩;repeat' first|exact trivial|exact rfl|exact ⟨_,rfl⟩|exact .inl rfl|exact .inr (.inl ⟨rfl,rfl⟩)|exact .inr (.inr ⟨rfl,rfl⟩)|refine And.intro ?_ ?_|refine ⟨_,rfl,?_⟩|decide|exact of_decide_eq_true rfl)⟩
    ·exact ⟨by (first|omega|(simp only [vM] at *;omega)),hor⟩
    ·(first|omega|(simp only [vM] at *;omega))
   all_goals omega
  ·(repeat' ((conv=>whnf);first|refine vA ?_|refine vB fun b hb=>?_|refine vC (fun hl=>?_) fun i kv vv hi=>?_|refine vE ?_|refine vG ?_|refine vH ?_|((first|refine vD ?_ ?_|refine vF ?_ ?_|refine vI ?_ ?_)<;>intro hc<;>try simp only [vL] at hc)|refine vJ fun hg=>?_|refine vK fun hg=>?_|refine vT ?_|refine vN ‹_› ?_|(refine vQ ?_ fun x hx=>?_;·first|omega|(simp only [vM] at *;omega))|((first|refine vO ?_ ?_|refine vR ?_ ‹_› ?_|refine vS ?_ fun x hx=>?_|refine vP ?_ ?_);·first|omega|(simp only [vM] at *;omega))|refine vW ⟨by omega,by omega⟩ ?_|(refine vU ?_ ?_;·kernel_rfl)|refine vX ?_|refine vY ?_|refine vZ ?_|refine za.mk _ ‹_› ?_|refine vP (show (_:BitVec 64)≠_ by decide) ?_));all_goals try conv=>whnf
   ·omega
   ·unfold zeV
    rw [if_neg (by omega),show k=m.val.length by omega];rfl
abbrev dN (l:List Nat):D:=dI (l.map fun (x:Nat)=>(x:Int))
theorem ze1 {l:List Nat} {k:Nat} (h:k < l.length):(l.map fun (x:Nat)=>(x:Int))[k]? = some ((l.getD k 0:Nat):Int):=by simp [h]
abbrev zdW (l:List Nat):Nat:=((l.map fun (x:Nat)=>(x:Int)).map (D.int .i64)).length
theorem zf0 (l:List Nat):zdW l=l.length:=by simp [zdW]
theorem ztB {m:KM} (hc:zj m=0) {l:List Nat} (h : ∀ w∈l,w < m.W.toNat) : ∀ r∈m.rel,∀ w∈l,w < r.length:=fun r hr w hw=>by
 have hg:=zw hc
 have:=hg.len r hr
 have:=h w hw
 have:=hg.w1
 omega
theorem zqN (s:BitVec 64):(zB s).length≤64:=by
 unfold zB;have:=List.length_filter_le (fun i=>s.getLsbD i) (List.range 64);simpa using this
theorem zq8 {to:List Int} {k:Nat} (hk:k < to.length) (hn:at0 to k ∉ to.take k):to.idxOf (at0 to k)=k:=by
 have e:to=to.take k++at0 to k::to.drop (k+1):=by
  rw [← zz (zds hk),List.take_append_drop]
 have hl:(to.take k).length=k:=by simp;omega
 generalize at0 to k=x at e hn
 generalize to.take k=a at e hn hl
 rw [e,List.idxOf_append,if_neg hn,List.idxOf_cons_self,hl];simp
structure zoa (to:List Int) (k:Nat) (s:BitVec 64) (zs:List D):Prop where
 le:k≤to.length
 rng : ∀ x∈to.take k,0≤x∧x < to.length
 nd:(to.take k).Nodup
 bit : ∀ x:Nat,x < 64→(s.getLsbD x=true↔(x:Int)∈to.take k)
 row:zs=(List.range to.length).map fun (x:Nat)=>D.int .i64 (if (x:Int)∈to.take k then (to.idxOf (x:Int):Int) else 0)
theorem zoa.next {to:List Int} (h64:to.length≤64) {k:Nat} {s:BitVec 64} {zs:List D} (h:zoa to k s zs) (hk:k < to.length) {x:Nat} (hx:to[k]? = some (x:Int)) (hx1:x < to.length) (hx2:s.getLsbD x=false) :
  zoa to (k+1) (s|||1#64 <<< x) (zs.set x (.int .i64 (k:Int))):=by
 have e0:at0 to k=(x:Int):=zog hx
 have hn:(x:Int) ∉ to.take k:=fun hm=>by rw [(h.bit x (by omega)).2 hm] at hx2;cases hx2
 have hi:to.idxOf (x:Int)=k:=by rw [← e0];exact zq8 hk (by rw [e0];exact hn)
 have ht:to.take (k+1)=to.take k++[(x:Int)]:=by rw [List.take_add_one,hx];rfl
 refine ⟨by omega,fun y hy=>?_,?_,fun y hy=>?_,?_⟩
 ·rw [ht] at hy
  rcases List.mem_append.1 hy with hy|hy
  ·exact h.rng y hy
  ·simp only [List.mem_singleton] at hy;omega
 ·rw [ht]
  refine List.nodup_append.2 ⟨h.nd,by simp,fun a ha b hb e=>?_⟩
  simp only [List.mem_singleton] at hb
  subst hb;subst e;exact hn ha
 ·rw [ht,ziD (by omega),h.bit y hy,List.mem_append,List.mem_singleton]
  exact ⟨fun h=>h.elim .inl fun e => .inr (by omega),fun h=>h.elim .inl fun e => .inr (by omega)⟩
 ·rw [h.row]
  refine (zed _).trans (zai fun u hu=>?_)
  rw [ht]
  by_cases e:u=x
  ·subst e;rw [if_pos rfl,if_pos (by simp),hi]
  ·rw [if_neg e]
   have:((u:Int)∈to.take k++[(x:Int)])↔(u:Int)∈to.take k:=by
    rw [List.mem_append,List.mem_singleton]
    exact ⟨fun h=>h.elim id fun e'=>absurd (by omega) e,.inl⟩
   by_cases h2:(u:Int)∈to.take k
   ·rw [if_pos h2,if_pos (this.2 h2)]
   ·rw [if_neg h2,if_neg (fun h=>h2 (this.1 h))]
theorem zoa.done {to:List Int} {s:BitVec 64} {zs:List D} (h:zoa to to.length s zs):z1 to to.length=true∧zs=(zbB to to.length).map fun (x:Nat)=>D.int .i64 (x:Int):=by
 have h1:=h.rng;have h2:=h.nd;have h3:=h.row
 rw [List.take_length] at h1 h2 h3
 have hp:z1 to to.length=true:=zbl.2 ⟨rfl,h1,h2⟩
 refine ⟨hp,?_⟩
 rw [h3]
 unfold zbB
 rw [List.map_map]
 exact zai fun u hu=>by rw [if_pos (zo9 hp hu)];rfl
end Go.Ab
namespace Go.Ab
open Go Go.Proofs
set_option maxRecDepth 10000
set_option maxHeartbeats 4000000
variable {T:Nat→Obj→Prop}
def zoz (m:KM) (n:Int):Bool:=decide (¬(n < m.W∧m.W≤64)∧m.val.length≤20∧m.rel.length≤10 ∧ ∀ r∈m.rel,r.length≤70)
theorem zwo (m:KM) (n:Int):Fn Tryz.prog T zfo [.d (dKM m),.d (.int .i64 n)] [] (.d (.bool (zoz m n))) []:=by
 have no:(n < m.W∧m.W≤64∨20 < m.val.length∨10 < m.rel.length)→false=zoz m n:=fun h=>by
  rw [zoz,decide_eq_false];rintro ⟨a,b,c,-⟩;omega
 refine zg zp zjS (by show 2≤41;decide) ?_
 (repeat' ((conv=>whnf);first|refine vA ?_|refine vB fun b hb=>?_|refine vC (fun hl=>?_) fun i kv vv hi=>?_|refine vE ?_|refine vG ?_|refine vH ?_|((first|refine vD ?_ ?_|refine vF ?_ ?_|refine vI ?_ ?_)<;>intro hc<;>try simp only [vL] at hc)|refine vJ fun hg=>?_|refine vK fun hg=>?_|refine vT ?_|refine vN ‹_› ?_|(refine vQ ?_ fun x hx=>?_;·first|omega|(simp only [vM] at *;omega))|((first|refine vO ?_ ?_|refine vR ?_ ‹_› ?_|refine vS ?_ fun x hx=>?_|refine vP ?_ ?_);·first|omega|(simp only [vM] at *;omega))|refine vW ⟨by omega,by omega⟩ ?_|(refine vU ?_ ?_;·kernel_rfl)|refine vX ?_|refine vY ?_|refine vZ ?_|refine za.mk _ ‹_› ?_|refine vP (show (_:BitVec 64)≠_ by decide) ?_));all_goals try conv=>whnf
 iterate 3 exact no (by omega)
 rotate_left
 iterate 2 exact no (by omega)
 all_goals
  have h1 : ¬(n < m.W∧m.W≤64):=by omega
  refine zk (fun (k:Nat)=>[(2,.ptr 0 0),(5,.d (.int .i64 ((k:Int))))]) (fun (k:Nat)=>[(0,some (zR m))]) 1 (fun (k:Nat)=>k≤m.rel.length ∧ ∀ (i:Nat) r,i < k→m.rel[i]? = some r→r.length≤70) (fun (k:Nat)=>m.rel.length - k) (0) [(0,0)] [] (⟨by simp,fun i r hi=>by omega⟩) (by (refine ⟨rfl,rfl,rfl,?_,?_⟩;repeat' first|exact trivial|exact rfl|exact ⟨_,rfl⟩|exact .inl rfl|exact .inr (.inl ⟨rfl,rfl⟩)|exact .inr (.inr ⟨rfl,rfl⟩)|refine And.intro ?_ ?_|refine ⟨_,rfl,?_⟩|decide|exact of_decide_eq_true rfl)) ?_
  rintro k ⟨hk,hI⟩
  (repeat' ((conv=>whnf);first|refine vA ?_|refine vB fun b hb=>?_|refine vC (fun hl=>?_) fun i kv vv hi=>?_|refine vE ?_|refine vG ?_|refine vH ?_|((first|refine vD ?_ ?_|refine vF ?_ ?_|refine vI ?_ ?_)<;>intro hc<;>try simp only [vL] at hc)|refine vJ fun hg=>?_|refine vK fun hg=>?_|refine vT ?_|refine vN ‹_› ?_|(refine vQ ?_ fun x hx=>?_;·first|omega|(simp only [vM] at *;omega))|((first|refine vO ?_ ?_|refine vR ?_ ‹_› ?_|refine vS ?_ fun x hx=>?_|refine vP ?_ ?_);·first|omega|(simp only [vM] at *;omega))|refine vW ⟨by omega,by omega⟩ ?_|(refine vU ?_ ?_;·kernel_rfl)|refine vX ?_|refine vY ?_|refine vZ ?_|refine za.mk _ ‹_› ?_|refine vP (show (_:BitVec 64)≠_ by decide) ?_));all_goals try conv=>whnf
  ·rw [zoz,decide_eq_false]
   rintro ⟨-,-,-,h⟩
   have:=h _ (List.mem_of_getElem? hx);omega
  ·exact ⟨k+1,[(0,0)],[],⟨by (first|omega|(simp only [vM] at *;omega)),fun i r hi hr=>by
    by_cases e:i=k
    ·subst e;rw [hx] at hr;cases hr;omega
    ·exact hI i r (by omega) hr⟩,by (first|omega|(simp only [vM] at *;omega)),by (refine ⟨rfl,rfl,rfl,?_,?_⟩;repeat' first|exact trivial|exact rfl|exact ⟨_,rfl⟩|exact .inl rfl|exact .inr (.inl ⟨rfl,rfl⟩)|exact .inr (.inr ⟨rfl,rfl⟩)|refine And.intro ?_ ?_|refine ⟨_,rfl,?_⟩|decide|exact of_decide_eq_true rfl)⟩
  ·rw [zoz,decide_eq_true]
   refine ⟨h1,by omega,by omega,fun r hr=>?_⟩
   obtain ⟨i,hi⟩:=List.getElem?_of_mem hr
   have:=(List.getElem?_eq_some_iff.1 hi).1
   exact hI i r (by omega) hi
theorem ziq (m:KM) (w:Int):Fn Tryz.prog T zer [.d (dKM m),.d (.int .i64 w)] [] (.d (.int .i64 (zeV m w))) []:=by
 refine zg zp ziy (by show 2≤39;decide) ?_
 (repeat' ((conv=>whnf);first|refine vA ?_|refine vB fun b hb=>?_|refine vC (fun hl=>?_) fun i kv vv hi=>?_|refine vE ?_|refine vG ?_|refine vH ?_|((first|refine vD ?_ ?_|refine vF ?_ ?_|refine vI ?_ ?_)<;>intro hc<;>try simp only [vL] at hc)|refine vJ fun hg=>?_|refine vK fun hg=>?_|refine vT ?_|refine vN ‹_› ?_|(refine vQ ?_ fun x hx=>?_;·first|omega|(simp only [vM] at *;omega))|((first|refine vO ?_ ?_|refine vR ?_ ‹_› ?_|refine vS ?_ fun x hx=>?_|refine vP ?_ ?_);·first|omega|(simp only [vM] at *;omega))|refine vW ⟨by omega,by omega⟩ ?_|(refine vU ?_ ?_;·kernel_rfl)|refine vX ?_|refine vY ?_|refine vZ ?_|refine yD (zd9 m) ⟨⟨rfl,rfl⟩,rfl⟩ rfl ?_|refine za.mk _ ‹_› ?_|refine vP (show (_:BitVec 64)≠_ by decide) ?_));all_goals try conv=>whnf
 ·rw [zeV,if_pos (by omega)]
 ·rw [zeV,if_pos (by omega)]
 ·rw [zeV,if_pos (by omega)]
 ·have hc0:zj m=0:=by omega
  have hg0:=zw hc0
  have w2:=hg0.w2
  have v8:=hg0.v8
  obtain ⟨w,rfl⟩ : ∃ x:Nat,w=(x:Int):=⟨w.toNat,by omega⟩
  refine zk (fun ((i,x):Nat×Int)=>[(1,.d (.int .i64 ((w:Int)))),(2,.ptr 0 0),(5,.d (.int .i64 (x))),(6,.d (.int .i64 ((i:Int))))]) (fun ((i,x):Nat×Int)=>[(0,some (zR m))]) 1 (fun ((i,x):Nat×Int)=>i≤m.val.length∧x=(zaA m.val w i:Int)) (fun ((i,x):Nat×Int)=>m.val.length - i) ((0,0)) [(0,0)] [] (⟨by simp,rfl⟩) (by (refine ⟨rfl,rfl,rfl,?_,?_⟩;repeat' first|exact trivial|exact rfl|exact ⟨_,rfl⟩|exact .inl rfl|exact .inr (.inl ⟨rfl,rfl⟩)|exact .inr (.inr ⟨rfl,rfl⟩)|refine And.intro ?_ ?_|refine ⟨_,rfl,?_⟩|decide|exact of_decide_eq_true rfl)) ?_
  rintro ⟨i,x⟩ ⟨hi,hX⟩
  by_cases hil:i < m.val.length
  ·obtain ⟨s,hs⟩ : ∃ s,m.val[i]? = some s:=⟨_,List.getElem?_eq_getElem hil⟩
   obtain ⟨p1,p2⟩:=zsj (i:=(i:Int)) (by omega) (by omega)
   have p2:((2 ^ i:Nat):Int)=(1:Int) * 2 ^ (min (i:Int).toNat IntKind.i64.bits):=p2
   have f1:=zil m.val w i
   have f2:2 ^ i≤2 ^ 7:=Nat.pow_le_pow_right (by decide) (by omega)
   have f3:zaA m.val w (i+1)=zaA m.val w i+if s.getLsbD w=true then 2 ^ i else 0:=by rw [zaA,show m.val.getD i 0#64=s by rw [List.getD,hs];rfl]
   (repeat' ((conv=>whnf);first|refine vA ?_|refine vB fun b hb=>?_|refine vC (fun hl=>?_) fun i kv vv hi=>?_|refine vE ?_|refine vG ?_|refine vH ?_|((first|refine vD ?_ ?_|refine vF ?_ ?_|refine vI ?_ ?_)<;>intro hc<;>try simp only [vL] at hc)|refine vJ fun hg=>?_|refine vK fun hg=>?_|refine vT ?_|refine vN ‹_› ?_|(refine vQ ?_ fun x hx=>?_;·first|omega|(simp only [vM] at *;omega))|((first|refine vO ?_ ?_|refine vR ?_ ‹_› ?_|refine vS ?_ fun x hx=>?_|refine vP ?_ ?_);·first|omega|(simp only [vM] at *;omega))|refine vW ⟨by omega,by omega⟩ ?_|(refine vU ?_ ?_;·kernel_rfl)|refine vX ?_|refine vY ?_|refine vZ ?_|refine yD (zhA s w) ⟨⟨rfl,rfl⟩,⟨rfl,rfl⟩,rfl⟩ rfl ?_|refine za.mk _ ‹_› ?_|refine vP (show (_:BitVec 64)≠_ by decide) ?_));all_goals try conv=>whnf
   ·refine ⟨(i+1,x),[(0,0)],[],?_,?_,by (refine ⟨rfl,rfl,rfl,?_,?_⟩;repeat' first|exact trivial|exact rfl|exact ⟨_,rfl⟩|exact .inl rfl|exact .inr (.inl ⟨rfl,rfl⟩)|exact .inr (.inr ⟨rfl,rfl⟩)|refine And.intro ?_ ?_|refine ⟨_,rfl,?_⟩|decide|exact of_decide_eq_true rfl)⟩
    ·exact ⟨by (first|omega|(simp only [vM] at *;omega)),by rw [f3,zqL ‹_›,hX];simp⟩
    ·(first|omega|(simp only [vM] at *;omega))
   ·refine ⟨(i+1,_),[(0,0)],[],?_,?_,by (refine ⟨rfl,rfl,rfl,?_,?_⟩;repeat' first|exact trivial|exact rfl|exact ⟨_,rfl⟩|exact .inl rfl|exact .inr (.inl ⟨rfl,rfl⟩)|exact .inr (.inr ⟨rfl,rfl⟩)|refine And.intro ?_ ?_|refine ⟨_,rfl,?_⟩|decide|exact of_decide_eq_true rfl)⟩
    ·exact ⟨by (first|omega|(simp only [vM] at *;omega)),by rw [f3,zqM ‹_›,if_pos rfl,hX,Int.natCast_add,p2]⟩
    ·(first|omega|(simp only [vM] at *;omega))
   all_goals omega
  ·(repeat' ((conv=>whnf);first|refine vA ?_|refine vB fun b hb=>?_|refine vC (fun hl=>?_) fun i kv vv hi=>?_|refine vE ?_|refine vG ?_|refine vH ?_|((first|refine vD ?_ ?_|refine vF ?_ ?_|refine vI ?_ ?_)<;>intro hc<;>try simp only [vL] at hc)|refine vJ fun hg=>?_|refine vK fun hg=>?_|refine vT ?_|refine vN ‹_› ?_|(refine vQ ?_ fun x hx=>?_;·first|omega|(simp only [vM] at *;omega))|((first|refine vO ?_ ?_|refine vR ?_ ‹_› ?_|refine vS ?_ fun x hx=>?_|refine vP ?_ ?_);·first|omega|(simp only [vM] at *;omega))|refine vW ⟨by omega,by omega⟩ ?_|(refine vU ?_ ?_;·kernel_rfl)|refine vX ?_|refine vY ?_|refine vZ ?_|refine za.mk _ ‹_› ?_|refine vP (show (_:BitVec 64)≠_ by decide) ?_));all_goals try conv=>whnf
   ·omega
   ·unfold zeV
    rw [if_neg (by omega),hX,show i=m.val.length by omega];rfl
theorem zl3 (s:BitVec 64) (l:List Nat) (hl:l.length≤64):Fn Tryz.prog T zdM [.d (.u64 s),.d (dN l)] [] (.d (.u64 (zbi s l))) []:=by
 refine zg zp zhd (by show 2≤24;decide) ?_
 (repeat' ((conv=>whnf);first|refine vA ?_|refine vB fun b hb=>?_|refine vC (fun hl=>?_) fun i kv vv hi=>?_|refine vE ?_|refine vG ?_|refine vH ?_|((first|refine vD ?_ ?_|refine vF ?_ ?_|refine vI ?_ ?_)<;>intro hc<;>try simp only [vL] at hc)|refine vJ fun hg=>?_|refine vK fun hg=>?_|refine vT ?_|refine vN ‹_› ?_|(refine vQ ?_ fun x hx=>?_;·first|omega|(simp only [vM] at *;omega))|((first|refine vO ?_ ?_|refine vR ?_ ‹_› ?_|refine vS ?_ fun x hx=>?_|refine vP ?_ ?_);·first|omega|(simp only [vM] at *;omega))|refine vW ⟨by omega,by omega⟩ ?_|(refine vU ?_ ?_;·kernel_rfl)|refine vX ?_|refine vY ?_|refine vZ ?_|refine za.mk _ ‹_› ?_|refine vP (show (_:BitVec 64)≠_ by decide) ?_));all_goals try conv=>whnf
 refine zaE (fun ((k,o):Nat×BitVec 64)=>[(0,.d (.u64 (s))),(1,.d (dN l)),(5,.d (.u64 (o))),(6,.d (.int .i64 ((k:Int))))]) (fun ((k,o):Nat×BitVec 64)=>k≤l.length∧o=zas (fun i=>s.getLsbD (l.getD i 0)) k) (fun ((k,o):Nat×BitVec 64)=>l.length - k) ((0,0#64)) (⟨by simp,rfl⟩) (by (repeat' first|exact trivial|exact rfl|exact ⟨_,rfl⟩|exact .inl rfl|exact .inr (.inl ⟨rfl,rfl⟩)|exact .inr (.inr ⟨rfl,rfl⟩)|refine And.intro ?_ ?_|refine ⟨_,rfl,?_⟩|decide|exact of_decide_eq_true rfl)) ?_
 rintro ⟨k,o⟩ ⟨hk,hI⟩
 by_cases hkl:k < l.length
 ·have e1:=ze1 hkl
  (repeat' ((conv=>whnf);first|refine vA ?_|refine vB fun b hb=>?_|refine vC (fun hl=>?_) fun i kv vv hi=>?_|refine vE ?_|refine vG ?_|refine vH ?_|((first|refine vD ?_ ?_|refine vF ?_ ?_|refine vI ?_ ?_)<;>intro hc<;>try simp only [vL] at hc)|refine vJ fun hg=>?_|refine vK fun hg=>?_|refine vT ?_|refine vN ‹_› ?_|(refine vQ ?_ fun x hx=>?_;·first|omega|(simp only [vM] at *;omega))|((first|refine vO ?_ ?_|refine vR ?_ ‹_› ?_|refine vS ?_ fun x hx=>?_|refine vP ?_ ?_);·first|omega|(simp only [vM] at *;omega))|refine vW ⟨by omega,by omega⟩ ?_|(refine vU ?_ ?_;·kernel_rfl)|refine vX ?_|refine vY ?_|refine vZ ?_|refine yD (zhA s (l.getD k 0)) ⟨⟨rfl,rfl⟩,⟨rfl,rfl⟩,rfl⟩ rfl ?_|refine za.mk _ ‹_› ?_|refine vP (show (_:BitVec 64)≠_ by decide) ?_));all_goals try conv=>whnf
  ·refine ⟨(k+1,_),[],[],?_,?_,by (refine ⟨rfl,rfl,rfl,?_,?_⟩;repeat' first|exact trivial|exact rfl|exact ⟨_,rfl⟩|exact .inl rfl|exact .inr (.inl ⟨rfl,rfl⟩)|exact .inr (.inr ⟨rfl,rfl⟩)|refine And.intro ?_ ?_|refine ⟨_,rfl,?_⟩|decide|exact of_decide_eq_true rfl)⟩
   ·exact ⟨by omega,by rw [zas,zqL ‹_›,hI];rfl⟩
   ·(first|omega|(simp only [vM] at *;omega))
  ·refine ⟨(k+1,_),[],[],?_,?_,by (refine ⟨rfl,rfl,rfl,?_,?_⟩;repeat' first|exact trivial|exact rfl|exact ⟨_,rfl⟩|exact .inl rfl|exact .inr (.inl ⟨rfl,rfl⟩)|exact .inr (.inr ⟨rfl,rfl⟩)|refine And.intro ?_ ?_|refine ⟨_,rfl,?_⟩|decide|exact of_decide_eq_true rfl)⟩
   ·exact ⟨by omega,by rw [zas,zqM ‹_›,if_pos rfl,hI];rfl⟩
   ·(first|omega|(simp only [vM] at *;omega))
  ·omega
 ·(repeat' ((conv=>whnf);first|refine vA ?_|refine vB fun b hb=>?_|refine vC (fun hl=>?_) fun i kv vv hi=>?_|refine vE ?_|refine vG ?_|refine vH ?_|((first|refine vD ?_ ?_|refine vF ?_ ?_|refine vI ?_ ?_)<;>intro hc<;>try simp only [vL] at hc)|refine vJ fun hg=>?_|refine vK fun hg=>?_|refine vT ?_|refine vN ‹_› ?_|(refine vQ ?_ fun x hx=>?_;·first|omega|(simp only [vM] at *;omega))|((first|refine vO ?_ ?_|refine vR ?_ ‹_› ?_|refine vS ?_ fun x hx=>?_|refine vP ?_ ?_);·first|omega|(simp only [vM] at *;omega))|refine vW ⟨by omega,by omega⟩ ?_|(refine vU ?_ ?_;·kernel_rfl)|refine vX ?_|refine vY ?_|refine vZ ?_|refine za.mk _ ‹_› ?_|refine vP (show (_:BitVec 64)≠_ by decide) ?_));all_goals try conv=>whnf
  ·omega
  ·rw [hI,show k=l.length by omega];rfl
theorem zuR {m:KM} (hk0:zj m=0) {l:List Nat} (hl:l.length≤64) (h : ∀ w∈l,w < m.W.toNat):Fn Tryz.prog T zeG [.d (dKM m),.d (dN l)] [] (.d (dKM (zcq m l))) []:=by
 have hr:=ztB hk0 h
 have hg0:=zw hk0
 have hrl:=hg0.n4
 have hv:=hg0.v8
 refine zg zp zjc (by show 2≤68;decide) ?_
 (repeat' ((conv=>whnf);first|refine vA ?_|refine vB fun b hb=>?_|refine vC (fun hl=>?_) fun i kv vv hi=>?_|refine vE ?_|refine vG ?_|refine vH ?_|((first|refine vD ?_ ?_|refine vF ?_ ?_|refine vI ?_ ?_)<;>intro hc<;>try simp only [vL] at hc)|refine vJ fun hg=>?_|refine vK fun hg=>?_|refine vT ?_|refine vN ‹_› ?_|(refine vQ ?_ fun x hx=>?_;·first|omega|(simp only [vM] at *;omega))|((first|refine vO ?_ ?_|refine vR ?_ ‹_› ?_|refine vS ?_ fun x hx=>?_|refine vP ?_ ?_);·first|omega|(simp only [vM] at *;omega))|refine vW ⟨by omega,by omega⟩ ?_|(refine vU ?_ ?_;·kernel_rfl)|refine vX ?_|refine vY ?_|refine vZ ?_|refine za.mk _ ‹_› ?_|refine vP (show (_:BitVec 64)≠_ by decide) ?_));all_goals try conv=>whnf
 refine zk (fun ((k,zs):Nat×List D)=>[(1,.d (dN l)),(2,.ptr 0 0),(4,.ptr 1 0),(5,.ptr 2 0),(6,.d (.int .i64 ((k:Int))))]) (fun ((k,zs):Nat×List D)=>[(0,some (zR m)),(1,some (.box [.d (.int .i64 0),.nils 1,.nils 1])),(2,some (.box [.d (.int .i64 (zdW l:Int)),.own 3,.nils 1])),(3,some (.row 1 zs))]) 4 (fun ((k,zs):Nat×List D)=>k≤m.val.length∧zs=(m.val.take k).map fun s=>D.u64 (zbi s l)) (fun ((k,zs):Nat×List D)=>m.val.length - k) ((0,[])) [(0,0),(1,1),(2,2)]   [3] (⟨by simp,by simp⟩) (by (refine ⟨rfl,rfl,rfl,?_,?_⟩;repeat' first|exact trivial|exact rfl|exact ⟨_,rfl⟩|exact .inl rfl|exact .inr (.inl ⟨rfl,rfl⟩)|exact .inr (.inr ⟨rfl,rfl⟩)|refine And.intro ?_ ?_|refine ⟨_,rfl,?_⟩|decide|exact of_decide_eq_true rfl)) ?_
 rintro ⟨k,zs⟩ ⟨hk,hz⟩
 have hzl:zs.length≤8:=by rw [hz];simp;omega
 by_cases hkl:k < m.val.length
 ·obtain ⟨s,hs⟩ : ∃ s,m.val[k]? = some s:=⟨_,List.getElem?_eq_getElem hkl⟩
  (repeat' ((conv=>whnf);first|refine vA ?_|refine vB fun b hb=>?_|refine vC (fun hl=>?_) fun i kv vv hi=>?_|refine vE ?_|refine vG ?_|refine vH ?_|((first|refine vD ?_ ?_|refine vF ?_ ?_|refine vI ?_ ?_)<;>intro hc<;>try simp only [vL] at hc)|refine vJ fun hg=>?_|refine vK fun hg=>?_|refine vT ?_|refine vN ‹_› ?_|(refine vQ ?_ fun x hx=>?_;·first|omega|(simp only [vM] at *;omega))|((first|refine vO ?_ ?_|refine vR ?_ ‹_› ?_|refine vS ?_ fun x hx=>?_|refine vP ?_ ?_);·first|omega|(simp only [vM] at *;omega))|refine vW ⟨by omega,by omega⟩ ?_|(refine vU ?_ ?_;·kernel_rfl)|refine vX ?_|refine vY ?_|refine vZ ?_|refine yD (zl3 s l hl) ⟨⟨rfl,rfl⟩,⟨rfl,rfl⟩,rfl⟩ rfl ?_|refine za.mk _ ‹_› ?_|refine vP (show (_:BitVec 64)≠_ by decide) ?_));all_goals try conv=>whnf
  ·refine ⟨(k+1,_),[(0,0),(1,1),(2,2),(3,5)],[],?_,?_,by (refine ⟨rfl,rfl,rfl,?_,?_⟩;repeat' first|exact trivial|exact rfl|exact ⟨_,rfl⟩|exact .inl rfl|exact .inr (.inl ⟨rfl,rfl⟩)|exact .inr (.inr ⟨rfl,rfl⟩)|refine And.intro ?_ ?_|refine ⟨_,rfl,?_⟩|decide|exact of_decide_eq_true rfl)⟩
   ·exact ⟨by omega,by rw [List.take_add_one,hs,hz];simp⟩
   ·(first|omega|(simp only [vM] at *;omega))
  all_goals omega
 ·have hzz:zs=m.val.map fun s=>D.u64 (zbi s l):=by rw [hz,List.take_of_length_le (by omega)]
  clear hz
  subst hzz
  (repeat' ((conv=>whnf);first|refine vA ?_|refine vB fun b hb=>?_|refine vC (fun hl=>?_) fun i kv vv hi=>?_|refine vE ?_|refine vG ?_|refine vH ?_|((first|refine vD ?_ ?_|refine vF ?_ ?_|refine vI ?_ ?_)<;>intro hc<;>try simp only [vL] at hc)|refine vJ fun hg=>?_|refine vK fun hg=>?_|refine vT ?_|refine vN ‹_› ?_|(refine vQ ?_ fun x hx=>?_;·first|omega|(simp only [vM] at *;omega))|((first|refine vO ?_ ?_|refine vR ?_ ‹_› ?_|refine vS ?_ fun x hx=>?_|refine vP ?_ ?_);·first|omega|(simp only [vM] at *;omega))|refine vW ⟨by omega,by omega⟩ ?_|(refine vU ?_ ?_;·kernel_rfl)|refine vX ?_|refine vY ?_|refine vZ ?_|refine za.mk _ ‹_› ?_|refine vP (show (_:BitVec 64)≠_ by decide) ?_));all_goals try conv=>whnf
  ·omega
  refine zk (fun ((k,zs):Nat×List D)=>[(1,.d (dN l)),(2,.ptr 0 0),(4,.ptr 1 0),(5,.ptr 2 0),(7,.d (.int .i64 ((k:Int))))]) (fun ((k,zs):Nat×List D)=>[(0,some (zR m)),(1,some (.box [.d (.int .i64 0),.nils 1,.nils 1])),(2,some (.box [.d (.int .i64 (zdW l:Int)),.own 3,.own 4])),(3,some (.row 1 (m.val.map fun s=>D.u64 (zbi s l)))),(4,some (.row 1 zs))]) 5 (fun ((k,zs):Nat×List D)=>k≤m.rel.length∧zs=(m.rel.take k).map fun r=>dU (l.map fun w=>zbi (r.getD w 0#64) l)) (fun ((k,zs):Nat×List D)=>m.rel.length - k) ((0,[])) [(0,0),(1,1),(2,2),(3,3)]   [4] (⟨by simp,by simp⟩) (by (refine ⟨rfl,rfl,rfl,?_,?_⟩;repeat' first|exact trivial|exact rfl|exact ⟨_,rfl⟩|exact .inl rfl|exact .inr (.inl ⟨rfl,rfl⟩)|exact .inr (.inr ⟨rfl,rfl⟩)|refine And.intro ?_ ?_|refine ⟨_,rfl,?_⟩|decide|exact of_decide_eq_true rfl)) ?_
  rintro ⟨k,zs⟩ ⟨hk,hz⟩
  have hzl:zs.length≤4:=by rw [hz];simp;omega
  by_cases hkl:k < m.rel.length
  ·obtain ⟨r,hrr⟩ : ∃ r,m.rel[k]? = some r:=⟨_,List.getElem?_eq_getElem hkl⟩
   have hrw:=hr r (List.mem_of_getElem? hrr)
   (repeat' ((conv=>whnf);first|refine vA ?_|refine vB fun b hb=>?_|refine vC (fun hl=>?_) fun i kv vv hi=>?_|refine vE ?_|refine vG ?_|refine vH ?_|((first|refine vD ?_ ?_|refine vF ?_ ?_|refine vI ?_ ?_)<;>intro hc<;>try simp only [vL] at hc)|refine vJ fun hg=>?_|refine vK fun hg=>?_|refine vT ?_|refine vN ‹_› ?_|(refine vQ ?_ fun x hx=>?_;·first|omega|(simp only [vM] at *;omega))|((first|refine vO ?_ ?_|refine vR ?_ ‹_› ?_|refine vS ?_ fun x hx=>?_|refine vP ?_ ?_);·first|omega|(simp only [vM] at *;omega))|refine vW ⟨by omega,by omega⟩ ?_|(refine vU ?_ ?_;·kernel_rfl)|refine vX ?_|refine vY ?_|refine vZ ?_|refine za.mk _ ‹_› ?_|refine vP (show (_:BitVec 64)≠_ by decide) ?_));all_goals try conv=>whnf
   ·refine zk (fun ((j,ys):Nat×List D)=>[(1,.d (dN l)),(2,.ptr 0 0),(4,.ptr 1 0),(5,.ptr 2 0),(7,.d (.int .i64 ((k:Int)))),(8,.own 5),(9,.d (.int .i64 ((j:Int))))]) (fun ((j,ys):Nat×List D)=>[(0,some (zR m)),(1,some (.box [.d (.int .i64 0),.nils 1,.nils 1])),(2,some (.box [.d (.int .i64 (zdW l:Int)),.own 3,.own 4])),(3,some (.row 1 (m.val.map fun s=>D.u64 (zbi s l)))),(4,some (.row 1 zs)),(5,some (.row 1 ys))]) 6 (fun ((j,ys):Nat×List D)=>j≤l.length∧ys=(l.take j).map fun w=>D.u64 (zbi (r.getD w 0#64) l)) (fun ((j,ys):Nat×List D)=>l.length - j) ((0,[])) [(0,0),(1,1),(2,2),(3,3),(4,4)]   [5] (⟨by simp,by simp⟩) (by (refine ⟨rfl,rfl,rfl,?_,?_⟩;repeat' first|exact trivial|exact rfl|exact ⟨_,rfl⟩|exact .inl rfl|exact .inr (.inl ⟨rfl,rfl⟩)|exact .inr (.inr ⟨rfl,rfl⟩)|refine And.intro ?_ ?_|refine ⟨_,rfl,?_⟩|decide|exact of_decide_eq_true rfl)) ?_
    rintro ⟨j,ys⟩ ⟨hj,hy⟩
    have hyl:ys.length≤64:=by rw [hy];simp;omega
    by_cases hjl:j < l.length
    ·have e1:=ze1 hjl
     have e2:=hrw _ (zir hjl)
     have e3:r[l.getD j 0]? = some (r.getD (l.getD j 0) 0#64):=zV e2
     (repeat' ((conv=>whnf);first|refine vA ?_|refine vB fun b hb=>?_|refine vC (fun hl=>?_) fun i kv vv hi=>?_|refine vE ?_|refine vG ?_|refine vH ?_|((first|refine vD ?_ ?_|refine vF ?_ ?_|refine vI ?_ ?_)<;>intro hc<;>try simp only [vL] at hc)|refine vJ fun hg=>?_|refine vK fun hg=>?_|refine vT ?_|refine vN ‹_› ?_|(refine vQ ?_ fun x hx=>?_;·first|omega|(simp only [vM] at *;omega))|((first|refine vO ?_ ?_|refine vR ?_ ‹_› ?_|refine vS ?_ fun x hx=>?_|refine vP ?_ ?_);·first|omega|(simp only [vM] at *;omega))|refine vW ⟨by omega,by omega⟩ ?_|(refine vU ?_ ?_;·kernel_rfl)|refine vX ?_|refine vY ?_|refine vZ ?_|refine yD (zl3 (r.getD (l.getD j 0) 0#64) l hl) ⟨⟨rfl,rfl⟩,⟨rfl,rfl⟩,rfl⟩ rfl ?_|refine za.mk _ ‹_› ?_|refine vP (show (_:BitVec 64)≠_ by decide) ?_));all_goals try conv=>whnf
     ·refine ⟨(j+1,_),[(0,0),(1,1),(2,2),(3,3),(4,4),(5,7)],[],?_,?_,by (refine ⟨rfl,rfl,rfl,?_,?_⟩;repeat' first|exact trivial|exact rfl|exact ⟨_,rfl⟩|exact .inl rfl|exact .inr (.inl ⟨rfl,rfl⟩)|exact .inr (.inr ⟨rfl,rfl⟩)|refine And.intro ?_ ?_|refine ⟨_,rfl,?_⟩|decide|exact of_decide_eq_true rfl)⟩
      ·exact ⟨by omega,by rw [List.take_add_one,hy,zV (d:=0) hjl];simp⟩
      ·(first|omega|(simp only [vM] at *;omega))
     ·omega
    ·(repeat' ((conv=>whnf);first|refine vA ?_|refine vB fun b hb=>?_|refine vC (fun hl=>?_) fun i kv vv hi=>?_|refine vE ?_|refine vG ?_|refine vH ?_|((first|refine vD ?_ ?_|refine vF ?_ ?_|refine vI ?_ ?_)<;>intro hc<;>try simp only [vL] at hc)|refine vJ fun hg=>?_|refine vK fun hg=>?_|refine vT ?_|refine vN ‹_› ?_|(refine vQ ?_ fun x hx=>?_;·first|omega|(simp only [vM] at *;omega))|((first|refine vO ?_ ?_|refine vR ?_ ‹_› ?_|refine vS ?_ fun x hx=>?_|refine vP ?_ ?_);·first|omega|(simp only [vM] at *;omega))|refine vW ⟨by omega,by omega⟩ ?_|(refine vU ?_ ?_;·kernel_rfl)|refine vX ?_|refine vY ?_|refine vZ ?_|refine za.mk _ ‹_› ?_|refine vP (show (_:BitVec 64)≠_ by decide) ?_));all_goals try conv=>whnf
     ·omega
     ·have hyy:ys=l.map fun w=>D.u64 (zbi (r.getD w 0#64) l):=by rw [hy,List.take_of_length_le (by omega)]
      refine ⟨(k+1,_),[(0,0),(1,1),(2,2),(3,3),(4,7)],[],?_,?_,by (refine ⟨rfl,rfl,rfl,?_,?_⟩;repeat' first|exact trivial|exact rfl|exact ⟨_,rfl⟩|exact .inl rfl|exact .inr (.inl ⟨rfl,rfl⟩)|exact .inr (.inr ⟨rfl,rfl⟩)|refine And.intro ?_ ?_|refine ⟨_,rfl,?_⟩|decide|exact of_decide_eq_true rfl)⟩
      ·refine ⟨by omega,?_⟩
       rw [List.take_add_one,hrr,hz,hyy];simp
      ·(first|omega|(simp only [vM] at *;omega))
   all_goals omega
  ·(repeat' ((conv=>whnf);first|refine vA ?_|refine vB fun b hb=>?_|refine vC (fun hl=>?_) fun i kv vv hi=>?_|refine vE ?_|refine vG ?_|refine vH ?_|((first|refine vD ?_ ?_|refine vF ?_ ?_|refine vI ?_ ?_)<;>intro hc<;>try simp only [vL] at hc)|refine vJ fun hg=>?_|refine vK fun hg=>?_|refine vT ?_|refine vN ‹_› ?_|(refine vQ ?_ fun x hx=>?_;·first|omega|(simp only [vM] at *;omega))|((first|refine vO ?_ ?_|refine vR ?_ ‹_› ?_|refine vS ?_ fun x hx=>?_|refine vP ?_ ?_);·first|omega|(simp only [vM] at *;omega))|refine vW ⟨by omega,by omega⟩ ?_|(refine vU ?_ ?_;·kernel_rfl)|refine vX ?_|refine vY ?_|refine vZ ?_|refine za.mk _ ‹_› ?_|refine vP (show (_:BitVec 64)≠_ by decide) ?_));all_goals try conv=>whnf
   ·omega
   ·have hzz:zs=m.rel.map fun r=>dU (l.map fun w=>zbi (r.getD w 0#64) l):=by rw [hz,List.take_of_length_le (by omega)]
    subst hzz
    refine congrArg some (show D.agg [.int .i64 (zdW l:Int),.arr 1 (m.val.map fun s=>D.u64 (zbi s l)),.arr 1 (m.rel.map fun r=>dU (l.map fun w=>zbi (r.getD w 0#64) l))]=dKM (zcq m l) from ?_)
    rw [zf0]
    simp [zcq,Function.comp_def]
def zcF (to:List Int) (i:Int) (j:Nat):List Nat:=(List.range j).filter fun w=>decide (at0 to w=i)
theorem zny (to:List Int) (i:Int) (j:Nat):zcF to i (j+1)=zcF to i j++if at0 to j=i then [j] else []:=by
 unfold zcF
 rw [List.range_succ,List.filter_append,List.filter_cons,List.filter_nil]
 by_cases h:at0 to j=i
 ·rw [if_pos (by simpa using h),if_pos h]
 ·rw [if_neg (by simpa using h),if_neg h]
theorem zmR {to:List Int} {i:Int} {w:Nat} : w∈zcF to i to.length↔to[w]? = some i:=by
 unfold zcF
 rw [List.mem_filter,List.mem_range,decide_eq_true_eq]
 constructor
 ·rintro ⟨h,rfl⟩;exact zds h
 ·intro h;exact ⟨(List.getElem?_eq_some_iff.1 h).1,zog h⟩
theorem zvc {to:List Int} {i:Int} {j:Nat} : (zcF to i j).length≤j:=by
 unfold zcF
 have:=List.length_filter_le (fun w=>decide (at0 to w=i)) (List.range j)
 rwa [List.length_range] at this
theorem zqq {to:List Int} {n:Nat} (hp:z1 to n=true) {i:Nat} (hi:i < n):zcF to i to.length=[to.idxOf (i:Int)]:=by
 obtain ⟨h1,h2,h3⟩:=zbl.1 hp
 have hm:=zo9 hp hi
 have key : ∀ w,w∈zcF to i to.length↔w=to.idxOf (i:Int):=fun w=>by
  rw [zmR]
  constructor
  ·intro h
   obtain ⟨a,b⟩:=List.getElem?_eq_some_iff.1 h
   rw [← b];exact (h3.idxOf_getElem w a).symm
  ·rintro rfl
   have:=List.idxOf_lt_length_of_mem hm
   rw [List.getElem?_eq_getElem this,List.getElem_idxOf]
 have hnd:(zcF to i to.length).Nodup:=List.nodup_range.filter _
 have h4:=zb6 hnd (l':=[to.idxOf (i:Int)]) fun w hw=>by simpa using (key w).1 hw
 have h5:=(key _).2 rfl
 match hl:zcF to i to.length with
 | []=>rw [hl] at h5;cases h5
 | [a]=>rw [hl] at h5;simp only [List.mem_singleton] at h5;rw [h5]
 | a::b::l=>rw [hl] at h4;simp at h4
theorem ztX {to:List Int} (h : ∀ i:Nat,i < to.length→(zcF to i to.length).length=1):z1 to to.length=true:=by
 have hm : ∀ i:Nat,i < to.length→(i:Int)∈to:=fun i hi=>by
  have:=h i hi
  match hl:zcF to i to.length with
  | []=>rw [hl] at this;cases this
  | a::l=>exact List.mem_of_getElem? (zmR.1 (by rw [hl];simp:a∈zcF to i to.length))
 have hrn:((List.range to.length).map fun (i:Nat)=>(i:Int)).Nodup:=by
  rw [List.Nodup,List.pairwise_map]
  exact List.nodup_range.imp fun h e=>h (by omega)
 have hr : ∀ x∈to,0≤x∧x < to.length:=fun x hx=>by
  apply Classical.byContradiction
  intro hn
  have:=zb6 hrn (l':=to.erase x) fun y hy=>by
   obtain ⟨i,hi,rfl⟩:=List.mem_map.1 hy
   have hi:=List.mem_range.1 hi
   exact (List.mem_erase_of_ne (by omega)).2 (hm i hi)
  rw [List.length_map,List.length_range,List.length_erase_of_mem hx] at this
  have:=List.length_pos_of_mem hx
  omega
 refine zbl.2 ⟨rfl,hr,?_⟩
 rw [List.Nodup,List.pairwise_iff_getElem]
 intro a b ha hb hab e
 have hx:=hr to[a] (List.getElem_mem ha)
 have h1:=h to[a].toNat (by omega)
 rw [show ((to[a].toNat:Nat):Int)=to[a] by omega] at h1
 have:=zb6 (l:=[a,b]) (l':=zcF to to[a] to.length) (by simp;omega) fun w hw=>by
  rw [zmR]
  simp only [List.mem_cons,List.not_mem_nil,or_false] at hw
  rcases hw with rfl|rfl
  ·exact List.getElem?_eq_getElem ha
  ·rw [e];exact List.getElem?_eq_getElem hb
 rw [h1] at this;simp at this
theorem zq2 (to:List Int) (n:Nat) (h64:n≤64):Fn Tryz.prog T zdL [.d (dI to),.d (.int .i64 (n:Int))] [] (.d (.tup [dN (if z1 to n=true then zbB to n else []),.bool (z1 to n)])) []:=by
 refine zg zp zhc (by show 2≤39;decide) ?_
 (repeat' ((conv=>whnf);first|refine vA ?_|refine vB fun b hb=>?_|refine vC (fun hl=>?_) fun i kv vv hi=>?_|refine vE ?_|refine vG ?_|refine vH ?_|((first|refine vD ?_ ?_|refine vF ?_ ?_|refine vI ?_ ?_)<;>intro hc<;>try simp only [vL] at hc)|refine vJ fun hg=>?_|refine vK fun hg=>?_|refine vT ?_|refine vN ‹_› ?_|(refine vQ ?_ fun x hx=>?_;·first|omega|(simp only [vM] at *;omega))|((first|refine vO ?_ ?_|refine vR ?_ ‹_› ?_|refine vS ?_ fun x hx=>?_|refine vP ?_ ?_);·first|omega|(simp only [vM] at *;omega))|refine vW ⟨by omega,by omega⟩ ?_|(refine vU ?_ ?_;·kernel_rfl)|refine vX ?_|refine vY ?_|refine vZ ?_|refine za.mk _ ‹_› ?_|refine vP (show (_:BitVec 64)≠_ by decide) ?_));all_goals try conv=>whnf
 ·have:z1 to n=false:=by rw [← Bool.not_eq_true];intro h;have:=(zbl.1 h).1;omega
  rw [this];rfl
 ·have e0:n=to.length:=by omega
  subst e0
  refine zk (fun ((i,zs):Nat×List D)=>[(0,.d (dI to)),(1,.d (.int .i64 ((to.length:Int)))),(6,.own 0),(7,.d (.int .i64 ((i:Int))))]) (fun ((i,zs):Nat×List D)=>[(0,some (.row 1 zs))]) 1 (fun ((i,zs):Nat×List D)=>i≤to.length∧zs.length=i∧(∀ j:Nat,j < i→(zcF to j to.length).length=1)∧(z1 to to.length=true→zs=((List.range i).map fun (j:Nat)=>to.idxOf (j:Int)).map fun (x:Nat)=>D.int .i64 (x:Int))) (fun ((i,zs):Nat×List D)=>to.length - i) ((0,[])) []   [0] (⟨by omega,rfl,fun j hj=>by omega,fun _=>rfl⟩) (by (refine ⟨rfl,rfl,rfl,?_,?_⟩;repeat' first|exact trivial|exact rfl|exact ⟨_,rfl⟩|exact .inl rfl|exact .inr (.inl ⟨rfl,rfl⟩)|exact .inr (.inr ⟨rfl,rfl⟩)|refine And.intro ?_ ?_|refine ⟨_,rfl,?_⟩|decide|exact of_decide_eq_true rfl)) ?_
  rintro ⟨i,zs⟩ ⟨hi,hzl,hone,hz⟩
  by_cases hil:i < to.length
  ·(repeat' ((conv=>whnf);first|refine vA ?_|refine vB fun b hb=>?_|refine vC (fun hl=>?_) fun i kv vv hi=>?_|refine vE ?_|refine vG ?_|refine vH ?_|((first|refine vD ?_ ?_|refine vF ?_ ?_|refine vI ?_ ?_)<;>intro hc<;>try simp only [vL] at hc)|refine vJ fun hg=>?_|refine vK fun hg=>?_|refine vT ?_|refine vN ‹_› ?_|(refine vQ ?_ fun x hx=>?_;·first|omega|(simp only [vM] at *;omega))|((first|refine vO ?_ ?_|refine vR ?_ ‹_› ?_|refine vS ?_ fun x hx=>?_|refine vP ?_ ?_);·first|omega|(simp only [vM] at *;omega))|refine vW ⟨by omega,by omega⟩ ?_|(refine vU ?_ ?_;·kernel_rfl)|refine vX ?_|refine vY ?_|refine vZ ?_|refine za.mk _ ‹_› ?_|refine vP (show (_:BitVec 64)≠_ by decide) ?_));all_goals try conv=>whnf
   ·refine zk (fun ((j,ys):Nat×List D)=>[(0,.d (dI to)),(1,.d (.int .i64 ((to.length:Int)))),(6,.own 0),(7,.d (.int .i64 ((i:Int)))),(8,.d (.int .i64 ((j:Int))))]) (fun ((j,ys):Nat×List D)=>[(0,some (.row 1 ys))]) 1 (fun ((j,ys):Nat×List D)=>j≤to.length∧ys=zs++(zcF to i j).map fun (x:Nat)=>D.int .i64 (x:Int)) (fun ((j,ys):Nat×List D)=>to.length - j) ((0,zs)) [(0,0)] [] (⟨by omega,by simp [zcF]⟩) (by (refine ⟨rfl,rfl,rfl,?_,?_⟩;repeat' first|exact trivial|exact rfl|exact ⟨_,rfl⟩|exact .inl rfl|exact .inr (.inl ⟨rfl,rfl⟩)|exact .inr (.inr ⟨rfl,rfl⟩)|refine And.intro ?_ ?_|refine ⟨_,rfl,?_⟩|decide|exact of_decide_eq_true rfl)) ?_
    rintro ⟨j,ys⟩ ⟨hj,hy⟩
    have hyl:ys.length=i+(zcF to i j).length:=by rw [hy];simp [hzl]
    have hpl:=zvc (to:=to) (i:=(i:Int)) (j:=j)
    by_cases hjl:j < to.length
    ·have hx:=zds hjl
     (repeat' ((conv=>whnf);first|refine vA ?_|refine vB fun b hb=>?_|refine vC (fun hl=>?_) fun i kv vv hi=>?_|refine vE ?_|refine vG ?_|refine vH ?_|((first|refine vD ?_ ?_|refine vF ?_ ?_|refine vI ?_ ?_)<;>intro hc<;>try simp only [vL] at hc)|refine vJ fun hg=>?_|refine vK fun hg=>?_|refine vT ?_|refine vN ‹_› ?_|(refine vQ ?_ fun x hx=>?_;·first|omega|(simp only [vM] at *;omega))|((first|refine vO ?_ ?_|refine vR ?_ ‹_› ?_|refine vS ?_ fun x hx=>?_|refine vP ?_ ?_);·first|omega|(simp only [vM] at *;omega))|refine vW ⟨by omega,by omega⟩ ?_|(refine vU ?_ ?_;·kernel_rfl)|refine vX ?_|refine vY ?_|refine vZ ?_|refine za.mk _ ‹_› ?_|refine vP (show (_:BitVec 64)≠_ by decide) ?_));all_goals try conv=>whnf
     ·refine ⟨(j+1,_),[(0,2)],[],?_,?_,by (refine ⟨rfl,rfl,rfl,?_,?_⟩;repeat' first|exact trivial|exact rfl|exact ⟨_,rfl⟩|exact .inl rfl|exact .inr (.inl ⟨rfl,rfl⟩)|exact .inr (.inr ⟨rfl,rfl⟩)|refine And.intro ?_ ?_|refine ⟨_,rfl,?_⟩|decide|exact of_decide_eq_true rfl)⟩
      ·exact ⟨by omega,by rw [zny,if_pos ‹_›,hy];simp⟩
      ·(first|omega|(simp only [vM] at *;omega))
     ·refine ⟨(j+1,_),[(0,0)],[],?_,?_,by (refine ⟨rfl,rfl,rfl,?_,?_⟩;repeat' first|exact trivial|exact rfl|exact ⟨_,rfl⟩|exact .inl rfl|exact .inr (.inl ⟨rfl,rfl⟩)|exact .inr (.inr ⟨rfl,rfl⟩)|refine And.intro ?_ ?_|refine ⟨_,rfl,?_⟩|decide|exact of_decide_eq_true rfl)⟩
      ·exact ⟨by omega,by rw [zny,if_neg ‹_›,hy];simp⟩
      ·(first|omega|(simp only [vM] at *;omega))
     iterate 2 (exfalso;omega)
    ·have e1:j=to.length:=by omega
     subst e1
     (repeat' ((conv=>whnf);first|refine vA ?_|refine vB fun b hb=>?_|refine vC (fun hl=>?_) fun i kv vv hi=>?_|refine vE ?_|refine vG ?_|refine vH ?_|((first|refine vD ?_ ?_|refine vF ?_ ?_|refine vI ?_ ?_)<;>intro hc<;>try simp only [vL] at hc)|refine vJ fun hg=>?_|refine vK fun hg=>?_|refine vT ?_|refine vN ‹_› ?_|(refine vQ ?_ fun x hx=>?_;·first|omega|(simp only [vM] at *;omega))|((first|refine vO ?_ ?_|refine vR ?_ ‹_› ?_|refine vS ?_ fun x hx=>?_|refine vP ?_ ?_);·first|omega|(simp only [vM] at *;omega))|refine vW ⟨by omega,by omega⟩ ?_|(refine vU ?_ ?_;·kernel_rfl)|refine vX ?_|refine vY ?_|refine vZ ?_|refine za.mk _ ‹_› ?_|refine vP (show (_:BitVec 64)≠_ by decide) ?_));all_goals try conv=>whnf
     iterate 2 (exfalso;omega)
     ·have hf:z1 to to.length=false:=by
       rw [← Bool.not_eq_true];intro hp
       rw [zqq hp hil] at hyl;simp at hyl;omega
      rw [hf];rfl
     ·refine ⟨(i+1,ys),[(0,0)],[],?_,?_,by (refine ⟨rfl,rfl,rfl,?_,?_⟩;repeat' first|exact trivial|exact rfl|exact ⟨_,rfl⟩|exact .inl rfl|exact .inr (.inl ⟨rfl,rfl⟩)|exact .inr (.inr ⟨rfl,rfl⟩)|refine And.intro ?_ ?_|refine ⟨_,rfl,?_⟩|decide|exact of_decide_eq_true rfl)⟩
      ·refine ⟨by omega,by omega,fun j hj=>?_,fun hp=>?_⟩
       ·by_cases e:j=i
        ·subst e;omega
        ·exact hone j (by omega)
       ·rw [hy,hz hp,zqq hp hil,List.range_succ];simp
      ·(first|omega|(simp only [vM] at *;omega))
   ·omega
  ·(repeat' ((conv=>whnf);first|refine vA ?_|refine vB fun b hb=>?_|refine vC (fun hl=>?_) fun i kv vv hi=>?_|refine vE ?_|refine vG ?_|refine vH ?_|((first|refine vD ?_ ?_|refine vF ?_ ?_|refine vI ?_ ?_)<;>intro hc<;>try simp only [vL] at hc)|refine vJ fun hg=>?_|refine vK fun hg=>?_|refine vT ?_|refine vN ‹_› ?_|(refine vQ ?_ fun x hx=>?_;·first|omega|(simp only [vM] at *;omega))|((first|refine vO ?_ ?_|refine vR ?_ ‹_› ?_|refine vS ?_ fun x hx=>?_|refine vP ?_ ?_);·first|omega|(simp only [vM] at *;omega))|refine vW ⟨by omega,by omega⟩ ?_|(refine vU ?_ ?_;·kernel_rfl)|refine vX ?_|refine vY ?_|refine vZ ?_|refine za.mk _ ‹_› ?_|refine vP (show (_:BitVec 64)≠_ by decide) ?_));all_goals try conv=>whnf
   ·omega
   ·have e1:i=to.length:=by omega
    subst e1
    have hp:=ztX hone
    have hz:=hz hp
    subst hz
    rw [hp,if_pos rfl]
    refine congrArg (fun l=>some (D.tup [D.arr 1 l,D.bool true])) ?_
    unfold zbB
    simp only [List.map_map];rfl
theorem zq5 (m:KM) (to:List Int):Fn Tryz.prog T zd4 [.d (dKM m),.d (dI to)] [] (.d (dKI (zmT m to))) []:=by
 have cc:=zd9 (T:=T) m
 refine zg zp zhG (by show 2≤28;decide) ?_
 (repeat' ((conv=>whnf);first|refine vA ?_|refine vB fun b hb=>?_|refine vC (fun hl=>?_) fun i kv vv hi=>?_|refine vE ?_|refine vG ?_|refine vH ?_|((first|refine vD ?_ ?_|refine vF ?_ ?_|refine vI ?_ ?_)<;>intro hc<;>try simp only [vL] at hc)|refine vJ fun hg=>?_|refine vK fun hg=>?_|refine vT ?_|refine vN ‹_› ?_|(refine vQ ?_ fun x hx=>?_;·first|omega|(simp only [vM] at *;omega))|((first|refine vO ?_ ?_|refine vR ?_ ‹_› ?_|refine vS ?_ fun x hx=>?_|refine vP ?_ ?_);·first|omega|(simp only [vM] at *;omega))|refine vW ⟨by omega,by omega⟩ ?_|(refine vU ?_ ?_;·kernel_rfl)|refine vX ?_|refine vY ?_|refine vZ ?_|refine yD cc ⟨⟨rfl,rfl⟩,rfl⟩ rfl ?_|refine za.mk _ ‹_› ?_|refine vP (show (_:BitVec 64)≠_ by decide) ?_));all_goals try conv=>whnf
 ·rw [zmT,if_pos (by omega)];rfl
 ·have hk0:zj m=0:=by omega
  have hg0:=zw hk0
  have w1:=hg0.w1
  have w2:=hg0.w2
  have ci:=zq2 (T:=T) to m.W.toNat (by omega)
  rw [show ((m.W.toNat:Nat):Int)=m.W by omega] at ci
  cases hp:z1 to m.W.toNat with
  | false =>
   rw [hp,if_neg (by decide)] at ci
   (repeat' ((conv=>whnf);first|refine vA ?_|refine vB fun b hb=>?_|refine vC (fun hl=>?_) fun i kv vv hi=>?_|refine vE ?_|refine vG ?_|refine vH ?_|((first|refine vD ?_ ?_|refine vF ?_ ?_|refine vI ?_ ?_)<;>intro hc<;>try simp only [vL] at hc)|refine vJ fun hg=>?_|refine vK fun hg=>?_|refine vT ?_|refine vN ‹_› ?_|(refine vQ ?_ fun x hx=>?_;·first|omega|(simp only [vM] at *;omega))|((first|refine vO ?_ ?_|refine vR ?_ ‹_› ?_|refine vS ?_ fun x hx=>?_|refine vP ?_ ?_);·first|omega|(simp only [vM] at *;omega))|refine vW ⟨by omega,by omega⟩ ?_|(refine vU ?_ ?_;·kernel_rfl)|refine vX ?_|refine vY ?_|refine vZ ?_|refine yN ci ⟨⟨rfl,rfl⟩,⟨rfl,rfl⟩,rfl⟩ ?_|refine za.mk _ ‹_› ?_|refine vP (show (_:BitVec 64)≠_ by decide) ?_));all_goals try conv=>whnf
   rw [zmT,if_neg (by omega),hp,if_neg (by decide)];rfl
  | true =>
   rw [hp,if_pos rfl] at ci
   have ct:=zuR (T:=T) hk0 (l:=zbB to m.W.toNat) (by rw [zko];omega) (fun w hw=>by
    obtain ⟨i,hi,rfl⟩:=zoW hw
    rw [zko] at hi
    exact zvJ hp hi)
   (repeat' ((conv=>whnf);first|refine vA ?_|refine vB fun b hb=>?_|refine vC (fun hl=>?_) fun i kv vv hi=>?_|refine vE ?_|refine vG ?_|refine vH ?_|((first|refine vD ?_ ?_|refine vF ?_ ?_|refine vI ?_ ?_)<;>intro hc<;>try simp only [vL] at hc)|refine vJ fun hg=>?_|refine vK fun hg=>?_|refine vT ?_|refine vN ‹_› ?_|(refine vQ ?_ fun x hx=>?_;·first|omega|(simp only [vM] at *;omega))|((first|refine vO ?_ ?_|refine vR ?_ ‹_› ?_|refine vS ?_ fun x hx=>?_|refine vP ?_ ?_);·first|omega|(simp only [vM] at *;omega))|refine vW ⟨by omega,by omega⟩ ?_|(refine vU ?_ ?_;·kernel_rfl)|refine vX ?_|refine vY ?_|refine vZ ?_|refine yN ci ⟨⟨rfl,rfl⟩,⟨rfl,rfl⟩,rfl⟩ ?_|refine yN ct ⟨⟨rfl,rfl⟩,⟨rfl,rfl⟩,rfl⟩ ?_|refine za.mk _ ‹_› ?_|refine vP (show (_:BitVec 64)≠_ by decide) ?_));all_goals try conv=>whnf
   rw [zmT,if_neg (by omega),if_pos hp];rfl
theorem ziS (a b:List (BitVec 64)):Fn Tryz.prog T zdz [.d (dU a),.d (dU b)] [] (.d (.bool (a==b))) []:=by
 refine zg zp zgL (by show 2≤26;decide) ?_
 (repeat' ((conv=>whnf);first|refine vA ?_|refine vB fun b hb=>?_|refine vC (fun hl=>?_) fun i kv vv hi=>?_|refine vE ?_|refine vG ?_|refine vH ?_|((first|refine vD ?_ ?_|refine vF ?_ ?_|refine vI ?_ ?_)<;>intro hc<;>try simp only [vL] at hc)|refine vJ fun hg=>?_|refine vK fun hg=>?_|refine vT ?_|refine vN ‹_› ?_|(refine vQ ?_ fun x hx=>?_;·first|omega|(simp only [vM] at *;omega))|((first|refine vO ?_ ?_|refine vR ?_ ‹_› ?_|refine vS ?_ fun x hx=>?_|refine vP ?_ ?_);·first|omega|(simp only [vM] at *;omega))|refine vW ⟨by omega,by omega⟩ ?_|(refine vU ?_ ?_;·kernel_rfl)|refine vX ?_|refine vY ?_|refine vZ ?_|refine za.mk _ ‹_› ?_|refine vP (show (_:BitVec 64)≠_ by decide) ?_));all_goals try conv=>whnf
 ·have:a≠b:=fun e=>hc (by rw [e])
  simp [this]
 ·refine zaE (fun (k:Nat)=>[(0,.d (dU a)),(1,.d (dU b)),(5,.d (.int .i64 ((k:Int))))]) (fun (k:Nat)=>k≤a.length∧(a==b)=(a.drop k==b.drop k)) (fun (k:Nat)=>a.length - k) (0) (⟨by simp,by simp⟩) (by (repeat' first|exact trivial|exact rfl|exact ⟨_,rfl⟩|exact .inl rfl|exact .inr (.inl ⟨rfl,rfl⟩)|exact .inr (.inr ⟨rfl,rfl⟩)|refine And.intro ?_ ?_|refine ⟨_,rfl,?_⟩|decide|exact of_decide_eq_true rfl)) ?_
  rintro k ⟨hk,hI⟩
  (repeat' ((conv=>whnf);first|refine vA ?_|refine vB fun b hb=>?_|refine vC (fun hl=>?_) fun i kv vv hi=>?_|refine vE ?_|refine vG ?_|refine vH ?_|((first|refine vD ?_ ?_|refine vF ?_ ?_|refine vI ?_ ?_)<;>intro hc<;>try simp only [vL] at hc)|refine vJ fun hg=>?_|refine vK fun hg=>?_|refine vT ?_|refine vN ‹_› ?_|(refine vQ ?_ fun x hx=>?_;·first|omega|(simp only [vM] at *;omega))|((first|refine vO ?_ ?_|refine vR ?_ ‹_› ?_|refine vS ?_ fun x hx=>?_|refine vP ?_ ?_);·first|omega|(simp only [vM] at *;omega))|refine vW ⟨by omega,by omega⟩ ?_|(refine vU ?_ ?_;·kernel_rfl)|refine vX ?_|refine vY ?_|refine vZ ?_|refine za.mk _ ‹_› ?_|refine vP (show (_:BitVec 64)≠_ by decide) ?_));all_goals try conv=>whnf
  ·rw [hI,zz ‹a[k]? = some _›,zz ‹b[k]? = some _›];simp [hc]
  ·exact ⟨k+1,[],[],⟨by (first|omega|(simp only [vM] at *;omega)),by rw [hI,zz ‹a[k]? = some _›,zz ‹b[k]? = some _›];simp [hc]⟩,by (first|omega|(simp only [vM] at *;omega)),by (refine ⟨rfl,rfl,rfl,?_,?_⟩;repeat' first|exact trivial|exact rfl|exact ⟨_,rfl⟩|exact .inl rfl|exact .inr (.inl ⟨rfl,rfl⟩)|exact .inr (.inr ⟨rfl,rfl⟩)|refine And.intro ?_ ?_|refine ⟨_,rfl,?_⟩|decide|exact of_decide_eq_true rfl)⟩
  ·rw [hI,List.drop_eq_nil_of_le (by omega),List.drop_eq_nil_of_le (by omega)];rfl
theorem zq6 (a b:KM):Fn Tryz.prog T zeF [.d (dKM a),.d (dKM b)] [] (.d (.bool (decide (a=b)))) []:=by
 have no:(a.W≠b.W∨a.val≠b.val∨a.rel≠b.rel)→false=decide (a=b):=fun h=>by
  rw [decide_eq_false];rintro rfl;simp at h
 refine zg zp zjb (by show 2≤47;decide) ?_
 (repeat' ((conv=>whnf);first|refine vA ?_|refine vB fun b hb=>?_|refine vC (fun hl=>?_) fun i kv vv hi=>?_|refine vE ?_|refine vG ?_|refine vH ?_|((first|refine vD ?_ ?_|refine vF ?_ ?_|refine vI ?_ ?_)<;>intro hc<;>try simp only [vL] at hc)|refine vJ fun hg=>?_|refine vK fun hg=>?_|refine vT ?_|refine vN ‹_› ?_|(refine vQ ?_ fun x hx=>?_;·first|omega|(simp only [vM] at *;omega))|((first|refine vO ?_ ?_|refine vR ?_ ‹_› ?_|refine vS ?_ fun x hx=>?_|refine vP ?_ ?_);·first|omega|(simp only [vM] at *;omega))|refine vW ⟨by omega,by omega⟩ ?_|(refine vU ?_ ?_;·kernel_rfl)|refine vX ?_|refine vY ?_|refine vZ ?_|refine yD (ziS _ _) ⟨⟨rfl,rfl⟩,⟨rfl,rfl⟩,rfl⟩ rfl ?_|refine za.mk _ ‹_› ?_|refine vP (show (_:BitVec 64)≠_ by decide) ?_));all_goals try conv=>whnf
 ·exact no (.inl ‹_›)
 ·exact no (.inr (.inr fun e=>by have:=congrArg List.length e;omega))
 ·have e1:a.val=b.val:=by simpa using ‹(a.val==b.val)=true›
  refine zk (fun (k:Nat)=>[(2,.ptr 0 0),(3,.ptr 1 0),(5,.d (.int .i64 ((k:Int))))]) (fun (k:Nat)=>[(0,some (zR a)),(1,some (zR b))]) 2 (fun (k:Nat)=>k≤a.rel.length∧(a.rel==b.rel)=(a.rel.drop k==b.rel.drop k)) (fun (k:Nat)=>a.rel.length - k) (0) [(0,0),(1,1)] [] (⟨by simp,by simp⟩) (by (refine ⟨rfl,rfl,rfl,?_,?_⟩;repeat' first|exact trivial|exact rfl|exact ⟨_,rfl⟩|exact .inl rfl|exact .inr (.inl ⟨rfl,rfl⟩)|exact .inr (.inr ⟨rfl,rfl⟩)|refine And.intro ?_ ?_|refine ⟨_,rfl,?_⟩|decide|exact of_decide_eq_true rfl)) ?_
  rintro k ⟨hk,hI⟩
  (repeat' ((conv=>whnf);first|refine vA ?_|refine vB fun b hb=>?_|refine vC (fun hl=>?_) fun i kv vv hi=>?_|refine vE ?_|refine vG ?_|refine vH ?_|((first|refine vD ?_ ?_|refine vF ?_ ?_|refine vI ?_ ?_)<;>intro hc<;>try simp only [vL] at hc)|refine vJ fun hg=>?_|refine vK fun hg=>?_|refine vT ?_|refine vN ‹_› ?_|(refine vQ ?_ fun x hx=>?_;·first|omega|(simp only [vM] at *;omega))|((first|refine vO ?_ ?_|refine vR ?_ ‹_› ?_|refine vS ?_ fun x hx=>?_|refine vP ?_ ?_);·first|omega|(simp only [vM] at *;omega))|refine vW ⟨by omega,by omega⟩ ?_|(refine vU ?_ ?_;·kernel_rfl)|refine vX ?_|refine vY ?_|refine vZ ?_|refine yD (ziS _ _) ⟨⟨rfl,rfl⟩,⟨rfl,rfl⟩,rfl⟩ rfl ?_|refine za.mk _ ‹_› ?_|refine vP (show (_:BitVec 64)≠_ by decide) ?_));all_goals try conv=>whnf
  ·exact ⟨k+1,[(0,0),(1,1)],[],⟨by (first|omega|(simp only [vM] at *;omega)),by rw [hI,zz ‹a.rel[k]? = some _›,zz ‹b.rel[k]? = some _›];simp_all⟩,by (first|omega|(simp only [vM] at *;omega)),by (refine ⟨rfl,rfl,rfl,?_,?_⟩;repeat' first|exact trivial|exact rfl|exact ⟨_,rfl⟩|exact .inl rfl|exact .inr (.inl ⟨rfl,rfl⟩)|exact .inr (.inr ⟨rfl,rfl⟩)|refine And.intro ?_ ?_|refine ⟨_,rfl,?_⟩|decide|exact of_decide_eq_true rfl)⟩
  ·refine no (.inr (.inr fun e=>?_))
   have g1:=‹a.rel[k]? = some _›
   rw [e,hx] at g1
   cases g1
   have:=‹(_==_)=false›
   simp at this
  ·rw [List.drop_eq_nil_of_le (by omega),List.drop_eq_nil_of_le (by omega)] at hI
   have e2:a.rel=b.rel:=by simpa using hI
   rw [decide_eq_true]
   cases a;cases b;simp_all
 ·exact no (.inr (.inl fun e=>by
   have:=‹(a.val==b.val)=false›
   rw [e] at this;simp at this))
end Go.Ab
namespace Go.Ab
theorem zuP {n:Nat} {fa fb:Nat→Int} {R R':zaG} (hl:R'.length=R.length) {f:Nat→Nat} (hf:Ren n f) :
  (∀ v,v < n→fa v=fb (f v) ∧ ∀ u,u≤v→zgt R R' f v u=true)↔zcR n fa fb R R' f:=by
 constructor
 ·intro h
  refine ⟨hf,fun w hw=>(h w hw).1.symm,⟨hl,fun i r r' h1 h2 v w hv hw=>?_⟩⟩
  by_cases e:w≤v
  ·have:=(zeg hl).1 ((h v hv).2 w e) i r r' h1 h2
   simp only [Bool.and_eq_true,beq_iff_eq] at this
   exact this.1.symm
  ·have:=(zeg hl).1 ((h w hw).2 v (by omega)) i r r' h1 h2
   simp only [Bool.and_eq_true,beq_iff_eq] at this
   exact this.2.symm
 ·intro h v hv
  refine ⟨(h.fac v hv).symm,fun u hu=>(zeg hl).2 fun i r r' h1 h2=>?_⟩
  simp only [Bool.and_eq_true,beq_iff_eq]
  exact ⟨(h.rel.rel i r r' h1 h2 v u hv (by omega)).symm,(h.rel.rel i r r' h1 h2 u v (by omega) hv).symm⟩
theorem ztE {a b:KM} (ha:zj a=0) (hb:zj b=0) (hW:a.W=b.W) (hv:a.val.length=b.val.length) (hr:a.rel.length=b.rel.length) {to:List Int} (h:z1 to a.W.toNat=true) :
  zcq a (zbB to a.W.toNat)=b↔zcR a.W.toNat (zS a) (zS b) (zu a) (zu b) (toF to):=by
 have ga:=zw ha
 have w1:=ga.w1;have w2:=ga.w2
 have hi:=zve ha h
 have hl:(zbB to a.W.toNat).length=a.W.toNat:=zko _ _
 constructor
 ·rintro rfl;exact hi
 ·intro hb'
  have hab:=hi.inv.comp hb'
  have hid : ∀ w,w < a.W.toNat→toF to (zhb a.W.toNat (toF to) w)=w:=fun w hw=>(zfe hi.ren hw).2
  have e1:(zcq a (zbB to a.W.toNat)).W=a.W:=by show ((zbB to a.W.toNat).length:Int)=a.W;rw [hl];omega
  refine zvL (ztc ga (by omega) (by omega)) (zw hb) (by rw [e1];exact hW) (by simpa [zcq] using hv) (by simpa [zcq] using hr) (fun w hw=>?_) (fun i r r' h1 h2 v w hv hw=>?_)
  ·rw [e1] at hw
   have:=hab.fac w hw
   rw [hid w hw] at this;exact this.symm
  ·rw [e1] at hv hw
   have:=hab.rel.rel i r r' h1 h2 v w hv hw
   rw [hid v hv,hid w hw] at this;exact this.symm
def z7 (a b:KM):Int:=if zj a≠0 then zj a else if zj b≠0 then zj b else if a.rel.length≠b.rel.length∨a.val.length≠b.val.length then 1 else 0
theorem zg0 {a b:KM} (h:z7 a b=0):zj a=0∧zj b=0∧a.rel.length=b.rel.length∧a.val.length=b.val.length:=by
 unfold z7 at h
 split at h
 ·contradiction
 ·split at h
  ·contradiction
  ·split at h
   ·cases h
   ·rename_i h1 h2 h3;exact ⟨by omega,by omega,by omega,by omega⟩
def zmM (a b:KM) (to:List Int):Bool:=(List.range a.W.toNat).all fun v=>zS a v==zS b (toF to v)&&(List.range (v+1)).all fun u=>zgt (zu a) (zu b) (toF to) v u
def zaJ (a b:KM) (to:List Int):Int:=if z7 a b≠0 then z7 a b else if a.W≠b.W then 1 else if z1 to a.W.toNat=false then 3 else if zmM a b to=true then 0 else 13
theorem ztD {a b:KM} (hl:b.rel.length=a.rel.length) {to:List Int} (h:z1 to a.W.toNat=true):zmM a b to=true↔zcR a.W.toNat (zS a) (zS b) (zu a) (zu b) (toF to):=by
 rw [← zuP (by rw [ziG,ziG];exact hl) (zgu h)]
 unfold zmM
 simp only [List.all_eq_true,List.mem_range,Bool.and_eq_true,beq_iff_eq]
 exact ⟨fun k v hv=>⟨(k v hv).1,fun u hu=>(k v hv).2 u (by omega)⟩,fun k v hv=>⟨(k v hv).1,fun u hu=>(k v hv).2 u (by omega)⟩⟩
theorem zwp {n:Nat} {q:Nat→Nat} (h:Ren n q):z1 (ptL n q) n=true:=by
 rw [zbl]
 refine ⟨zks,fun x hx=>?_,?_⟩
 ·obtain ⟨w,hw,rfl⟩:=List.mem_map.1 hx
  have:=h.lt w (List.mem_range.1 hw);omega
 ·unfold ptL
  rw [List.Nodup,List.pairwise_map]
  exact List.Pairwise.imp_of_mem (fun {a b} ha hb hab e=>hab (h.inj a b (List.mem_range.1 ha) (List.mem_range.1 hb) (by omega))) List.nodup_range
theorem zws {n:Nat} {q:Nat→Nat} {w:Nat} (hw:w < n):toF (ptL n q) w=q w:=by
 have:at0 (ptL n q) w=((q w:Nat):Int):=zog (zez hw)
 unfold toF;omega
end Go.Ab
namespace Go.Proofs
def Tryz.lays129_ren:Go.Shelf.Ren:=⟨fun|129=>92|n=>n,fun|53=>45|3=>3|4=>4|46=>56|5=>5|9=>9|n=>n,fun|n=>n⟩
theorem Tryz.lays129:Go.Proofs.Lays.n129 Tryz.prog Tryz.lays129_ren := {
 mixed:=by kernel_rfl
 f129:=Tryz.func92.trans (congrArg some (by kernel_rfl))
 t3:=Tryz.underlying3
 a3:=Tryz.isAgg3
 z3:=Tryz.sizeOf3
 v3:=Tryz.zeroValue3
 t4:=Tryz.underlying4
 a4:=Tryz.isAgg4
 z4:=Tryz.sizeOf4
 v4:=Tryz.zeroValue4
 t5:=Tryz.underlying5
 a5:=Tryz.isAgg5
 z5:=Tryz.sizeOf5
 v5:=Tryz.zeroValue5
 t9:=Tryz.underlying9
 a9:=Tryz.isAgg9
 z9:=Tryz.sizeOf9
 v9:=Tryz.zeroValue9
 t46:=Tryz.underlying56
 a46:=Tryz.isAgg56
 z46:=Tryz.sizeOf56
 v46:=Tryz.zeroValue56
 t53:=Tryz.underlying45
 a53:=Tryz.isAgg45
 z53:=Tryz.sizeOf45
 v53:=Tryz.zeroValue45 }
end Go.Proofs
namespace Go.Ab
open Go Go.Proofs
set_option maxRecDepth 10000
set_option maxHeartbeats 4000000
variable {T:Nat→Obj→Prop}
theorem zqP:zcd Tryz.prog zfH:=⟨_,Tryz.func92,by kernel_rfl,by kernel_rfl⟩
theorem ztx (x:BitVec 64):Fn Tryz.prog T zfH [.d (.u64 x)] [] (.d (.int .i64 (Sort.bitsLen x.toNat:Int))) []:=by
 refine zqi (ds:=[.u64 x]) zqP fun w args hw hsz hargs=>?_
 obtain ⟨X,hX⟩:=hargs 0 (by simp)
 have ha:args = #[.int .u64 (x.toNat:Int)]:=by
  have h0:args.getD 0 undef = .int .u64 (x.toNat:Int):=by
   generalize args.getD 0 undef=y at hX
   cases hX;rfl
  obtain ⟨l⟩:=args
  match l,hsz with
  | [y],_=>rw [← h0];rfl
 rw [ha]
 have:=Any.bits_Len64 Tryz.lays129 (x.toNat:Int) w (by omega) (by have:=x.isLt;omega)
 refine this.mono fun e w' he=>⟨_,he.1,he.2,fun X=>?_⟩
 rw [Int.toNat_natCast,Go.Proofs.bitLen_eq _ x.isLt]
 exact .int _ _ (by decide)
theorem zoG (x:BitVec 64):Fn Tryz.prog T zcY [.d (.u64 x)] [] (.d (.int .i64 (Sort.bitsLen x.toNat:Int))) []:=by
 refine zg zp zmg (by show 1≤8;decide) ?_
 (repeat' ((conv=>whnf);first|refine vT ?_|refine vX ?_|refine yD (ztx _) ⟨⟨rfl,rfl⟩,rfl⟩ rfl ?_));all_goals try conv=>whnf
end Go.Ab
namespace Go.Ab
open Go Go.Proofs
set_option maxRecDepth 10000
set_option maxHeartbeats 4000000
section
variable {α:Type} [Inhabited α] [DecidableEq α]
def ddA (d:Array α):Nat→List α
 | 0=>[]
 | n+1=>if 0 < n∧d[n]! = d[n - 1]! then ddA d n else ddA d n++[d[n]!]
def Steps (d:Array α):Prop := ∀ j,0 < j→j < d.size→d[j]! ≠ d[j - 1]!
theorem zsS {d:Array α} {n:Nat} (h:n < d.size):d.toList.take (n+1)=d.toList.take n++[d[n]!]:=by
 rw [List.take_add_one,zbv h];rfl
theorem zmE {d:Array α} : ∀ {n:Nat},n≤d.size→(∀ j,0 < j→j < n→d[j]! ≠ d[j - 1]!)→ddA d n=d.toList.take n
 | 0,_,_=>rfl
 | n+1,h,hs=>by
  rw [ddA,if_neg (fun hh=>hs n hh.1 (by omega) hh.2),zmE (by omega) (fun j h0 h1=>hs j h0 (by omega)),zsS (by omega)]
theorem ztp {d:Array α} {k:Nat} (h0:0 < k) (h1:k < d.size) (hk : ∀ j,0 < j→j < k→d[j]! ≠ d[j - 1]!) (he:d[k]! = d[k - 1]!):d.toList.take k=ddA d (k+1):=by
 rw [ddA,if_pos ⟨h0,he⟩,zmE (by omega) hk]
theorem zt6 {e:Array α} {a:Nat} {x:α} (h:a < e.size):(e.setIfInBounds a x).toList.take (a+1)=e.toList.take a++[x]:=by
 have hl:a < e.toList.length:=by simpa using h
 rw [Array.toList_setIfInBounds,List.take_add_one,List.getElem?_set_self hl,List.take_set_of_le (Nat.le_refl a)];rfl
theorem zvi {e:Array α} {a j:Nat} {x:α} (h:a≠j):(e.setIfInBounds a x)[j]! = e[j]! := by
 simp [getElem!_def,Array.getElem?_setIfInBounds_ne h]
theorem zuM {d:Array α} {n:Nat} (h:0 < n) (he:d[n]! = d[n - 1]!):ddA d (n+1)=ddA d n:=by rw [ddA,if_pos ⟨h,he⟩]
theorem zvF {d:Array α} {n:Nat} (he:d[n]! ≠ d[n - 1]!):ddA d (n+1)=ddA d n++[d[n]!]:=by rw [ddA,if_neg (fun h=>he h.2)]
theorem zuL {enc:α→D} {e:Array α} {z:D} {a n:Nat} (h:a≤e.size):((List.take a (e.toList.map enc))++(List.replicate n z++List.drop (a+n) (e.toList.map enc))).take a=(e.toList.take a).map enc:=by
 rw [List.take_append_of_le_length (by simp;omega),List.take_take,Nat.min_self,List.map_take]
end
end Go.Ab
namespace Go.Ab
section
variable {α:Type} [Inhabited α] [DecidableEq α]
theorem zeT {d:Array α} {x:α} : ∀ {n:Nat},x∈ddA d n ↔ ∃ i,i < n∧d[i]! = x
 | 0=>by simp [ddA]
 | n+1=>by
  rw [ddA]
  constructor
  ·intro h
   split at h
   ·obtain ⟨i,h1,h2⟩:=zeT.1 h
    exact ⟨i,by omega,h2⟩
   ·rcases List.mem_append.1 h with h|h
    ·obtain ⟨i,h1,h2⟩:=zeT.1 h
     exact ⟨i,by omega,h2⟩
    ·exact ⟨n,by omega,by simp at h;exact h.symm⟩
  ·rintro ⟨i,h1,h2⟩
   split
   ·rename_i hc
    by_cases e:i=n
    ·subst e
     exact zeT.2 ⟨i - 1,by omega,by rw [← hc.2];exact h2⟩
    ·exact zeT.2 ⟨i,by omega,h2⟩
   ·by_cases e:i=n
    ·subst e;exact List.mem_append.2 (.inr (by simp [h2]))
    ·exact List.mem_append.2 (.inl (zeT.2 ⟨i,by omega,h2⟩))
theorem zk4 {lt:α→α→Bool} {d:Array α} (hs : ∀ i j,i < j→j < d.size→lt d[j]! d[i]! = false) (tri : ∀ x y,lt x y=false→lt y x=false→x=y) : ∀ {n:Nat},n≤d.size→(ddA d n).Pairwise fun x y=>lt x y=true
 | 0,_=>List.Pairwise.nil
 | n+1,h=>by
  rw [ddA]
  split
  ·exact zk4 hs tri (by omega)
  ·rename_i hc
   refine List.pairwise_append.2 ⟨zk4 hs tri (by omega),List.pairwise_singleton _ _,fun x hx y hy=>?_⟩
   obtain ⟨i,hi,rfl⟩:=zeT.1 hx
   have hy:y=d[n]! := by simpa using hy
   subst hy
   cases hb:lt d[i]! d[n]! with
   | true=>rfl
   | false =>
    have e1:=tri _ _ hb (hs i n hi (by omega))
    refine absurd ⟨by omega,?_⟩ hc
    by_cases e:i=n - 1
    ·rw [← e];exact e1.symm
    ·refine (tri _ _ ?_ ?_)
     ·exact hs (n - 1) n (by omega) (by omega)
     ·rw [← e1];exact hs i (n - 1) (by omega) (by omega)
end
def ltT (x y:Tup):Bool:=decide (zab x y < 0)
theorem zf1 {x y:Tup} : ltT x y=true↔zab x y < 0:=by simp [ltT]
theorem zoT {x y:Tup} : ltT x y=false↔0≤zab x y:=by simp [ltT]
theorem zvU:Sort.SWO ltT:=by
 refine ⟨fun x=>zoT.2 (by rw [z2.refl];omega),fun x y z h1 h2=>zf1.2 (z2.tr (zf1.1 h1) (zf1.1 h2)),fun x y z h1 h2=>?_⟩
 rw [zoT] at *
 have a1:=z2.anti x y
 have a2:=z2.anti y z
 have a3:=z2.anti x z
 by_cases e1:zab x y=0
 ·rw [z2.zero.1 e1];exact h2
 ·by_cases e2:zab y z=0
  ·rw [← z2.zero.1 e2];exact h1
  ·have:=z2.tr (x:=z) (y:=y) (z:=x) (by omega) (by omega)
   omega
theorem zjF {α:Type} {p:α→Bool} : ∀ {S:List α} {i:Nat},i≤S.length→(∀ (k:Nat) x,k < i→S[k]? = some x→p x=true)→(∀ (k:Nat) x,i≤k→S[k]? = some x→p x=false)→(S.filter p).length=i
 | [],i,hi,_,_=>by simp at hi;simp [hi]
 | a::S,0,hi,h1,h2=>by
  have:(a::S).filter p=[]:=by
   rw [List.filter_eq_nil_iff]
   intro x hx
   obtain ⟨k,hk⟩:=List.getElem?_of_mem hx
   rw [h2 k x (by omega) hk];simp
  rw [this];rfl
 | a::S,i+1,hi,h1,h2=>by
  rw [List.filter_cons_of_pos (h1 0 a (by omega) rfl),List.length_cons,zjF (i:=i) (by simpa using hi) (fun k x hk hx=>h1 (k+1) x (by omega) (by simpa using hx)) fun k x hk hx=>h2 (k+1) x (by omega) (by simpa using hx)]
structure zbR (ts S:List Tup):Prop where
 pw:S.Pairwise fun x y=>zab x y < 0
 mem : ∀ x,x∈S↔x∈ts
theorem zbR.nodup {ts S:List Tup} (h:zbR ts S):S.Nodup:=h.pw.imp fun {a b} h e=>by subst e;rw [z2.refl] at h;omega
theorem zbR.cnt {ts S:List Tup} (h:zbR ts S):S.length=cnN ts:=zup h.nodup h.mem
theorem zbR.le {ts S:List Tup} (h:zbR ts S):S.length≤ts.length:=zb6 h.nodup fun x hx=>(h.mem x).1 hx
theorem zbR.rk {ts S:List Tup} (h:zbR ts S) {t:Tup} {i:Nat} (hi:i≤S.length) (h1 : ∀ (k:Nat) x,k < i→S[k]? = some x→zab x t < 0) (h2 : ∀ (k:Nat) x,i≤k→S[k]? = some x → ¬zab x t < 0):i=rkN ts t:=by
 rw [← zrm h.nodup h.mem]
 exact (zjF hi (fun k x hk hx=>decide_eq_true (h1 k x hk hx)) fun k x hk hx=>decide_eq_false (h2 k x hk hx)).symm
theorem zbR.lt_of {ts S:List Tup} (h:zbR ts S) {t:Tup} {i k:Nat} {x y:Tup} (hx:S[i]? = some x) (hy:S[k]? = some y) (hik:k≤i) (hl:zab x t < 0):zab y t < 0:=by
 by_cases e:k=i
 ·subst e;rw [hx] at hy;cases hy;exact hl
 ·obtain ⟨a,b⟩:=List.getElem?_eq_some_iff.1 hx
  obtain ⟨c,d⟩:=List.getElem?_eq_some_iff.1 hy
  have:=List.pairwise_iff_getElem.1 h.pw k i c a (by omega)
  rw [b,d] at this
  exact z2.tr this hl
theorem znG (d:Array Tup):(Sort.sort ltT d).toList.Perm d.toList:=by
 obtain ⟨⟨h1,-,h2⟩,-⟩:=Sort.sort_sorts ltT zvU d
 have e1:(Sort.sort ltT d).extract 0 d.size=Sort.sort ltT d:=by rw [← h1];simp
 have e2:d.extract 0 d.size=d:=by simp
 rwa [e1,e2] at h2
theorem zrt {ts:List Tup} {S:Array Tup} (hS:S=Sort.sort ltT ts.toArray):zbR ts (ddA S S.size):=by
 subst hS
 obtain ⟨⟨h1,-,-⟩,h3⟩:=Sort.sort_sorts _ zvU ts.toArray
 have hp:=znG ts.toArray
 generalize Sort.sort ltT ts.toArray=S at h1 h3 hp
 refine ⟨?_,fun x=>?_⟩
 ·refine (zk4 (fun i j hij hj=>h3 i j (Nat.zero_le _) hij (by rw [← h1];exact hj)) (fun x y h1 h2=>z2.zero.1 (by rw [zoT] at h1 h2;have:=z2.anti x y;omega)) (Nat.le_refl _)).imp fun h=>zf1.1 h
 ·rw [zeT]
  have:=hp.mem_iff (a:=x)
  rw [show ts.toArray.toList=ts from rfl] at this
  rw [← this]
  constructor
  ·rintro ⟨i,hi,rfl⟩;exact List.mem_of_getElem? (zbv hi)
  ·intro hx
   obtain ⟨i,hi⟩:=List.getElem?_of_mem hx
   exact ⟨i,(zdJ hi).2,(zdJ hi).1⟩
end Go.Ab
namespace Go.Ab
open Go Go.Proofs
set_option maxRecDepth 10000
set_option maxHeartbeats 4000000
variable {T:Nat→Obj→Prop}
theorem zdq (a b:Int):Fn Tryz.prog T zba [.d (.int .i64 a),.d (.int .i64 b)] [] (.d (.int .i64 (zaa a b))) []:=by
 have hn : ∀ z:Int,Fn Tryz.prog T zdT [.d (.int .i64 z)] [] (.d (.bool false)) []:=fun z=>by
  refine zg zp zgm (by show 1≤6;decide) ?_
  (repeat' ((conv=>whnf);first|refine vA ?_|refine vB fun b hb=>?_|refine vC (fun hl=>?_) fun i kv vv hi=>?_|refine vE ?_|refine vG ?_|refine vH ?_|((first|refine vD ?_ ?_|refine vF ?_ ?_|refine vI ?_ ?_)<;>intro hc<;>try simp only [vL] at hc)|refine vJ fun hg=>?_|refine vK fun hg=>?_|refine vT ?_|refine vN ‹_› ?_|(refine vQ ?_ fun x hx=>?_;·first|omega|(simp only [vM] at *;omega))|((first|refine vO ?_ ?_|refine vR ?_ ‹_› ?_|refine vS ?_ fun x hx=>?_|refine vP ?_ ?_);·first|omega|(simp only [vM] at *;omega))|refine vW ⟨by omega,by omega⟩ ?_|(refine vU ?_ ?_;·kernel_rfl)|refine vX ?_|refine vY ?_|refine vZ ?_|refine za.mk _ ‹_› ?_|refine vP (show (_:BitVec 64)≠_ by decide) ?_));all_goals try conv=>whnf
  simp
 refine zg zp zjN (by show 2≤20;decide) ?_
 (repeat' ((conv=>whnf);first|refine vA ?_|refine vB fun b hb=>?_|refine vC (fun hl=>?_) fun i kv vv hi=>?_|refine vE ?_|refine vG ?_|refine vH ?_|((first|refine vD ?_ ?_|refine vF ?_ ?_|refine vI ?_ ?_)<;>intro hc<;>try simp only [vL] at hc)|refine vJ fun hg=>?_|refine vK fun hg=>?_|refine vT ?_|refine vN ‹_› ?_|(refine vQ ?_ fun x hx=>?_;·first|omega|(simp only [vM] at *;omega))|((first|refine vO ?_ ?_|refine vR ?_ ‹_› ?_|refine vS ?_ fun x hx=>?_|refine vP ?_ ?_);·first|omega|(simp only [vM] at *;omega))|refine vW ⟨by omega,by omega⟩ ?_|(refine vU ?_ ?_;·kernel_rfl)|refine vX ?_|refine vY ?_|refine vZ ?_|refine yD (hn _) (by (repeat refine ⟨⟨rfl,rfl⟩,?_⟩);rfl) rfl ?_|refine yN (hn _) (by (repeat refine ⟨⟨rfl,rfl⟩,?_⟩);rfl) ?_|refine za.mk _ ‹_› ?_|refine vP (show (_:BitVec 64)≠_ by decide) ?_));all_goals try conv=>whnf
 all_goals (unfold zaa;first|rw [if_pos ‹_›]|(rw [if_neg (by omega)];first|rw [if_pos ‹_›]|rw [if_neg (by omega)])|skip)
theorem zom {α:Type} {c:α→α→Int} {a b:List α} {k:Nat} (h:k=min a.length b.length):zL c (a.drop k) (b.drop k)=zaa (a.length:Int) (b.length:Int):=by
 rcases Nat.lt_trichotomy a.length b.length with h1|h1|h1
 ·rw [List.drop_eq_nil_of_le (show a.length≤k by omega)]
  obtain ⟨x,hx⟩ : ∃ x,b[k]? = some x:=⟨_,List.getElem?_eq_getElem (by omega)⟩
  rw [zz hx,zL,zaa,if_pos (by omega)]
 ·rw [List.drop_eq_nil_of_le (show a.length≤k by omega),List.drop_eq_nil_of_le (show b.length≤k by omega),zL,zaa,if_neg (by omega),if_neg (by omega)]
 ·rw [List.drop_eq_nil_of_le (show b.length≤k by omega)]
  obtain ⟨x,hx⟩ : ∃ x,a[k]? = some x:=⟨_,List.getElem?_eq_getElem (by omega)⟩
  rw [zz hx,zL,zaa,if_neg (by omega),if_pos (by omega)]
theorem zmL (a b:List Int) (ha:a.length≤1000000):Fn Tryz.prog T zdx [.d (dI a),.d (dI b),.d (.fn zba [])] [] (.d (.int .i64 (zL zaa a b))) []:=by
 refine zg zp zgJ (by show 3≤36;decide) ?_
 (repeat' ((conv=>whnf);first|refine vA ?_|refine vB fun b hb=>?_|refine vC (fun hl=>?_) fun i kv vv hi=>?_|refine vE ?_|refine vG ?_|refine vH ?_|((first|refine vD ?_ ?_|refine vF ?_ ?_|refine vI ?_ ?_)<;>intro hc<;>try simp only [vL] at hc)|refine vJ fun hg=>?_|refine vK fun hg=>?_|refine vT ?_|refine vN ‹_› ?_|(refine vQ ?_ fun x hx=>?_;·first|omega|(simp only [vM] at *;omega))|((first|refine vO ?_ ?_|refine vR ?_ ‹_› ?_|refine vS ?_ fun x hx=>?_|refine vP ?_ ?_);·first|omega|(simp only [vM] at *;omega))|refine vW ⟨by omega,by omega⟩ ?_|(refine vU ?_ ?_;·kernel_rfl)|refine vX ?_|refine vY ?_|refine vZ ?_|refine za.mk _ ‹_› ?_|refine vP (show (_:BitVec 64)≠_ by decide) ?_));all_goals try conv=>whnf
 refine zaE (fun (k:Nat)=>[(0,.d (dI a)),(1,.d (dI b)),(2,.d (.fn zba [])),(13,.d (.int .i64 ((min ((a.map (D.int .i64)).length:Int) ((b.map (D.int .i64)).length:Int))))),(14,.d (.int .i64 ((k:Int))))]) (fun (k:Nat)=>k≤a.length∧k≤b.length∧zL zaa a b=zL zaa (a.drop k) (b.drop k)) (fun (k:Nat)=>a.length - k) (0) (⟨by simp,by simp,rfl⟩) (by (repeat' first|exact trivial|exact rfl|exact ⟨_,rfl⟩|exact .inl rfl|exact .inr (.inl ⟨rfl,rfl⟩)|exact .inr (.inr ⟨rfl,rfl⟩)|refine And.intro ?_ ?_|refine ⟨_,rfl,?_⟩|decide|exact of_decide_eq_true rfl)) ?_
 rintro k ⟨hk,hk2,hI⟩
 by_cases hkl:k < a.length∧k < b.length
 ·obtain ⟨x,hx⟩ : ∃ x,a[k]? = some x:=⟨_,List.getElem?_eq_getElem hkl.1⟩
  obtain ⟨y,hy⟩ : ∃ y,b[k]? = some y:=⟨_,List.getElem?_eq_getElem hkl.2⟩
  have hs:zL zaa a b=if zaa x y=0 then zL zaa (a.drop (k+1)) (b.drop (k+1)) else zaa x y:=by rw [hI,zz hx,zz hy,zL]
  (repeat' ((conv=>whnf);first|refine vA ?_|refine vB fun b hb=>?_|refine vC (fun hl=>?_) fun i kv vv hi=>?_|refine vE ?_|refine vG ?_|refine vH ?_|((first|refine vD ?_ ?_|refine vF ?_ ?_|refine vI ?_ ?_)<;>intro hc<;>try simp only [vL] at hc)|refine vJ fun hg=>?_|refine vK fun hg=>?_|refine vT ?_|refine vN ‹_› ?_|(refine vQ ?_ fun x hx=>?_;·first|omega|(simp only [vM] at *;omega))|((first|refine vO ?_ ?_|refine vR ?_ ‹_› ?_|refine vS ?_ fun x hx=>?_|refine vP ?_ ?_);·first|omega|(simp only [vM] at *;omega))|refine vW ⟨by omega,by omega⟩ ?_|(refine vU ?_ ?_;·kernel_rfl)|refine vX ?_|refine vY ?_|refine vZ ?_|refine yD (zdq _ _) ⟨⟨rfl,rfl⟩,⟨rfl,rfl⟩,rfl⟩ rfl ?_|refine za.mk _ ‹_› ?_|refine vP (show (_:BitVec 64)≠_ by decide) ?_));all_goals try conv=>whnf
  ·rw [hs,if_neg hc]
  ·exact ⟨k+1,[],[],⟨by omega,by omega,by rw [hs,if_pos hc]⟩,by (first|omega|(simp only [vM] at *;omega)),by (refine ⟨rfl,rfl,rfl,?_,?_⟩;repeat' first|exact trivial|exact rfl|exact ⟨_,rfl⟩|exact .inl rfl|exact .inr (.inl ⟨rfl,rfl⟩)|exact .inr (.inr ⟨rfl,rfl⟩)|refine And.intro ?_ ?_|refine ⟨_,rfl,?_⟩|decide|exact of_decide_eq_true rfl)⟩
  ·omega
 ·(repeat' ((conv=>whnf);first|refine vA ?_|refine vB fun b hb=>?_|refine vC (fun hl=>?_) fun i kv vv hi=>?_|refine vE ?_|refine vG ?_|refine vH ?_|((first|refine vD ?_ ?_|refine vF ?_ ?_|refine vI ?_ ?_)<;>intro hc<;>try simp only [vL] at hc)|refine vJ fun hg=>?_|refine vK fun hg=>?_|refine vT ?_|refine vN ‹_› ?_|(refine vQ ?_ fun x hx=>?_;·first|omega|(simp only [vM] at *;omega))|((first|refine vO ?_ ?_|refine vR ?_ ‹_› ?_|refine vS ?_ fun x hx=>?_|refine vP ?_ ?_);·first|omega|(simp only [vM] at *;omega))|refine vW ⟨by omega,by omega⟩ ?_|(refine vU ?_ ?_;·kernel_rfl)|refine vX ?_|refine vY ?_|refine vZ ?_|refine yD (zdq _ _) ⟨⟨rfl,rfl⟩,⟨rfl,rfl⟩,rfl⟩ rfl ?_|refine za.mk _ ‹_› ?_|refine vP (show (_:BitVec 64)≠_ by decide) ?_));all_goals try conv=>whnf
  iterate 2 (exfalso;omega)
  ·rw [hI,zom (by omega),List.length_map,List.length_map]
def Sml (t:Tup):Prop:=t.length≤1000 ∧ ∀ r∈t,r.length≤1000
theorem zrV (x y:List Int) (h:x.length≤1000000):Fn Tryz.prog T zbb [.d (dI x),.d (dI y)] [] (.d (.int .i64 (zL zaa x y))) []:=by
 refine zg zp zjP (by show 2≤8;decide) ?_
 (repeat' ((conv=>whnf);first|refine vA ?_|refine vB fun b hb=>?_|refine vC (fun hl=>?_) fun i kv vv hi=>?_|refine vE ?_|refine vG ?_|refine vH ?_|((first|refine vD ?_ ?_|refine vF ?_ ?_|refine vI ?_ ?_)<;>intro hc<;>try simp only [vL] at hc)|refine vJ fun hg=>?_|refine vK fun hg=>?_|refine vT ?_|refine vN ‹_› ?_|(refine vQ ?_ fun x hx=>?_;·first|omega|(simp only [vM] at *;omega))|((first|refine vO ?_ ?_|refine vR ?_ ‹_› ?_|refine vS ?_ fun x hx=>?_|refine vP ?_ ?_);·first|omega|(simp only [vM] at *;omega))|refine vW ⟨by omega,by omega⟩ ?_|(refine vU ?_ ?_;·kernel_rfl)|refine vX ?_|refine vY ?_|refine vZ ?_|refine yD (zmL x y h) ⟨⟨rfl,rfl⟩,⟨rfl,rfl⟩,⟨rfl,rfl⟩,rfl⟩ rfl ?_|refine za.mk _ ‹_› ?_|refine vP (show (_:BitVec 64)≠_ by decide) ?_));all_goals try conv=>whnf
theorem zoI (a b:Tup) (ha:a.length≤1000000) (hb : ∀ r∈a,r.length≤1000000):Fn Tryz.prog T zdd [.d (dII a),.d (dII b),.d (.fn zbb [])] [] (.d (.int .i64 (zL (zL zaa) a b))) []:=by
 refine zg zp zgo (by show 3≤36;decide) ?_
 (repeat' ((conv=>whnf);first|refine vA ?_|refine vB fun b hb=>?_|refine vC (fun hl=>?_) fun i kv vv hi=>?_|refine vE ?_|refine vG ?_|refine vH ?_|((first|refine vD ?_ ?_|refine vF ?_ ?_|refine vI ?_ ?_)<;>intro hc<;>try simp only [vL] at hc)|refine vJ fun hg=>?_|refine vK fun hg=>?_|refine vT ?_|refine vN ‹_› ?_|(refine vQ ?_ fun x hx=>?_;·first|omega|(simp only [vM] at *;omega))|((first|refine vO ?_ ?_|refine vR ?_ ‹_› ?_|refine vS ?_ fun x hx=>?_|refine vP ?_ ?_);·first|omega|(simp only [vM] at *;omega))|refine vW ⟨by omega,by omega⟩ ?_|(refine vU ?_ ?_;·kernel_rfl)|refine vX ?_|refine vY ?_|refine vZ ?_|refine za.mk _ ‹_› ?_|refine vP (show (_:BitVec 64)≠_ by decide) ?_));all_goals try conv=>whnf
 refine zaE (fun (k:Nat)=>[(0,.d (dII a)),(1,.d (dII b)),(2,.d (.fn zbb [])),(13,.d (.int .i64 ((min ((a.map dI).length:Int) ((b.map dI).length:Int))))),(14,.d (.int .i64 ((k:Int))))]) (fun (k:Nat)=>k≤a.length∧k≤b.length∧zL (zL zaa) a b=zL (zL zaa) (a.drop k) (b.drop k)) (fun (k:Nat)=>a.length - k) (0) (⟨by simp,by simp,rfl⟩) (by (repeat' first|exact trivial|exact rfl|exact ⟨_,rfl⟩|exact .inl rfl|exact .inr (.inl ⟨rfl,rfl⟩)|exact .inr (.inr ⟨rfl,rfl⟩)|refine And.intro ?_ ?_|refine ⟨_,rfl,?_⟩|decide|exact of_decide_eq_true rfl)) ?_
 rintro k ⟨hk,hk2,hI⟩
 by_cases hkl:k < a.length∧k < b.length
 ·obtain ⟨x,hx⟩ : ∃ x,a[k]? = some x:=⟨_,List.getElem?_eq_getElem hkl.1⟩
  obtain ⟨y,hy⟩ : ∃ y,b[k]? = some y:=⟨_,List.getElem?_eq_getElem hkl.2⟩
  have hs:zL (zL zaa) a b=if (zL zaa) x y=0 then zL (zL zaa) (a.drop (k+1)) (b.drop (k+1)) else (zL zaa) x y:=by rw [hI,zz hx,zz hy,zL]
  have cA:=zrV (T:=T) x y (hb x (List.mem_of_getElem? hx))
  (repeat' ((conv=>whnf);first|refine vA ?_|refine vB fun b hb=>?_|refine vC (fun hl=>?_) fun i kv vv hi=>?_|refine vE ?_|refine vG ?_|refine vH ?_|((first|refine vD ?_ ?_|refine vF ?_ ?_|refine vI ?_ ?_)<;>intro hc<;>try simp only [vL] at hc)|refine vJ fun hg=>?_|refine vK fun hg=>?_|refine vT ?_|refine vN ‹_› ?_|(refine vQ ?_ fun x hx=>?_;·first|omega|(simp only [vM] at *;omega))|((first|refine vO ?_ ?_|refine vR ?_ ‹_› ?_|refine vS ?_ fun x hx=>?_|refine vP ?_ ?_);·first|omega|(simp only [vM] at *;omega))|refine vW ⟨by omega,by omega⟩ ?_|(refine vU ?_ ?_;·kernel_rfl)|refine vX ?_|refine vY ?_|refine vZ ?_|refine yD cA ⟨⟨rfl,rfl⟩,⟨rfl,rfl⟩,rfl⟩ rfl ?_|refine yD (zdq _ _) ⟨⟨rfl,rfl⟩,⟨rfl,rfl⟩,rfl⟩ rfl ?_|refine za.mk _ ‹_› ?_|refine vP (show (_:BitVec 64)≠_ by decide) ?_));all_goals try conv=>whnf
  ·rw [hs,if_neg hc]
  ·exact ⟨k+1,[],[],⟨by omega,by omega,by rw [hs,if_pos hc]⟩,by (first|omega|(simp only [vM] at *;omega)),by (refine ⟨rfl,rfl,rfl,?_,?_⟩;repeat' first|exact trivial|exact rfl|exact ⟨_,rfl⟩|exact .inl rfl|exact .inr (.inl ⟨rfl,rfl⟩)|exact .inr (.inr ⟨rfl,rfl⟩)|refine And.intro ?_ ?_|refine ⟨_,rfl,?_⟩|decide|exact of_decide_eq_true rfl)⟩
  ·omega
 ·(repeat' ((conv=>whnf);first|refine vA ?_|refine vB fun b hb=>?_|refine vC (fun hl=>?_) fun i kv vv hi=>?_|refine vE ?_|refine vG ?_|refine vH ?_|((first|refine vD ?_ ?_|refine vF ?_ ?_|refine vI ?_ ?_)<;>intro hc<;>try simp only [vL] at hc)|refine vJ fun hg=>?_|refine vK fun hg=>?_|refine vT ?_|refine vN ‹_› ?_|(refine vQ ?_ fun x hx=>?_;·first|omega|(simp only [vM] at *;omega))|((first|refine vO ?_ ?_|refine vR ?_ ‹_› ?_|refine vS ?_ fun x hx=>?_|refine vP ?_ ?_);·first|omega|(simp only [vM] at *;omega))|refine vW ⟨by omega,by omega⟩ ?_|(refine vU ?_ ?_;·kernel_rfl)|refine vX ?_|refine vY ?_|refine vZ ?_|refine yD (zdq _ _) ⟨⟨rfl,rfl⟩,⟨rfl,rfl⟩,rfl⟩ rfl ?_|refine za.mk _ ‹_› ?_|refine vP (show (_:BitVec 64)≠_ by decide) ?_));all_goals try conv=>whnf
  ·exfalso;omega
  ·rw [hI,zom (by omega),List.length_map,List.length_map]
theorem zgj (x y:Tup) (h:Sml x):Fn Tryz.prog T zG [.d (dII x),.d (dII y)] [] (.d (.int .i64 (zab x y))) []:=by
 have cB:=zoI (T:=T) x y (by have:=h.1;omega) (fun r hr=>by have:=h.2 r hr;omega)
 refine zg zp zlj (by show 2≤8;decide) ?_
 (repeat' ((conv=>whnf);first|refine vA ?_|refine vB fun b hb=>?_|refine vC (fun hl=>?_) fun i kv vv hi=>?_|refine vE ?_|refine vG ?_|refine vH ?_|((first|refine vD ?_ ?_|refine vF ?_ ?_|refine vI ?_ ?_)<;>intro hc<;>try simp only [vL] at hc)|refine vJ fun hg=>?_|refine vK fun hg=>?_|refine vT ?_|refine vN ‹_› ?_|(refine vQ ?_ fun x hx=>?_;·first|omega|(simp only [vM] at *;omega))|((first|refine vO ?_ ?_|refine vR ?_ ‹_› ?_|refine vS ?_ fun x hx=>?_|refine vP ?_ ?_);·first|omega|(simp only [vM] at *;omega))|refine vW ⟨by omega,by omega⟩ ?_|(refine vU ?_ ?_;·kernel_rfl)|refine vX ?_|refine vY ?_|refine vZ ?_|refine yD cB ⟨⟨rfl,rfl⟩,⟨rfl,rfl⟩,⟨rfl,rfl⟩,rfl⟩ rfl ?_|refine za.mk _ ‹_› ?_|refine vP (show (_:BitVec 64)≠_ by decide) ?_));all_goals try conv=>whnf
 rfl
theorem zvt {α:Type} [Inhabited α] {d:Array α} {i j:Nat} (hi:i < d.size) (hj:j < d.size) {x:α} (h:x∈(Sort.swp d i j).toList):x∈d.toList:=by
 have a1:=List.mem_of_getElem? (zbv hi)
 have a2:=List.mem_of_getElem? (zbv hj)
 unfold Sort.swp at h
 simp only [Array.set!_eq_setIfInBounds,Array.toList_setIfInBounds] at h
 rcases List.mem_or_eq_of_mem_set h with h|rfl
 ·rcases List.mem_or_eq_of_mem_set h with h|rfl
  ·exact h
  ·exact a2
 ·exact a1
abbrev ze2 (d:Array Tup):Ob := .row 1 (d.toList.map dII)
theorem zuV (d:Array Tup) (b:Nat) (hd : ∀ x∈d.toList,Sml x) (hb:b≤d.size) (hs:d.size≤1000) :
  Fn Tryz.prog T zaz [.own 0,.d (.int .i64 0),.d (.int .i64 (b:Int)),.d (.fn zG [])] [ze2 d] (.tup []) [some (ze2 (Sort.insertionSort ltT d 0 b))]:=by
 refine zN zp zb3 (by show 4≤53;decide) _ (fun e env mem n h=>h) ?_
 (repeat' ((conv=>whnf);first|refine vA ?_|refine vB fun b hb=>?_|refine vC (fun hl=>?_) fun i kv vv hi=>?_|refine vE ?_|refine vG ?_|refine vH ?_|((first|refine vD ?_ ?_|refine vF ?_ ?_|refine vI ?_ ?_)<;>intro hc<;>try simp only [vL] at hc)|refine vJ fun hg=>?_|refine vK fun hg=>?_|refine vT ?_|refine vN ‹_› ?_|(refine vQ ?_ fun x hx=>?_;·first|omega|(simp only [vM] at *;omega))|((first|refine vO ?_ ?_|refine vR ?_ ‹_› ?_|refine vS ?_ fun x hx=>?_|refine vP ?_ ?_);·first|omega|(simp only [vM] at *;omega))|refine vW ⟨by omega,by omega⟩ ?_|(refine vU ?_ ?_;·kernel_rfl)|refine vX ?_|refine vY ?_|refine vZ ?_|refine za.mk _ ‹_› ?_|refine vP (show (_:BitVec 64)≠_ by decide) ?_));all_goals try conv=>whnf
 refine zk (fun ((ii,xs):Int×List D)=>[(0,.own 0),(1,.d (.int .i64 (0))),(2,.d (.int .i64 ((b:Int)))),(3,.d (.fn zG [])),(8,.d (.int .i64 (ii))),(zb,.own 0)]) (fun ((ii,xs):Int×List D)=>[(0,some (.row 1 xs))]) 1 (fun ((ii,xs):Int×List D) => ∃ (i:Nat) (e:Array Tup),ii=i∧xs=e.toList.map dII∧0 < i∧i≤b+1∧e.size=d.size∧(∀ x∈e.toList,Sml x)∧Sort.insOuter ltT 0 b i e=Sort.insertionSort ltT d 0 b) (fun ((ii,xs):Int×List D)=>(b - ii).toNat) (((0:Int)+1,d.toList.map dII)) [(0,0)] [] (⟨1,d,by omega,rfl,by omega,by omega,rfl,hd,rfl⟩) (by (refine ⟨rfl,rfl,rfl,?_,?_⟩;repeat' first|exact trivial|exact rfl|exact ⟨_,rfl⟩|exact .inl rfl|exact .inr (.inl ⟨rfl,rfl⟩)|exact .inr (.inr ⟨rfl,rfl⟩)|refine And.intro ?_ ?_|refine ⟨_,rfl,?_⟩|decide|exact of_decide_eq_true rfl)) ?_
 rintro ⟨_,_⟩ ⟨i,e,rfl,rfl,hi,hi2,he,hsm,hI⟩
 (repeat' ((conv=>whnf);first|refine vA ?_|refine vB fun b hb=>?_|refine vC (fun hl=>?_) fun i kv vv hi=>?_|refine vE ?_|refine vG ?_|refine vH ?_|((first|refine vD ?_ ?_|refine vF ?_ ?_|refine vI ?_ ?_)<;>intro hc<;>try simp only [vL] at hc)|refine vJ fun hg=>?_|refine vK fun hg=>?_|refine vT ?_|refine vN ‹_› ?_|(refine vQ ?_ fun x hx=>?_;·first|omega|(simp only [vM] at *;omega))|((first|refine vO ?_ ?_|refine vR ?_ ‹_› ?_|refine vS ?_ fun x hx=>?_|refine vP ?_ ?_);·first|omega|(simp only [vM] at *;omega))|refine vW ⟨by omega,by omega⟩ ?_|(refine vU ?_ ?_;·kernel_rfl)|refine vX ?_|refine vY ?_|refine vZ ?_|refine za.mk _ ‹_› ?_|refine vP (show (_:BitVec 64)≠_ by decide) ?_));all_goals try conv=>whnf
 ·refine zk (fun ((jj,xs):Int×List D)=>[(0,.own 0),(1,.d (.int .i64 (0))),(2,.d (.int .i64 ((b:Int)))),(3,.d (.fn zG [])),(8,.d (.int .i64 ((i:Int)))),(9,.d (.int .i64 (jj))),(zb,.own 0)]) (fun ((jj,xs):Int×List D)=>[(0,some (.row 1 xs))]) 1 (fun ((jj,xs):Int×List D) => ∃ (j:Nat) (g:Array Tup),jj=j∧xs=g.toList.map dII∧j≤i∧g.size=d.size∧(∀ x∈g.toList,Sml x)∧Sort.insInner ltT 0 j g=Sort.insInner ltT 0 i e) (fun ((jj,xs):Int×List D)=>jj.toNat) (((i:Int),e.toList.map dII)) [(0,0)] [] (⟨i,e,rfl,rfl,by omega,he,hsm,rfl⟩) (by (refine ⟨rfl,rfl,rfl,?_,?_⟩;repeat' first|exact trivial|exact rfl|exact ⟨_,rfl⟩|exact .inl rfl|exact .inr (.inl ⟨rfl,rfl⟩)|exact .inr (.inr ⟨rfl,rfl⟩)|refine And.intro ?_ ?_|refine ⟨_,rfl,?_⟩|decide|exact of_decide_eq_true rfl)) ?_
  rintro ⟨_,_⟩ ⟨j,g,rfl,rfl,hj,hg,hgm,hJ⟩
  have hgl:g.toList.length=d.size:=by rw [Array.length_toList];exact hg
  have stop : ¬(0 < j∧ltT g[j]! g[j - 1]! = true)→Sort.insOuter ltT 0 b (i+1) g=Sort.insertionSort ltT d 0 b:=fun h=>by
   rw [← hI,Sort.insOuter.eq_def ltT 0 b i,if_pos (by omega),← hJ,ziW h]
  by_cases hj0:0 < j
  ·have hx1:g.toList[j]? = some g[j]! := zbv (by omega)
   have hx2:g.toList[((j:Int) - 1).toNat]? = some g[j - 1]! := by rw [show ((j:Int) - 1).toNat=j - 1 by omega];exact zbv (by omega)
   have co:=zgj (T:=T) g[j]! g[j - 1]! (hgm _ (List.mem_of_getElem? hx1))
   (repeat' ((conv=>whnf);first|refine vA ?_|refine vB fun b hb=>?_|refine vC (fun hl=>?_) fun i kv vv hi=>?_|refine vE ?_|refine vG ?_|refine vH ?_|((first|refine vD ?_ ?_|refine vF ?_ ?_|refine vI ?_ ?_)<;>intro hc<;>try simp only [vL] at hc)|refine vJ fun hg=>?_|refine vK fun hg=>?_|refine vT ?_|refine vN ‹_› ?_|(refine vQ ?_ fun x hx=>?_;·first|omega|(simp only [vM] at *;omega))|((first|refine vO ?_ ?_|refine vR ?_ ‹_› ?_|refine vS ?_ fun x hx=>?_|refine vP ?_ ?_);·first|omega|(simp only [vM] at *;omega))|refine vW ⟨by omega,by omega⟩ ?_|(refine vU ?_ ?_;·kernel_rfl)|refine vX ?_|refine vY ?_|refine vZ ?_|refine yD co ⟨⟨rfl,rfl⟩,⟨rfl,rfl⟩,rfl⟩ rfl ?_|refine za.mk _ ‹_› ?_|refine vP (show (_:BitVec 64)≠_ by decide) ?_));all_goals try conv=>whnf
   ·refine ⟨(_,_),[(0,0)],[],?_,?_,by (refine ⟨rfl,rfl,rfl,?_,?_⟩;repeat' first|exact trivial|exact rfl|exact ⟨_,rfl⟩|exact .inl rfl|exact .inr (.inl ⟨rfl,rfl⟩)|exact .inr (.inr ⟨rfl,rfl⟩)|refine And.intro ?_ ?_|refine ⟨_,rfl,?_⟩|decide|exact of_decide_eq_true rfl)⟩
    ·refine ⟨j - 1,Sort.swp g j (j - 1),by omega,?_,by omega,by rw [zpt,hg],fun x hx=>hgm x (zvt (by omega) (by omega) hx),?_⟩
     ·rw [show ((j:Int) - 1).toNat=j - 1 by omega] at hx2 ⊢
      exact zqA hx1 hx2
     ·exact (ziV (d:=g) (j:=j) (by omega) (zf1.2 ‹_›)).symm.trans hJ
    ·(first|omega|(simp only [vM] at *;omega))
   ·refine ⟨(_,_),[(0,0)],[],?_,?_,by (refine ⟨rfl,rfl,rfl,?_,?_⟩;repeat' first|exact trivial|exact rfl|exact ⟨_,rfl⟩|exact .inl rfl|exact .inr (.inl ⟨rfl,rfl⟩)|exact .inr (.inr ⟨rfl,rfl⟩)|refine And.intro ?_ ?_|refine ⟨_,rfl,?_⟩|decide|exact of_decide_eq_true rfl)⟩
    ·exact ⟨i+1,g,by omega,rfl,by omega,by omega,hg,hgm,stop fun h=>by
      have:=zf1.1 h.2;omega⟩
    ·(first|omega|(simp only [vM] at *;omega))
   ·exfalso;omega
  ·(repeat' ((conv=>whnf);first|refine vA ?_|refine vB fun b hb=>?_|refine vC (fun hl=>?_) fun i kv vv hi=>?_|refine vE ?_|refine vG ?_|refine vH ?_|((first|refine vD ?_ ?_|refine vF ?_ ?_|refine vI ?_ ?_)<;>intro hc<;>try simp only [vL] at hc)|refine vJ fun hg=>?_|refine vK fun hg=>?_|refine vT ?_|refine vN ‹_› ?_|(refine vQ ?_ fun x hx=>?_;·first|omega|(simp only [vM] at *;omega))|((first|refine vO ?_ ?_|refine vR ?_ ‹_› ?_|refine vS ?_ fun x hx=>?_|refine vP ?_ ?_);·first|omega|(simp only [vM] at *;omega))|refine vW ⟨by omega,by omega⟩ ?_|(refine vU ?_ ?_;·kernel_rfl)|refine vX ?_|refine vY ?_|refine vZ ?_|refine za.mk _ ‹_› ?_|refine vP (show (_:BitVec 64)≠_ by decide) ?_));all_goals try conv=>whnf
   ·exfalso;omega
   ·refine ⟨(_,_),[(0,0)],[],?_,?_,by (refine ⟨rfl,rfl,rfl,?_,?_⟩;repeat' first|exact trivial|exact rfl|exact ⟨_,rfl⟩|exact .inl rfl|exact .inr (.inl ⟨rfl,rfl⟩)|exact .inr (.inr ⟨rfl,rfl⟩)|refine And.intro ?_ ?_|refine ⟨_,rfl,?_⟩|decide|exact of_decide_eq_true rfl)⟩
    ·exact ⟨i+1,g,by omega,rfl,by omega,by omega,hg,hgm,stop fun h=>by omega⟩
    ·(first|omega|(simp only [vM] at *;omega))
 ·have e0:Sort.insertionSort ltT d 0 b=e:=by
   rw [← hI,Sort.insOuter,if_neg (by omega)]
  rw [e0]
  refine ⟨trivial,_,[(0,0)],[],rfl,.inl (by (repeat' first|exact trivial|exact rfl|exact ⟨_,rfl⟩|exact .inl rfl|exact .inr (.inl ⟨rfl,rfl⟩)|exact .inr (.inr ⟨rfl,rfl⟩)|refine And.intro ?_ ?_|refine ⟨_,rfl,?_⟩|decide|exact of_decide_eq_true rfl)),⟨by rfl,by rfl,by rfl,trivial,by (repeat' first|exact trivial|exact rfl|exact ⟨_,rfl⟩|exact .inl rfl|exact .inr (.inl ⟨rfl,rfl⟩)|exact .inr (.inr ⟨rfl,rfl⟩)|refine And.intro ?_ ?_|refine ⟨_,rfl,?_⟩|decide|exact of_decide_eq_true rfl)⟩,by (repeat' first|exact trivial|exact rfl|exact ⟨_,rfl⟩|exact .inl rfl|exact .inr (.inl ⟨rfl,rfl⟩)|exact .inr (.inr ⟨rfl,rfl⟩)|refine And.intro ?_ ?_|refine ⟨_,rfl,?_⟩|decide|exact of_decide_eq_true rfl)⟩
theorem zuZ (d:Array Tup) (hd : ∀ x∈d.toList,Sml x) (h12:d.size≤12) (l:Nat) :
  Fn Tryz.prog T zaY [.own 0,.d (.int .i64 0),.d (.int .i64 (d.size:Int)),.d (.int .i64 (l:Int)),.d (.fn zG [])] [ze2 d] (.tup []) [some (ze2 (Sort.pdq ltT d 0 d.size l true true))]:=by
 have hR:Sort.pdq ltT d 0 d.size l true true=Sort.insertionSort ltT d 0 d.size:=by rw [Sort.pdq,if_pos (by omega)]
 rw [hR]
 refine zN zp zcO (by show 5≤148;decide) _ (fun e env mem n h=>h) ?_
 (repeat' ((conv=>whnf);first|refine vA ?_|refine vB fun b hb=>?_|refine vC (fun hl=>?_) fun i kv vv hi=>?_|refine vE ?_|refine vG ?_|refine vH ?_|((first|refine vD ?_ ?_|refine vF ?_ ?_|refine vI ?_ ?_)<;>intro hc<;>try simp only [vL] at hc)|refine vJ fun hg=>?_|refine vK fun hg=>?_|refine vT ?_|refine vN ‹_› ?_|(refine vQ ?_ fun x hx=>?_;·first|omega|(simp only [vM] at *;omega))|((first|refine vO ?_ ?_|refine vR ?_ ‹_› ?_|refine vS ?_ fun x hx=>?_|refine vP ?_ ?_);·first|omega|(simp only [vM] at *;omega))|refine vW ⟨by omega,by omega⟩ ?_|(refine vU ?_ ?_;·kernel_rfl)|refine vX ?_|refine vY ?_|refine vZ ?_|refine za.mk _ ‹_› ?_|refine vP (show (_:BitVec 64)≠_ by decide) ?_));all_goals try conv=>whnf
 refine zk (fun (u:Unit)=>[(0,.own 0),(1,.d (.int .i64 (0))),(2,.d (.int .i64 ((d.size:Int)))),(3,.d (.int .i64 ((l:Int)))),(4,.d (.fn zG [])),(10,.d (.bool (true))),(11,.d (.bool (true))),(zb,.own 0)]) (fun (u:Unit)=>[(0,some (ze2 d))]) 1 (fun (u:Unit)=>True) (fun (u:Unit)=>0) (()) [(0,0)] [] (trivial) (by (refine ⟨rfl,rfl,rfl,?_,?_⟩;repeat' first|exact trivial|exact rfl|exact ⟨_,rfl⟩|exact .inl rfl|exact .inr (.inl ⟨rfl,rfl⟩)|exact .inr (.inr ⟨rfl,rfl⟩)|refine And.intro ?_ ?_|refine ⟨_,rfl,?_⟩|decide|exact of_decide_eq_true rfl)) ?_
 rintro u -
 (repeat' ((conv=>whnf);first|refine zf8.but 39 rfl ?_|refine vB fun b hb=>?_|refine vC (fun hl=>?_) fun i kv vv hi=>?_|refine vE ?_|refine vG ?_|refine vH ?_|((first|refine vD ?_ ?_|refine vF ?_ ?_|refine vI ?_ ?_)<;>intro hc<;>try simp only [vL] at hc)|refine vJ fun hg=>?_|refine vK fun hg=>?_|refine vT ?_|refine vN ‹_› ?_|(refine vQ ?_ fun x hx=>?_;·first|omega|(simp only [vM] at *;omega))|((first|refine vO ?_ ?_|refine vR ?_ ‹_› ?_|refine vS ?_ fun x hx=>?_|refine vP ?_ ?_);·first|omega|(simp only [vM] at *;omega))|refine vW ⟨by omega,by omega⟩ ?_|(refine vU ?_ ?_;·kernel_rfl)|refine vX ?_|refine vY ?_|refine vZ ?_|refine za.mk _ ‹_› ?_|refine vP (show (_:BitVec 64)≠_ by decide) ?_));all_goals try conv=>whnf
 ·refine zM.objs [0] (zuV d d.size hd (Nat.le_refl _) (by omega)) (by (repeat' first|exact trivial|exact rfl|exact ⟨_,rfl⟩|exact .inl rfl|exact .inr (.inl ⟨rfl,rfl⟩)|exact .inr (.inr ⟨rfl,rfl⟩)|refine And.intro ?_ ?_|refine ⟨_,rfl,?_⟩|decide|exact of_decide_eq_true rfl)) (by (repeat' first|exact trivial|exact rfl|exact ⟨_,rfl⟩|exact .inl rfl|exact .inr (.inl ⟨rfl,rfl⟩)|exact .inr (.inr ⟨rfl,rfl⟩)|refine And.intro ?_ ?_|refine ⟨_,rfl,?_⟩|decide|exact of_decide_eq_true rfl)) (by rfl) (by rfl) (by simp) ?_
  (repeat' ((conv=>whnf);first|refine vA ?_|refine vB fun b hb=>?_|refine vC (fun hl=>?_) fun i kv vv hi=>?_|refine vE ?_|refine vG ?_|refine vH ?_|((first|refine vD ?_ ?_|refine vF ?_ ?_|refine vI ?_ ?_)<;>intro hc<;>try simp only [vL] at hc)|refine vJ fun hg=>?_|refine vK fun hg=>?_|refine vT ?_|refine vN ‹_› ?_|(refine vQ ?_ fun x hx=>?_;·first|omega|(simp only [vM] at *;omega))|((first|refine vO ?_ ?_|refine vR ?_ ‹_› ?_|refine vS ?_ fun x hx=>?_|refine vP ?_ ?_);·first|omega|(simp only [vM] at *;omega))|refine vW ⟨by omega,by omega⟩ ?_|(refine vU ?_ ?_;·kernel_rfl)|refine vX ?_|refine vY ?_|refine vZ ?_|refine za.mk _ ‹_› ?_|refine vP (show (_:BitVec 64)≠_ by decide) ?_));all_goals try conv=>whnf
  refine ⟨trivial,_,[(0,0)],[],rfl,.inl (by (repeat' first|exact trivial|exact rfl|exact ⟨_,rfl⟩|exact .inl rfl|exact .inr (.inl ⟨rfl,rfl⟩)|exact .inr (.inr ⟨rfl,rfl⟩)|refine And.intro ?_ ?_|refine ⟨_,rfl,?_⟩|decide|exact of_decide_eq_true rfl)),⟨by rfl,by rfl,by rfl,trivial,by (repeat' first|exact trivial|exact rfl|exact ⟨_,rfl⟩|exact .inl rfl|exact .inr (.inl ⟨rfl,rfl⟩)|exact .inr (.inr ⟨rfl,rfl⟩)|refine And.intro ?_ ?_|refine ⟨_,rfl,?_⟩|decide|exact of_decide_eq_true rfl)⟩,by (repeat' first|exact trivial|exact rfl|exact ⟨_,rfl⟩|exact .inl rfl|exact .inr (.inl ⟨rfl,rfl⟩)|exact .inr (.inr ⟨rfl,rfl⟩)|refine And.intro ?_ ?_|refine ⟨_,rfl,?_⟩|decide|exact of_decide_eq_true rfl)⟩
 all_goals (exfalso;omega)
theorem zoH (d:Array Tup) (hd : ∀ x∈d.toList,Sml x) (h12:d.size≤12):Fn Tryz.prog T zam [.own 0,.d (.fn zG [])] [ze2 d] (.tup []) [some (ze2 (Sort.sort ltT d))]:=by
 have hn:((BitVec.ofInt 64 (d.size:Int)).toNat)=d.size:=by simp;omega
 have hl:(d.toList.map dII).length=d.size:=by simp
 have hp:=zuZ (T:=T) d hd h12 (Sort.bitsLen d.size)
 refine zN zp zbx (by show 2≤14;decide) _ (fun e env mem n h=>h) ?_
 (repeat' ((conv=>whnf);first|refine vA ?_|refine vB fun b hb=>?_|refine vC (fun hl=>?_) fun i kv vv hi=>?_|refine vE ?_|refine vG ?_|refine vH ?_|((first|refine vD ?_ ?_|refine vF ?_ ?_|refine vI ?_ ?_)<;>intro hc<;>try simp only [vL] at hc)|refine vJ fun hg=>?_|refine vK fun hg=>?_|refine vT ?_|refine vN ‹_› ?_|(refine vQ ?_ fun x hx=>?_;·first|omega|(simp only [vM] at *;omega))|((first|refine vO ?_ ?_|refine vR ?_ ‹_› ?_|refine vS ?_ fun x hx=>?_|refine vP ?_ ?_);·first|omega|(simp only [vM] at *;omega))|refine vW ⟨by omega,by omega⟩ ?_|(refine vU ?_ ?_;·kernel_rfl)|refine vX ?_|refine vY ?_|refine vZ ?_|refine yD (zoG _) ⟨⟨rfl,rfl⟩,rfl⟩ rfl ?_|refine za.mk _ ‹_› ?_|refine vP (show (_:BitVec 64)≠_ by decide) ?_));all_goals try conv=>whnf
 have e1:((d.toList.map dII).length:Int)=(d.size:Int):=by rw [hl]
 have e2:(Sort.bitsLen (BitVec.ofInt 64 ((d.toList.map dII).length:Int)).toNat:Int)=(Sort.bitsLen d.size:Int):=by rw [hl,hn]
 rw [← e1,← e2] at hp
 refine zM.objs [0] (hp) (by (repeat' first|exact trivial|exact rfl|exact ⟨_,rfl⟩|exact .inl rfl|exact .inr (.inl ⟨rfl,rfl⟩)|exact .inr (.inr ⟨rfl,rfl⟩)|refine And.intro ?_ ?_|refine ⟨_,rfl,?_⟩|decide|exact of_decide_eq_true rfl)) (by (repeat' first|exact trivial|exact rfl|exact ⟨_,rfl⟩|exact .inl rfl|exact .inr (.inl ⟨rfl,rfl⟩)|exact .inr (.inr ⟨rfl,rfl⟩)|refine And.intro ?_ ?_|refine ⟨_,rfl,?_⟩|decide|exact of_decide_eq_true rfl)) (by rfl) (by rfl) (by simp) ?_
 (repeat' ((conv=>whnf);first|refine vA ?_|refine vB fun b hb=>?_|refine vC (fun hl=>?_) fun i kv vv hi=>?_|refine vE ?_|refine vG ?_|refine vH ?_|((first|refine vD ?_ ?_|refine vF ?_ ?_|refine vI ?_ ?_)<;>intro hc<;>try simp only [vL] at hc)|refine vJ fun hg=>?_|refine vK fun hg=>?_|refine vT ?_|refine vN ‹_› ?_|(refine vQ ?_ fun x hx=>?_;·first|omega|(simp only [vM] at *;omega))|((first|refine vO ?_ ?_|refine vR ?_ ‹_› ?_|refine vS ?_ fun x hx=>?_|refine vP ?_ ?_);·first|omega|(simp only [vM] at *;omega))|refine vW ⟨by omega,by omega⟩ ?_|(refine vU ?_ ?_;·kernel_rfl)|refine vX ?_|refine vY ?_|refine vZ ?_|refine za.mk _ ‹_› ?_|refine vP (show (_:BitVec 64)≠_ by decide) ?_));all_goals try conv=>whnf
 refine ⟨trivial,_,[(0,0)],[],rfl,.inl (by (repeat' first|exact trivial|exact rfl|exact ⟨_,rfl⟩|exact .inl rfl|exact .inr (.inl ⟨rfl,rfl⟩)|exact .inr (.inr ⟨rfl,rfl⟩)|refine And.intro ?_ ?_|refine ⟨_,rfl,?_⟩|decide|exact of_decide_eq_true rfl)),⟨by rfl,by rfl,by rfl,trivial,by (repeat' first|exact trivial|exact rfl|exact ⟨_,rfl⟩|exact .inl rfl|exact .inr (.inl ⟨rfl,rfl⟩)|exact .inr (.inr ⟨rfl,rfl⟩)|refine And.intro ?_ ?_|refine ⟨_,rfl,?_⟩|decide|exact of_decide_eq_true rfl)⟩,by (repeat' first|exact trivial|exact rfl|exact ⟨_,rfl⟩|exact .inl rfl|exact .inr (.inl ⟨rfl,rfl⟩)|exact .inr (.inr ⟨rfl,rfl⟩)|refine And.intro ?_ ?_|refine ⟨_,rfl,?_⟩|decide|exact of_decide_eq_true rfl)⟩
end Go.Ab
