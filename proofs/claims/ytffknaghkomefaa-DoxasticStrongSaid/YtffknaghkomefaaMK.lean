/- What is proved here: the law DoxasticStrong returns true at every input and leaves its arguments as they were. There is no further condition. -/
import Derived.Test.YtffknaghkomefaaMJ
set_option linter.unusedVariables false
set_option linter.unusedSimpArgs false
set_option linter.unusedSectionVars false
namespace Go.Ab
open Go Go.Proofs
section
open K
def f_wittinglaw34_DoxasticOrders:Nat:=4
def f_wittinglaw34_DoxasticIntrospects:Nat:=5
def f_wittinglaw34_DoxasticRational:Nat:=6
def f_wittinglaw34_DoxasticStrong:Nat:=7
def f_wittinglaw34_DoxasticRational_1:Nat:=24
def c_wittinglaw34_DoxasticOrders:CFn:=⟨118,[.tmp 6],(q [(.reg [o 3 (.box 4 (t 0)),o 6 (.mv (c .bf))]),
 (q [(.reg [o 18 (.call 10 []),o 19 (.un .not (t 18)),o 20 (m 19),g 21 20 false (la 4 3),g 22 20 false (m 1),g 23 20 false (m 2),g 24 20 false (.bslice 1 2 [(.nils 6)] [(0,(t 22)),(1,(t 23))]),g 25 20 false (.call 11 [(t 21),(t 24)]),g 26 20 false (.un .not (t 25)),o 27 (pt 20 26),o 28 (m 27),g 29 28 false (la 4 3),g 30 28 false (.call 16 [(t 29)]),g 31 28 false (bc .neq 30 (n 0)),o 32 (pt 28 31)]),
 (i 32 (q [(.reg [o 33 (.call 10 []),o 6 (m 33)]),
 .ret]) .skip)]),
 (.reg [o 35 (la 4 3),o 36 (m 1),o 37 (.call 17 [(t 35),(t 36)]),o 34 (m 37),o 38 (e 34 0),o 39 (e 34 1),o 7 (m 38),o 8 (m 39)]),
 (q [(.reg [o 40 (m 8),o 41 (.un .not (t 40))]),
 (i 41 (q [(.reg [o 6 (.mv (c .bt))]),
 .ret]) .skip)]),
 (q [(.reg [o 42 (f 2 3),o 43 (l 42),o 44 (ln 43),o 45 (.mv (c (n 0)))]),
 (.block 0 (.loop (q [(.reg [o 46 (b .lss 45 44)]),
 (i 46 .skip (.exit 0)),
 (.block 1 (q [(.reg [o 47 (m 45),o 9 (m 47)]),
 (.regd [o 49 (la 4 3),o 50 (m 9),o 51 (m 1),o 52 (.call 18 [(t 50),(t 51)]),o 53 (.call 17 [(t 49),(t 52)]),o 48 (m 53),o 54 (e 48 0),o 55 (e 48 1),o 10 (m 54),o 11 (m 55)] [0,0,0,6,15,31,63,63,127,511]),
 (.regd [o 57 (la 4 3),o 58 (m 9),o 59 (m 1),o 60 (.call 19 [(t 58),(t 59)]),o 61 (.call 17 [(t 57),(t 60)]),o 56 (m 61),o 62 (e 56 0),o 63 (e 56 1),o 12 (m 62),o 13 (m 63)] [0,0,0,6,15,31,63,63,127,511]),
 (.regd [o 65 (la 4 3),o 66 (m 9),o 67 (.call 21 []),o 68 (m 1),o 69 (.call 20 [(t 66),(t 67),(t 68)]),o 70 (.call 17 [(t 65),(t 69)]),o 64 (m 70),o 71 (e 64 0),o 72 (e 64 1),o 14 (m 71),o 15 (m 72)] [0,0,0,0,14,31,63,127,127,255,1023]),
 (q [(.reg [o 73 (m 11),o 74 (.un .not (t 73)),o 75 (m 74),g 76 75 false (m 13),g 77 75 false (.un .not (t 76)),o 78 (pt 75 77),o 79 (m 78),g 80 79 false (m 15),g 81 79 false (.un .not (t 80)),o 82 (pt 79 81),o 83 (m 82),g 84 83 false (m 10),g 85 83 false (m 12),g 86 83 false (b .andNot 84 85),g 87 83 false (bc .neq 86 (u 0)),o 88 (pt 83 87),o 89 (m 88),g 90 89 false (m 12),g 91 89 false (m 7),g 92 89 false (b .andNot 90 91),g 93 89 false (bc .neq 92 (u 0)),o 94 (pt 89 93),o 95 (m 94),g 96 95 false (m 12),g 97 95 false (m 14),g 98 95 false (b .andNot 96 97),g 99 95 false (bc .neq 98 (u 0)),o 100 (pt 95 99)]),
 (i 100 (q [(.reg [o 6 (.mv (c .bf))]),
 .ret]) .skip)]),
 (.regd [o 102 (la 4 3),o 103 (m 9),o 104 (m 2),o 105 (m 1),o 106 (.call 20 [(t 103),(t 104),(t 105)]),o 107 (.call 17 [(t 102),(t 106)]),o 101 (m 107),o 108 (e 101 0),o 109 (e 101 1),o 16 (m 108),o 17 (m 109)] [0,0,0,0,14,31,63,127,127,255,1023]),
 (.reg [o 110 (m 17),o 111 (m 110),g 112 111 true (m 10),g 113 111 true (m 16),g 114 111 true (b .andNot 112 113),g 115 111 true (bc .neq 114 (u 0)),o 116 (pf 111 115)]),
 (i 116 (q [(.reg [o 6 (.mv (c .bf))]),
 .ret]) .skip)])),
 (.reg [o 117 (bc .add 45 (n 1)),o 45 (m 117)])])))]),
 (.reg [o 6 (.mv (c .bt))]),
 .ret])⟩
def c_wittinglaw34_DoxasticIntrospects:CFn:=⟨87,[.tmp 6],(q [(.reg [o 3 (.box 4 (t 0)),o 6 (.mv (c .bf))]),
 (q [(.reg [o 15 (.call 10 []),o 16 (.un .not (t 15)),o 17 (m 16),g 18 17 false (la 4 3),g 19 17 false (m 1),g 20 17 false (m 2),g 21 17 false (.bslice 1 2 [(.nils 6)] [(0,(t 19)),(1,(t 20))]),g 22 17 false (.call 11 [(t 18),(t 21)]),g 23 17 false (.un .not (t 22)),o 24 (pt 17 23),o 25 (m 24),g 26 25 false (la 4 3),g 27 25 false (.call 16 [(t 26)]),g 28 25 false (bc .neq 27 (n 0)),o 29 (pt 25 28)]),
 (i 29 (q [(.reg [o 30 (.call 10 []),o 6 (m 30)]),
 .ret]) .skip)]),
 (q [(.reg [o 31 (f 2 3),o 32 (l 31),o 33 (ln 32),o 34 (.mv (c (n 0)))]),
 (.block 0 (.loop (q [(.reg [o 35 (b .lss 34 33)]),
 (i 35 .skip (.exit 0)),
 (.block 1 (q [(.reg [o 36 (m 34),o 7 (m 36)]),
 (.reg [o 37 (m 7),o 38 (m 2),o 39 (m 1),o 40 (.call 20 [(t 37),(t 38),(t 39)]),o 8 (m 40)]),
 (.reg [o 42 (la 4 3),o 43 (m 8),o 44 (.call 17 [(t 42),(t 43)]),o 41 (m 44),o 45 (e 41 0),o 46 (e 41 1),o 9 (m 45),o 10 (m 46)]),
 (q [(.reg [o 47 (m 10),o 48 (.un .not (t 47))]),
 (i 48 (q [(.reg [o 6 (.mv (c .bt))]),
 .ret]) .skip)]),
 (.regd [o 50 (la 4 3),o 51 (m 7),o 52 (m 8),o 53 (.call 18 [(t 51),(t 52)]),o 54 (.call 17 [(t 50),(t 53)]),o 49 (m 54),o 55 (e 49 0),o 56 (e 49 1),o 11 (m 55),o 12 (m 56)] [0,0,0,6,15,31,63,63,127,511]),
 (.regd [o 58 (la 4 3),o 59 (m 7),o 60 (m 8),o 61 (.call 22 [(t 60)]),o 62 (.call 18 [(t 59),(t 61)]),o 63 (.call 17 [(t 58),(t 62)]),o 57 (m 63),o 64 (e 57 0),o 65 (e 57 1),o 13 (m 64),o 14 (m 65)] [0,0,0,4,14,31,63,127,127,255,1023]),
 (.reg [o 66 (m 12),o 67 (.un .not (t 66)),o 68 (m 67),g 69 68 false (m 14),g 70 68 false (.un .not (t 69)),o 71 (pt 68 70),o 72 (m 71),g 73 72 false (m 9),g 74 72 false (m 11),g 75 72 false (b .neq 73 74),o 76 (pt 72 75),o 77 (m 76),g 78 77 false (m 13),g 79 77 false (f 0 3),g 80 77 false (l 79),g 81 77 false (.call 23 [(t 80)]),g 82 77 false (m 9),g 83 77 false (b .andNot 81 82),g 84 77 false (b .neq 78 83),o 85 (pt 77 84)]),
 (i 85 (q [(.reg [o 6 (.mv (c .bf))]),
 .ret]) .skip)])),
 (.reg [o 86 (bc .add 34 (n 1)),o 34 (m 86)])])))]),
 (.reg [o 6 (.mv (c .bt))]),
 .ret])⟩
def c_wittinglaw34_DoxasticRational:CFn:=⟨164,[.tmp 4],(q [(.reg [o 2 (.box 4 (t 0)),o 3 (.box 5 (t 1)),o 4 (.mv (c .bf))]),
 (q [(.reg [o 16 (.call 10 []),o 17 (.un .not (t 16)),o 18 (m 17),g 19 18 false (la 4 2),g 20 18 false (.call 11 [(t 19),(c (.nils 1))]),g 21 18 false (.un .not (t 20)),o 22 (pt 18 21),o 23 (m 22),g 24 23 false (la 4 2),g 25 23 false (.call 16 [(t 24)]),g 26 23 false (bc .neq 25 (n 0)),o 27 (pt 23 26),o 28 (m 27),g 29 28 false (f 0 3),g 30 28 false (l 29),g 31 28 false (bc .lss 30 (n 0)),o 32 (pt 28 31),o 33 (m 32),g 34 33 false (f 0 3),g 35 33 false (l 34),g 36 33 false (f 2 2),g 37 33 false (l 36),g 38 33 false (ln 37),g 39 33 false (b .geq 35 38),o 40 (pt 33 39)]),
 (i 40 (q [(.reg [o 41 (.call 10 []),o 4 (m 41)]),
 .ret]) .skip)]),
 (.reg [o 42 (f 0 2),o 43 (l 42),o 44 (.call 23 [(t 43)]),o 5 (m 44)]),
 (.regd [o 45 (f 2 3),o 46 (l 45),o 47 (m 5),o 48 (b .and 46 47),o 49 (f 3 3),o 50 (l 49),o 51 (m 5),o 52 (b .and 50 51),o 53 (f 4 3),o 54 (l 53),o 55 (m 5),o 56 (b .and 54 55),o 6 (m 48),o 7 (m 52),o 8 (m 56)] [0,1,0,7,0,16,0,112,0,256,0,1792,15,4351,16383]),
 (.reg [o 57 (.fnew f_wittinglaw34_DoxasticRational_1 [(t 2),(t 3)]),o 9 (m 57)]),
 (q [(.reg [o 58 (f 0 2),o 59 (l 58),o 60 (bc .gtr 59 (n 63))]),
 (i 60 (q [(.reg [o 4 (.mv (c .bt))]),
 .ret]) .skip)]),
 (.reg [o 61 (m 9),o 62 (m 6),o 63 (m 6),o 64 (.callv (t 61) [(t 62),(t 63)]),o 65 (m 5),o 66 (b .eql 64 65),o 10 (m 66)]),
 (.reg [o 67 (m 9),o 68 (m 6),o 69 (m 7),o 70 (.callv (t 67) [(t 68),(t 69)]),o 71 (m 9),o 72 (m 6),o 73 (m 8),o 74 (.callv (t 71) [(t 72),(t 73)]),o 75 (b .and 70 74),o 76 (m 9),o 77 (m 6),o 78 (m 7),o 79 (m 8),o 80 (b .and 78 79),o 81 (.callv (t 76) [(t 77),(t 80)]),o 82 (b .eql 75 81),o 11 (m 82)]),
 (.reg [o 83 (m 9),o 84 (m 6),o 85 (m 7),o 86 (.callv (t 83) [(t 84),(t 85)]),o 87 (m 9),o 88 (m 6),o 89 (m 7),o 90 (m 8),o 91 (b .or 89 90),o 92 (.callv (t 87) [(t 88),(t 91)]),o 93 (b .andNot 86 92),o 94 (bc .eql 93 (u 0)),o 12 (m 94)]),
 (.reg [o 95 (m 9),o 96 (m 6),o 97 (m 7),o 98 (.callv (t 95) [(t 96),(t 97)]),o 99 (m 9),o 100 (m 6),o 101 (m 5),o 102 (m 8),o 103 (b .andNot 101 102),o 104 (.callv (t 99) [(t 100),(t 103)]),o 105 (b .andNot 98 104),o 106 (m 9),o 107 (m 6),o 108 (m 8),o 109 (b .and 107 108),o 110 (m 7),o 111 (.callv (t 106) [(t 109),(t 110)]),o 112 (b .andNot 105 111),o 113 (bc .eql 112 (u 0)),o 13 (m 113)]),
 (.reg [o 114 (m 9),o 115 (m 6),o 116 (m 7),o 117 (.callv (t 114) [(t 115),(t 116)]),o 118 (m 9),o 119 (m 6),o 120 (m 8),o 121 (.callv (t 118) [(t 119),(t 120)]),o 122 (b .and 117 121),o 123 (m 9),o 124 (m 6),o 125 (m 8),o 126 (b .and 124 125),o 127 (m 7),o 128 (.callv (t 123) [(t 126),(t 127)]),o 129 (b .andNot 122 128),o 130 (bc .eql 129 (u 0)),o 14 (m 130)]),
 (.reg [o 131 (m 9),o 132 (m 6),o 133 (m 7),o 134 (.callv (t 131) [(t 132),(t 133)]),o 135 (m 9),o 136 (m 6),o 137 (m 7),o 138 (b .and 136 137),o 139 (m 8),o 140 (.callv (t 135) [(t 138),(t 139)]),o 141 (b .and 134 140),o 142 (m 9),o 143 (m 6),o 144 (m 8),o 145 (.callv (t 142) [(t 143),(t 144)]),o 146 (b .andNot 141 145),o 147 (bc .eql 146 (u 0)),o 15 (m 147)]),
 (.reg [o 148 (m 10),o 149 (m 148),g 150 149 true (m 11),o 151 (pf 149 150),o 152 (m 151),g 153 152 true (m 12),o 154 (pf 152 153),o 155 (m 154),g 156 155 true (m 13),o 157 (pf 155 156),o 158 (m 157),g 159 158 true (m 14),o 160 (pf 158 159),o 161 (m 160),g 162 161 true (m 15),o 163 (pf 161 162),o 4 (m 163)]),
 .ret])⟩
def c_wittinglaw34_DoxasticStrong:CFn:=⟨115,[.tmp 4],(q [(.reg [o 2 (.box 4 (t 0)),o 3 (.box 5 (t 1)),o 4 (.mv (c .bf))]),
 (q [(.reg [o 15 (.call 10 []),o 16 (.un .not (t 15)),o 17 (m 16),g 18 17 false (la 4 2),g 19 17 false (.call 11 [(t 18),(c (.nils 1))]),g 20 17 false (.un .not (t 19)),o 21 (pt 17 20),o 22 (m 21),g 23 22 false (la 4 2),g 24 22 false (.call 16 [(t 23)]),g 25 22 false (bc .neq 24 (n 0)),o 26 (pt 22 25),o 27 (m 26),g 28 27 false (f 0 3),g 29 27 false (l 28),g 30 27 false (bc .lss 29 (n 0)),o 31 (pt 27 30),o 32 (m 31),g 33 32 false (f 0 3),g 34 32 false (l 33),g 35 32 false (f 2 2),g 36 32 false (l 35),g 37 32 false (ln 36),g 38 32 false (b .geq 34 37),o 39 (pt 32 38),o 40 (m 39),g 41 40 false (f 0 2),g 42 40 false (l 41),g 43 40 false (bc .gtr 42 (n 6)),o 44 (pt 40 43)]),
 (i 44 (q [(.reg [o 45 (.call 10 []),o 4 (m 45)]),
 .ret]) .skip)]),
 (.reg [o 46 (f 0 2),o 47 (l 46),o 48 (.call 23 [(t 47)]),o 5 (m 48)]),
 (.reg [o 49 (f 2 3),o 50 (l 49),o 51 (m 5),o 52 (b .and 50 51),o 6 (m 52)]),
 (.reg [o 54 (la 4 2),o 55 (f 0 3),o 56 (l 55),o 57 (m 6),o 58 (.call 14 [(t 54),(t 56),(t 57)]),o 53 (m 58),o 59 (e 53 0),o 60 (e 53 1),o 7 (m 59),o 8 (m 60)]),
 (q [(.reg [o 61 (m 8),o 62 (bc .neq 61 (n 0))]),
 (i 62 (q [(.reg [o 4 (.mv (c .bf))]),
 .ret]) .skip)]),
 (q [(.reg [o 63 (f 0 2),o 64 (l 63),o 65 (.mv (c (n 0)))]),
 (.block 0 (.loop (q [(.reg [o 66 (b .lss 65 64)]),
 (i 66 .skip (.exit 0)),
 (.block 1 (q [(.reg [o 67 (m 65),o 9 (m 67)]),
 (.reg [o 68 (la 4 2),o 69 (f 0 3),o 70 (l 69),o 71 (m 9),o 72 (.call 25 [(t 68),(t 70),(t 71)]),o 10 (m 72)]),
 (.reg [o 73 (m 10),o 74 (m 6),o 75 (b .and 73 74),o 76 (bc .neq 75 (u 0)),o 11 (m 76)]),
 (q [(.reg [o 12 (.mv (c (u 0)))]),
 (.block 2 (.loop (q [(q [(.reg [o 77 (m 12),o 78 (m 5),o 79 (b .leq 77 78)]),
 (i 79 .skip (.exit 2))]),
 (.block 3 (q [(q [(.reg [o 82 (m 12),o 83 (m 10),o 84 (b .and 82 83),o 85 (m 6),o 86 (b .and 84 85),o 87 (bc .eql 86 (u 0))]),
 (i 87 (.exit 3) .skip)]),
 (.reg [o 89 (la 4 2),o 90 (f 0 3),o 91 (l 90),o 92 (m 12),o 93 (m 6),o 94 (.call 12 [(t 89),(t 91),(t 92),(t 93)]),o 88 (m 94),o 95 (e 88 0),o 96 (e 88 1),o 13 (m 95),o 14 (m 96)]),
 (q [(.reg [o 97 (m 14),o 98 (bc .neq 97 (n 0))]),
 (i 98 (q [(.reg [o 4 (.mv (c .bf))]),
 .ret]) .skip)]),
 (.reg [o 99 (m 11),o 100 (m 99),g 101 100 true (m 13),g 102 100 true (m 9),g 103 100 true (b .shr 101 102),g 104 100 true (bc .and 103 (u 1)),g 105 100 true (bc .eql 104 (u 1)),o 106 (pf 100 105),o 11 (m 106)])])),
 (.reg [o 80 (m 12),o 81 (bc .add 80 (u 1)),o 12 (m 81)])])))]),
 (.reg [o 107 (m 11),o 108 (m 7),o 109 (m 9),o 110 (b .shr 108 109),o 111 (bc .and 110 (u 1)),o 112 (bc .eql 111 (u 1)),o 113 (.eqB true (t 107) (t 112))]),
 (i 113 (q [(.reg [o 4 (.mv (c .bf))]),
 .ret]) .skip)])),
 (.reg [o 114 (bc .add 65 (n 1)),o 65 (m 114)])])))]),
 (.reg [o 4 (.mv (c .bt))]),
 .ret])⟩
def c_wittinglaw34_DoxasticRational_1:CFn:=⟨21,[.tmp 6],(q [(.reg [o 6 (.mv (c (u 0)))]),
 (.reg [o 10 (la 4 2),o 11 (f 0 3),o 12 (l 11),o 13 (m 0),o 14 (m 1),o 15 (.call 12 [(t 10),(t 12),(t 13),(t 14)]),o 9 (m 15),o 16 (e 9 0),o 17 (e 9 1),o 7 (m 16),o 8 (m 17)]),
 (q [(.reg [o 18 (m 8),o 19 (bc .neq 18 (n 0))]),
 (i 19 (q [(.reg [o 6 (.mv (c (u 9223372036854775808)))]),
 .ret]) .skip)]),
 (.reg [o 20 (m 7),o 6 (m 20)]),
 .ret])⟩
end
theorem k_wittinglaw34_DoxasticOrders:compFn Try.prog f_wittinglaw34_DoxasticOrders=some c_wittinglaw34_DoxasticOrders:=by kernel_rfl
theorem k_wittinglaw34_DoxasticIntrospects:compFn Try.prog f_wittinglaw34_DoxasticIntrospects=some c_wittinglaw34_DoxasticIntrospects:=by kernel_rfl
theorem k_wittinglaw34_DoxasticRational:compFn Try.prog f_wittinglaw34_DoxasticRational=some c_wittinglaw34_DoxasticRational:=by kernel_rfl
theorem k_wittinglaw34_DoxasticStrong:compFn Try.prog f_wittinglaw34_DoxasticStrong=some c_wittinglaw34_DoxasticStrong:=by kernel_rfl
theorem k_wittinglaw34_DoxasticRational_1:compFn Try.prog f_wittinglaw34_DoxasticRational_1=some c_wittinglaw34_DoxasticRational_1:=by kernel_rfl
end Go.Ab
namespace Go.Ab
open Go Go.Proofs
set_option linter.unusedSimpArgs false
set_option linter.unusedVariables false
set_option maxRecDepth 10000
set_option maxHeartbeats 4000000
variable {T:Nat→Obj→Prop}
theorem few_len {p:PM} {ls:List (List Nd)} (h:fewL p ls=true) : ∀ f∈ls,f.length≤60:=by
 rw [fewL,Bool.and_eq_true,List.all_eq_true] at h
 exact fun f hf=>of_decide_eq_true (h.1 f hf)
theorem fn_setOf (hR:RanksOk T) {p:PM} (hp:IntsOk p.rank) (hc0:checkL p=0) {f:List Nd} {x:BitVec 64} {n:Nat} (h:Fm p f x n):Fn Try.prog T f_wittinglaw34_set [.d (dPM p),.d (dF f)] [] (.d (.tup [.u64 x,.bool true])) []:=by
 have:=fn_set (T:=T) hR p hp f
 rw [h.holds hc0] at this
 exact this
theorem law_Orders (p:PM) (hp:IntsOk p.rank) (f c:List Nd):Fn Try.prog T f_wittinglaw34_DoxasticOrders [.d (dPM p),.d (dF f),.d (dF c)] [] (.d (.bool true)) []:=by
 have hR:=ranks_ok (T:=T)
 have hA:=fn_awake (T:=T)
 have hF:=fn_few (T:=T) p [f,c]
 refine fn_dataR hmix k_wittinglaw34_DoxasticOrders (by show 3≤118;decide) ?_
 (repeat' ((conv=>whnf);first|refine TestS.no (by decide) ?_|refine vA ?_|refine vE ?_|((first|refine vD ?_ ?_|refine vF ?_ ?_|refine vI ?_ ?_)<;>intro hc)|refine vJ fun hg=>?_|refine vZ ?_|refine yD hA rfl rfl ?_|refine yD hF ⟨⟨rfl,rfl⟩,⟨rfl,rfl⟩,rfl⟩ rfl ?_|refine yD (fn_ref33_Check _ hp) (by (repeat refine ⟨⟨rfl,rfl⟩,?_⟩);rfl) rfl ?_|refine yN (fn_set hR p hp _) ⟨⟨rfl,rfl⟩,⟨rfl,rfl⟩,rfl⟩ ?_));all_goals try conv=>whnf
 have hc0:=‹checkL p=0›
 have hfew:=few_len ‹fewL p [f,c]=true›
 have hf:Fm p f (holdsL p f).1 60 := .of ‹_› (hfew f (by simp))
 have hcl:c.length≤60:=hfew c (by simp)
 refine loop_mem (fun (k:Nat)=>[(1,.d (dF f)),(2,.d (dF c)),(3,.ptr 0 0),(7,.d (.u64 ((holdsL p f).1))),(44,.d (.int .i64 ((p.cell.map dI).length:Int))),(45,.d (.int .i64 ((k:Int))))]) (fun (k:Nat)=>[(0,some (boxPM p))]) 1 (fun (k:Nat)=>k≤p.cell.length) (fun (k:Nat)=>p.cell.length - k) (0) [(0,0)] [] (by simp) (by (refine ⟨rfl,rfl,rfl,?_,?_⟩;repeat' first|exact trivial|exact rfl|refine And.intro ?_ ?_|refine ⟨_,rfl,?_⟩|decide)) ?_
 rintro k hk
 by_cases hkl:k < p.cell.length
 ·have s1:=fn_setOf (T:=T) hR hp hc0 (hf.know hc0 hkl (by decide))
  have s2:=fn_setOf (T:=T) hR hp hc0 (hf.safe hc0 hkl (by decide))
  have s3:=fn_setOf (T:=T) hR hp hc0 (Fm.tru.belief hc0 hf hkl (by decide))
  (repeat' ((conv=>whnf);first|refine TestS.no (by decide) ?_|refine vA ?_|((first|refine vD ?_ ?_|refine vF ?_ ?_)<;>intro hc<;>try simp only [vL] at hc)|(refine vO ?_ ?_;·omega)|(refine vU ?_ ?_;·kernel_rfl)|refine vZ ?_|refine yN (fn_FKnow _ _) ⟨⟨rfl,rfl⟩,⟨rfl,rfl⟩,rfl⟩ ?_|refine yN s1 ⟨⟨rfl,rfl⟩,⟨rfl,rfl⟩,rfl⟩ ?_|refine yN (fn_FSafe _ _) ⟨⟨rfl,rfl⟩,⟨rfl,rfl⟩,rfl⟩ ?_|refine yN s2 ⟨⟨rfl,rfl⟩,⟨rfl,rfl⟩,rfl⟩ ?_|refine yN fn_FTrue rfl ?_|refine yN (fn_FBelief _ _ _) ⟨⟨rfl,rfl⟩,⟨rfl,rfl⟩,⟨rfl,rfl⟩,rfl⟩ ?_|refine yN s3 ⟨⟨rfl,rfl⟩,⟨rfl,rfl⟩,rfl⟩ ?_|refine yN (fn_set hR p hp _) ⟨⟨rfl,rfl⟩,⟨rfl,rfl⟩,rfl⟩ ?_));all_goals try conv=>whnf
  ·exact absurd (know_safe hc0 hkl) hc
  ·exact absurd (safe_true hc0 hkl) hc
  ·exact absurd (safe_belief hc0 hkl) hc
  ·have hcF:=Fm.under hc0 (hd:=⟨14,k,0,0⟩) (agent_hd (by decide) (checkL_good hc0) hkl).1 (by simp only;decide) hf hcl (by decide) ‹_›
   rw [(hcF.belief hc0 hf hkl (by decide)).holds hc0] at hc
   exact absurd (know_belief hc0 hkl) hc
  ·exact ⟨k+1,[(0,0)],[],by (omega),by (omega),by (refine ⟨rfl,rfl,rfl,?_,?_⟩;repeat' first|exact trivial|exact rfl|refine And.intro ?_ ?_|refine ⟨_,rfl,?_⟩|decide)⟩
  ·exact ⟨k+1,[(0,0)],[],by (omega),by (omega),by (refine ⟨rfl,rfl,rfl,?_,?_⟩;repeat' first|exact trivial|exact rfl|refine And.intro ?_ ?_|refine ⟨_,rfl,?_⟩|decide)⟩
  all_goals omega
 ·(repeat' ((conv=>whnf);first|refine vA ?_|(refine vF ?_ ?_<;>intro hc<;>try simp only [vL] at hc)|refine vZ ?_));all_goals try conv=>whnf
  all_goals omega
end Go.Ab
namespace Go.Ab
open Go Go.Proofs
set_option linter.unusedSimpArgs false
set_option linter.unusedVariables false
set_option maxRecDepth 10000
set_option maxHeartbeats 4000000
variable {T:Nat→Obj→Prop}
theorem law_Introspects (p:PM) (hp:IntsOk p.rank) (f c:List Nd):Fn Try.prog T f_wittinglaw34_DoxasticIntrospects [.d (dPM p),.d (dF f),.d (dF c)] [] (.d (.bool true)) []:=by
 have hR:=ranks_ok (T:=T)
 have hA:=fn_awake (T:=T)
 have hF:=fn_few (T:=T) p [f,c]
 refine fn_dataR hmix k_wittinglaw34_DoxasticIntrospects (by show 3≤87;decide) ?_
 (repeat' ((conv=>whnf);first|refine TestS.no (by decide) ?_|refine vA ?_|refine vE ?_|((first|refine vD ?_ ?_|refine vI ?_ ?_)<;>intro hc)|refine vJ fun hg=>?_|refine vZ ?_|refine yD hA rfl rfl ?_|refine yD hF ⟨⟨rfl,rfl⟩,⟨rfl,rfl⟩,rfl⟩ rfl ?_|refine yD (fn_ref33_Check _ hp) (by (repeat refine ⟨⟨rfl,rfl⟩,?_⟩);rfl) rfl ?_));all_goals try conv=>whnf
 have hc0:=‹checkL p=0›
 have hg:=checkL_good hc0
 have hW0:0≤p.W:=by have:=hg.w1;omega
 have hfew:=few_len ‹fewL p [f,c]=true›
 have hfl:f.length≤60:=hfew f (by simp)
 have hcl:c.length≤60:=hfew c (by simp)
 refine loop_mem (fun (k:Nat)=>[(1,.d (dF f)),(2,.d (dF c)),(3,.ptr 0 0),(33,.d (.int .i64 ((p.cell.map dI).length:Int))),(34,.d (.int .i64 ((k:Int))))]) (fun (k:Nat)=>[(0,some (boxPM p))]) 1 (fun (k:Nat)=>k≤p.cell.length) (fun (k:Nat)=>p.cell.length - k) (0) [(0,0)] [] (by simp) (by (refine ⟨rfl,rfl,rfl,?_,?_⟩;repeat' first|exact trivial|exact rfl|refine And.intro ?_ ?_|refine ⟨_,rfl,?_⟩|decide)) ?_
 rintro k hk
 by_cases hkl:k < p.cell.length
 ·by_cases hB:(holdsL p (buildL ⟨14,k,0,0,0,0⟩ [c,f])).2=0
  ·obtain ⟨hcF,hfF⟩:=Fm.under2 hc0 (hd:=⟨14,k,0,0⟩) (agent_hd (by decide) hg hkl).1 (by simp only;decide) hcl hfl (by decide) hB
   have hb:=hcF.belief hc0 hfF hkl (by decide)
   have s1:=fn_setOf (T:=T) hR hp hc0 hb
   have s2:=fn_setOf (T:=T) hR hp hc0 (hb.know hc0 hkl (by decide))
   have s3:=fn_setOf (T:=T) hR hp hc0 ((hb.not (by decide)).know hc0 hkl (by decide))
   rw [know_bel hc0 hkl] at s2
   rw [know_notbel hc0 hkl] at s3
   (repeat' ((conv=>whnf);first|refine TestS.no (by decide) ?_|refine vA ?_|((first|refine vD ?_ ?_|refine vF ?_ ?_)<;>intro hc<;>try simp only [vL] at hc)|(refine vO ?_ ?_;·omega)|(refine vU ?_ ?_;·kernel_rfl)|refine vZ ?_|refine yN (fn_FBelief _ _ _) ⟨⟨rfl,rfl⟩,⟨rfl,rfl⟩,⟨rfl,rfl⟩,rfl⟩ ?_|refine yN s1 ⟨⟨rfl,rfl⟩,⟨rfl,rfl⟩,rfl⟩ ?_|refine yN (fn_FKnow _ _) ⟨⟨rfl,rfl⟩,⟨rfl,rfl⟩,rfl⟩ ?_|refine yN s2 ⟨⟨rfl,rfl⟩,⟨rfl,rfl⟩,rfl⟩ ?_|refine yN (fn_FNot _) ⟨⟨rfl,rfl⟩,rfl⟩ ?_|refine yN s3 ⟨⟨rfl,rfl⟩,⟨rfl,rfl⟩,rfl⟩ ?_|refine yD (fn_All13 p.W hW0) ⟨⟨rfl,rfl⟩,rfl⟩ rfl ?_));all_goals try conv=>whnf
   ·exact absurd rfl hc
   ·exact absurd rfl hc
   ·exact ⟨k+1,[(0,0)],[],by (omega),by (omega),by (refine ⟨rfl,rfl,rfl,?_,?_⟩;repeat' first|exact trivial|exact rfl|refine And.intro ?_ ?_|refine ⟨_,rfl,?_⟩|decide)⟩
   all_goals omega
  ·have s1:=fn_set (T:=T) hR p hp (buildL ⟨14,k,0,0,0,0⟩ [c,f])
   rw [decide_eq_false hB] at s1
   (repeat' ((conv=>whnf);first|refine TestS.yes (by decide) ?_|refine vA ?_|(refine vF ?_ ?_<;>intro hc<;>try simp only [vL] at hc)|refine vZ ?_|refine yN (fn_FBelief _ _ _) ⟨⟨rfl,rfl⟩,⟨rfl,rfl⟩,⟨rfl,rfl⟩,rfl⟩ ?_|refine yN s1 ⟨⟨rfl,rfl⟩,⟨rfl,rfl⟩,rfl⟩ ?_));all_goals try conv=>whnf
   all_goals omega
 ·(repeat' ((conv=>whnf);first|refine vA ?_|(refine vF ?_ ?_<;>intro hc<;>try simp only [vL] at hc)|refine vZ ?_));all_goals try conv=>whnf
  all_goals omega
end Go.Ab
namespace Go.Ab
open Go Go.Proofs
set_option linter.unusedSimpArgs false
set_option linter.unusedVariables false
set_option maxRecDepth 10000
set_option maxHeartbeats 4000000
variable {T:Nat→Obj→Prop}
abbrev boxS (a w:Int) (x y z:BitVec 64):Ob := .box [.d (.int .i64 a),.d (.int .i64 w),.d (.u64 x),.d (.u64 y),.d (.u64 z)]
theorem bel_req {p:PM} (hc0:checkL p=0) {a:Nat} (ha:a < p.cell.length) {c s:BitVec 64} (h1:c &&& ~~~allL p.W=0#64) (h2:s &&& ~~~allL p.W=0#64):BelievesL p a c s=(believesL p a c s,0):=by
 have:reqL p a (c|||s)=0:=by
  rw [reqL,if_neg (by omega),if_neg]
  rintro (h|h|h)
  ·omega
  ·omega
  ·apply h
   rw [sub_iff] at h1 h2 ⊢
   intro i hi
   rw [BitVec.getLsbD_or,Bool.or_eq_true] at hi
   exact hi.elim (h1 i) (h2 i)
 rw [BelievesL,if_neg (by omega)]
theorem fn_Rat1 (hR:RanksOk T) (p:PM) (hp:IntsOk p.rank) (hc0:checkL p=0) (a:Nat) (ha:a < p.cell.length) (w:Int) (x y z c s:BitVec 64) (h1:c &&& ~~~allL p.W=0#64) (h2:s &&& ~~~allL p.W=0#64) :
  Fn Try.prog T f_wittinglaw34_DoxasticRational_1 [.d (.u64 c),.d (.u64 s),.ptr 0 0,.ptr 1 0] [boxPM p,boxS (a:Int) w x y z] (.d (.u64 (believesL p a c s))) [some (boxPM p),some (boxS (a:Int) w x y z)]:=by
 have hB:=fn_Believes (T:=T) hR p hp a c s
 rw [bel_req hc0 ha h1 h2] at hB
 refine fn_introR hmix k_wittinglaw34_DoxasticRational_1 (by show 4≤21;decide) _ (fun e env mem n h=>h) ?_
 (repeat' ((conv=>whnf);first|refine vA ?_|refine vH ?_|refine yN hB (by (repeat refine ⟨⟨rfl,rfl⟩,?_⟩);rfl) ?_));all_goals try conv=>whnf
 refine ⟨trivial,_,[(0,0),(1,1)],[],rfl,.inl (by (repeat' exact rfl)),⟨by rfl,by rfl,by rfl,trivial,by (repeat' first|exact trivial|exact rfl|refine And.intro ?_ ?_|refine ⟨_,rfl,?_⟩|exact of_decide_eq_true rfl)⟩,by (repeat' first|exact trivial|exact rfl|refine And.intro ?_ ?_|refine ⟨_,rfl,?_⟩)⟩
theorem law_Rational (p:PM) (hp:IntsOk p.rank) (a w:Int) (x y z:BitVec 64):Fn Try.prog T f_wittinglaw34_DoxasticRational [.d (dPM p),.d (.agg [.int .i64 a,.int .i64 w,.u64 x,.u64 y,.u64 z])] [] (.d (.bool true)) []:=by
 have hR:=ranks_ok (T:=T)
 have hA:=fn_awake (T:=T)
 have hF:=fn_few (T:=T) p []
 refine fn_dataR hmix k_wittinglaw34_DoxasticRational (by show 2≤164;decide) ?_
 (repeat' ((conv=>whnf);first|refine TestS.no (by decide) ?_|refine vA ?_|refine vE ?_|((first|refine vD ?_ ?_|refine vF ?_ ?_)<;>intro hc<;>try simp only [vL] at hc)|refine vJ fun hg=>?_|refine vZ ?_|refine yD hA rfl rfl ?_|refine yD hF ⟨⟨rfl,rfl⟩,⟨rfl,rfl⟩,rfl⟩ rfl ?_|refine yD (fn_ref33_Check _ hp) (by (repeat refine ⟨⟨rfl,rfl⟩,?_⟩);rfl) rfl ?_));all_goals try conv=>whnf
 have hc0:=‹checkL p=0›
 have hg:=checkL_good hc0
 have hW0:0≤p.W:=by have:=hg.w1;omega
 obtain ⟨a,rfl⟩ : ∃ n:Nat,a=n:=⟨a.toNat,by omega⟩
 have ha:a < p.cell.length:=by omega
 have hall : ∀ s:BitVec 64,(s&&&allL p.W) &&& ~~~allL p.W=0#64:=fun s=>sub_iff.2 fun i hi=>(and_bit.1 hi).2
 have hX:=hall x
 have hY:=hall y
 have hZ:=hall z
 have hYZ:((y&&&allL p.W)&&&(z&&&allL p.W)) &&& ~~~allL p.W=0#64:=sub_iff.2 fun i hi=>(and_bit.1 (and_bit.1 hi).1).2
 have hXZ:((x&&&allL p.W)&&&(z&&&allL p.W)) &&& ~~~allL p.W=0#64:=sub_iff.2 fun i hi=>(and_bit.1 (and_bit.1 hi).1).2
 have hXY:((x&&&allL p.W)&&&(y&&&allL p.W)) &&& ~~~allL p.W=0#64:=sub_iff.2 fun i hi=>(and_bit.1 (and_bit.1 hi).1).2
 have hoYZ:((y&&&allL p.W)|||(z&&&allL p.W)) &&& ~~~allL p.W=0#64:=sub_iff.2 fun i hi=>(or_bit.1 hi).elim (fun h=>(and_bit.1 h).2) (fun h=>(and_bit.1 h).2)
 have hnZ:(allL p.W &&& ~~~(z&&&allL p.W)) &&& ~~~allL p.W=0#64:=sub_iff.2 fun i hi=>(not_bit.1 hi).1
 (repeat' ((conv=>whnf);first|refine vA ?_|(refine vF ?_ ?_<;>intro hc<;>try simp only [vL] at hc)|(refine vU ?_ ?_;·kernel_rfl)|refine vZ ?_|refine yD (fn_All13 p.W hW0) ⟨⟨rfl,rfl⟩,rfl⟩ rfl ?_));all_goals try conv=>whnf
 refine CallS.objs [0,1] (fn_Rat1 hR p hp hc0 a ha w x y z (x&&&allL p.W) (x&&&allL p.W) hX hX) (by (repeat' first|exact rfl|refine And.intro ?_ ?_|refine ⟨_,rfl,?_⟩)) (by (repeat' first|exact rfl|refine And.intro ?_ ?_|refine ⟨_,rfl,?_⟩)) (by rfl) (by rfl) (by simp) ?_
 (repeat' ((conv=>whnf);fail));all_goals try conv=>whnf
 refine CallS.objs [0,1] (fn_Rat1 hR p hp hc0 a ha w x y z (x&&&allL p.W) (y&&&allL p.W) hX hY) (by (repeat' first|exact rfl|refine And.intro ?_ ?_|refine ⟨_,rfl,?_⟩)) (by (repeat' first|exact rfl|refine And.intro ?_ ?_|refine ⟨_,rfl,?_⟩)) (by rfl) (by rfl) (by simp) ?_
 (repeat' ((conv=>whnf);fail));all_goals try conv=>whnf
 refine CallS.objs [0,1] (fn_Rat1 hR p hp hc0 a ha w x y z (x&&&allL p.W) (z&&&allL p.W) hX hZ) (by (repeat' first|exact rfl|refine And.intro ?_ ?_|refine ⟨_,rfl,?_⟩)) (by (repeat' first|exact rfl|refine And.intro ?_ ?_|refine ⟨_,rfl,?_⟩)) (by rfl) (by rfl) (by simp) ?_
 (repeat' ((conv=>whnf);fail));all_goals try conv=>whnf
 refine CallS.objs [0,1] (fn_Rat1 hR p hp hc0 a ha w x y z (x&&&allL p.W) ((y&&&allL p.W)&&&(z&&&allL p.W)) hX hYZ) (by (repeat' first|exact rfl|refine And.intro ?_ ?_|refine ⟨_,rfl,?_⟩)) (by (repeat' first|exact rfl|refine And.intro ?_ ?_|refine ⟨_,rfl,?_⟩)) (by rfl) (by rfl) (by simp) ?_
 (repeat' ((conv=>whnf);fail));all_goals try conv=>whnf
 refine CallS.objs [0,1] (fn_Rat1 hR p hp hc0 a ha w x y z (x&&&allL p.W) (y&&&allL p.W) hX hY) (by (repeat' first|exact rfl|refine And.intro ?_ ?_|refine ⟨_,rfl,?_⟩)) (by (repeat' first|exact rfl|refine And.intro ?_ ?_|refine ⟨_,rfl,?_⟩)) (by rfl) (by rfl) (by simp) ?_
 (repeat' ((conv=>whnf);fail));all_goals try conv=>whnf
 refine CallS.objs [0,1] (fn_Rat1 hR p hp hc0 a ha w x y z (x&&&allL p.W) ((y&&&allL p.W)|||(z&&&allL p.W)) hX hoYZ) (by (repeat' first|exact rfl|refine And.intro ?_ ?_|refine ⟨_,rfl,?_⟩)) (by (repeat' first|exact rfl|refine And.intro ?_ ?_|refine ⟨_,rfl,?_⟩)) (by rfl) (by rfl) (by simp) ?_
 (repeat' ((conv=>whnf);fail));all_goals try conv=>whnf
 refine CallS.objs [0,1] (fn_Rat1 hR p hp hc0 a ha w x y z (x&&&allL p.W) (y&&&allL p.W) hX hY) (by (repeat' first|exact rfl|refine And.intro ?_ ?_|refine ⟨_,rfl,?_⟩)) (by (repeat' first|exact rfl|refine And.intro ?_ ?_|refine ⟨_,rfl,?_⟩)) (by rfl) (by rfl) (by simp) ?_
 (repeat' ((conv=>whnf);fail));all_goals try conv=>whnf
 refine CallS.objs [0,1] (fn_Rat1 hR p hp hc0 a ha w x y z (x&&&allL p.W) (allL p.W &&& ~~~(z&&&allL p.W)) hX hnZ) (by (repeat' first|exact rfl|refine And.intro ?_ ?_|refine ⟨_,rfl,?_⟩)) (by (repeat' first|exact rfl|refine And.intro ?_ ?_|refine ⟨_,rfl,?_⟩)) (by rfl) (by rfl) (by simp) ?_
 (repeat' ((conv=>whnf);fail));all_goals try conv=>whnf
 refine CallS.objs [0,1] (fn_Rat1 hR p hp hc0 a ha w x y z ((x&&&allL p.W)&&&(z&&&allL p.W)) (y&&&allL p.W) hXZ hY) (by (repeat' first|exact rfl|refine And.intro ?_ ?_|refine ⟨_,rfl,?_⟩)) (by (repeat' first|exact rfl|refine And.intro ?_ ?_|refine ⟨_,rfl,?_⟩)) (by rfl) (by rfl) (by simp) ?_
 (repeat' ((conv=>whnf);fail));all_goals try conv=>whnf
 refine CallS.objs [0,1] (fn_Rat1 hR p hp hc0 a ha w x y z (x&&&allL p.W) (y&&&allL p.W) hX hY) (by (repeat' first|exact rfl|refine And.intro ?_ ?_|refine ⟨_,rfl,?_⟩)) (by (repeat' first|exact rfl|refine And.intro ?_ ?_|refine ⟨_,rfl,?_⟩)) (by rfl) (by rfl) (by simp) ?_
 (repeat' ((conv=>whnf);fail));all_goals try conv=>whnf
 refine CallS.objs [0,1] (fn_Rat1 hR p hp hc0 a ha w x y z (x&&&allL p.W) (z&&&allL p.W) hX hZ) (by (repeat' first|exact rfl|refine And.intro ?_ ?_|refine ⟨_,rfl,?_⟩)) (by (repeat' first|exact rfl|refine And.intro ?_ ?_|refine ⟨_,rfl,?_⟩)) (by rfl) (by rfl) (by simp) ?_
 (repeat' ((conv=>whnf);fail));all_goals try conv=>whnf
 refine CallS.objs [0,1] (fn_Rat1 hR p hp hc0 a ha w x y z ((x&&&allL p.W)&&&(z&&&allL p.W)) (y&&&allL p.W) hXZ hY) (by (repeat' first|exact rfl|refine And.intro ?_ ?_|refine ⟨_,rfl,?_⟩)) (by (repeat' first|exact rfl|refine And.intro ?_ ?_|refine ⟨_,rfl,?_⟩)) (by rfl) (by rfl) (by simp) ?_
 (repeat' ((conv=>whnf);fail));all_goals try conv=>whnf
 refine CallS.objs [0,1] (fn_Rat1 hR p hp hc0 a ha w x y z (x&&&allL p.W) (y&&&allL p.W) hX hY) (by (repeat' first|exact rfl|refine And.intro ?_ ?_|refine ⟨_,rfl,?_⟩)) (by (repeat' first|exact rfl|refine And.intro ?_ ?_|refine ⟨_,rfl,?_⟩)) (by rfl) (by rfl) (by simp) ?_
 (repeat' ((conv=>whnf);fail));all_goals try conv=>whnf
 refine CallS.objs [0,1] (fn_Rat1 hR p hp hc0 a ha w x y z ((x&&&allL p.W)&&&(y&&&allL p.W)) (z&&&allL p.W) hXY hZ) (by (repeat' first|exact rfl|refine And.intro ?_ ?_|refine ⟨_,rfl,?_⟩)) (by (repeat' first|exact rfl|refine And.intro ?_ ?_|refine ⟨_,rfl,?_⟩)) (by rfl) (by rfl) (by simp) ?_
 (repeat' ((conv=>whnf);fail));all_goals try conv=>whnf
 refine CallS.objs [0,1] (fn_Rat1 hR p hp hc0 a ha w x y z (x&&&allL p.W) (z&&&allL p.W) hX hZ) (by (repeat' first|exact rfl|refine And.intro ?_ ?_|refine ⟨_,rfl,?_⟩)) (by (repeat' first|exact rfl|refine And.intro ?_ ?_|refine ⟨_,rfl,?_⟩)) (by rfl) (by rfl) (by simp) ?_
 (repeat' ((conv=>whnf);first|refine vA ?_|(refine vF ?_ ?_<;>intro hc)|refine vZ ?_));all_goals try conv=>whnf
 ·exact decide_eq_true (bel_cut hc0 ha)
 ·exact absurd (bel_caut hc0 ha) hc
 ·exact absurd (bel_rat hc0 ha) hc
 ·exact absurd (bel_or hc0 ha) hc
 ·exact absurd (bel_and hc0 ha) hc
 ·exact absurd (bel_refl hc0 ha) hc
end Go.Ab
namespace Go.Ab
open Go Go.Proofs
set_option linter.unusedSimpArgs false
set_option linter.unusedVariables false
set_option maxRecDepth 10000
set_option maxHeartbeats 4000000
variable {T:Nat→Obj→Prop}
theorem strong_iff {p:PM} (hc0:checkL p=0) {a:Nat} (ha:a < p.cell.length) {s:BitVec 64} {w:Nat} (hw:w < p.W.toNat) (hs:s &&& ~~~allL p.W=0#64) :
  StrongP p a s w↔cellL p a w&&&s≠0#64 ∧ ∀ c:BitVec 64,c &&& ~~~allL p.W=0#64→c&&&cellL p a w&&&s≠0#64→(believesL p a c s).getLsbD w=true:=by
 have nz : ∀ {x:BitVec 64},x≠0#64 ↔ ∃ i,x.getLsbD i=true:=fun {x} => by
  constructor
  ·intro h
   exact Classical.byContradiction fun hn=>h (zero_iff.2 fun i=>by
    cases hx:x.getLsbD i with
    | false=>rfl
    | true=>exact absurd ⟨i,hx⟩ hn)
  ·rintro ⟨i,hi⟩ e
   subst e;simp at hi
 have hr : ∀ i,at0 (rowAt p.rank (a:Int).toNat) i=rkA p a i:=fun i=>rfl
 constructor
 ·rintro ⟨h1,h2⟩
  refine ⟨h2,fun c hc hcs=>(bel_iff hc0 ha).2 ⟨hw,fun v hv=>?_⟩⟩
  apply Classical.byContradiction
  intro hn
  obtain ⟨u,hu⟩:=nz.1 hcs
  obtain ⟨h3,h4⟩:=and_bit.1 hu
  obtain ⟨h5,h6⟩:=and_bit.1 h3
  have hcu:=(cell_bit hc0 ha hw).1 h6
  have g:=h1 u hcu.1 v hv.cell.1 (and_bit.2 ⟨h6,h4⟩) (not_bit.2 ⟨(cell_bit hc0 ha hw).2 hv.cell,hn⟩)
  have g2:=hv.best u hcu h5
  rw [hr,hr] at g
  omega
 ·rintro ⟨h1,h2⟩
  refine ⟨fun u hu v hv hus hvs=>?_,h1⟩
  rw [hr,hr]
  apply Classical.byContradiction
  intro hn
  obtain ⟨u1,u2⟩:=and_bit.1 hus
  obtain ⟨v1,v2⟩:=not_bit.1 hvs
  have h64:=W64 hc0
  have cb : ∀ i,((1#64 <<< u)|||(1#64 <<< v)).getLsbD i=true↔i=u∨i=v:=fun i=>by
   rw [or_bit,bit_pow,bit_pow]
   simp only [Bool.and_eq_true,decide_eq_true_eq]
   omega
  have g:=(bel_iff hc0 ha).1 (h2 ((1#64 <<< u)|||(1#64 <<< v)) (sub_iff.2 fun i hi=>(all_bit hc0).2 (by rcases (cb i).1 hi with rfl|rfl<;>assumption)) (nz.2 ⟨u,and_bit.2 ⟨and_bit.2 ⟨(cb u).2 (.inl rfl),u1⟩,u2⟩⟩))
  refine v2 (g.2 v ⟨(cell_bit hc0 ha hw).1 v1,(cb v).2 (.inr rfl),fun i hi hci=>?_⟩)
  rcases (cb i).1 hci with rfl|rfl
  ·omega
  ·exact Int.le_refl _
theorem all_nat {W:Int} (h1:1≤W) (h6:W≤6):(allL W).toNat=2 ^ W.toNat - 1∧2 ^ W.toNat≤64:=by
 have:W=1∨W=2∨W=3∨W=4∨W=5∨W=6:=by omega
 rcases this with rfl|rfl|rfl|rfl|rfl|rfl<;>decide
theorem le_all {p:PM} (hc0:checkL p=0) (h6:p.W≤6) {c:BitVec 64} : c.toNat≤(allL p.W).toNat↔c &&& ~~~allL p.W=0#64:=by
 have h1:=(checkL_good hc0).w1
 obtain ⟨e,e2⟩:=all_nat h1 h6
 have hp:=Nat.two_pow_pos p.W.toNat
 rw [sub_iff,e]
 constructor
 ·intro h i hi
  rw [all_bit hc0]
  apply Classical.byContradiction
  intro hn
  have:=Nat.testBit_lt_two_pow (Nat.lt_of_lt_of_le (show c.toNat < 2 ^ p.W.toNat by omega) (Nat.pow_le_pow_right (by omega) (Nat.not_lt.1 hn)))
  rw [← BitVec.testBit_toNat,this] at hi
  cases hi
 ·intro h
  have:c.toNat < 2 ^ p.W.toNat:=Nat.lt_pow_two_of_testBit _ fun i hi=>by
   cases hb:c.toNat.testBit i with
   | false=>rfl
   | true=>have:=(all_bit hc0).1 (h i (by rw [← BitVec.testBit_toNat];exact hb));omega
  omega
theorem law_Strong (p:PM) (hp:IntsOk p.rank) (a w:Int) (x y z:BitVec 64):Fn Try.prog T f_wittinglaw34_DoxasticStrong [.d (dPM p),.d (.agg [.int .i64 a,.int .i64 w,.u64 x,.u64 y,.u64 z])] [] (.d (.bool true)) []:=by
 have hR:=ranks_ok (T:=T)
 have hA:=fn_awake (T:=T)
 have hF:=fn_few (T:=T) p []
 refine fn_dataR hmix k_wittinglaw34_DoxasticStrong (by show 2≤115;decide) ?_
 (repeat' ((conv=>whnf);first|refine TestS.no (by decide) ?_|refine vA ?_|refine vE ?_|((first|refine vD ?_ ?_|refine vF ?_ ?_)<;>intro hc<;>try simp only [vL] at hc)|refine vJ fun hg=>?_|refine vZ ?_|refine yD hA rfl rfl ?_|refine yD hF ⟨⟨rfl,rfl⟩,⟨rfl,rfl⟩,rfl⟩ rfl ?_|refine yD (fn_ref33_Check _ hp) (by (repeat refine ⟨⟨rfl,rfl⟩,?_⟩);rfl) rfl ?_));all_goals try conv=>whnf
 have hc0:=‹checkL p=0›
 have hg:=checkL_good hc0
 have hW1:=hg.w1
 have hW0:0≤p.W:=by omega
 have h6:p.W≤6:=by omega
 obtain ⟨a,rfl⟩ : ∃ n:Nat,a=n:=⟨a.toNat,by omega⟩
 have ha:a < p.cell.length:=by omega
 have hs:(x&&&allL p.W) &&& ~~~allL p.W=0#64:=sub_iff.2 fun i hi=>(and_bit.1 hi).2
 have hreq:StrongL p a (x&&&allL p.W)=(setTo (fun w=>decide (StrongP p a (x&&&allL p.W) w)) p.W.toNat,0):=by
  have:reqL p a (x&&&allL p.W)=0:=by
   rw [reqL,if_neg (by omega),if_neg]
   rintro (h|h|h)
   ·omega
   ·omega
   ·exact h hs
  rw [StrongL,if_neg (by omega)]
 have hS:=fn_Strong (T:=T) hR p hp a (x&&&allL p.W)
 rw [hreq] at hS
 (repeat' ((conv=>whnf);first|refine vA ?_|refine vH ?_|refine yD (fn_All13 p.W hW0) ⟨⟨rfl,rfl⟩,rfl⟩ rfl ?_|refine yN hS ⟨⟨rfl,rfl⟩,⟨rfl,rfl⟩,⟨rfl,rfl⟩,rfl⟩ ?_));all_goals try conv=>whnf
 refine loop_mem (fun (k:Nat)=>[(2,.ptr 0 0),(3,.ptr 1 0),(5,.d (.u64 (allL p.W))),(6,.d (.u64 (x&&&allL p.W))),(7,.d (.u64 (setTo (fun w=>decide (StrongP p a (x&&&allL p.W) w)) p.W.toNat))),(64,.d (.int .i64 (p.W))),(65,.d (.int .i64 ((k:Int))))]) (fun (k:Nat)=>[(0,some (boxPM p)),(1,some (boxS a w x y z))]) 2 (fun (k:Nat)=>k≤p.W.toNat) (fun (k:Nat)=>p.W.toNat - k) (0) [(0,0),(1,1)] [] (by simp) (by (refine ⟨rfl,rfl,rfl,?_,?_⟩;repeat' first|exact trivial|exact rfl|refine And.intro ?_ ?_|refine ⟨_,rfl,?_⟩|decide)) ?_
 rintro k hk
 by_cases hkW:k < p.W.toNat
 ·have hat:At p a k:=at_of hc0 ha hkW
  (repeat' ((conv=>whnf);first|refine vA ?_|(refine vF ?_ ?_<;>intro hc<;>try simp only [vL] at hc)|refine vZ ?_|refine yD (fn_Cell hR p hp _ _) (by (repeat refine ⟨⟨rfl,rfl⟩,?_⟩);rfl) rfl ?_));all_goals try conv=>whnf
  ·refine loop_mem (fun ((c,b):BitVec 64×Bool)=>[(2,.ptr 0 0),(3,.ptr 1 0),(5,.d (.u64 (allL p.W))),(6,.d (.u64 (x&&&allL p.W))),(7,.d (.u64 (setTo (fun w=>decide (StrongP p a (x&&&allL p.W) w)) p.W.toNat))),(64,.d (.int .i64 (p.W))),(65,.d (.int .i64 ((k:Int)))),(9,.d (.int .i64 ((k:Int)))),(10,.d (.u64 (cellL p a k))),(11,.d (.bool (b))),(12,.d (.u64 (c)))]) (fun ((c,b):BitVec 64×Bool)=>[(0,some (boxPM p)),(1,some (boxS a w x y z))]) 2 (fun ((c,b):BitVec 64×Bool)=>c.toNat≤(allL p.W).toNat+1∧(b=true↔cellL p a k&&&(x&&&allL p.W)≠0#64 ∧ ∀ d:BitVec 64,d.toNat < c.toNat→d&&&cellL p a k&&&(x&&&allL p.W)≠0#64→(believesL p a d (x&&&allL p.W)).getLsbD k=true)) (fun ((c,b):BitVec 64×Bool)=>(allL p.W).toNat+1 - c.toNat) ((0#64,decide (cellL p a k&&&(x&&&allL p.W)≠0#64))) [(0,0),(1,1)] [] (⟨by simp,by simp⟩) (by (refine ⟨rfl,rfl,rfl,?_,?_⟩;repeat' first|exact trivial|exact rfl|exact .inl rfl|refine And.intro ?_ ?_|refine ⟨_,rfl,?_⟩|decide)) ?_
   rintro ⟨c,b⟩ ⟨hcl,hI⟩
   have hN:=(all_nat hW1 h6)
   have hp2:=Nat.two_pow_pos p.W.toNat
   by_cases hle:c.toNat≤(allL p.W).toNat
   ·have hcs:=(le_all hc0 h6).1 hle
    have hB:=fn_Believes (T:=T) hR p hp a c (x&&&allL p.W)
    rw [bel_req hc0 ha hcs hs] at hB
    have hc1:(c+1#64).toNat=c.toNat+1:=by rw [BitVec.toNat_add];simp;omega
    have keep : ∀ {q:Prop},(c&&&cellL p a k&&&(x&&&allL p.W)≠0#64→((believesL p a c (x&&&allL p.W)).getLsbD k=true↔q))→(c&&&cellL p a k&&&(x&&&allL p.W)=0#64→q) →
      ((b=true∧q)↔cellL p a k&&&(x&&&allL p.W)≠0#64 ∧ ∀ d:BitVec 64,d.toNat < (c+1#64).toNat→d&&&cellL p a k&&&(x&&&allL p.W)≠0#64→(believesL p a d (x&&&allL p.W)).getLsbD k=true):=fun {q} h1 h2=>by
     rw [hI,and_assoc,hc1]
     refine and_congr_right fun _=>⟨fun ⟨g1,g2⟩ d hd hds=>?_,fun g=>⟨fun d hd=>g d (by omega),?_⟩⟩
     ·by_cases e:d=c
      ·subst e;exact (h1 hds).2 g2
      ·exact g1 d (by have:d.toNat≠c.toNat:=fun h=>e (BitVec.eq_of_toNat_eq h);omega) hds
     ·by_cases e:c&&&cellL p a k&&&(x&&&allL p.W)=0#64
      ·exact h2 e
      ·exact (h1 e).1 (g c (by omega) e)
    (repeat' ((conv=>whnf);first|refine vA ?_|refine vE ?_|refine vH ?_|((first|refine vF ?_ ?_|refine vI ?_ ?_)<;>intro hc)|((first|refine vO ?_ ?_|refine vP ?_ ?_);·omega)|refine vZ ?_|refine yN hB (by (repeat refine ⟨⟨rfl,rfl⟩,?_⟩);rfl) ?_));all_goals try conv=>whnf
    ·have h0:=‹c&&&cellL p a k&&&(x&&&allL p.W)=0#64›
     exact ⟨(c+1#64,b),[(0,0),(1,1)],[],⟨by omega,by
      have:=keep (q:=True) (fun h=>absurd h0 h) (fun _=>trivial)
      rwa [and_true] at this⟩,by ((simp only [vM] at *;omega)),by (refine ⟨rfl,rfl,rfl,?_,?_⟩;repeat' first|exact trivial|exact rfl|exact .inl rfl|refine And.intro ?_ ?_|refine ⟨_,rfl,?_⟩|decide)⟩
    ·have h0:=‹¬c&&&cellL p a k&&&(x&&&allL p.W)=0#64›
     have hb:=‹b=true›
     refine ⟨(c+1#64,_),[(0,0),(1,1)],[],?_,?_,by (refine ⟨rfl,rfl,rfl,?_,?_⟩;repeat' first|exact trivial|exact rfl|exact .inl rfl|refine And.intro ?_ ?_|refine ⟨_,rfl,?_⟩|decide)⟩
     ·refine ⟨by omega,?_⟩
      have:=keep (q:=(believesL p a c (x&&&allL p.W)).getLsbD k=true) (fun _=>Iff.rfl) (fun h=>absurd h h0)
      rw [← this,hb,decide_eq_true_eq]
      exact (bit_one _ k).trans ⟨fun h=>⟨rfl,h⟩,fun h=>h.2⟩
     ·((simp only [vM] at *;omega))
    ·have h0:=‹¬c&&&cellL p a k&&&(x&&&allL p.W)=0#64›
     have hb:=‹b=false›
     exact ⟨(c+1#64,false),[(0,0),(1,1)],[],⟨by omega,by
      have:=keep (q:=(believesL p a c (x&&&allL p.W)).getLsbD k=true) (fun _=>Iff.rfl) (fun h=>absurd h h0)
      rw [← this,hb]
      exact ⟨fun h=>(by cases h),fun h=>h.1⟩⟩,by ((simp only [vM] at *;omega)),by (refine ⟨rfl,rfl,rfl,?_,?_⟩;repeat' first|exact trivial|exact rfl|exact .inr (.inr ⟨rfl,rfl⟩)|refine And.intro ?_ ?_|refine ⟨_,rfl,?_⟩|decide)⟩
    all_goals exact absurd hle ‹_›
   ·have hfin:b=true↔StrongP p a (x&&&allL p.W) k:=by
     rw [hI,strong_iff hc0 ha hkW hs]
     refine and_congr_right fun _=>⟨fun g d hd=>g d (by have:=(le_all hc0 h6).2 hd;omega),fun g d hd=>g d ((le_all hc0 h6).1 (by omega))⟩
    have hdec:decide (setTo (fun w=>decide (StrongP p a (x&&&allL p.W) w)) p.W.toNat >>> ((k:Nat):Int).toNat&&&1#64=1#64)=b:=by
     rw [Bool.eq_iff_iff,decide_eq_true_eq,hfin]
     refine (bit_one _ k).trans ?_
     rw [set_is (W64 hc0)]
     exact ⟨fun h=>h.2,fun h=>⟨hkW,h⟩⟩
    (repeat' ((conv=>whnf);first|refine vA ?_|refine vE ?_|(refine vF ?_ ?_<;>intro hc)|((first|refine vO ?_ ?_|refine vP ?_ ?_);·omega)|refine vZ ?_));all_goals try conv=>whnf
    ·exact absurd ‹c.toNat≤_› hle
    ·exact absurd ‹c.toNat≤_› hle
    ·exact ⟨k+1,[(0,0),(1,1)],[],by (omega),by (omega),by (refine ⟨rfl,rfl,rfl,?_,?_⟩;repeat' first|exact trivial|exact rfl|refine And.intro ?_ ?_|refine ⟨_,rfl,?_⟩|decide)⟩
    ·exact absurd hdec.symm hc
 ·(repeat' ((conv=>whnf);first|refine vA ?_|(refine vF ?_ ?_<;>intro hc<;>try simp only [vL] at hc)|refine vZ ?_));all_goals try conv=>whnf
  all_goals omega
end Go.Ab
namespace Go.Proofs.Ytffknaghkomefaa
open Go Go.Ab Go.RowKit Go.ChangeShapes Go.WideShapes
set_option linter.unusedVariables false
set_option maxRecDepth 100000 in
theorem doxasticStrong_holds:Rows.DoxasticStrongSaid :=
 OpenClaim.holds_of_wide 7 Try.f7 rfl rfl rfl rfl rfl rfl rfl ⟨rfl,rfl,rfl,rfl,rfl⟩ rfl rfl rfl rfl rfl (by kernel_rfl) Try.func7 (by kernel_rfl)
  (of_decide_eq_true (by kernel_rfl)) (by unfold Func.isWrapper;rw [if_neg (of_decide_eq_false (by kernel_rfl))];exact ⟨rfl,rfl⟩)
  (fun os started H enc _=>strip_of <| law_lifted (C:=Try.checked) (s:=Rows.doxasticStrongSpec) (laid:=[]) knob started (by kernel_rfl) Try.func7 laidOut [25,28] Try.params7 rfl Try.underlying4 rfl (by kernel_rfl)
   (fun ds hds=>by match ds,hds with|[d1,d2],_=>rfl)
   (ChangeSpec.witness_shaped (enc:=enc) (C:=Try.checked) (os:=os) (X:=fun w _=>laidMetH Try.prog [] w) false (World.doorLaid Try.prog 14 os)
    #[.agg #[.int .i64 0,.slice none 0 0,.slice none 0 0,.slice none 0 0],.agg #[.int .i64 0,.int .i64 0,.int .u64 0,.int .u64 0,.int .u64 0]] 8 rfl (World.shaped_of_RefB (by kernel_rfl) (by kernel_rfl)) (by kernel_rfl) (by kernel_rfl) (by kernel_rfl) laid_nil)
   (fun W hL=>⟨noT,fun b o h=>h.elim,fun b h=>h.elim fun o h=>h.elim,fun ds hds=>by
    obtain ⟨p1,r,rfl,hc1,hp1,k1⟩:=arg25 hds
    obtain ⟨a2,w2,x2,y2,z2,r,rfl,k2⟩:=arg28 k1
    obtain rfl:=arg0 k2
    exact law_Strong p1 hp1 a2 w2 x2 y2 z2⟩))
end Go.Proofs.Ytffknaghkomefaa
