/- What is proved here: the law PlausParts of chapter 33 returns true at every input and leaves its arguments as they were; the condition is the row own: the listed table of math bits holds what the text lays. -/
import Derived.Test.YtlaahcmflibkgaaDoorMH
set_option linter.unusedVariables false
set_option linter.unusedSimpArgs false
set_option linter.unusedSectionVars false
namespace Go.Ab
open Go Go.Proofs
section
open K
def f_wittinglaw33_PlausParts:Nat:=7
def c_wittinglaw33_PlausParts:CFn:=⟨232,[.tmp 4],(q [(.reg [o 2 (.box 4 (t 0)),o 4 (.mv (c .bf))]),
 (q [(.reg [o 17 (la 4 2),o 18 (.call 10 [(t 17)]),o 19 (.un .not (t 18))]),
 (i 19 (q [(.reg [o 20 (.call 11 []),o 4 (m 20)]),
 .ret]) .skip)]),
 (.reg [o 22 (la 4 2),o 23 (m 1),o 24 (.call 23 [(t 22),(t 23)]),o 21 (m 24),o 25 (e 21 0),o 26 (e 21 1),o 27 (e 21 2),o 5 (.alloc [(n 0),(.nils 1),(.nils 1),(.nils 1)]),w (.store 4 (t 5) (t 25)),o 6 (m 26),o 7 (m 27)]),
 (q [(.reg [o 28 (m 7),o 29 (bc .neq 28 (n 0))]),
 (i 29 (q [(.reg [o 30 (.call 11 []),o 4 (m 30)]),
 .ret]) .skip)]),
 (q [(.reg [o 31 (m 6),o 32 (ln 31),o 33 (f 0 5),o 34 (l 33),o 35 (b .neq 32 34),o 36 (m 35),g 37 36 false (f 2 5),g 38 36 false (l 37),g 39 36 false (ln 38),g 40 36 false (f 2 2),g 41 36 false (l 40),g 42 36 false (ln 41),g 43 36 false (b .neq 39 42),o 44 (pt 36 43),o 45 (m 44),g 46 45 false (f 1 5),g 47 45 false (l 46),g 48 45 false (ln 47),g 49 45 false (f 1 2),g 50 45 false (l 49),g 51 45 false (ln 50),g 52 45 false (b .neq 48 51),o 53 (pt 45 52),o 54 (m 53),g 55 54 false (la 4 5),g 56 54 false (.call 12 [(t 55)]),g 57 54 false (bc .neq 56 (n 0)),o 58 (pt 54 57)]),
 (i 58 (q [(.reg [o 4 (.mv (c .bf))]),
 .ret]) .skip)]),
 (q [(.reg [o 8 (.mv (c (n 0)))]),
 (.block 0 (.loop (q [(q [(.reg [o 59 (m 8),o 60 (f 2 2),o 61 (l 60),o 62 (ln 61),o 63 (b .lss 59 62)]),
 (i 63 .skip (.exit 0))]),
 (.block 1 (q [(.reg [o 67 (la 4 2),o 68 (m 8),o 69 (.call 20 [(t 67),(t 68)]),o 66 (m 69),o 70 (e 66 0),o 71 (e 66 1),o 9 (m 70),o 10 (m 71)]),
 (.reg [o 73 (la 4 5),o 74 (m 8),o 75 (.call 20 [(t 73),(t 74)]),o 72 (m 75),o 76 (e 72 0),o 77 (e 72 1),o 11 (m 76),o 12 (m 77)]),
 (q [(.reg [o 78 (m 9),o 79 (ln 78),o 80 (f 0 2),o 81 (l 80),o 82 (b .neq 79 81),o 83 (m 82),g 84 83 false (m 11),g 85 83 false (ln 84),g 86 83 false (f 0 5),g 87 83 false (l 86),g 88 83 false (b .neq 85 87),o 89 (pt 83 88)]),
 (i 89 (q [(.reg [o 4 (.mv (c .bf))]),
 .ret]) .skip)]),
 (.reg [o 13 (.mv (c (n 0)))]),
 (.block 2 (.loop (q [(q [(.reg [o 90 (m 13),o 91 (m 6),o 92 (ln 91),o 93 (b .lss 90 92)]),
 (i 93 .skip (.exit 2))]),
 (.block 3 (q [(q [(.regd [o 96 (m 6),o 97 (m 13),o 98 (ia 1 96 97),o 99 (l 98),o 100 (bc .lss 99 (n 0)),o 101 (m 100),g 102 101 false (m 6),g 103 101 false (m 13),g 104 101 false (ia 1 102 103),g 105 101 false (l 104),g 106 101 false (f 0 2),g 107 101 false (l 106),g 108 101 false (b .geq 105 107),o 109 (pt 101 108),o 110 (m 109),g 111 110 false (m 1),g 112 110 false (m 6),g 113 110 false (m 13),g 114 110 false (ia 1 112 113),g 115 110 false (l 114),g 116 110 false (.conv .u64 (t 115)),g 117 110 false (b .shr 111 116),g 118 110 false (bc .and 117 (u 1)),g 119 110 false (bc .eql 118 (u 0)),o 120 (pt 110 119),o 121 (m 120),g 122 121 false (m 13),g 123 121 false (bc .gtr 122 (n 0)),g 124 121 false (m 123),g 125 124 true (m 6),g 126 124 true (m 13),g 127 124 true (ia 1 125 126),g 128 124 true (l 127),g 129 124 true (m 6),g 130 124 true (m 13),g 131 124 true (bc .sub 130 (n 1)),g 132 124 true (ia 1 129 131),g 133 124 true (l 132),g 134 124 true (b .leq 128 133),g 135 121 false (pf 124 134),o 136 (pt 121 135)] [0,0,3,7,15,31,63,63,255,511,63,1087,4095,8191,16383,32767,32767,32767,229375,491519,1015807,2097151,4194303,8388607,16777215,33554431,67108863,134217727,268435455,536870911,536870911,2147483647,4294967295,536870911,536870911,17716740095,60666413055,129385889791,274877906943,549755813887,1099511627775]),
 (i 136 (q [(.reg [o 4 (.mv (c .bf))]),
 .ret]) .skip)]),
 (.reg [o 14 (.mv (c (n 0)))]),
 (.block 4 (.loop (q [(q [(.reg [o 137 (m 14),o 138 (m 6),o 139 (ln 138),o 140 (b .lss 137 139)]),
 (i 140 .skip (.exit 4))]),
 (.block 5 (q [(.regd [o 143 (m 6),o 144 (m 14),o 145 (ia 1 143 144),o 146 (l 145),o 147 (bc .lss 146 (n 0)),o 148 (m 147),g 149 148 false (m 6),g 150 148 false (m 14),g 151 148 false (ia 1 149 150),g 152 148 false (l 151),g 153 148 false (f 0 2),g 154 148 false (l 153),g 155 148 false (b .geq 152 154),o 156 (pt 148 155),o 157 (m 156),g 158 157 false (m 11),g 159 157 false (m 13),g 160 157 false (ia 1 158 159),g 161 157 false (l 160),g 162 157 false (m 14),g 163 157 false (.conv .u64 (t 162)),g 164 157 false (b .shr 161 163),g 165 157 false (bc .and 164 (u 1)),g 166 157 false (m 9),g 167 157 false (m 6),g 168 157 false (m 13),g 169 157 false (ia 1 167 168),g 170 157 false (l 169),g 171 157 false (ia 1 166 170),g 172 157 false (l 171),g 173 157 false (m 6),g 174 157 false (m 14),g 175 157 false (ia 1 173 174),g 176 157 false (l 175),g 177 157 false (.conv .u64 (t 176)),g 178 157 false (b .shr 172 177),g 179 157 false (bc .and 178 (u 1)),g 180 157 false (b .neq 165 179),o 181 (pt 157 180)] [0,0,3,7,15,31,63,63,255,511,63,1087,4095,8191,16383,32767,32767,131071,262143,32767,557055,2097151,4194303,32767,32767,32767,50364415,117473279,260079615,528515071,32767,32767,3221258239,7516225535,16106160127,34351382527,68711120895,137438953471,274877906943]),
 (i 181 (q [(.reg [o 4 (.mv (c .bf))]),
 .ret]) .skip)])),
 (.reg [o 141 (m 14),o 142 (bc .add 141 (n 1)),o 14 (m 142)])])))])),
 (.reg [o 94 (m 13),o 95 (bc .add 94 (n 1)),o 13 (m 95)])])))])),
 (.reg [o 64 (m 8),o 65 (bc .add 64 (n 1)),o 8 (m 65)])])))]),
 (q [(.reg [o 15 (.mv (c (n 0)))]),
 (.block 6 (.loop (q [(q [(.reg [o 182 (m 15),o 183 (f 1 2),o 184 (l 183),o 185 (ln 184),o 186 (b .lss 182 185)]),
 (i 186 .skip (.exit 6))]),
 (.block 7 (q [(.reg [o 16 (.mv (c (n 0)))]),
 (.block 8 (.loop (q [(q [(.reg [o 189 (m 16),o 190 (m 6),o 191 (ln 190),o 192 (b .lss 189 191)]),
 (i 192 .skip (.exit 8))]),
 (.block 9 (q [(.regd [o 195 (m 6),o 196 (m 16),o 197 (ia 1 195 196),o 198 (l 197),o 199 (bc .lss 198 (n 0)),o 200 (m 199),g 201 200 false (m 6),g 202 200 false (m 16),g 203 200 false (ia 1 201 202),g 204 200 false (l 203),g 205 200 false (bc .gtr 204 (n 63)),o 206 (pt 200 205),o 207 (m 206),g 208 207 false (f 1 5),g 209 207 false (l 208),g 210 207 false (m 15),g 211 207 false (ia 1 209 210),g 212 207 false (l 211),g 213 207 false (m 16),g 214 207 false (.conv .u64 (t 213)),g 215 207 false (b .shr 212 214),g 216 207 false (bc .and 215 (u 1)),g 217 207 false (f 1 2),g 218 207 false (l 217),g 219 207 false (m 15),g 220 207 false (ia 1 218 219),g 221 207 false (l 220),g 222 207 false (m 6),g 223 207 false (m 16),g 224 207 false (ia 1 222 223),g 225 207 false (l 224),g 226 207 false (.conv .u64 (t 225)),g 227 207 false (b .shr 221 226),g 228 207 false (bc .and 227 (u 1)),g 229 207 false (b .neq 216 228),o 230 (pt 207 229)] [0,0,3,7,15,31,63,63,255,511,1023,2047,4095,8191,16383,8191,65535,131071,8191,270335,1048575,2097151,8191,4202495,8191,29368319,62922751,8191,8191,402661375,939532287,2013274111,4290781183,8585748479,17179869183,34359738367]),
 (i 230 (q [(.reg [o 4 (.mv (c .bf))]),
 .ret]) .skip)])),
 (.reg [o 193 (m 16),o 194 (bc .add 193 (n 1)),o 16 (m 194)])])))])),
 (.reg [o 187 (m 15),o 188 (bc .add 187 (n 1)),o 15 (m 188)])])))]),
 (.reg [o 231 (.call 11 []),o 4 (m 231)]),
 .ret])⟩
end
theorem k_wittinglaw33_PlausParts:compFn Tryd.prog f_wittinglaw33_PlausParts=some c_wittinglaw33_PlausParts:=by kernel_rfl
end Go.Ab
namespace Go.Ab
open Go Go.Proofs
set_option linter.unusedSimpArgs false
set_option linter.unusedVariables false
set_option maxRecDepth 10000
set_option maxHeartbeats 4000000
variable {T:Nat→Obj→Prop}
theorem weaker_ok {p:PM} {a:Nat} (h:checkL p=0) (ha:a < p.cell.length):weakerL p a=(weakL p a,0):=by
 rw [weakerL,if_neg (not_not_intro h),if_neg (by omega)];rfl
end Go.Ab
namespace Go.Ab
open Go Go.Proofs
set_option linter.unusedSimpArgs false
set_option linter.unusedVariables false
set_option maxRecDepth 10000
set_option maxHeartbeats 4000000
variable {T:Nat→Obj→Prop}
theorem rest_check {p:PM} {s:BitVec 64} {q:PM} {l:List Int} (h:restL p s=(q,l,0)):checkL p=0∧s &&& ~~~(allL p.W)=0 ∧ ¬s=0∧l=wsL s p.W.toNat∧q=restPM p l:=by
 unfold restL at h
 split at h
 ·rename_i h0;exact absurd (congrArg (fun x=>x.2.2) h) h0
 ·rename_i h0
  split at h
  ·exact absurd (congrArg (fun x=>x.2.2) h) (by show ¬(2:Int)=0;decide)
  ·rename_i h1
   split at h
   ·exact absurd (congrArg (fun x=>x.2.2) h) (by show ¬(6:Int)=0;decide)
   ·rename_i h2
    have e1:wsL s p.W.toNat=l:=congrArg (fun x=>x.2.1) h
    have e2:restPM p (wsL s p.W.toNat)=q:=congrArg Prod.fst h
    exact ⟨Classical.not_not.1 h0,Classical.not_not.1 h1,h2,e1.symm,by rw [← e2,e1]⟩
theorem insD_len {x:Int} : ∀ {l:List Int},(insD x l).length≤l.length+1
 | []=>by simp [insD]
 | y::r=>by
  unfold insD
  split
  ·simp
  ·split
   ·simp
   ·have:=insD_len (x:=x) (l:=r)
    simp only [List.length_cons];omega
theorem sortD_len : ∀ {l:List Int},(sortD l).length≤l.length
 | []=>by simp [sortD]
 | x::r=>by
  have h1:=insD_len (x:=x) (l:=sortD r)
  have h2:=sortD_len (l:=r)
  rw [sortD]
  simp only [List.length_cons];omega
theorem rks_len {p:PM} {ws:List Int} {a i:Nat} : (rks p ws a i).length≤ws.length:=by
 have h1:=sortD_len (l:=inCell (cell2 p ws a) (rank2 p ws a) (at0 (cell2 p ws a) i))
 have h2:(inCell (cell2 p ws a) (rank2 p ws a) (at0 (cell2 p ws a) i)).length≤(cell2 p ws a).length:=by
  unfold inCell
  rw [List.length_map]
  have:=List.length_filter_le (fun w=>at0 (cell2 p ws a) w==at0 (cell2 p ws a) i) (List.range (cell2 p ws a).length)
  rwa [List.length_range] at this
 rw [cell2_len] at h2
 exact Nat.le_trans h1 h2
theorem rest_ints {p:PM} {ws:List Int} (h:ws.length≤64):IntsOk (restPM p ws).rank:=by
 intro r hr x hx
 obtain ⟨a,ha,rfl⟩:=List.mem_map.1 hr
 obtain ⟨i,hi,rfl⟩:=mem_at0.1 hx
 rw [rank3_len] at hi
 obtain ⟨m,h1,h2,-⟩:=rank3_spec (p:=p) (a:=a) hi
 have:=rks_len (p:=p) (ws:=ws) (a:=a) (i:=i)
 rw [h1]
 exact ⟨by omega,by omega⟩
theorem and_one (x:BitVec 64) (n:Nat):x >>> n&&&1=if x.getLsbD n=true then 1 else 0:=by
 split
 ·rename_i h;exact (bit_one x n).2 h
 ·rename_i h;exact (bit_zero x n).2 (by simpa using h)
theorem and_eq {x y:BitVec 64} {n m:Nat} (h:x.getLsbD n=y.getLsbD m):x >>> n&&&1=y >>> m&&&1:=by rw [and_one,and_one,h]
theorem ofInt_nn {x:Int} (h0:0≤x) (h1:x < 18446744073709551616):(BitVec.ofInt 64 x).toNat=x.toNat:=by
 rw [BitVec.toNat_ofInt,Int.emod_eq_of_lt h0 (by omega)]
set_option maxHeartbeats 8000000 in
theorem law_Parts (hT:TzOk T) (p:PM) (hp:IntsOk p.rank) (s:BitVec 64):Fn Tryd.prog T f_wittinglaw33_PlausParts [.d (dPM p),.d (.u64 s)] [] (.d (.bool true)) []:=by
 have hR:=ranks_ok (T:=T)
 have hRO:RanksOwn T:=fun cell rank h1 h2=>ranks_own h1 h2
 have hA:=fn_awake hT
 have hRs:=fn_Restrict hR hRO p hp s
 have hok:=fun q l=>rest_check (p:=p) (s:=s) (q:=q) (l:=l)
 generalize restL p s=qle at hRs hok
 obtain ⟨q,l,e⟩:=qle
 refine fn_dataR hmix k_wittinglaw33_PlausParts (by show 2≤232;decide) ?_
 (repeat' ((conv=>whnf);first|refine vA ?_|refine vE ?_|((first|refine vD ?_ ?_|refine vF ?_ ?_)<;>intro hc<;>try simp only [vL] at hc)|refine vJ fun hg=>?_|refine vZ ?_|refine yD (fn_Few _) ⟨⟨rfl,rfl⟩,rfl⟩ rfl ?_|refine yD hA rfl rfl ?_|refine yN hRs ⟨⟨rfl,rfl⟩,⟨rfl,rfl⟩,rfl⟩ ?_));all_goals try conv=>whnf
 ·obtain ⟨-,-,-,-,h⟩:=hok q l (by rw [‹e=0›])
  exact absurd (by rw [h];rfl) hc
 ·obtain ⟨-,-,-,-,h⟩:=hok q l (by rw [‹e=0›])
  exact absurd (by rw [h];simp [restPM]) hc
 ·obtain ⟨-,-,-,-,h⟩:=hok q l (by rw [‹e=0›])
  exact absurd (by rw [h];simp [restPM]) hc
 obtain ⟨hck,hs1,hs2,hl,hq⟩:=hok q l (by rw [‹e=0›])
 have hgd:=checkL_good hck
 have hw1:=hgd.w1
 have hw2:=hgd.w2
 have hv8:=hgd.v8
 have hn4:=hgd.n4
 obtain ⟨⟨hl1,hl2⟩,hqc,hqb⟩:=rest_ok hgd hs1 hs2 hl
 have hqi:=rest_ints (p:=p) hl2
 have hqW:q.W=l.length:=by rw [hq];rfl
 have hqn:q.cell.length=p.cell.length:=by rw [hq];simp [restPM]
 have hqv:q.val=p.val.map fun v=>packN v l l.length:=by rw [hq];rfl
 rw [← hq] at hqc hqb hqi
 have hm : ∀ (i:Nat) (x:Int),l[i]? = some x→0≤x∧x < p.W∧s.getLsbD x.toNat=true:=fun i x hx=>by
  have:=List.mem_of_getElem? hx
  rw [hl] at this
  obtain ⟨j,h1,h2,rfl⟩:=mem_wsL.1 this
  exact ⟨by omega,by omega,h2⟩
 have hmono : ∀ (i:Nat) (x y:Int),0 < i→l[i]? = some x→l[((i:Int) - 1).toNat]? = some y→y < x:=fun i x y h0 hx hy=>by
  have h1:Rising l:=by rw [hl];exact wsL_rising _ _
  have h2:=at0_of hx
  have h3:=at0_of hy
  have h4:=rising_at0 h1 (show ((i:Int) - 1).toNat < i by omega) (List.getElem?_eq_some_iff.1 hx).1
  omega
 have hC:=fn_plaus_Check hR q hqi
 rw [hqc] at hC
 (repeat' ((conv=>whnf);first|refine TestS.no (by decide) ?_|refine vA ?_|refine yD hC ⟨⟨rfl,rfl⟩,rfl⟩ rfl ?_));all_goals try conv=>whnf
 refine loop_mem (fun (a:Nat)=>[(1,.d (.u64 (s))),(2,.ptr 0 0),(5,.ptr 1 0),(6,.d (dI l)),(8,.d (.int .i64 ((a:Int))))]) (fun (a:Nat)=>[(0,some (boxPM p)),(1,some (boxPM q))]) 2 (fun (a:Nat)=>a≤p.cell.length) (fun (a:Nat)=>p.cell.length - a) (0) [(0,0),(1,1)] [] (by omega) (by (refine ⟨rfl,rfl,rfl,?_,?_⟩;repeat' first|exact trivial|exact rfl|refine And.intro ?_ ?_|refine ⟨_,rfl,?_⟩|decide)) ?_
 rintro a ha
 (repeat' ((conv=>whnf);first|refine vA ?_|(refine vF ?_ ?_<;>intro hc<;>try simp only [vL] at hc)|refine vJ fun hg=>?_));all_goals try conv=>whnf
 ·have han:a < p.cell.length:=by omega
  have hW1:=fn_Weaker hR p hp a
  rw [weaker_ok hck han] at hW1
  have hW2:=fn_Weaker hR q hqi a
  rw [weaker_ok hqc (by omega)] at hW2
  have hL1:(weakL p a).length=p.W.toNat:=weak_len
  have hL2:(weakL q a).length=l.length:=by rw [weak_len];omega
  (repeat' ((conv=>whnf);first|refine vA ?_|(refine vD ?_ ?_<;>intro hc<;>try simp only [vL] at hc)|refine vJ fun hg=>?_|refine vZ ?_|refine yN hW1 ⟨⟨rfl,rfl⟩,⟨rfl,rfl⟩,rfl⟩ ?_|refine yN hW2 ⟨⟨rfl,rfl⟩,⟨rfl,rfl⟩,rfl⟩ ?_));all_goals try conv=>whnf
  ·exact absurd (show ((weakL p a).length:Int)=p.W by omega) hc
  ·exact absurd (show ((weakL q a).length:Int)=q.W by omega) hc
  refine loop_mem (fun (i:Nat)=>[(1,.d (.u64 (s))),(2,.ptr 0 0),(5,.ptr 1 0),(6,.d (dI l)),(8,.d (.int .i64 ((a:Int)))),(9,.d (dU (weakL p a))),(11,.d (dU (weakL q a))),(13,.d (.int .i64 ((i:Int))))]) (fun (i:Nat)=>[(0,some (boxPM p)),(1,some (boxPM q))]) 2 (fun (i:Nat)=>i≤l.length) (fun (i:Nat)=>l.length - i) (0) [(0,0),(1,1)] [] (by omega) (by (refine ⟨rfl,rfl,rfl,?_,?_⟩;repeat' first|exact trivial|exact rfl|refine And.intro ?_ ?_|refine ⟨_,rfl,?_⟩|decide)) ?_
  rintro i hi
  (repeat' ((conv=>whnf);first|refine vA ?_|(refine vF ?_ ?_<;>intro hc<;>try simp only [vL] at hc)|refine vJ fun hg=>?_|refine vN ‹_› ?_|(refine vQ ?_ fun x hx=>?_;·omega)|((first|refine vO ?_ ?_|refine vS ?_ fun x hx=>?_);·omega)|(refine vU ?_ ?_;·kernel_rfl)|refine vZ ?_));all_goals try conv=>whnf
  ·have:=hm _ _ hx;omega
  ·have:=hm _ _ hx;omega
  ·obtain ⟨h0,h1,h2⟩:=hm _ _ hx
   rw [ofInt_nn h0 (by omega)] at hc
   rw [(bit_zero s _).1 hc] at h2;cases h2
  ·have:=hmono i _ _ (by omega) ‹l[i]? = some _› hx
   omega
  rotate_left 2
  ·exact ⟨a+1,[(0,0),(1,1)],[],by (omega),by (omega),by (refine ⟨rfl,rfl,rfl,?_,?_⟩;repeat' first|exact trivial|exact rfl|refine And.intro ?_ ?_|refine ⟨_,rfl,?_⟩|decide)⟩
  all_goals
   obtain ⟨xi,hxi⟩ : ∃ x,l[i]? = some x:=⟨_,‹l[i]? = some _›⟩
   obtain ⟨x0,x1,x2⟩:=hm i xi hxi
   refine loop_mem (fun (k:Nat)=>[(1,.d (.u64 (s))),(2,.ptr 0 0),(5,.ptr 1 0),(6,.d (dI l)),(8,.d (.int .i64 ((a:Int)))),(9,.d (dU (weakL p a))),(11,.d (dU (weakL q a))),(13,.d (.int .i64 ((i:Int)))),(14,.d (.int .i64 ((k:Int))))]) (fun (k:Nat)=>[(0,some (boxPM p)),(1,some (boxPM q))]) 2 (fun (k:Nat)=>k≤l.length) (fun (k:Nat)=>l.length - k) (0) [(0,0),(1,1)] [] (by omega) (by (refine ⟨rfl,rfl,rfl,?_,?_⟩;repeat' first|exact trivial|exact rfl|refine And.intro ?_ ?_|refine ⟨_,rfl,?_⟩|decide)) ?_
   rintro k hk
   (repeat' ((conv=>whnf);first|refine vA ?_|((first|refine vD ?_ ?_|refine vF ?_ ?_)<;>intro hc<;>try simp only [vL] at hc)|refine vJ fun hg=>?_|refine vN ‹_› ?_|(refine vQ ?_ fun x hx=>?_;·omega)|((first|refine vO ?_ ?_|refine vS ?_ fun x hx=>?_);·omega)|(refine vU ?_ ?_;·kernel_rfl)|refine vZ ?_));all_goals try conv=>whnf
   ·have:=hm _ _ hx;omega
   ·have:=hm _ _ hx;omega
   ·have e1:=at0_of hxi
    have e2:=at0_of ‹l[k]? = some _›
    have e3:=rb_of ‹(weakL q a)[i]? = some _› k
    have e4:=hqb a han i k (by omega) (by omega)
    rw [e1,e2,e3,rb_of hx] at e4
    refine absurd ?_ hc
    rw [ofInt_nat (by omega),ofInt_nn (by omega) (by omega)]
    exact and_eq e4
   ·exact ⟨k+1,[(0,0),(1,1)],[],by (omega),by (omega),by (refine ⟨rfl,rfl,rfl,?_,?_⟩;repeat' first|exact trivial|exact rfl|refine And.intro ?_ ?_|refine ⟨_,rfl,?_⟩|decide)⟩
   ·exact ⟨i+1,[(0,0),(1,1)],[],by (omega),by (omega),by (refine ⟨rfl,rfl,rfl,?_,?_⟩;repeat' first|exact trivial|exact rfl|refine And.intro ?_ ?_|refine ⟨_,rfl,?_⟩|decide)⟩
 ·refine loop_mem (fun (f:Nat)=>[(2,.ptr 0 0),(5,.ptr 1 0),(6,.d (dI l)),(15,.d (.int .i64 ((f:Int))))]) (fun (f:Nat)=>[(0,some (boxPM p)),(1,some (boxPM q))]) 2 (fun (f:Nat)=>f≤p.val.length) (fun (f:Nat)=>p.val.length - f) (0) [(0,0),(1,1)] [] (by omega) (by (refine ⟨rfl,rfl,rfl,?_,?_⟩;repeat' first|exact trivial|exact rfl|refine And.intro ?_ ?_|refine ⟨_,rfl,?_⟩|decide)) ?_
  rintro f hf
  (repeat' ((conv=>whnf);first|refine vA ?_|(refine vF ?_ ?_<;>intro hc<;>try simp only [vL] at hc)|refine vJ fun hg=>?_));all_goals try conv=>whnf
  ·refine loop_mem (fun (i:Nat)=>[(2,.ptr 0 0),(5,.ptr 1 0),(6,.d (dI l)),(15,.d (.int .i64 ((f:Int)))),(16,.d (.int .i64 ((i:Int))))]) (fun (i:Nat)=>[(0,some (boxPM p)),(1,some (boxPM q))]) 2 (fun (i:Nat)=>i≤l.length) (fun (i:Nat)=>l.length - i) (0) [(0,0),(1,1)] [] (by omega) (by (refine ⟨rfl,rfl,rfl,?_,?_⟩;repeat' first|exact trivial|exact rfl|refine And.intro ?_ ?_|refine ⟨_,rfl,?_⟩|decide)) ?_
   rintro i hi
   have hqvl:q.val.length=p.val.length:=by rw [hqv,List.length_map]
   (repeat' ((conv=>whnf);first|refine vA ?_|((first|refine vD ?_ ?_|refine vF ?_ ?_)<;>intro hc<;>try simp only [vL] at hc)|refine vJ fun hg=>?_|refine vN ‹_› ?_|(refine vQ ?_ fun x hx=>?_;·omega)|(refine vO ?_ ?_;·omega)|(refine vU ?_ ?_;·kernel_rfl)|refine vZ ?_));all_goals try conv=>whnf
   ·have:=hm _ _ hx;omega
   ·have:=hm _ _ hx;omega
   ·have e1:=at0_of ‹l[i]? = some _›
    have e2:=‹q.val[f]? = some _›
    rw [hqv,List.getElem?_map,hx] at e2
    have e3:packN _ l l.length=_:=Option.some.inj e2
    refine absurd ?_ hc
    rw [ofInt_nat (by omega),ofInt_nn (by omega) (by omega)]
    refine and_eq ?_
    rw [← e3,packN_bit,e1]
    simp [show i < 64 by omega,show i < l.length by omega]
   ·exact ⟨i+1,[(0,0),(1,1)],[],by (omega),by (omega),by (refine ⟨rfl,rfl,rfl,?_,?_⟩;repeat' first|exact trivial|exact rfl|refine And.intro ?_ ?_|refine ⟨_,rfl,?_⟩|decide)⟩
   ·exact ⟨f+1,[(0,0),(1,1)],[],by (omega),by (omega),by (refine ⟨rfl,rfl,rfl,?_,?_⟩;repeat' first|exact trivial|exact rfl|refine And.intro ?_ ?_|refine ⟨_,rfl,?_⟩|decide)⟩
  ·(repeat' ((conv=>whnf);first|refine vZ ?_|refine yD hA rfl rfl ?_));all_goals try conv=>whnf
end Go.Ab
namespace Go.Proofs.YtlaahcmflibkgaaDoor
open Go Go.Ab Go.RowKit Go.ChangeShapes Go.WideShapes
set_option linter.unusedVariables false
set_option maxRecDepth 100000 in
theorem plausParts_holds:Rows.PlausPartsSaid :=
 OpenClaim.holds_of_wide 7 Tryd.f7 rfl rfl rfl rfl rfl rfl rfl ⟨rfl,rfl,rfl,rfl,rfl⟩ rfl rfl rfl rfl rfl (by kernel_rfl) Tryd.func7 (by kernel_rfl)
  (of_decide_eq_true (by kernel_rfl)) (by unfold Func.isWrapper;rw [if_neg (of_decide_eq_false (by kernel_rfl))];exact ⟨rfl,rfl⟩)
  (fun os started H enc _=>law_lifted (C:=Tryd.checked) (s:=Rows.plausPartsSpec) (laid:=laidL) knob started (by kernel_rfl) Tryd.func7 laidOut [25,31] Tryd.params7 rfl Tryd.underlying4 rfl (by kernel_rfl)
   (fun ds hds=>by match ds,hds with|[d1,d2],_=>rfl)
   (ChangeSpec.witness_shaped (enc:=enc) (C:=Tryd.checked) (os:=os) (X:=fun w _=>laidMetH Tryd.prog laidL w) false (World.doorLaid Tryd.prog 14 os)
    #[.agg #[.int .i64 0,.slice none 0 0,.slice none 0 0,.slice none 0 0],.int .u64 0] 8 rfl (World.shaped_of_RefB (by kernel_rfl) (by kernel_rfl)) (by kernel_rfl) (by kernel_rfl) (by kernel_rfl) (door_met os _))
   (fun W hL=>⟨TOf W,(laid_T hL).1,(laid_T hL).2,fun ds hds=>by
    obtain ⟨p1,r,rfl,hc1,hp1,k1⟩:=arg25 hds
    obtain ⟨s2,r,rfl,k2⟩:=arg31 k1
    obtain rfl:=arg0 k2
    exact law_Parts (tz_of hL) p1 hp1 s2⟩))
theorem plausParts_card:Rows.PlausPartsCardSaid :=
 Claim7.holds_tied_plain_at .later [] [.data] true (true, "94bee8f41b3226e5d37178b5def64642b3a338ae831b1aec4758e198409df0af") false
  plausParts_holds (fun _ h=>by cases h) (by kernel_rfl) (fun _ h=>by cases h) plausParts_row_tie rfl ⟨rfl,rfl⟩ (by kernel_rfl) rfl
  (fun f fn hf hfn=>by
   obtain rfl:f=7:=Option.some.inj ((show Tryd.prog.funcNamed Rows.plausPartsRow.func=some 7 by kernel_rfl).symm.trans hf) |>.symm
   obtain rfl:fn=Tryd.f7:=(Option.some.inj (Tryd.func7.symm.trans hfn)).symm
   exact ⟨by kernel_rfl,fun j t ht=>by
    rw [Tryd.params7] at ht
    have hm:t∈[25,31]:=by
     have:=List.mem_of_getElem? (l:=[25,31]) (i:=j) (by simpa using ht)
     exact this
    have hall:([25,31].all fun t=>Tryd.prog.wantsStandIn t==false)=true:=by kernel_rfl
    exact eq_of_beq (List.all_eq_true.1 hall t hm)⟩)
  (by kernel_rfl)
end Go.Proofs.YtlaahcmflibkgaaDoor
