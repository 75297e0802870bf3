/- What is proved here: the law PlausbisimRanks returns true at every input and leaves its arguments as they were. The condition is the row own: the listed table of math bits holds what the text lays. -/
import Derived.Test.YtmnbcipineblbaaGreatDoorMG
set_option linter.unusedVariables false
set_option linter.unusedSimpArgs false
set_option linter.unusedSectionVars false
namespace Go.Ab
open Go Go.Proofs
section
open K
def f_wittinglaw35_PlausbisimMinimal:Nat:=8
def f_wittinglaw35_PlausbisimRanks:Nat:=9
def f_wittinglaw35_PlausbisimRanks_1:Nat:=30
def c_wittinglaw35_PlausbisimMinimal:CFn:=⟨147,[.tmp 2],(q [(.reg [o 1 (.box 4 (t 0)),o 2 (.mv (c .bf))]),
 (q [(.reg [o 17 (la 4 1),o 18 (.call 10 [(t 17),(c (n 10))]),o 19 (.un .not (t 18)),o 20 (m 19),g 21 20 false (la 4 1),g 22 20 false (.call 29 [(t 21)]),g 23 20 false (bc .neq 22 (n 0)),o 24 (pt 20 23)]),
 (i 24 (q [(.reg [o 25 (.call 11 []),o 2 (m 25)]),
 .ret]) .skip)]),
 (.reg [o 27 (la 4 1),o 28 (.call 17 [(t 27)]),o 26 (m 28),o 29 (e 26 0),o 30 (e 26 1),o 31 (e 26 2),o 3 (.alloc [(n 0),(.nils 1),(.nils 1),(.nils 1)]),w (.store 4 (t 3) (t 29)),o 4 (m 30),o 5 (m 31)]),
 (.reg [o 33 (la 4 1),o 34 (.call 14 [(t 33)]),o 32 (m 34),o 35 (e 32 0),o 36 (e 32 1),o 6 (m 35),o 7 (m 36)]),
 (.reg [o 38 (la 4 3),o 39 (.call 14 [(t 38)]),o 37 (m 39),o 40 (e 37 0),o 41 (e 37 1),o 8 (m 40),o 9 (m 41)]),
 (.reg [o 43 (la 4 3),o 44 (.call 17 [(t 43)]),o 42 (m 44),o 45 (e 42 0),o 46 (e 42 1),o 47 (e 42 2),o 10 (.alloc [(n 0),(.nils 1),(.nils 1),(.nils 1)]),w (.store 4 (t 10) (t 45)),o 11 (m 46),o 12 (m 47)]),
 (q [(.reg [o 48 (m 5),o 49 (bc .neq 48 (n 0)),o 50 (m 49),g 51 50 false (m 7),g 52 50 false (bc .neq 51 (n 0)),o 53 (pt 50 52),o 54 (m 53),g 55 54 false (m 9),g 56 54 false (bc .neq 55 (n 0)),o 57 (pt 54 56),o 58 (m 57),g 59 58 false (m 12),g 60 58 false (bc .neq 59 (n 0)),o 61 (pt 58 60),o 62 (m 61),g 63 62 false (m 6),g 64 62 false (ln 63),g 65 62 false (m 4),g 66 62 false (ln 65),g 67 62 false (b .neq 64 66),o 68 (pt 62 67),o 69 (m 68),g 70 69 false (la 4 3),g 71 69 false (la 4 10),g 72 69 false (.call 19 [(t 70),(t 71)]),g 73 69 false (.un .not (t 72)),o 74 (pt 69 73),o 75 (m 74),g 76 75 false (m 8),g 77 75 false (ln 76),g 78 75 false (f 0 3),g 79 75 false (l 78),g 80 75 false (b .neq 77 79),o 81 (pt 75 80),o 82 (m 81),g 83 82 false (m 11),g 84 82 false (ln 83),g 85 82 false (f 0 3),g 86 82 false (l 85),g 87 82 false (b .neq 84 86),o 88 (pt 82 87)]),
 (i 88 (q [(.reg [o 2 (.mv (c .bf))]),
 .ret]) .skip)]),
 (.reg [o 13 (.mv (c (n 0)))]),
 (q [(.reg [o 89 (m 6),o 90 (ln 89),o 91 (.mv (c (n 0)))]),
 (.block 0 (.loop (q [(.reg [o 92 (b .lss 91 90)]),
 (i 92 .skip (.exit 0)),
 (.block 1 (q [(.reg [o 93 (m 91),o 94 (ia 1 89 91),o 95 (l 94),o 14 (m 93),o 15 (m 95)]),
 (q [(.reg [o 96 (m 15),o 97 (m 14),o 98 (b .eql 96 97)]),
 (i 98 (.reg [o 99 (m 13),o 100 (bc .add 99 (n 1)),o 13 (m 100)]) .skip)]),
 (.regd [o 101 (m 15),o 102 (bc .lss 101 (n 0)),o 103 (m 102),g 104 103 false (m 15),g 105 103 false (m 14),g 106 103 false (b .gtr 104 105),o 107 (pt 103 106),o 108 (m 107),g 109 108 false (m 4),g 110 108 false (m 15),g 111 108 false (ia 1 109 110),g 112 108 false (l 111),g 113 108 false (m 4),g 114 108 false (m 14),g 115 108 false (ia 1 113 114),g 116 108 false (l 115),g 117 108 false (b .neq 112 116),o 118 (pt 108 117)] [0,1,3,7,7,31,63,127,255,255,1023,2047,255,255,12543,28927,65535,131071]),
 (i 118 (q [(.reg [o 2 (.mv (c .bf))]),
 .ret]) .skip)])),
 (.reg [o 119 (bc .add 91 (n 1)),o 91 (m 119)])])))]),
 (q [(.reg [o 120 (m 8),o 121 (ln 120),o 122 (.mv (c (n 0)))]),
 (.block 2 (.loop (q [(.reg [o 123 (b .lss 122 121)]),
 (i 123 .skip (.exit 2)),
 (.block 3 (q [(.reg [o 124 (m 122),o 16 (m 124)]),
 (.reg [o 125 (m 8),o 126 (m 16),o 127 (ia 1 125 126),o 128 (l 127),o 129 (m 16),o 130 (b .neq 128 129),o 131 (m 130),g 132 131 false (m 11),g 133 131 false (m 16),g 134 131 false (ia 1 132 133),g 135 131 false (l 134),g 136 131 false (m 16),g 137 131 false (b .neq 135 136),o 138 (pt 131 137)]),
 (i 138 (q [(.reg [o 2 (.mv (c .bf))]),
 .ret]) .skip)])),
 (.reg [o 139 (bc .add 122 (n 1)),o 122 (m 139)])])))]),
 (.reg [o 140 (m 13),o 141 (f 0 3),o 142 (l 141),o 143 (b .eql 140 142),o 144 (m 143),g 145 144 true (.call 11 []),o 146 (pf 144 145),o 2 (m 146)]),
 .ret])⟩
def c_wittinglaw35_PlausbisimRanks:CFn:=⟨102,[.tmp 6],(q [(.reg [o 3 (.box 4 (t 0)),o 6 (.mv (c .bf))]),
 (q [(.reg [o 12 (la 4 3),o 13 (.call 10 [(t 12),(c (n 10))]),o 14 (.un .not (t 13)),o 15 (m 14),g 16 15 false (la 4 3),g 17 15 false (.call 29 [(t 16)]),g 18 15 false (bc .neq 17 (n 0)),o 19 (pt 15 18),o 20 (m 19),g 21 20 false (m 1),g 22 20 false (bc .lss 21 (n 0)),o 23 (pt 20 22),o 24 (m 23),g 25 24 false (m 1),g 26 24 false (f 2 3),g 27 24 false (l 26),g 28 24 false (ln 27),g 29 24 false (b .geq 25 28),o 30 (pt 24 29),o 31 (m 30),g 32 31 false (m 2),g 33 31 false (bc .lss 32 (n 0)),o 34 (pt 31 33),o 35 (m 34),g 36 35 false (m 2),g 37 35 false (f 0 3),g 38 35 false (l 37),g 39 35 false (b .geq 36 38),o 40 (pt 35 39)]),
 (i 40 (q [(.reg [o 41 (.call 11 []),o 6 (m 41)]),
 .ret]) .skip)]),
 (.reg [o 43 (la 4 3),o 44 (.call 17 [(t 43)]),o 42 (m 44),o 45 (e 42 0),o 46 (e 42 1),o 47 (e 42 2),o 7 (.alloc [(n 0),(.nils 1),(.nils 1),(.nils 1)]),o 8 (.alloc [(.nils 1)]),w (.store 4 (t 7) (t 45)),w (.store 1 (t 8) (t 46)),o 9 (m 47)]),
 (q [(.reg [o 48 (m 9),o 49 (bc .neq 48 (n 0)),o 50 (m 49),g 51 50 false (l 8),g 52 50 false (ln 51),g 53 50 false (f 0 3),g 54 50 false (l 53),g 55 50 false (b .neq 52 54),o 56 (pt 50 55),o 57 (m 56),g 58 57 false (f 2 7),g 59 57 false (l 58),g 60 57 false (ln 59),g 61 57 false (f 2 3),g 62 57 false (l 61),g 63 57 false (ln 62),g 64 57 false (b .neq 60 63),o 65 (pt 57 64)]),
 (i 65 (q [(.reg [o 6 (.mv (c .bf))]),
 .ret]) .skip)]),
 (.reg [o 66 (.fnew f_wittinglaw35_PlausbisimRanks_1 [(t 8)]),o 10 (m 66)]),
 (.reg [o 11 (.mv (c (u 18446744073709551615)))]),
 (.regd [o 67 (m 10),o 68 (la 4 3),o 69 (m 1),o 70 (m 2),o 71 (.call 31 [(t 68),(t 69),(t 70)]),o 72 (.callv (t 67) [(t 71)]),o 73 (la 4 7),o 74 (m 1),o 75 (l 8),o 76 (m 2),o 77 (ia 1 75 76),o 78 (l 77),o 79 (.call 31 [(t 73),(t 74),(t 78)]),o 80 (b .eql 72 79),o 81 (m 80),g 82 81 true (m 10),g 83 81 true (la 4 3),g 84 81 true (m 1),g 85 81 true (m 2),g 86 81 true (m 11),g 87 81 true (.call 32 [(t 83),(t 84),(t 85),(t 86)]),g 88 81 true (.callv (t 82) [(t 87)]),g 89 81 true (la 4 7),g 90 81 true (m 1),g 91 81 true (l 8),g 92 81 true (m 2),g 93 81 true (ia 1 91 92),g 94 81 true (l 93),g 95 81 true (m 11),g 96 81 true (.call 32 [(t 89),(t 90),(t 94),(t 95)]),g 97 81 true (b .eql 88 96),o 98 (pf 81 97),o 99 (m 98),g 100 99 true (.call 11 []),o 101 (pf 99 100),o 6 (m 101)] [0,0,0,0,14,31,0,0,0,0,768,1792,4095,8191,16383,32767,32767,32767,32767,32767,1015807,2097151,32767,32767,32767,32767,50364415,117473279,32767,536870911,1073741823,2147483647,4294967295,8589934591,17179869183,34359738367]),
 .ret])⟩
def c_wittinglaw35_PlausbisimRanks_1:CFn:=⟨33,[.tmp 3],(q [(.reg [o 3 (.mv (c (u 0)))]),
 (.reg [o 4 (.mv (c (u 0)))]),
 (q [(.reg [o 7 (l 1),o 8 (ln 7),o 9 (.mv (c (n 0)))]),
 (.block 0 (.loop (q [(.reg [o 10 (b .lss 9 8)]),
 (i 10 .skip (.exit 0)),
 (.block 1 (q [(.reg [o 11 (m 9),o 12 (ia 1 7 9),o 13 (l 12),o 5 (m 11),o 6 (m 13)]),
 (.reg [o 14 (m 0),o 15 (m 5),o 16 (b .shr 14 15),o 17 (bc .and 16 (u 1)),o 18 (bc .eql 17 (u 1)),o 19 (m 18),g 20 19 true (m 6),g 21 19 true (bc .geq 20 (n 0)),o 22 (pf 19 21),o 23 (m 22),g 24 23 true (m 6),g 25 23 true (bc .lss 24 (n 64)),o 26 (pf 23 25)]),
 (i 26 (.reg [o 27 (m 4),o 28 (m 6),o 29 (.bin .shl (c (u 1)) (t 28)),o 30 (b .or 27 29),o 4 (m 30)]) .skip)])),
 (.reg [o 31 (bc .add 9 (n 1)),o 9 (m 31)])])))]),
 (.reg [o 32 (m 4),o 3 (m 32)]),
 .ret])⟩
end
theorem k_wittinglaw35_PlausbisimMinimal:zo Tryz.prog f_wittinglaw35_PlausbisimMinimal=some c_wittinglaw35_PlausbisimMinimal:=by kernel_rfl
theorem k_wittinglaw35_PlausbisimRanks:zo Tryz.prog f_wittinglaw35_PlausbisimRanks=some c_wittinglaw35_PlausbisimRanks:=by kernel_rfl
theorem k_wittinglaw35_PlausbisimRanks_1:zo Tryz.prog f_wittinglaw35_PlausbisimRanks_1=some c_wittinglaw35_PlausbisimRanks_1:=by kernel_rfl
end Go.Ab
namespace Go.Ab
open Go Go.Proofs
set_option maxRecDepth 10000
set_option maxHeartbeats 4000000
variable {T:Nat→Obj→Prop}
section
variable {p:PM} (hc0:zq p=0) {a:Nat} (ha:a < p.cell.length)
include hc0 ha
theorem rkA_chain {w:Nat} : ∀ k:Nat,w < p.W.toNat→(k:Int)≤rkA p a w → ∃ v,v < p.W.toNat∧rkA p a v=k:=by
 have hg:=zV hc0
 have hl:=hg.lens a ha
 suffices H : ∀ (n:Nat) (w:Nat) (k:Nat),w < p.W.toNat→rkA p a w=k+n → ∃ v,v < p.W.toNat∧rkA p a v=k from fun k hw h=>H (rkA p a w - k).toNat w k hw (by omega)
 intro n
 induction n with
 | zero=>intro w k hw h;exact ⟨w,hw,by omega⟩
 | succ n ih =>
  intro w k hw h
  rcases (hg.ranked a ha w (by omega)).2 with h0|⟨v,hv,-,hr⟩
  ·unfold rkA at h;omega
  ·refine ih v k (by omega) ?_
   unfold rkA at h ⊢;omega
theorem rkA_lt {w:Nat} (hw:w < p.W.toNat):0≤rkA p a w∧rkA p a w < p.W:=by
 have hg:=zV hc0
 have hl:=hg.lens a ha
 have h0:0≤rkA p a w:=(hg.ranked a ha w (by omega)).1
 refine ⟨h0,?_⟩
 have hn:=zoY (l:=(List.range ((rkA p a w).toNat+1)).map fun k:Nat=>(k:Int)) (l':=(List.range p.W.toNat).map (rkA p a)) (by
  refine List.Pairwise.map _ (fun x y h=>?_) List.nodup_range
  omega) (fun x hx=>by
  obtain ⟨k,hk,rfl⟩:=List.mem_map.1 hx
  rw [List.mem_range] at hk
  obtain ⟨v,hv,e⟩:=rkA_chain hc0 ha k hw (by omega)
  exact List.mem_map.2 ⟨v,List.mem_range.2 hv,e⟩)
 simp at hn
 omega
end
theorem ints_ok {p:PM} (hc0:zq p=0):zba p.rank:=by
 have hg:=zV hc0
 have h2:=hg.w2
 intro r hr x hx
 obtain ⟨a,ha,rfl⟩:=List.mem_iff_getElem.1 hr
 have ha':a < p.cell.length:=by rw [← hg.len];exact ha
 obtain ⟨w,hw,rfl⟩:=List.mem_iff_getElem.1 hx
 have hl:=hg.lens a ha'
 have e:za p.rank a=p.rank[a]:=z2 (List.getElem?_eq_getElem ha)
 rw [e] at hl
 have:=rkA_lt hc0 ha' (w:=w) (by omega)
 have e2:rkA p a w=p.rank[a][w]:=zx (by rw [e];exact List.getElem?_eq_getElem hw)
 rw [← e2]
 exact ⟨by omega,by omega⟩
theorem min_facts {p:PM} (hc0:zq p=0) : ∃ s:PM,zfL p (zr1 p)=(s,0)∧zq s=0∧zub p=(s,ptL p.W.toNat (zO (zr1 p)),0)∧zc9 p 64=(ptL p.W.toNat (zr1 p),0) ∧
  zc9 s 64=(ptL s.W.toNat (fun w=>w),0)∧zub s=(s,ptL s.W.toNat (fun w=>w),0):=by
 obtain ⟨s,hs,-⟩:=zwF hc0 (zuu hc0)
 have h1:=(zeZ hs).1
 have w2:=(zV h1).w2
 have hd : ∀ b,b < s.W.toNat→zal s 64 b=b:=fun b hb=>zxg hc0 hs (by omega) hb
 obtain ⟨h2,h3,h4⟩:=zxh h1 hd
 have e1:ptL s.W.toNat (zal s 64)=ptL s.W.toNat fun w=>w:=zfy hd
 have e2:ptL s.W.toNat (zO (zal s 64))=ptL s.W.toNat fun w=>w:=zfy h3
 refine ⟨s,hs,h1,?_,?_,?_,?_⟩
 ·rw [zub,if_neg (by omega),show (zfL p (zal p 64)).1=s by rw [hs]]
 ·rw [zc9,if_neg (by omega),if_neg (by omega)];rfl
 ·rw [zc9,if_neg (by omega),if_neg (by omega)];rw [← e1];rfl
 ·rw [zub,if_neg (by omega),h2,e2]
theorem law_Minimal (hT:zd4 T) (p:PM) (hp:zba p.rank):Fn Tryz.prog T f_wittinglaw35_PlausbisimMinimal [.d (dPM p)] [] (.d (.bool true)) []:=by
 have hR:=zl7 (T:=T)
 have hA:=zwX hT
 have hf:=zxc (T:=T) p 10
 have hk:=zvQ (T:=T) p hp
 refine zu zJ k_wittinglaw35_PlausbisimMinimal (by show 1≤147;decide) ?_
 cases hb:znr p 10 with
 | false =>
  rw [hb] at hf
  (repeat' ((conv=>whnf);first|refine vA ?_|refine vE ?_|refine vH ?_|refine vT ?_|refine vZ ?_|refine yD hf ⟨⟨rfl,rfl⟩,⟨rfl,rfl⟩,rfl⟩ rfl ?_|refine yD hA (by (repeat refine ⟨⟨rfl,rfl⟩,?_⟩);rfl) rfl ?_));all_goals try conv=>whnf
 | true =>
  rw [hb] at hf
  have hW:p.W≤12:=by
   have:=hb;unfold znr at this;simp only [Bool.and_eq_true,decide_eq_true_eq] at this;omega
  by_cases hc0:zq p=0
  ·rw [hc0] at hk
   obtain ⟨s,hs,h1,m1,r1,r2,m2⟩:=min_facts hc0
   have c1:=zwP hT p hp hW
   have c2:=zpN (T:=T) hR p hp
   have c3:=zpN (T:=T) hR s (ints_ok h1)
   have c4:=zwP hT s (ints_ok h1) (by have:=(zeZ hs).2.1;have h2:=zda p.W.toNat (zr1 p);have:(zF p.W.toNat (zr1 p)).length≤p.W.toNat:=h2;omega)
   rw [m1] at c1
   rw [r1] at c2
   rw [r2] at c3
   rw [m2] at c4
   have S:=zuu hc0
   have hsW:=(zeZ hs).2.1
   have w2:=(zV hc0).w2
   have hcan:=S.canon
   generalize zr1 p=q at *
   have l1:=zcq (n:=p.W.toNat) (q:=q)
   have l2:=zcq (n:=p.W.toNat) (q:=zO q)
   have l3:=zcq (n:=s.W.toNat) (q:=fun w=>w)
   have g1:=(zV h1).w1
   (repeat' ((conv=>whnf);first|refine vA ?_|refine vE ?_|refine vG ?_|refine vH ?_|((first|refine vD ?_ ?_|refine vF ?_ ?_)<;>intro hc<;>try simp only [vL] at hc)|refine vJ fun hg=>?_|refine vT ?_|refine vZ ?_|refine yD hf ⟨⟨rfl,rfl⟩,⟨rfl,rfl⟩,rfl⟩ rfl ?_|refine yD hk ⟨⟨rfl,rfl⟩,rfl⟩ rfl ?_|refine yN c1 ⟨⟨rfl,rfl⟩,rfl⟩ ?_|refine yN c2 ⟨⟨rfl,rfl⟩,rfl⟩ ?_|refine yN c3 ⟨⟨rfl,rfl⟩,rfl⟩ ?_|refine yN c4 ⟨⟨rfl,rfl⟩,rfl⟩ ?_|refine yD (zwk _ _) ⟨⟨rfl,rfl⟩,⟨rfl,rfl⟩,rfl⟩ rfl ?_));all_goals try conv=>whnf
   all_goals try omega
   all_goals try (exact absurd trivial ‹¬True›)
   refine zt (fun ((k,c):Nat×Int)=>[(3,.ptr 0 0),(4,.d (dI (ptL p.W.toNat (zO q)))),(8,.d (dI (ptL s.W.toNat fun w=>w))),(11,.d (dI (ptL s.W.toNat fun w=>w))),(13,.d (.int .i64 (c))),(89,.d (dI (ptL p.W.toNat q))),(90,.d (.int .i64 ((((ptL p.W.toNat q).map (D.int .i64)).length:Int)))),(91,.d (.int .i64 ((k:Int))))]) (fun ((k,c):Nat×Int)=>[(0,some (zbh s))]) 1 (fun ((k,c):Nat×Int)=>k≤p.W.toNat∧c=(zcV k q:Int)) (fun ((k,c):Nat×Int)=>p.W.toNat - k) ((0,0)) [(0,1)] [] (⟨by simp,rfl⟩) (by (refine ⟨rfl,rfl,rfl,?_,?_⟩;repeat' first|exact trivial|exact rfl|refine And.intro ?_ ?_|refine ⟨_,rfl,?_⟩|decide)) ?_
   rintro ⟨k,c⟩ ⟨hk,hcn⟩
   have hck:=zda k q
   by_cases hkl:k < p.W.toNat
   ·have e1:(ptL p.W.toNat q)[k]? = some ((q k:Nat):Int):=zbF hkl
    have b1:=hcan.le k hkl
    have e2:(ptL p.W.toNat (zO q))[((q k:Nat):Int).toNat]? = some ((zO q k:Nat):Int):=by rw [Int.toNat_natCast,zbF (by omega),zwB hcan hkl]
    have e3:(ptL p.W.toNat (zO q))[k]? = some ((zO q k:Nat):Int):=zbF hkl
    have e5:zcV (k+1) q=zcV k q+if q k=k then 1 else 0:=by
     show (zF (k+1) q).length=_
     rw [zm4,List.length_append]
     by_cases h:q k=k
     ·rw [if_pos h,if_pos h];rfl
     ·rw [if_neg h,if_neg h];rfl
    (repeat' ((conv=>whnf);first|refine vA ?_|refine vH ?_|((first|refine vD ?_ ?_|refine vF ?_ ?_)<;>intro hc<;>try simp only [vL] at hc)|refine vJ fun hg=>?_|refine vT ?_|refine vN ‹_› ?_|(refine vO ?_ ?_;·omega)|(refine vU ?_ ?_;·kernel_rfl)|refine vZ ?_));all_goals try conv=>whnf
    ·omega
    ·exact absurd rfl ‹((zO q k:Nat):Int)≠_›
    ·refine ⟨(k+1,c+1),[(0,0)],[],?_,?_,by (refine ⟨rfl,rfl,rfl,?_,?_⟩;repeat' first|exact trivial|exact rfl|refine And.intro ?_ ?_|refine ⟨_,rfl,?_⟩|decide)⟩
     ·exact ⟨by (omega),by rw [e5,if_pos (by omega),hcn];rfl⟩
     ·((simp only [vM] at *;omega))
    ·omega
    ·exact absurd rfl ‹((zO q k:Nat):Int)≠_›
    ·refine ⟨(k+1,c),[(0,0)],[],?_,?_,by (refine ⟨rfl,rfl,rfl,?_,?_⟩;repeat' first|exact trivial|exact rfl|refine And.intro ?_ ?_|refine ⟨_,rfl,?_⟩|decide)⟩
     ·exact ⟨by (omega),by rw [e5,if_neg (by omega),hcn];rfl⟩
     ·((simp only [vM] at *;omega))
    ·omega
   ·obtain rfl:k=p.W.toNat:=by omega
    have hcs:c=s.W:=by rw [hcn,hsW];rfl
    (repeat' ((conv=>whnf);first|refine vA ?_|((first|refine vD ?_ ?_|refine vF ?_ ?_)<;>intro hc<;>try simp only [vL] at hc)|refine vJ fun hg=>?_|refine vT ?_|(refine vQ ?_ fun x hx=>?_;·omega)|((first|refine vO ?_ ?_|refine vS ?_ fun x hx=>?_);·omega)|(refine vU ?_ ?_;·kernel_rfl)|refine vZ ?_));all_goals try conv=>whnf
    all_goals try omega
    refine zt (fun (j:Nat)=>[(3,.ptr 0 0),(8,.d (dI (ptL s.W.toNat fun w=>w))),(11,.d (dI (ptL s.W.toNat fun w=>w))),(13,.d (.int .i64 (c))),(121,.d (.int .i64 ((((ptL s.W.toNat fun w=>w).map (D.int .i64)).length:Int)))),(122,.d (.int .i64 ((j:Int))))]) (fun (j:Nat)=>[(0,some (zbh s))]) 1 (fun (j:Nat)=>j≤s.W.toNat) (fun (j:Nat)=>s.W.toNat - j) (0) [(0,0)] [] (by simp) (by (refine ⟨rfl,rfl,rfl,?_,?_⟩;repeat' first|exact trivial|exact rfl|refine And.intro ?_ ?_|refine ⟨_,rfl,?_⟩|decide)) ?_
    rintro j hj
    by_cases hjl:j < s.W.toNat
    ·have e1:(ptL s.W.toNat fun w=>w)[j]? = some ((j:Nat):Int):=zbF hjl
     (repeat' ((conv=>whnf);first|refine vA ?_|((first|refine vD ?_ ?_|refine vF ?_ ?_)<;>intro hc<;>try simp only [vL] at hc)|refine vT ?_|refine vN ‹_› ?_|(refine vO ?_ ?_;·omega)|refine vZ ?_));all_goals try conv=>whnf
     ·exact absurd rfl ‹((j:Nat):Int)≠_›
     ·exact absurd rfl ‹((j:Nat):Int)≠_›
     ·exact ⟨j+1,[(0,0)],[],by (omega),by (omega),by (refine ⟨rfl,rfl,rfl,?_,?_⟩;repeat' first|exact trivial|exact rfl|refine And.intro ?_ ?_|refine ⟨_,rfl,?_⟩|decide)⟩
     all_goals omega
    ·(repeat' ((conv=>whnf);first|refine vA ?_|((first|refine vD ?_ ?_|refine vF ?_ ?_)<;>intro hc<;>try simp only [vL] at hc)|refine vT ?_|refine vN ‹_› ?_|(refine vQ ?_ fun x hx=>?_;·omega)|(refine vO ?_ ?_;·omega)|refine vZ ?_|refine yD hA (by (repeat refine ⟨⟨rfl,rfl⟩,?_⟩);rfl) rfl ?_));all_goals try conv=>whnf
     all_goals omega
  ·(repeat' ((conv=>whnf);first|refine vA ?_|refine vE ?_|refine vG ?_|(refine vD ?_ ?_<;>intro hc)|refine vT ?_|refine vZ ?_|refine yD hf ⟨⟨rfl,rfl⟩,⟨rfl,rfl⟩,rfl⟩ rfl ?_|refine yD hk ⟨⟨rfl,rfl⟩,rfl⟩ rfl ?_|refine yD hA (by (repeat refine ⟨⟨rfl,rfl⟩,?_⟩);rfl) rfl ?_));all_goals try conv=>whnf
   ·exact absurd ‹zq p=0› hc0
end Go.Ab
namespace Go.Ab
open Go Go.Proofs
set_option maxRecDepth 10000
set_option maxHeartbeats 4000000
variable {T:Nat→Obj→Prop}
theorem fn_image {n:Nat} {q:Nat→Nat} (hn:n≤64) (hb : ∀ w,w < n→q w < 64) (s:BitVec 64):Fn Tryz.prog T f_wittinglaw35_PlausbisimRanks_1 [.d (.u64 s),.d (.box [dI (ptL n q)])] [] (.d (.u64 (zM q s n))) []:=by
 refine zu zJ k_wittinglaw35_PlausbisimRanks_1 (by show 2≤33;decide) ?_
 have hpl:=zcq (n:=n) (q:=q)
 (repeat' ((conv=>whnf);first|refine vA ?_|refine vJ fun hg=>?_|refine vT ?_));all_goals try conv=>whnf
 refine zab (fun ((k,o):Nat×BitVec 64)=>[(0,.d (.u64 (s))),(4,.d (.u64 (o))),(7,.d (dI (ptL n q))),(8,.d (.int .i64 (((ptL n q).map (D.int .i64)).length:Int))),(9,.d (.int .i64 ((k:Int))))]) (fun ((k,o):Nat×BitVec 64)=>k≤n∧o=zM q s k) (fun ((k,o):Nat×BitVec 64)=>n - k) ((0,0#64)) (⟨by simp,rfl⟩) (by (repeat' first|exact trivial|exact rfl|refine And.intro ?_ ?_)) ?_
 rintro ⟨k,o⟩ ⟨hk,hI⟩
 subst hI
 by_cases hkl:k < n
 ·have e1:(ptL n q)[k]? = some ((q k:Nat):Int):=zbF hkl
  have b1:=hb k hkl
  (repeat' ((conv=>whnf);first|refine vA ?_|refine vG ?_|(refine vF ?_ ?_<;>intro hc<;>try simp only [vL] at hc)|refine vT ?_|refine vN ‹_› ?_|((first|refine vO ?_ ?_|refine vP ?_ ?_);·omega)|refine vY ?_));all_goals try conv=>whnf
  all_goals try omega
  ·refine ⟨(k+1,_),[],[],?_,?_,by (refine ⟨rfl,rfl,rfl,?_,?_⟩;repeat' first|exact trivial|exact rfl|refine And.intro ?_ ?_)⟩
   ·exact ⟨by (omega),by rw [zgK,if_pos ((zeI s k).1 ‹_›)];rfl⟩
   ·((simp only [vM] at *;omega))
  ·refine ⟨(k+1,_),[],[],?_,?_,by (refine ⟨rfl,rfl,rfl,?_,?_⟩;repeat' first|exact trivial|exact rfl|refine And.intro ?_ ?_)⟩
   ·exact ⟨by (omega),by rw [zgK,if_neg (fun h=>‹¬_› ((zeI s k).2 h))]⟩
   ·((simp only [vM] at *;omega))
 ·obtain rfl:k=n:=by omega
  (repeat' ((conv=>whnf);first|refine vA ?_|(refine vF ?_ ?_<;>intro hc<;>try simp only [vL] at hc)|refine vT ?_|(refine vQ ?_ fun x hx=>?_;·omega)|((first|refine vO ?_ ?_|refine vP ?_ ?_);·omega)|refine vY ?_));all_goals try conv=>whnf
  all_goals try omega
theorem law_Ranks (hT:zd4 T) (p:PM) (hp:zba p.rank) (a w:Int):Fn Tryz.prog T f_wittinglaw35_PlausbisimRanks [.d (dPM p),.d (.int .i64 a),.d (.int .i64 w)] [] (.d (.bool true)) []:=by
 have hR:=zl7 (T:=T)
 have hA:=zwX hT
 have hf:=zxc (T:=T) p 10
 have hk:=zvQ (T:=T) p hp
 refine zu zJ k_wittinglaw35_PlausbisimRanks (by show 3≤102;decide) ?_
 cases hb:znr p 10 with
 | false =>
  rw [hb] at hf
  (repeat' ((conv=>whnf);first|refine vA ?_|refine vE ?_|refine vH ?_|refine vT ?_|refine vZ ?_|refine yD hf ⟨⟨rfl,rfl⟩,⟨rfl,rfl⟩,rfl⟩ rfl ?_|refine yD hA (by (repeat refine ⟨⟨rfl,rfl⟩,?_⟩);rfl) rfl ?_));all_goals try conv=>whnf
 | true =>
  rw [hb] at hf
  have hW:p.W≤12:=by
   have:=hb;unfold znr at this;simp only [Bool.and_eq_true,decide_eq_true_eq] at this;omega
  by_cases hin:zq p=0∧0≤a∧a < p.cell.length∧0≤w∧w < p.W
  ·obtain ⟨hc0,ha0,ha1,hw0,hw1⟩:=hin
   rw [hc0] at hk
   obtain ⟨s,hs,h1,m1,-,-,-⟩:=min_facts hc0
   obtain ⟨-,q1,q2,q3,-⟩:=zeZ hs
   have c1:=zwP hT p hp hW
   rw [m1] at c1
   have S:=zuu hc0
   obtain ⟨an,rfl⟩ : ∃ an:Nat,a=an:=⟨a.toNat,by omega⟩
   obtain ⟨wn,rfl⟩ : ∃ wn:Nat,w=wn:=⟨w.toNat,by omega⟩
   have w2:=(zV hc0).w2
   have i1:=zxe hc0 S hs (a:=an) (w:=wn) (by omega) (by omega)
   have i2:=zxd hc0 S hs (a:=an) (w:=wn) (by omega) (by omega)
   have hq64 : ∀ v,v < p.W.toNat→zO (zr1 p) v < 64:=fun v hv=>S.num64 hc0 hv
   have hlt:=zgu S.canon (w:=wn) (n:=p.W.toNat) (by omega)
   generalize zO (zr1 p)=q at *
   have l2:=zcq (n:=p.W.toNat) (q:=q)
   have e1:(ptL p.W.toNat q)[((wn:Nat):Int).toNat]? = some ((q wn:Nat):Int):=zbF (by omega)
   have d1:=zvN (T:=T) hR p hp an wn
   have d2:=zxj (T:=T) hR p hp an wn (BitVec.allOnes 64)
   have d3:=zvN (T:=T) hR s (ints_ok h1) an (q wn:Nat)
   have d4:=zxj (T:=T) hR s (ints_ok h1) an (q wn:Nat) (BitVec.allOnes 64)
   rw [← i1] at d3
   rw [← i2] at d4
   have w3:p.W.toNat≤64:=by omega
   (repeat' ((conv=>whnf);first|refine vA ?_|refine vE ?_|refine vG ?_|refine vH ?_|((first|refine vD ?_ ?_|refine vF ?_ ?_)<;>intro hc<;>try simp only [vL] at hc)|refine vJ fun hg=>?_|refine vT ?_|refine vN ‹_› ?_|(refine vU ?_ ?_;·kernel_rfl)|refine vZ ?_|refine yD hf ⟨⟨rfl,rfl⟩,⟨rfl,rfl⟩,rfl⟩ rfl ?_|refine yD hk ⟨⟨rfl,rfl⟩,rfl⟩ rfl ?_|refine yN c1 ⟨⟨rfl,rfl⟩,rfl⟩ ?_|refine yD d1 ⟨⟨rfl,rfl⟩,⟨rfl,rfl⟩,⟨rfl,rfl⟩,rfl⟩ rfl ?_|refine yD d2 (by (repeat refine ⟨⟨rfl,rfl⟩,?_⟩);rfl) rfl ?_|refine yD d3 ⟨⟨rfl,rfl⟩,⟨rfl,rfl⟩,⟨rfl,rfl⟩,rfl⟩ rfl ?_|refine yD d4 (by (repeat refine ⟨⟨rfl,rfl⟩,?_⟩);rfl) rfl ?_|refine yD (fn_image w3 hq64 _) ⟨⟨rfl,rfl⟩,⟨rfl,rfl⟩,rfl⟩ rfl ?_|refine yD hA (by (repeat refine ⟨⟨rfl,rfl⟩,?_⟩);rfl) rfl ?_));all_goals try conv=>whnf
   all_goals try omega
   all_goals (exact absurd trivial ‹¬True›)
  ·(repeat' ((conv=>whnf);first|refine vA ?_|refine vE ?_|refine vG ?_|((first|refine vD ?_ ?_|refine vF ?_ ?_)<;>intro hc<;>try simp only [vL] at hc)|refine vJ fun hg=>?_|refine vT ?_|refine vZ ?_|refine yD hf ⟨⟨rfl,rfl⟩,⟨rfl,rfl⟩,rfl⟩ rfl ?_|refine yD hk ⟨⟨rfl,rfl⟩,rfl⟩ rfl ?_|refine yD hA (by (repeat refine ⟨⟨rfl,rfl⟩,?_⟩);rfl) rfl ?_));all_goals try conv=>whnf
   all_goals (exact absurd ⟨‹zq p=0›,‹_›,‹_›,‹_›,‹_›⟩ hin)
end Go.Ab
namespace Go.Proofs.YtmnbcipineblbaaGreatDoor
open Go Go.Ab Go.RowKit Go.ChangeShapes Go.WideShapes
set_option maxRecDepth 100000 in
theorem plausbisimRanks_holds:Rows.PlausbisimRanksSaid :=
 OpenClaim.holds_of_wide 9 Tryz.f9 rfl rfl rfl rfl rfl rfl rfl ⟨rfl,rfl,rfl,rfl,rfl⟩ rfl rfl rfl rfl rfl (by kernel_rfl) Tryz.func9 (by kernel_rfl)
  (of_decide_eq_true (by kernel_rfl)) (by unfold Func.isWrapper;rw [if_neg (of_decide_eq_false (by kernel_rfl))];exact ⟨rfl,rfl⟩)
  (fun os started H enc _=>zw0 (C:=Tryz.checked) (s:=Rows.plausbisimRanksSpec) (laid:=laidL) knob started (by kernel_rfl) Tryz.func9 laidOut [25,3,3] Tryz.params9 rfl Tryz.underlying4 rfl (by kernel_rfl)
   (fun ds hds=>by match ds,hds with|[d1,d2,d3],_=>rfl)
   (ChangeSpec.witness_shaped (enc:=enc) (C:=Tryz.checked) (os:=os) (X:=fun w _=>laidMetH Tryz.prog laidL w) false (World.doorLaid Tryz.prog 14 os)
    #[.agg #[.int .i64 0,.slice none 0 0,.slice none 0 0,.slice none 0 0],.int .i64 0,.int .i64 0] 8 rfl (World.shaped_of_RefB (by kernel_rfl) (by kernel_rfl)) (by kernel_rfl) (by kernel_rfl) (by kernel_rfl) (door_met os _))
   (fun W hL=>⟨TOf W,(zxl hL).1,(zxl hL).2,fun ds hds=>by
    obtain ⟨p1,r,rfl,hc1,hp1,k1⟩:=zw7 hds
    obtain ⟨a2,r,rfl,ha2,k2⟩:=zxi k1
    obtain ⟨a3,r,rfl,ha3,k3⟩:=zxi k2
    obtain rfl:=zxn k3
    exact law_Ranks (tz_of hL) p1 hp1 a2 a3⟩))
theorem plausbisimRanks_card:Rows.PlausbisimRanksCardSaid :=
 Claim7.holds_tied_plain_at .later [] [.data] true (true, "18dfd4ab517486b5b4083ac9653826283ad51281ee160e75dab1c2a0d205e19f") false
  plausbisimRanks_holds (fun _ h=>by cases h) (by kernel_rfl) (fun _ h=>by cases h) plausbisimRanks_row_tie rfl ⟨rfl,rfl⟩ (by kernel_rfl) rfl
  (fun f fn hf hfn=>by
   obtain rfl:f=9:=Option.some.inj ((show Tryz.prog.funcNamed Rows.plausbisimRanksRow.func=some 9 by kernel_rfl).symm.trans hf) |>.symm
   obtain rfl:fn=Tryz.f9:=(Option.some.inj (Tryz.func9.symm.trans hfn)).symm
   exact ⟨by kernel_rfl,fun j t ht=>by
    rw [Tryz.params9] at ht
    have hm:t∈[25,3,3]:=by
     have:=List.mem_of_getElem? (l:=[25,3,3]) (i:=j) (by simpa using ht)
     exact this
    have hall:([25,3,3].all fun t=>Tryz.prog.wantsStandIn t==false)=true:=by kernel_rfl
    exact eq_of_beq (List.all_eq_true.1 hall t hm)⟩)
  (by kernel_rfl)
end Go.Proofs.YtmnbcipineblbaaGreatDoor
