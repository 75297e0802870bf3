/- What is proved here: the law DoxasticCells returns true at every input and leaves its arguments as they were. There is no further condition. -/
import Derived.Test.YtffknaghkomefaaMJ
set_option linter.unusedVariables false
set_option linter.unusedSimpArgs false
set_option linter.unusedSectionVars false
namespace Go.Ab
open Go Go.Proofs
section
open K
def f_wittinglaw34_DoxasticOrders:Nat:=4
def f_wittinglaw34_DoxasticCells:Nat:=8
def c_wittinglaw34_DoxasticOrders:CFn:=⟨118,[.tmp 6],(q [(.reg [o 3 (.box 4 (t 0)),o 6 (.mv (c .bf))]),
 (q [(.reg [o 18 (.call 10 []),o 19 (.un .not (t 18)),o 20 (m 19),g 21 20 false (la 4 3),g 22 20 false (m 1),g 23 20 false (m 2),g 24 20 false (.bslice 1 2 [(.nils 6)] [(0,(t 22)),(1,(t 23))]),g 25 20 false (.call 11 [(t 21),(t 24)]),g 26 20 false (.un .not (t 25)),o 27 (pt 20 26),o 28 (m 27),g 29 28 false (la 4 3),g 30 28 false (.call 16 [(t 29)]),g 31 28 false (bc .neq 30 (n 0)),o 32 (pt 28 31)]),
 (i 32 (q [(.reg [o 33 (.call 10 []),o 6 (m 33)]),
 .ret]) .skip)]),
 (.reg [o 35 (la 4 3),o 36 (m 1),o 37 (.call 17 [(t 35),(t 36)]),o 34 (m 37),o 38 (e 34 0),o 39 (e 34 1),o 7 (m 38),o 8 (m 39)]),
 (q [(.reg [o 40 (m 8),o 41 (.un .not (t 40))]),
 (i 41 (q [(.reg [o 6 (.mv (c .bt))]),
 .ret]) .skip)]),
 (q [(.reg [o 42 (f 2 3),o 43 (l 42),o 44 (ln 43),o 45 (.mv (c (n 0)))]),
 (.block 0 (.loop (q [(.reg [o 46 (b .lss 45 44)]),
 (i 46 .skip (.exit 0)),
 (.block 1 (q [(.reg [o 47 (m 45),o 9 (m 47)]),
 (.regd [o 49 (la 4 3),o 50 (m 9),o 51 (m 1),o 52 (.call 18 [(t 50),(t 51)]),o 53 (.call 17 [(t 49),(t 52)]),o 48 (m 53),o 54 (e 48 0),o 55 (e 48 1),o 10 (m 54),o 11 (m 55)] [0,0,0,6,15,31,63,63,127,511]),
 (.regd [o 57 (la 4 3),o 58 (m 9),o 59 (m 1),o 60 (.call 19 [(t 58),(t 59)]),o 61 (.call 17 [(t 57),(t 60)]),o 56 (m 61),o 62 (e 56 0),o 63 (e 56 1),o 12 (m 62),o 13 (m 63)] [0,0,0,6,15,31,63,63,127,511]),
 (.regd [o 65 (la 4 3),o 66 (m 9),o 67 (.call 21 []),o 68 (m 1),o 69 (.call 20 [(t 66),(t 67),(t 68)]),o 70 (.call 17 [(t 65),(t 69)]),o 64 (m 70),o 71 (e 64 0),o 72 (e 64 1),o 14 (m 71),o 15 (m 72)] [0,0,0,0,14,31,63,127,127,255,1023]),
 (q [(.reg [o 73 (m 11),o 74 (.un .not (t 73)),o 75 (m 74),g 76 75 false (m 13),g 77 75 false (.un .not (t 76)),o 78 (pt 75 77),o 79 (m 78),g 80 79 false (m 15),g 81 79 false (.un .not (t 80)),o 82 (pt 79 81),o 83 (m 82),g 84 83 false (m 10),g 85 83 false (m 12),g 86 83 false (b .andNot 84 85),g 87 83 false (bc .neq 86 (u 0)),o 88 (pt 83 87),o 89 (m 88),g 90 89 false (m 12),g 91 89 false (m 7),g 92 89 false (b .andNot 90 91),g 93 89 false (bc .neq 92 (u 0)),o 94 (pt 89 93),o 95 (m 94),g 96 95 false (m 12),g 97 95 false (m 14),g 98 95 false (b .andNot 96 97),g 99 95 false (bc .neq 98 (u 0)),o 100 (pt 95 99)]),
 (i 100 (q [(.reg [o 6 (.mv (c .bf))]),
 .ret]) .skip)]),
 (.regd [o 102 (la 4 3),o 103 (m 9),o 104 (m 2),o 105 (m 1),o 106 (.call 20 [(t 103),(t 104),(t 105)]),o 107 (.call 17 [(t 102),(t 106)]),o 101 (m 107),o 108 (e 101 0),o 109 (e 101 1),o 16 (m 108),o 17 (m 109)] [0,0,0,0,14,31,63,127,127,255,1023]),
 (.reg [o 110 (m 17),o 111 (m 110),g 112 111 true (m 10),g 113 111 true (m 16),g 114 111 true (b .andNot 112 113),g 115 111 true (bc .neq 114 (u 0)),o 116 (pf 111 115)]),
 (i 116 (q [(.reg [o 6 (.mv (c .bf))]),
 .ret]) .skip)])),
 (.reg [o 117 (bc .add 45 (n 1)),o 45 (m 117)])])))]),
 (.reg [o 6 (.mv (c .bt))]),
 .ret])⟩
def c_wittinglaw34_DoxasticCells:CFn:=⟨148,[.tmp 4],(q [(.reg [o 2 (.box 4 (t 0)),o 4 (.mv (c .bf))]),
 (q [(.reg [o 17 (.call 10 []),o 18 (.un .not (t 17)),o 19 (m 18),g 20 19 false (la 4 2),g 21 19 false (m 1),g 22 19 false (.bslice 1 1 [(.nils 6)] [(0,(t 21))]),g 23 19 false (.call 11 [(t 20),(t 22)]),g 24 19 false (.un .not (t 23)),o 25 (pt 19 24),o 26 (m 25),g 27 26 false (la 4 2),g 28 26 false (.call 16 [(t 27)]),g 29 26 false (bc .neq 28 (n 0)),o 30 (pt 26 29),o 31 (m 30),g 32 31 false (f 2 2),g 33 31 false (l 32),g 34 31 false (ln 33),g 35 31 false (bc .eql 34 (n 0)),o 36 (pt 31 35)]),
 (i 36 (q [(.reg [o 37 (.call 10 []),o 4 (m 37)]),
 .ret]) .skip)]),
 (.reg [o 39 (la 4 2),o 40 (m 1),o 41 (.call 17 [(t 39),(t 40)]),o 38 (m 41),o 42 (e 38 0),o 43 (e 38 1),o 5 (m 42),o 6 (m 43)]),
 (q [(.reg [o 44 (m 6),o 45 (.un .not (t 44))]),
 (i 45 (q [(.reg [o 4 (.mv (c .bt))]),
 .ret]) .skip)]),
 (q [(.reg [o 46 (f 2 2),o 47 (l 46),o 48 (ln 47),o 49 (.mv (c (n 0)))]),
 (.block 0 (.loop (q [(.reg [o 50 (b .lss 49 48)]),
 (i 50 .skip (.exit 0)),
 (.block 1 (q [(.reg [o 51 (m 49),o 7 (m 51)]),
 (.regd [o 53 (la 4 2),o 54 (m 7),o 55 (m 1),o 56 (.call 18 [(t 54),(t 55)]),o 57 (.call 17 [(t 53),(t 56)]),o 52 (m 57),o 58 (e 52 0),o 59 (e 52 1),o 8 (m 58),o 9 (m 59)] [0,0,0,6,15,31,63,63,127,511]),
 (.reg [o 60 (f 0 2),o 61 (l 60),o 62 (.mv (c (n 0)))]),
 (.block 2 (.loop (q [(.reg [o 63 (b .lss 62 61)]),
 (i 63 .skip (.exit 2)),
 (.block 3 (q [(.reg [o 64 (m 62),o 10 (m 64)]),
 (.regd [o 65 (m 9),o 66 (.un .not (t 65)),o 67 (m 66),g 68 67 false (la 4 2),g 69 67 false (m 7),g 70 67 false (m 10),g 71 67 false (.call 25 [(t 68),(t 69),(t 70)]),g 72 67 false (m 5),g 73 67 false (b .andNot 71 72),g 74 67 false (bc .eql 73 (u 0)),g 75 67 false (m 8),g 76 67 false (m 10),g 77 67 false (b .shr 75 76),g 78 67 false (bc .and 77 (u 1)),g 79 67 false (bc .eql 78 (u 1)),g 80 67 false (.eqB true (t 74) (t 79)),o 81 (pt 67 80)] [0,1,3,7,7,7,63,7,255,511,7,7,3079,7175,15367,32767,65535]),
 (i 81 (q [(.reg [o 4 (.mv (c .bf))]),
 .ret]) .skip)])),
 (.reg [o 82 (bc .add 62 (n 1)),o 62 (m 82)])])))])),
 (.reg [o 83 (bc .add 49 (n 1)),o 49 (m 83)])])))]),
 (.regd [o 85 (la 4 2),o 86 (f 2 2),o 87 (l 86),o 88 (ln 87),o 89 (.bin .shl (c (n 1)) (t 88)),o 90 (bc .sub 89 (n 1)),o 91 (.call 21 []),o 92 (m 1),o 93 (.call 26 [(t 90),(t 91),(t 92)]),o 94 (.call 17 [(t 85),(t 93)]),o 84 (m 94),o 95 (e 84 0),o 96 (e 84 1),o 11 (m 95),o 12 (m 96)] [0,0,2,6,14,30,0,0,254,511,1023,2047,2047,4095,16383]),
 (q [(.reg [o 97 (f 0 2),o 98 (l 97),o 99 (.mv (c (n 0)))]),
 (.block 4 (.loop (q [(.reg [o 100 (b .lss 99 98)]),
 (i 100 .skip (.exit 4)),
 (.block 5 (q [(.reg [o 101 (m 99),o 13 (m 101)]),
 (.reg [o 102 (m 13),o 103 (.bin .shl (c (u 1)) (t 102)),o 14 (m 103)]),
 (q [(.reg [o 104 (f 0 2),o 105 (l 104),o 106 (.mv (c (n 0)))]),
 (.block 6 (.loop (q [(.reg [o 107 (b .lss 106 105)]),
 (i 107 .skip (.exit 6)),
 (.block 7 (q [(.reg [o 108 (f 0 2),o 109 (l 108),o 110 (.mv (c (n 0)))]),
 (.block 8 (.loop (q [(.reg [o 111 (b .lss 110 109)]),
 (i 111 .skip (.exit 8)),
 (.block 9 (q [(.reg [o 112 (m 110),o 15 (m 112)]),
 (.reg [o 113 (f 2 2),o 114 (l 113),o 115 (ln 114),o 116 (.mv (c (n 0)))]),
 (.block 10 (.loop (q [(.reg [o 117 (b .lss 116 115)]),
 (i 117 .skip (.exit 10)),
 (.block 11 (q [(.reg [o 118 (m 116),o 16 (m 118)]),
 (.reg [o 119 (m 14),o 120 (m 15),o 121 (b .shr 119 120),o 122 (bc .and 121 (u 1)),o 123 (bc .eql 122 (u 1))]),
 (i 123 (.reg [o 124 (m 14),o 125 (la 4 2),o 126 (m 16),o 127 (m 15),o 128 (.call 25 [(t 125),(t 126),(t 127)]),o 129 (b .or 124 128),o 14 (m 129)]) .skip)])),
 (.reg [o 130 (bc .add 116 (n 1)),o 116 (m 130)])])))])),
 (.reg [o 131 (bc .add 110 (n 1)),o 110 (m 131)])])))])),
 (.reg [o 132 (bc .add 106 (n 1)),o 106 (m 132)])])))]),
 (.reg [o 133 (m 12),o 134 (.un .not (t 133)),o 135 (m 134),g 136 135 false (m 14),g 137 135 false (m 5),g 138 135 false (b .andNot 136 137),g 139 135 false (bc .eql 138 (u 0)),g 140 135 false (m 11),g 141 135 false (m 13),g 142 135 false (b .shr 140 141),g 143 135 false (bc .and 142 (u 1)),g 144 135 false (bc .eql 143 (u 1)),g 145 135 false (.eqB true (t 139) (t 144)),o 146 (pt 135 145)]),
 (i 146 (q [(.reg [o 4 (.mv (c .bf))]),
 .ret]) .skip)])),
 (.reg [o 147 (bc .add 99 (n 1)),o 99 (m 147)])])))]),
 (.reg [o 4 (.mv (c .bt))]),
 .ret])⟩
end
theorem k_wittinglaw34_DoxasticOrders:compFn Try.prog f_wittinglaw34_DoxasticOrders=some c_wittinglaw34_DoxasticOrders:=by kernel_rfl
theorem k_wittinglaw34_DoxasticCells:compFn Try.prog f_wittinglaw34_DoxasticCells=some c_wittinglaw34_DoxasticCells:=by kernel_rfl
end Go.Ab
namespace Go.Ab
open Go Go.Proofs
set_option linter.unusedSimpArgs false
set_option linter.unusedVariables false
set_option maxRecDepth 10000
set_option maxHeartbeats 4000000
variable {T:Nat→Obj→Prop}
theorem few_len {p:PM} {ls:List (List Nd)} (h:fewL p ls=true) : ∀ f∈ls,f.length≤60:=by
 rw [fewL,Bool.and_eq_true,List.all_eq_true] at h
 exact fun f hf=>of_decide_eq_true (h.1 f hf)
theorem fn_setOf (hR:RanksOk T) {p:PM} (hp:IntsOk p.rank) (hc0:checkL p=0) {f:List Nd} {x:BitVec 64} {n:Nat} (h:Fm p f x n):Fn Try.prog T f_wittinglaw34_set [.d (dPM p),.d (dF f)] [] (.d (.tup [.u64 x,.bool true])) []:=by
 have:=fn_set (T:=T) hR p hp f
 rw [h.holds hc0] at this
 exact this
theorem law_Orders (p:PM) (hp:IntsOk p.rank) (f c:List Nd):Fn Try.prog T f_wittinglaw34_DoxasticOrders [.d (dPM p),.d (dF f),.d (dF c)] [] (.d (.bool true)) []:=by
 have hR:=ranks_ok (T:=T)
 have hA:=fn_awake (T:=T)
 have hF:=fn_few (T:=T) p [f,c]
 refine fn_dataR hmix k_wittinglaw34_DoxasticOrders (by show 3≤118;decide) ?_
 (repeat' ((conv=>whnf);first|refine TestS.no (by decide) ?_|refine vA ?_|refine vE ?_|((first|refine vD ?_ ?_|refine vF ?_ ?_|refine vI ?_ ?_)<;>intro hc)|refine vJ fun hg=>?_|refine vZ ?_|refine yD hA rfl rfl ?_|refine yD hF ⟨⟨rfl,rfl⟩,⟨rfl,rfl⟩,rfl⟩ rfl ?_|refine yD (fn_ref33_Check _ hp) (by (repeat refine ⟨⟨rfl,rfl⟩,?_⟩);rfl) rfl ?_|refine yN (fn_set hR p hp _) ⟨⟨rfl,rfl⟩,⟨rfl,rfl⟩,rfl⟩ ?_));all_goals try conv=>whnf
 have hc0:=‹checkL p=0›
 have hfew:=few_len ‹fewL p [f,c]=true›
 have hf:Fm p f (holdsL p f).1 60 := .of ‹_› (hfew f (by simp))
 have hcl:c.length≤60:=hfew c (by simp)
 refine loop_mem (fun (k:Nat)=>[(1,.d (dF f)),(2,.d (dF c)),(3,.ptr 0 0),(7,.d (.u64 ((holdsL p f).1))),(44,.d (.int .i64 ((p.cell.map dI).length:Int))),(45,.d (.int .i64 ((k:Int))))]) (fun (k:Nat)=>[(0,some (boxPM p))]) 1 (fun (k:Nat)=>k≤p.cell.length) (fun (k:Nat)=>p.cell.length - k) (0) [(0,0)] [] (by simp) (by (refine ⟨rfl,rfl,rfl,?_,?_⟩;repeat' first|exact trivial|exact rfl|refine And.intro ?_ ?_|refine ⟨_,rfl,?_⟩|decide)) ?_
 rintro k hk
 by_cases hkl:k < p.cell.length
 ·have s1:=fn_setOf (T:=T) hR hp hc0 (hf.know hc0 hkl (by decide))
  have s2:=fn_setOf (T:=T) hR hp hc0 (hf.safe hc0 hkl (by decide))
  have s3:=fn_setOf (T:=T) hR hp hc0 (Fm.tru.belief hc0 hf hkl (by decide))
  (repeat' ((conv=>whnf);first|refine TestS.no (by decide) ?_|refine vA ?_|((first|refine vD ?_ ?_|refine vF ?_ ?_)<;>intro hc<;>try simp only [vL] at hc)|(refine vO ?_ ?_;·omega)|(refine vU ?_ ?_;·kernel_rfl)|refine vZ ?_|refine yN (fn_FKnow _ _) ⟨⟨rfl,rfl⟩,⟨rfl,rfl⟩,rfl⟩ ?_|refine yN s1 ⟨⟨rfl,rfl⟩,⟨rfl,rfl⟩,rfl⟩ ?_|refine yN (fn_FSafe _ _) ⟨⟨rfl,rfl⟩,⟨rfl,rfl⟩,rfl⟩ ?_|refine yN s2 ⟨⟨rfl,rfl⟩,⟨rfl,rfl⟩,rfl⟩ ?_|refine yN fn_FTrue rfl ?_|refine yN (fn_FBelief _ _ _) ⟨⟨rfl,rfl⟩,⟨rfl,rfl⟩,⟨rfl,rfl⟩,rfl⟩ ?_|refine yN s3 ⟨⟨rfl,rfl⟩,⟨rfl,rfl⟩,rfl⟩ ?_|refine yN (fn_set hR p hp _) ⟨⟨rfl,rfl⟩,⟨rfl,rfl⟩,rfl⟩ ?_));all_goals try conv=>whnf
  ·exact absurd (know_safe hc0 hkl) hc
  ·exact absurd (safe_true hc0 hkl) hc
  ·exact absurd (safe_belief hc0 hkl) hc
  ·have hcF:=Fm.under hc0 (hd:=⟨14,k,0,0⟩) (agent_hd (by decide) (checkL_good hc0) hkl).1 (by simp only;decide) hf hcl (by decide) ‹_›
   rw [(hcF.belief hc0 hf hkl (by decide)).holds hc0] at hc
   exact absurd (know_belief hc0 hkl) hc
  ·exact ⟨k+1,[(0,0)],[],by (omega),by (omega),by (refine ⟨rfl,rfl,rfl,?_,?_⟩;repeat' first|exact trivial|exact rfl|refine And.intro ?_ ?_|refine ⟨_,rfl,?_⟩|decide)⟩
  ·exact ⟨k+1,[(0,0)],[],by (omega),by (omega),by (refine ⟨rfl,rfl,rfl,?_,?_⟩;repeat' first|exact trivial|exact rfl|refine And.intro ?_ ?_|refine ⟨_,rfl,?_⟩|decide)⟩
  all_goals omega
 ·(repeat' ((conv=>whnf);first|refine vA ?_|(refine vF ?_ ?_<;>intro hc<;>try simp only [vL] at hc)|refine vZ ?_));all_goals try conv=>whnf
  all_goals omega
end Go.Ab
namespace Go.Ab
open Go
set_option linter.unusedVariables false
set_option linter.unusedSimpArgs false
inductive SubT:Tm→Tm→Prop where
 | refl (t:Tm):SubT t t
 | u {s x:Tm} (h:Hd):SubT s x→SubT s (.u h x)
 | l {s x:Tm} (h:Hd) (y:Tm):SubT s x→SubT s (.b h x y)
 | r {s y:Tm} (h:Hd) (x:Tm):SubT s y→SubT s (.b h x y)
def Num (l:List Nd):Prop := ∀ r,r < l.length→HasT (tmOf l r) l r
theorem put_num {l:List Nd} {x:Nd} (hl:Okay l) (hn:Num l) (hx:nErr x l.length=0) {t:Tm} (h1:tmOf (put l x).2 (put l x).1=t) (h2:HasT t (put l x).2 (put l x).1) :
  Num (put l x).2 ∧ ∀ r,r < (put l x).2.length→r < l.length∨tmOf (put l x).2 r=t:=by
 cases hi:l.idxOf? x with
 | some k=>rw [put_found hi];exact ⟨hn,fun r hr => .inl hr⟩
 | none =>
  rw [put_new hi] at h1 h2 ⊢
  simp only at h1 h2 ⊢
  refine ⟨fun r hr=>?_,fun r hr=>?_⟩
  ·simp only [List.length_append,List.length_cons,List.length_nil] at hr
   by_cases e:r < l.length
   ·rw [tmOf_append hl e];exact (hn r e).mono [x]
   ·have:r=l.length:=by omega
    subst this;rw [h1];exact h2
  ·simp only [List.length_append,List.length_cons,List.length_nil] at hr
   by_cases e:r < l.length
   ·exact .inl e
   ·have:r=l.length:=by omega
    subst this;exact .inr h1
theorem finT_num : ∀ (t:Tm) (l:List Nd),t.ok→Okay l→Num l→Num (finT t l).2 ∧ ∀ r,r < (finT t l).2.length→r < l.length∨SubT (tmOf (finT t l).2 r) t
 | .z h,l,ht,hl,hn=>by
  obtain ⟨o1,o2⟩:=finT_okay (.z h) l ht hl
  have hx:nErr (nd h 0 0) l.length=0:=nErr_iff.2 ⟨ht.1,fun e=>by have:=ht.2.1;simp [nd] at e;simp [this] at e,fun _=>rfl,fun e=>by have:=ht.2.2;simp [nd] at e;simp [this] at e,fun _=>rfl⟩
  obtain ⟨a,b⟩:=put_num hl hn hx o2 (finT_has (.z h) l)
  exact ⟨a,fun r hr=>(b r hr).imp id fun e=>by rw [show (finT (.z h) l).2=(put l (nd h 0 0)).2 from rfl,e];exact .refl _⟩
 | .u h x,l,ht,hl,hn=>by
  obtain ⟨o1,o2⟩:=finT_okay (.u h x) l ht hl
  obtain ⟨a1,a2⟩:=finT_okay x l ht.2.2.2 hl
  have a3:=finT_lt x l
  obtain ⟨n1,n2⟩:=finT_num x l ht.2.2.2 hl hn
  have hx:nErr (nd h (finT x l).1 0) (finT x l).2.length=0:=nErr_iff.2 ⟨ht.1,fun e=>⟨by simp [nd],by simp only [nd];omega⟩,fun e=>by have:=ht.2.1;simp [nd] at e;simp [this] at e,fun e=>by have:=ht.2.2.1;simp [nd] at e;simp [this] at e,fun _=>rfl⟩
  obtain ⟨a,b⟩:=put_num a1 n1 hx o2 (finT_has (.u h x) l)
  obtain ⟨m,hm⟩:=(put_ext (finT x l).2 (nd h (finT x l).1 0)).1
  refine ⟨a,fun r hr=>?_⟩
  rw [show (finT (.u h x) l).2=(put (finT x l).2 (nd h (finT x l).1 0)).2 from rfl] at hr ⊢
  rcases b r hr with e|e
  ·rw [hm,tmOf_append a1 e]
   exact (n2 r e).imp id fun s => .u h s
  ·rw [e];exact .inr (.refl _)
 | .b h x y,l,ht,hl,hn=>by
  obtain ⟨o1,o2⟩:=finT_okay (.b h x y) l ht hl
  obtain ⟨a1,a2⟩:=finT_okay x l ht.2.2.2.1 hl
  have a3:=finT_lt x l
  obtain ⟨b1,b2⟩:=finT_okay y (finT x l).2 ht.2.2.2.2 a1
  have b3:=finT_lt y (finT x l).2
  obtain ⟨n1,n2⟩:=finT_num x l ht.2.2.2.1 hl hn
  obtain ⟨n3,n4⟩:=finT_num y (finT x l).2 ht.2.2.2.2 a1 n1
  obtain ⟨m2,hm2⟩:=finT_ext y (finT x l).2
  have hx:nErr (nd h (finT x l).1 (finT y (finT x l).2).1) (finT y (finT x l).2).2.length=0:=nErr_iff.2 ⟨ht.1,fun e=>⟨by simp [nd],by simp only [nd];rw [hm2,List.length_append];omega⟩,
   fun e=>by have:=ht.2.1;simp [nd] at e;simp [this] at e,fun e=>⟨by simp [nd],by simp only [nd];omega⟩,fun e=>by have:=ht.2.2.1;simp [nd] at e;simp [this] at e⟩
  obtain ⟨a,b⟩:=put_num b1 n3 hx o2 (finT_has (.b h x y) l)
  obtain ⟨m,hm⟩:=(put_ext (finT y (finT x l).2).2 (nd h (finT x l).1 (finT y (finT x l).2).1)).1
  refine ⟨a,fun r hr=>?_⟩
  rw [show (finT (.b h x y) l).2=(put (finT y (finT x l).2).2 (nd h (finT x l).1 (finT y (finT x l).2).1)).2 from rfl] at hr ⊢
  rcases b r hr with e|e
  ·rw [hm,tmOf_append b1 e]
   rcases n4 r e with e'|s
   ·rw [hm2,tmOf_append a1 e']
    exact (n2 r e').imp id fun s => .l h y s
   ·exact .inr (.r h x s)
  ·rw [e];exact .inr (.refl _)
theorem nd_len {α:Type} : ∀ {l l':List α},l.Nodup→(∀ x∈l,x∈l')→l.length≤l'.length:=by
 intro l l' h1 h2
 haveI:DecidableEq α:=fun a b=>Classical.propDecidable _
 exact List.Nodup.length_le_of_subset h1 h2
theorem canon_len {t:Tm} (ht:t.ok) {L:List Tm} (hL : ∀ s,SubT s t→s∈L):(finT t []).2.length≤L.length:=by
 obtain ⟨h1,h2⟩:=finT_num t [] ht okay_nil (fun r hr=>by simp at hr)
 have:=nd_len (l:=(List.range (finT t []).2.length).map (tmOf (finT t []).2)) (l':=L) ?_ (fun s hs=>?_)
 ·simpa using this
 ·show List.Pairwise (fun a b=>a≠b) _
  rw [List.pairwise_map]
  refine List.Pairwise.imp_of_mem (fun {i j} hi hj hne e=>hne ?_) (show List.Pairwise (fun a b=>a≠b) _ from List.nodup_range)
  have a:=h1 i (List.mem_range.1 hi)
  have b:=h1 j (List.mem_range.1 hj)
  unfold HasT at a b
  rw [e,b] at a
  exact (Prod.mk.inj a).1.symm
 ·obtain ⟨r,hr,rfl⟩:=List.mem_map.1 hs
  exact hL _ ((h2 r (List.mem_range.1 hr)).resolve_left (by simp))
theorem sub_list {f:List Nd} (hf:Okay f) : ∀ (n i:Nat),i < n→i < f.length → ∀ s,SubT s (tmOf f i)→s∈(List.range f.length).map (tmOf f)
 | 0,i,h,_,_,_=>by omega
 | n+1,i,h,hi,s,hs=>by
  have h0:tmOf f i∈(List.range f.length).map (tmOf f):=List.mem_map.2 ⟨i,List.mem_range.2 hi,rfl⟩
  rw [tmOf_eq hf hi] at hs
  cases hy:useY (f.getD i default).op with
  | true =>
   have e1:=okay_x hf hi (useX_of_useY hy)
   have e2:=okay_y hf hi hy
   rw [hy,cond_true] at hs
   generalize hq:Tm.b (f.getD i default).hd (tmOf f (f.getD i default).x.toNat) (tmOf f (f.getD i default).y.toNat)=q at hs
   cases hs with
   | refl=>rw [← hq];rw [tmOf_eq hf hi,hy,cond_true] at h0;exact h0
   | u=>cases hq
   | l _ _ hs=>cases hq;exact sub_list hf n _ (by omega) (by omega) s hs
   | r _ _ hs=>cases hq;exact sub_list hf n _ (by omega) (by omega) s hs
  | false =>
   rw [hy,cond_false] at hs
   cases hx:useX (f.getD i default).op with
   | true =>
    have e1:=okay_x hf hi hx
    rw [hx,cond_true] at hs
    generalize hq:Tm.u (f.getD i default).hd (tmOf f (f.getD i default).x.toNat)=q at hs
    cases hs with
    | refl=>rw [← hq];rw [tmOf_eq hf hi,hy,hx,cond_false,cond_true] at h0;exact h0
    | u _ hs=>cases hq;exact sub_list hf n _ (by omega) (by omega) s hs
    | l=>cases hq
    | r=>cases hq
   | false =>
    rw [hx,cond_false] at hs
    generalize hq:Tm.z (f.getD i default).hd=q at hs
    cases hs with
    | refl=>rw [← hq];rw [tmOf_eq hf hi,hy,hx,cond_false,cond_false] at h0;exact h0
    | u=>cases hq
    | l=>cases hq
    | r=>cases hq
end Go.Ab
namespace Go.Ab
open Go
set_option linter.unusedVariables false
set_option linter.unusedSimpArgs false
theorem finish_isF2 {x:Nd} {f:List Nd} (hf:Okay f) (hx:nErr x f.length=0) (hl:(finT (tmOf (f++[x]) f.length) []).2.length≤200):IsF (finishL x f) (tmOf (f++[x]) f.length):=by
 have hok:Okay (f++[x]):=by
  intro k n hk
  rw [List.getElem?_append] at hk
  split at hk
  ·exact hf k n hk
  ·rename_i h1
   have:k=f.length:=by have:=(List.getElem?_eq_some_iff.1 hk).1;simp at this;omega
   subst this
   simp at hk;subst hk;exact hx
 have hlt:f.length < (f++[x]).length:=by simp
 have h1:=compactL_canon hok hlt
 rw [← (compactL_eq hok hlt).1] at hl
 have e:finishL x f=compactL (f++[x]) f.length:=by
  unfold finishL
  rw [if_neg (by omega),if_neg (by omega)]
 rw [e]
 exact ⟨fErr_ok.2 ⟨h1.pos,hl,h1.ok⟩,h1.tree⟩
theorem build_one2 {h:Hd} (hh:HdOk h) (hx:useX h.op=true) (hy:useY h.op=false) {o:List Nd} {t:Tm} (ho:IsF o t) (hl:(finT (.u h t) []).2.length≤200):IsF (buildL ⟨h.op,h.i,h.e,h.g,0,0⟩ [o]) (.u h t):=by
 obtain ⟨c1,c2⟩:=ho.canon
 have hp:=c1.pos
 have e0:(addL [] (cL o)).length=(cL o).length:=by simp [addL]
 have hok:=addL_okay okay_nil c1.ok
 have ht:tmOf (addL [] (cL o)) ((cL o).length - 1)=t:=by
  have:=addL_tree (f:=[]) okay_nil c1.ok (cL o).length ((cL o).length - 1) (by omega) (by omega)
  rw [List.length_nil,Nat.zero_add] at this
  rw [this];exact c1.tree
 have hn:nErr ⟨h.op,h.i,h.e,h.g,((addL [] (cL o)).length:Int) - 1,0⟩ (addL [] (cL o)).length=0:=nErr_iff.2 ⟨hh,fun _=>by simp only;omega,fun e=>by simp [hx] at e,fun e=>by simp [hy] at e,fun _=>rfl⟩
 have e:buildL ⟨h.op,h.i,h.e,h.g,0,0⟩ [o]=finishL ⟨h.op,h.i,h.e,h.g,((addL [] (cL o)).length:Int) - 1,0⟩ (addL [] (cL o)):=by
  simp [buildL,buildGo,ho.ok]
 have h0:=root_eq hok hn
 simp only [hx,hy,cond_false,cond_true] at h0
 rw [show (((addL [] (cL o)).length:Int) - 1).toNat=(cL o).length - 1 by omega,ht] at h0
 have h1:=finish_isF2 hok hn (by rw [h0];exact hl)
 rw [h0] at h1
 rw [e]
 exact h1
theorem build_two2 {h:Hd} (hh:HdOk h) (hy:useY h.op=true) {o q:List Nd} {t u:Tm} (ho:IsF o t) (hq:IsF q u) (hl:(finT (.b h t u) []).2.length≤200):IsF (buildL ⟨h.op,h.i,h.e,h.g,0,0⟩ [o,q]) (.b h t u):=by
 have hx:=useX_of_useY hy
 obtain ⟨c1,c2⟩:=ho.canon
 obtain ⟨d1,d2⟩:=hq.canon
 have hp:=c1.pos
 have hp2:=d1.pos
 have e0:(addL [] (cL o)).length=(cL o).length:=by simp [addL]
 have hok:=addL_okay okay_nil c1.ok
 have hok2:=addL_okay hok d1.ok
 have e2:(addL (addL [] (cL o)) (cL q)).length=(cL o).length+(cL q).length:=by rw [addL,List.length_append,List.length_map,e0]
 have ht:tmOf (addL (addL [] (cL o)) (cL q)) ((cL o).length - 1)=t:=by
  rw [addL_old hok (by omega)]
  have:=addL_tree (f:=[]) okay_nil c1.ok (cL o).length ((cL o).length - 1) (by omega) (by omega)
  rw [List.length_nil,Nat.zero_add] at this
  rw [this];exact c1.tree
 have hu:tmOf (addL (addL [] (cL o)) (cL q)) ((cL o).length+(cL q).length - 1)=u:=by
  have:=addL_tree hok d1.ok (cL q).length ((cL q).length - 1) (by omega) (by omega)
  rw [e0,show (cL o).length+((cL q).length - 1)=(cL o).length+(cL q).length - 1 by omega] at this
  rw [this];exact d1.tree
 have hn:nErr ⟨h.op,h.i,h.e,h.g,((addL [] (cL o)).length:Int) - 1,((addL (addL [] (cL o)) (cL q)).length:Int) - 1⟩ (addL (addL [] (cL o)) (cL q)).length=0 :=
  nErr_iff.2 ⟨hh,fun _=>by simp only;omega,fun e=>by simp [hx] at e,fun _=>by simp only;omega,fun e=>by simp [hy] at e⟩
 have e:buildL ⟨h.op,h.i,h.e,h.g,0,0⟩ [o,q]=finishL ⟨h.op,h.i,h.e,h.g,((addL [] (cL o)).length:Int) - 1,((addL (addL [] (cL o)) (cL q)).length:Int) - 1⟩ (addL (addL [] (cL o)) (cL q)):=by
  simp [buildL,buildGo,ho.ok,hq.ok]
 have h0:=root_eq hok2 hn
 simp only [hy,cond_true] at h0
 rw [show (((addL [] (cL o)).length:Int) - 1).toNat=(cL o).length - 1 by omega,show (((addL (addL [] (cL o)) (cL q)).length:Int) - 1).toNat=(cL o).length+(cL q).length - 1 by omega,ht,hu] at h0
 have h1:=finish_isF2 hok2 hn (by rw [h0];exact hl)
 rw [h0] at h1
 rw [e]
 exact h1
structure Gm (p:PM) (f:List Nd) (x:BitVec 64) (L:List Tm):Prop where
 ok : ∃ t,OkT p f t∧ev (valL p) 0#64 t=x ∧ ∀ s,SubT s t→s∈L
theorem Gm.holds {p:PM} {f:List Nd} {x:BitVec 64} {L:List Tm} (h:Gm p f x L) (hc0:checkL p=0):holdsL p f=(x,0):=by
 obtain ⟨t,h1,h2,-⟩:=h.ok
 rw [h1.holds hc0,h2]
theorem Fm.gm {p:PM} {f:List Nd} {x:BitVec 64} {n:Nat} (h:Fm p f x n):Gm p f x ((List.range f.length).map (tmOf f)):=by
 obtain ⟨t,h1,h2⟩:=h.ok
 obtain ⟨a,b,c⟩:=fErr_ok.1 h1.isF.ok
 refine ⟨t,h1,h2,fun s hs=>?_⟩
 rw [← h1.isF.tree] at hs
 exact sub_list c f.length _ (by omega) (by omega) s hs
theorem Gm.mono {p:PM} {f:List Nd} {x:BitVec 64} {L L':List Tm} (h:Gm p f x L) (hs : ∀ s,s∈L→s∈L'):Gm p f x L':=by
 obtain ⟨t,h1,h2,h3⟩:=h.ok
 exact ⟨t,h1,h2,fun s hq=>hs s (h3 s hq)⟩
theorem Gm.un {p:PM} {f:List Nd} {x:BitVec 64} {L:List Tm} (h:Gm p f x L) {hd:Hd} (hh:HdOk hd∧Allow hd∧FitH p hd) (hx:useX hd.op=true) (hy:useY hd.op=false) (hn:L.length≤199) :
  ∃ t',Gm p (buildL ⟨hd.op,hd.i,hd.e,hd.g,0,0⟩ [f]) (valL p hd x 0#64) (L++[t']):=by
 obtain ⟨t,h1,h2,h3⟩:=h.ok
 have hok:(Tm.u hd t).ok:=⟨hh.1,hx,hy,h1.isF.tok⟩
 have hL : ∀ s,SubT s (.u hd t)→s∈L++[.u hd t]:=fun s hs=>by
  cases hs with
  | refl=>simp
  | u _ hs=>exact List.mem_append.2 (.inl (h3 s hs))
 have hl:=canon_len hok hL
 simp only [List.length_append,List.length_cons,List.length_nil] at hl
 exact ⟨.u hd t,.u hd t,⟨build_one2 hh.1 hx hy h1.isF (by omega),⟨hh.2.1,h1.lang⟩,⟨hh.2.2,h1.fit⟩⟩,by rw [ev,h2],hL⟩
theorem Gm.bi {p:PM} {f g:List Nd} {x y:BitVec 64} {L:List Tm} (h:Gm p f x L) (h':Gm p g y L) {hd:Hd} (hh:HdOk hd∧Allow hd∧FitH p hd) (hy:useY hd.op=true) (hn:L.length≤199) :
  ∃ t',Gm p (buildL ⟨hd.op,hd.i,hd.e,hd.g,0,0⟩ [f,g]) (valL p hd x y) (L++[t']):=by
 obtain ⟨t,h1,h2,h3⟩:=h.ok
 obtain ⟨u,g1,g2,g3⟩:=h'.ok
 have hok:(Tm.b hd t u).ok:=⟨hh.1,useX_of_useY hy,hy,h1.isF.tok,g1.isF.tok⟩
 have hL : ∀ s,SubT s (.b hd t u)→s∈L++[.b hd t u]:=fun s hs=>by
  cases hs with
  | refl=>simp
  | l _ _ hs=>exact List.mem_append.2 (.inl (h3 s hs))
  | r _ _ hs=>exact List.mem_append.2 (.inl (g3 s hs))
 have hl:=canon_len hok hL
 simp only [List.length_append,List.length_cons,List.length_nil] at hl
 exact ⟨.b hd t u,.b hd t u,⟨build_two2 hh.1 hy h1.isF g1.isF (by omega),⟨hh.2.1,h1.lang,g1.lang⟩,⟨hh.2.2,h1.fit,g1.fit⟩⟩,by rw [ev,h2,g2],hL⟩
theorem Fm.under1 {p:PM} {f:List Nd} {n:Nat} (hc0:checkL p=0) {hd:Hd} (hh:HdOk hd) (hx:useX hd.op=true) (hy:useY hd.op=false) (hl:f.length≤n) (hn:n≤199) (h0:(holdsL p (buildL ⟨hd.op,hd.i,hd.e,hd.g,0,0⟩ [f])).2=0):Fm p f (holdsL p f).1 n:=by
 obtain ⟨-,t',a1,a2,a3,a4⟩:=holds_inv h0
 by_cases hf0:fErr f=0
 ·have hf:=isF_of hf0
  have hb:=(build_one hh hx hy hf (by omega)).1
  have e:t' = .u hd (tmOf f (f.length - 1)):=a1.tree.symm.trans hb.tree
  subst e
  exact .of (congrArg Prod.snd (holds_ok hf hc0 a2.2 a3.2)) hl
 ·have e:buildL ⟨hd.op,hd.i,hd.e,hd.g,0,0⟩ [f]=[]:=build_bad1 hf0
  have:=a1.ok
  rw [e] at this
  cases this
end Go.Ab
namespace Go.Ab
open Go
set_option linter.unusedVariables false
set_option linter.unusedSimpArgs false
inductive Rc (S:Nat→Prop) (R:Nat→Nat→Prop):Nat→Prop where
 | base {v:Nat} : S v→Rc S R v
 | step {v u:Nat} : Rc S R v→R v u→Rc S R u
def cnt (s:BitVec 64):Nat→Nat
 | 0=>0
 | k+1=>cnt s k+(if s.getLsbD k=true then 1 else 0)
theorem cnt_le (s:BitVec 64) : ∀ n,cnt s n≤n
 | 0=>Nat.le_refl _
 | k+1=>by
  have:=cnt_le s k
  unfold cnt;split<;>omega
theorem cnt_mono {s s':BitVec 64} (h : ∀ i,s.getLsbD i=true→s'.getLsbD i=true) : ∀ n,cnt s n≤cnt s' n
 | 0=>Nat.le_refl _
 | k+1=>by
  have h1:=cnt_mono h k
  unfold cnt
  by_cases e:s.getLsbD k=true
  ·rw [if_pos e,if_pos (h k e)];omega
  ·rw [if_neg e];split<;>omega
theorem cnt_lt {s s':BitVec 64} (h : ∀ i,s.getLsbD i=true→s'.getLsbD i=true) {u:Nat} (hu:s'.getLsbD u=true) (hn : ¬s.getLsbD u=true) : ∀ n,u < n→cnt s n < cnt s' n
 | 0,h0=>by omega
 | k+1,h0=>by
  unfold cnt
  by_cases e:u=k
  ·subst e
   have:=cnt_mono h u
   rw [if_neg hn,if_pos hu];omega
  ·have h1:=cnt_lt h hu hn k (by omega)
   by_cases e:s.getLsbD k=true
   ·rw [if_pos e,if_pos (h k e)];omega
   ·rw [if_neg e];split<;>omega
theorem cnt_full {s:BitVec 64} : ∀ n,n≤cnt s n → ∀ i,i < n→s.getLsbD i=true
 | 0,_,i,h=>by omega
 | k+1,h,i,hi=>by
  have h1:=cnt_le s k
  unfold cnt at h
  by_cases e:s.getLsbD k=true
  ·rw [if_pos e] at h
   by_cases ei:i=k
   ·subst ei;exact e
   ·exact cnt_full k (by omega) i (by omega)
  ·rw [if_neg e] at h;omega
def ClosedS (R:Nat→Nat→Prop) (s:BitVec 64):Prop := ∀ v u,s.getLsbD v=true→R v u→s.getLsbD u=true
structure RInv (S:Nat→Prop) (R:Nat→Nat→Prop) (n:Nat) (s:BitVec 64) (i:Nat):Prop where
 sound : ∀ v,s.getLsbD v=true→Rc S R v
 base : ∀ v,S v→s.getLsbD v=true
 prog:ClosedS R s∨i≤cnt s n
structure RMid (S:Nat→Prop) (R:Nat→Nat→Prop) (s0 s:BitVec 64) (v:Nat):Prop where
 sound : ∀ v,s.getLsbD v=true→Rc S R v
 old : ∀ i,s0.getLsbD i=true→s.getLsbD i=true
 done : ∀ w,w < v→s0.getLsbD w=true → ∀ u,R w u→s.getLsbD u=true
theorem RInv.mid {S:Nat→Prop} {R:Nat→Nat→Prop} {n:Nat} {s:BitVec 64} {i:Nat} (h:RInv S R n s i):RMid S R s s 0 :=
 ⟨h.sound,fun _ h=>h,fun w hw=>by omega⟩
theorem RMid.next {S:Nat→Prop} {R:Nat→Nat→Prop} {n:Nat} {s0 s:BitVec 64} {i:Nat} (hR : ∀ v u,R v u→v < n∧u < n) (h0:RInv S R n s0 i) (h:RMid S R s0 s n):RInv S R n s (i+1):=by
 refine ⟨h.sound,fun v hv=>h.old v (h0.base v hv),?_⟩
 by_cases hc:ClosedS R s0
 ·left
  have hall : ∀ v,Rc S R v→s0.getLsbD v=true:=fun v hv=>by
   induction hv with
   | base hb=>exact h0.base _ hb
   | step _ hr ih=>exact hc _ _ ih hr
  exact fun v u hv hr=>h.old u (hall u (.step (h.sound v hv) hr))
 ·right
  have : ∃ v u,s0.getLsbD v=true∧R v u ∧ ¬s0.getLsbD u=true:=Classical.byContradiction fun hn=>hc fun v u hv hr=>Classical.byContradiction fun hu=>hn ⟨v,u,hv,hr,hu⟩
  obtain ⟨v,u,hv,hr,hu⟩:=this
  have hlt:=hR v u hr
  have h1:=cnt_lt h.old (h.done v hlt.1 hv u hr) hu n hlt.2
  rcases h0.prog with h2|h2
  ·exact absurd h2 hc
  ·omega
theorem RInv.all {S:Nat→Prop} {R:Nat→Nat→Prop} {n:Nat} {s:BitVec 64} (hR : ∀ v u,R v u→v < n∧u < n) (h:RInv S R n s n) (v:Nat):s.getLsbD v=true↔Rc S R v:=by
 refine ⟨h.sound v,fun hv=>?_⟩
 have hc:ClosedS R s:=h.prog.elim id fun hp v u _ hr=>cnt_full n hp u (hR v u hr).2
 induction hv with
 | base hb=>exact h.base _ hb
 | step _ hr ih=>exact hc _ _ ih hr
end Go.Ab
namespace Go.Ab
open Go
set_option linter.unusedVariables false
set_option linter.unusedSimpArgs false
theorem group_hd {op:Int} (ho:op=11∨op=13) {p:PM} (hg:Good p) {g:Nat} (h0:1≤g) (h1:g < 2 ^ p.cell.length):HdOk ⟨op,0,0,g⟩∧Allow ⟨op,0,0,g⟩∧FitH p ⟨op,0,0,g⟩:=by
 have h4:=hg.n4
 have h2:2 ^ p.cell.length≤2 ^ 4:=Nat.pow_le_pow_right (by omega) h4
 have hag:useAgent op=false:=decide_eq_false (by omega)
 have hfa:useFact op=false:=decide_eq_false (by omega)
 have hev:useEvent op=false:=decide_eq_false (by omega)
 have hgr:useGroup op=true:=decide_eq_true (by omega)
 refine ⟨⟨decide_eq_true (by simp only;omega),fun e=>?_,fun e=>?_,fun e=>?_,fun _=>⟨by simp only;omega,by simp only;omega⟩,fun _ _ _=>rfl,fun _=>rfl,fun e=>?_⟩,allow_of ?_,?_,?_⟩
 ·simp [hfa] at e
 ·simp [hag] at e
 ·simp [hev] at e
 ·simp [hgr] at e
 ·show fragN ⟨op,0,0,0⟩=0∨fragN ⟨op,0,0,0⟩=1∨fragN ⟨op,0,0,0⟩=2∨fragN ⟨op,0,0,0⟩=8∨fragN ⟨op,0,0,0⟩=16∨fragN ⟨op,0,0,0⟩=32
  rcases ho with rfl|rfl<;>decide
 ·rw [agentN,if_neg (show ¬useAgent (Hd.mk op 0 0 g).op=true by simp [hag])]
  exact h1
 ·rw [factN,if_neg (show ¬useFact (Hd.mk op 0 0 g).op=true by simp [hfa])]
  exact Nat.two_pow_pos _
theorem Fm.common {p:PM} (hc0:checkL p=0) {f g:List Nd} {x y:BitVec 64} {n m:Nat} {G:Nat} (h:Fm p f x n) (h':Fm p g y m) (h0:1≤G) (h1:G < 2 ^ p.cell.length) (hn:n+m≤199):Fm p (buildL ⟨13,0,0,G,0,0⟩ [f,g]) (commonL p G x y) (n+m+1) :=
 h.bi h' (hd:=⟨13,0,0,G⟩) (group_hd (by decide) (checkL_good hc0) h0 h1) (by simp only;decide) hn
def StepA (p:PM) (v u:Nat):Prop:=v < p.W.toNat ∧ ∃ a,a < p.cell.length∧InC p a v u
theorem StepA.lt {p:PM} {v u:Nat} (h:StepA p v u):v < p.W.toNat∧u < p.W.toNat:=by obtain ⟨h1,a,h2,h3⟩:=h;exact ⟨h1,h3.1⟩
theorem all_bits {n a:Nat} (h:a < n):(2 ^ n - 1).testBit a=true:=by
 rw [Nat.testBit_two_pow_sub_one];exact decide_eq_true h
theorem suc_step {p:PM} {v u:Nat} : Suc p (2 ^ p.cell.length - 1) v u↔StepA p v u:=by
 constructor
 ·rintro ⟨h1,a,h2,-,h3⟩;exact ⟨h1,a,h2,h3⟩
 ·rintro ⟨h1,a,h2,h3⟩;exact ⟨h1,a,h2,all_bits h2,h3⟩
theorem rc_cp {p:PM} (hc0:checkL p=0) {w:Nat} (hw:w < p.W.toNat) (hn:0 < p.cell.length) {v:Nat} : Rc (fun i=>i=w) (StepA p) v↔CP p (2 ^ p.cell.length - 1) (allL p.W) w v:=by
 have self:CP p (2 ^ p.cell.length - 1) (allL p.W) w w := .base (suc_step.2 ⟨hw,0,hn,inC_refl hc0 hn hw⟩) ((all_bit hc0).2 hw)
 constructor
 ·intro h
  induction h with
  | base e=>subst e;exact self
  | step _ hr ih=>exact .step ih (suc_step.2 hr) ((all_bit hc0).2 hr.lt.2)
 ·intro h
  induction h with
  | base h1 _=>exact .step (.base rfl) (suc_step.1 h1)
  | step _ h1 _ ih=>exact .step ih (suc_step.1 h1)
theorem common_all {p:PM} (hc0:checkL p=0) {w:Nat} (hw:w < p.W.toNat) (hn:0 < p.cell.length) {s x:BitVec 64} (hs : ∀ v,s.getLsbD v=true↔Rc (fun i=>i=w) (StepA p) v) :
  s &&& ~~~x=0#64↔(commonL p (2 ^ p.cell.length - 1) (allL p.W) x).getLsbD w=true:=by
 rw [sub_iff,common_bit hc0]
 exact ⟨fun h=>⟨hw,fun v hv=>h v ((hs v).2 ((rc_cp hc0 hw hn).2 hv))⟩,fun h v hv=>h.2 v ((rc_cp hc0 hw hn).1 ((hs v).1 hv))⟩
end Go.Ab
namespace Go.Ab
open Go Go.Proofs
set_option linter.unusedSimpArgs false
set_option linter.unusedVariables false
set_option maxRecDepth 10000
set_option maxHeartbeats 4000000
variable {T:Nat→Obj→Prop}
set_option maxHeartbeats 40000000 in
theorem law_Cells (p:PM) (hp:IntsOk p.rank) (f:List Nd):Fn Try.prog T f_wittinglaw34_DoxasticCells [.d (dPM p),.d (dF f)] [] (.d (.bool true)) []:=by
 have hR:=ranks_ok (T:=T)
 have hA:=fn_awake (T:=T)
 have hF:=fn_few (T:=T) p [f]
 refine fn_dataR hmix k_wittinglaw34_DoxasticCells (by show 2≤148;decide) ?_
 (repeat' ((conv=>whnf);first|refine TestS.no (by decide) ?_|refine vA ?_|refine vE ?_|((first|refine vD ?_ ?_|refine vF ?_ ?_|refine vI ?_ ?_)<;>intro hc<;>try simp only [vL] at hc)|refine vJ fun hg=>?_|refine vZ ?_|refine yD hA rfl rfl ?_|refine yD hF ⟨⟨rfl,rfl⟩,⟨rfl,rfl⟩,rfl⟩ rfl ?_|refine yD (fn_ref33_Check _ hp) (by (repeat refine ⟨⟨rfl,rfl⟩,?_⟩);rfl) rfl ?_|refine yN (fn_set hR p hp _) ⟨⟨rfl,rfl⟩,⟨rfl,rfl⟩,rfl⟩ ?_));all_goals try conv=>whnf
 have hc0:=‹checkL p=0›
 have hg:=checkL_good hc0
 have h4:=hg.n4
 have h64:=W64 hc0
 have hfew:=few_len ‹fewL p [f]=true›
 have hf:Fm p f (holdsL p f).1 60 := .of ‹_› (hfew f (by simp))
 have hn:0 < p.cell.length:=by omega
 refine loop_mem (fun (k:Nat)=>[(1,.d (dF f)),(2,.ptr 0 0),(5,.d (.u64 ((holdsL p f).1))),(48,.d (.int .i64 ((p.cell.map dI).length:Int))),(49,.d (.int .i64 ((k:Int))))]) (fun (k:Nat)=>[(0,some (boxPM p))]) 1 (fun (k:Nat)=>k≤p.cell.length) (fun (k:Nat)=>p.cell.length - k) (0) [(0,0)] [] (by simp) (by (refine ⟨rfl,rfl,rfl,?_,?_⟩;repeat' first|exact trivial|exact rfl|refine And.intro ?_ ?_|refine ⟨_,rfl,?_⟩|decide)) ?_
 rintro k hk
 by_cases hkl:k < p.cell.length
 ·have s1:=fn_setOf (T:=T) hR hp hc0 (hf.know hc0 hkl (by decide))
  (repeat' ((conv=>whnf);first|refine vA ?_|(refine vF ?_ ?_<;>intro hc<;>try simp only [vL] at hc)|refine vJ fun hg=>?_|((first|refine vO ?_ ?_|refine vP ?_ ?_);·omega)|(refine vU ?_ ?_;·kernel_rfl)|refine yN (fn_FKnow _ _) ⟨⟨rfl,rfl⟩,⟨rfl,rfl⟩,rfl⟩ ?_|refine yN s1 ⟨⟨rfl,rfl⟩,⟨rfl,rfl⟩,rfl⟩ ?_));all_goals try conv=>whnf
  ·refine loop_mem (fun (w:Nat)=>[(1,.d (dF f)),(2,.ptr 0 0),(5,.d (.u64 ((holdsL p f).1))),(7,.d (.int .i64 ((k:Int)))),(8,.d (.u64 (knowsL p k (holdsL p f).1))),(9,.d (.bool (true))),(48,.d (.int .i64 ((p.cell.map dI).length:Int))),(49,.d (.int .i64 ((k:Int)))),(61,.d (.int .i64 (p.W))),(62,.d (.int .i64 ((w:Int))))]) (fun (w:Nat)=>[(0,some (boxPM p))]) 1 (fun (w:Nat)=>w≤p.W.toNat) (fun (w:Nat)=>p.W.toNat - w) (0) [(0,0)] [] (by simp) (by (refine ⟨rfl,rfl,rfl,?_,?_⟩;repeat' first|exact trivial|exact rfl|exact .inl rfl|refine And.intro ?_ ?_|refine ⟨_,rfl,?_⟩|decide)) ?_
   rintro w hw
   by_cases hwl:w < p.W.toNat
   ·have hdec:decide (cellL p k w &&& ~~~(holdsL p f).1=0#64)=decide (knowsL p k (holdsL p f).1 >>> ((w:Nat):Int).toNat&&&1#64=1#64):=by
     refine decide_eq_decide.2 ?_
     refine Iff.trans ?_ (bit_one _ w).symm
     unfold knowsL
     rw [set_is h64]
     exact ⟨fun h=>⟨hwl,h⟩,fun h=>h.2⟩
    (repeat' ((conv=>whnf);first|refine TestS.no (by decide) ?_|refine vA ?_|refine vE ?_|(refine vF ?_ ?_<;>intro hc<;>try simp only [vL] at hc)|((first|refine vO ?_ ?_|refine vP ?_ ?_);·omega)|(refine vU ?_ ?_;·kernel_rfl)|refine vZ ?_|refine yD (fn_Cell hR p hp _ _) (by (repeat refine ⟨⟨rfl,rfl⟩,?_⟩);rfl) rfl ?_));all_goals try conv=>whnf
    ·exact ⟨w+1,[(0,0)],[],by (omega),by (omega),by (refine ⟨rfl,rfl,rfl,?_,?_⟩;repeat' first|exact trivial|exact rfl|exact .inl rfl|refine And.intro ?_ ?_|refine ⟨_,rfl,?_⟩|decide)⟩
    ·exact absurd hdec hc
    all_goals omega
   ·(repeat' ((conv=>whnf);first|refine TestS.no (by decide) ?_|refine vA ?_|(refine vF ?_ ?_<;>intro hc<;>try simp only [vL] at hc)|(refine vO ?_ ?_;·omega)|fail));all_goals try conv=>whnf
    ·omega
    ·exact ⟨k+1,[(0,0)],[],by (omega),by (omega),by (refine ⟨rfl,rfl,rfl,?_,?_⟩;repeat' first|exact trivial|exact rfl|refine And.intro ?_ ?_|refine ⟨_,rfl,?_⟩|decide)⟩
  all_goals omega
 ·obtain ⟨pb,pe⟩:=pow_small (i:=(((p.cell.map dI).length:Nat):Int)) (by omega) (by rw [List.length_map];omega)
  have e1:(((p.cell.map dI).length:Nat):Int).toNat=p.cell.length:=by rw [List.length_map];rfl
  have hp2:=Nat.two_pow_pos p.cell.length
  have hp3:2≤2 ^ p.cell.length:=Nat.pow_le_pow_right (n:=2) (by omega) hn
  have hG:(1:Int) * 2 ^ min (((p.cell.map dI).length:Nat):Int).toNat IntKind.i64.bits - 1=((2 ^ p.cell.length - 1:Nat):Int):=by
   rw [← pe,e1];omega
  have s2:=fn_setOf (T:=T) hR hp hc0 (Fm.tru.common hc0 hf (G:=2 ^ p.cell.length - 1) (by omega) (by omega) (by decide))
  rw [← hG] at s2
  (repeat' ((conv=>whnf);first|refine vA ?_|(refine vF ?_ ?_<;>intro hc<;>try simp only [vL] at hc)|refine vJ fun hg=>?_|((first|refine vO ?_ ?_|refine vP ?_ ?_);·omega)|fail));all_goals try conv=>whnf
  ·omega
  ·have:=pb
   (repeat' ((conv=>whnf);first|refine vA ?_|(refine vU ?_ ?_;·kernel_rfl)|refine yN fn_FTrue rfl ?_|refine yN (fn_FCommon _ _ _) ⟨⟨rfl,rfl⟩,⟨rfl,rfl⟩,⟨rfl,rfl⟩,rfl⟩ ?_|refine yN s2 ⟨⟨rfl,rfl⟩,⟨rfl,rfl⟩,rfl⟩ ?_));all_goals try conv=>whnf
   refine loop_mem (fun (w:Nat)=>[(2,.ptr 0 0),(5,.d (.u64 ((holdsL p f).1))),(11,.d (.u64 (commonL p (2 ^ p.cell.length - 1) (allL p.W) (holdsL p f).1))),(12,.d (.bool (true))),(98,.d (.int .i64 (p.W))),(99,.d (.int .i64 ((w:Int))))]) (fun (w:Nat)=>[(0,some (boxPM p))]) 1 (fun (w:Nat)=>w≤p.W.toNat) (fun (w:Nat)=>p.W.toNat - w) (0) [(0,0)] [] (by simp) (by (refine ⟨rfl,rfl,rfl,?_,?_⟩;repeat' first|exact trivial|exact rfl|exact .inl rfl|refine And.intro ?_ ?_|refine ⟨_,rfl,?_⟩|decide)) ?_
   rintro w hw
   by_cases hwl:w < p.W.toNat
   ·(repeat' ((conv=>whnf);first|refine vA ?_|(refine vF ?_ ?_<;>intro hc<;>try simp only [vL] at hc)|(refine vP ?_ ?_;·omega)|refine vZ ?_));all_goals try conv=>whnf
    ·refine loop_mem (fun ((i,s):Nat×BitVec 64)=>[(2,.ptr 0 0),(5,.d (.u64 ((holdsL p f).1))),(11,.d (.u64 (commonL p (2 ^ p.cell.length - 1) (allL p.W) (holdsL p f).1))),(12,.d (.bool (true))),(13,.d (.int .i64 ((w:Int)))),(14,.d (.u64 (s))),(98,.d (.int .i64 (p.W))),(99,.d (.int .i64 ((w:Int)))),(105,.d (.int .i64 (p.W))),(106,.d (.int .i64 ((i:Int))))]) (fun ((i,s):Nat×BitVec 64)=>[(0,some (boxPM p))]) 1 (fun ((i,s):Nat×BitVec 64)=>i≤p.W.toNat∧RInv (fun i=>i=w) (StepA p) p.W.toNat s i) (fun ((i,s):Nat×BitVec 64)=>p.W.toNat - i) ((0,1#64 <<< w)) [(0,0)] [] (⟨by simp,fun v hv => .base (by rw [bit_pow,Bool.and_eq_true,decide_eq_true_eq,decide_eq_true_eq] at hv;exact hv.2),fun v hv=>by subst hv;rw [bit_pow,Bool.and_eq_true,decide_eq_true_eq,decide_eq_true_eq];omega,.inr (Nat.zero_le _)⟩) (by (refine ⟨rfl,rfl,rfl,?_,?_⟩;repeat' first|exact trivial|exact rfl|exact .inl rfl|refine And.intro ?_ ?_|refine ⟨_,rfl,?_⟩|decide)) ?_
     rintro ⟨i,s⟩ ⟨hi,hI⟩
     by_cases hil:i < p.W.toNat
     ·(repeat' ((conv=>whnf);first|refine TestS.no (by decide) ?_|refine vA ?_|refine vE ?_|(refine vF ?_ ?_<;>intro hc<;>try simp only [vL] at hc)|((first|refine vO ?_ ?_|refine vP ?_ ?_);·omega)|refine vZ ?_));all_goals try conv=>whnf
      ·refine loop_mem (fun ((v,q):Nat×BitVec 64)=>[(2,.ptr 0 0),(5,.d (.u64 ((holdsL p f).1))),(11,.d (.u64 (commonL p (2 ^ p.cell.length - 1) (allL p.W) (holdsL p f).1))),(12,.d (.bool (true))),(13,.d (.int .i64 ((w:Int)))),(14,.d (.u64 (q))),(98,.d (.int .i64 (p.W))),(99,.d (.int .i64 ((w:Int)))),(105,.d (.int .i64 (p.W))),(106,.d (.int .i64 ((i:Int)))),(109,.d (.int .i64 (p.W))),(110,.d (.int .i64 ((v:Int))))]) (fun ((v,q):Nat×BitVec 64)=>[(0,some (boxPM p))]) 1 (fun ((v,q):Nat×BitVec 64)=>v≤p.W.toNat∧RMid (fun i=>i=w) (StepA p) s q v) (fun ((v,q):Nat×BitVec 64)=>p.W.toNat - v) ((0,s)) [(0,0)] [] (⟨by simp,hI.mid⟩) (by (refine ⟨rfl,rfl,rfl,?_,?_⟩;repeat' first|exact trivial|exact rfl|exact .inl rfl|refine And.intro ?_ ?_|refine ⟨_,rfl,?_⟩|decide)) ?_
       rintro ⟨v,q⟩ ⟨hv,hM⟩
       by_cases hvl:v < p.W.toNat
       ·(repeat' ((conv=>whnf);first|refine vA ?_|(refine vF ?_ ?_<;>intro hc<;>try simp only [vL] at hc)|refine vJ fun hg=>?_|(refine vO ?_ ?_;·omega)|fail));all_goals try conv=>whnf
        ·refine loop_mem (fun ((a,r):Nat×BitVec 64)=>[(2,.ptr 0 0),(5,.d (.u64 ((holdsL p f).1))),(11,.d (.u64 (commonL p (2 ^ p.cell.length - 1) (allL p.W) (holdsL p f).1))),(12,.d (.bool (true))),(13,.d (.int .i64 ((w:Int)))),(14,.d (.u64 (r))),(15,.d (.int .i64 ((v:Int)))),(98,.d (.int .i64 (p.W))),(99,.d (.int .i64 ((w:Int)))),(105,.d (.int .i64 (p.W))),(106,.d (.int .i64 ((i:Int)))),(109,.d (.int .i64 (p.W))),(110,.d (.int .i64 ((v:Int)))),(115,.d (.int .i64 ((p.cell.map dI).length:Int))),(116,.d (.int .i64 ((a:Int))))]) (fun ((a,r):Nat×BitVec 64)=>[(0,some (boxPM p))]) 1 (fun ((a,r):Nat×BitVec 64)=>a≤p.cell.length∧RMid (fun i=>i=w) (StepA p) s r v ∧ ∀ b,b < a→s.getLsbD v=true → ∀ u,InC p b v u→r.getLsbD u=true) (fun ((a,r):Nat×BitVec 64)=>p.cell.length - a) ((0,q)) [(0,0)] [] (⟨by simp,hM,fun b hb=>by omega⟩) (by (refine ⟨rfl,rfl,rfl,?_,?_⟩;repeat' first|exact trivial|exact rfl|exact .inl rfl|refine And.intro ?_ ?_|refine ⟨_,rfl,?_⟩|decide)) ?_
         rintro ⟨a,r⟩ ⟨hal,hA1,hA2⟩
         by_cases han:a < p.cell.length
         ·(repeat' ((conv=>whnf);first|refine vA ?_|(refine vF ?_ ?_<;>intro hc<;>try simp only [vL] at hc)|((first|refine vO ?_ ?_|refine vP ?_ ?_);·omega)|refine yD (fn_Cell hR p hp _ _) (by (repeat refine ⟨⟨rfl,rfl⟩,?_⟩);rfl) rfl ?_));all_goals try conv=>whnf
          ·have hrv:=(bit_one r v).1 ‹r >>> _&&&1#64=1#64›
           have cb : ∀ u,(r|||cellL p a v).getLsbD u=true↔r.getLsbD u=true∨InC p a v u:=fun u=>by rw [or_bit,cell_bit hc0 han hvl]
           refine ⟨(a+1,r|||cellL p a v),[(0,0)],[],?_,?_,by (refine ⟨rfl,rfl,rfl,?_,?_⟩;repeat' first|exact trivial|exact rfl|exact .inl rfl|refine And.intro ?_ ?_|refine ⟨_,rfl,?_⟩|decide)⟩
           ·refine ⟨by omega,⟨fun u hu=>?_,fun u hu=>(cb u).2 (.inl (hA1.old u hu)),fun w' h1 h2 u h3=>(cb u).2 (.inl (hA1.done w' h1 h2 u h3))⟩,fun b hb h1 u h2=>(cb u).2 ?_⟩
            ·exact ((cb u).1 hu).elim (hA1.sound u) fun h => .step (hA1.sound v hrv) ⟨hvl,a,han,h⟩
            ·by_cases e:b=a
             ·subst e;exact .inr h2
             ·exact .inl (hA2 b (by omega) h1 u h2)
           ·((simp only [vM] at *;omega))
          ·have hrv : ¬r.getLsbD v=true:=fun h=>by have:=(bit_one r v).2 h;contradiction
           exact ⟨(a+1,r),[(0,0)],[],⟨by omega,hA1,fun b hb h1 u h2=>by
            by_cases e:b=a
            ·exact absurd (hA1.old v h1) hrv
            ·exact hA2 b (by omega) h1 u h2⟩,by ((simp only [vM] at *;omega)),by (refine ⟨rfl,rfl,rfl,?_,?_⟩;repeat' first|exact trivial|exact rfl|exact .inl rfl|refine And.intro ?_ ?_|refine ⟨_,rfl,?_⟩|decide)⟩
          all_goals omega
         ·(repeat' ((conv=>whnf);first|refine vA ?_|(refine vF ?_ ?_<;>intro hc<;>try simp only [vL] at hc)|((first|refine vO ?_ ?_|refine vP ?_ ?_);·omega)|fail));all_goals try conv=>whnf
          ·omega
          ·omega
          ·exact ⟨(v+1,r),[(0,0)],[],⟨by omega,hA1.sound,hA1.old,fun w' h1 h2 u h3=>by
            by_cases e:w'=v
            ·subst e
             obtain ⟨-,b,hb,hbc⟩:=h3
             exact hA2 b (by omega) h2 u hbc
            ·exact hA1.done w' (by omega) h2 u h3⟩,by ((simp only [vM] at *;omega)),by (refine ⟨rfl,rfl,rfl,?_,?_⟩;repeat' first|exact trivial|exact rfl|exact .inl rfl|refine And.intro ?_ ?_|refine ⟨_,rfl,?_⟩|decide)⟩
        all_goals omega
       ·have ev:v=p.W.toNat:=by omega
        subst ev
        (repeat' ((conv=>whnf);first|refine vA ?_|(refine vF ?_ ?_<;>intro hc<;>try simp only [vL] at hc)|refine vJ fun hg=>?_|(refine vO ?_ ?_;·omega)|fail));all_goals try conv=>whnf
        ·omega
        ·exact ⟨(i+1,q),[(0,0)],[],⟨by omega,RMid.next (fun v u h=>h.lt) hI hM⟩,by ((simp only [vM] at *;omega)),by (refine ⟨rfl,rfl,rfl,?_,?_⟩;repeat' first|exact trivial|exact rfl|exact .inl rfl|refine And.intro ?_ ?_|refine ⟨_,rfl,?_⟩|decide)⟩
      all_goals omega
     ·have ei:i=p.W.toNat:=by omega
      subst ei
      have hdec:decide (s &&& ~~~(holdsL p f).1=0#64)=decide (commonL p (2 ^ p.cell.length - 1) (allL p.W) (holdsL p f).1 >>> ((w:Nat):Int).toNat&&&1#64=1#64):=by
       refine decide_eq_decide.2 ?_
       exact (common_all hc0 hwl hn (hI.all (fun v u h=>h.lt))).trans (bit_one _ w).symm
      (repeat' ((conv=>whnf);first|refine TestS.no (by decide) ?_|refine vA ?_|refine vE ?_|(refine vF ?_ ?_<;>intro hc<;>try simp only [vL] at hc)|((first|refine vO ?_ ?_|refine vP ?_ ?_);·omega)|refine vZ ?_));all_goals try conv=>whnf
      ·omega
      ·exact ⟨w+1,[(0,0)],[],by (omega),by (omega),by (refine ⟨rfl,rfl,rfl,?_,?_⟩;repeat' first|exact trivial|exact rfl|exact .inl rfl|refine And.intro ?_ ?_|refine ⟨_,rfl,?_⟩|decide)⟩
      ·exact absurd hdec hc
    all_goals omega
   ·(repeat' ((conv=>whnf);first|refine vA ?_|(refine vF ?_ ?_<;>intro hc<;>try simp only [vL] at hc)|(refine vP ?_ ?_;·omega)|refine vZ ?_));all_goals try conv=>whnf
    all_goals omega
end Go.Ab
namespace Go.Proofs.Ytffknaghkomefaa
open Go Go.Ab Go.RowKit Go.ChangeShapes Go.WideShapes
set_option linter.unusedVariables false
set_option maxRecDepth 100000 in
theorem doxasticCells_holds:Rows.DoxasticCellsSaid :=
 OpenClaim.holds_of_wide 8 Try.f8 rfl rfl rfl rfl rfl rfl rfl ⟨rfl,rfl,rfl,rfl,rfl⟩ rfl rfl rfl rfl rfl (by kernel_rfl) Try.func8 (by kernel_rfl)
  (of_decide_eq_true (by kernel_rfl)) (by unfold Func.isWrapper;rw [if_neg (of_decide_eq_false (by kernel_rfl))];exact ⟨rfl,rfl⟩)
  (fun os started H enc _=>strip_of <| law_lifted (C:=Try.checked) (s:=Rows.doxasticCellsSpec) (laid:=[]) knob started (by kernel_rfl) Try.func8 laidOut [25,35] Try.params8 rfl Try.underlying4 rfl (by kernel_rfl)
   (fun ds hds=>by match ds,hds with|[d1,d2],_=>rfl)
   (ChangeSpec.witness_shaped (enc:=enc) (C:=Try.checked) (os:=os) (X:=fun w _=>laidMetH Try.prog [] w) false (World.doorLaid Try.prog 14 os)
    #[.agg #[.int .i64 0,.slice none 0 0,.slice none 0 0,.slice none 0 0],.slice none 0 0] 8 rfl (World.shaped_of_RefB (by kernel_rfl) (by kernel_rfl)) (by kernel_rfl) (by kernel_rfl) (by kernel_rfl) laid_nil)
   (fun W hL=>⟨noT,fun b o h=>h.elim,fun b h=>h.elim fun o h=>h.elim,fun ds hds=>by
    obtain ⟨p1,r,rfl,hc1,hp1,k1⟩:=arg25 hds
    obtain ⟨f2,r,rfl,k2⟩:=arg35 k1
    obtain rfl:=arg0 k2
    exact law_Cells p1 hp1 f2⟩))
end Go.Proofs.Ytffknaghkomefaa
