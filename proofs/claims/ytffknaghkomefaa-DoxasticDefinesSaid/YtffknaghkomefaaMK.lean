/- What is proved here: the law DoxasticDefines returns true at every input and leaves its arguments as they were. There is no further condition. -/
import Derived.Test.YtffknaghkomefaaMJ
set_option linter.unusedVariables false
set_option linter.unusedSimpArgs false
set_option linter.unusedSectionVars false
namespace Go.Ab
open Go Go.Proofs
section
open K
def f_wittinglaw34_DoxasticOrders:Nat:=4
def f_wittinglaw34_DoxasticDefines:Nat:=9
def c_wittinglaw34_DoxasticOrders:CFn:=⟨118,[.tmp 6],(q [(.reg [o 3 (.box 4 (t 0)),o 6 (.mv (c .bf))]),
 (q [(.reg [o 18 (.call 10 []),o 19 (.un .not (t 18)),o 20 (m 19),g 21 20 false (la 4 3),g 22 20 false (m 1),g 23 20 false (m 2),g 24 20 false (.bslice 1 2 [(.nils 6)] [(0,(t 22)),(1,(t 23))]),g 25 20 false (.call 11 [(t 21),(t 24)]),g 26 20 false (.un .not (t 25)),o 27 (pt 20 26),o 28 (m 27),g 29 28 false (la 4 3),g 30 28 false (.call 16 [(t 29)]),g 31 28 false (bc .neq 30 (n 0)),o 32 (pt 28 31)]),
 (i 32 (q [(.reg [o 33 (.call 10 []),o 6 (m 33)]),
 .ret]) .skip)]),
 (.reg [o 35 (la 4 3),o 36 (m 1),o 37 (.call 17 [(t 35),(t 36)]),o 34 (m 37),o 38 (e 34 0),o 39 (e 34 1),o 7 (m 38),o 8 (m 39)]),
 (q [(.reg [o 40 (m 8),o 41 (.un .not (t 40))]),
 (i 41 (q [(.reg [o 6 (.mv (c .bt))]),
 .ret]) .skip)]),
 (q [(.reg [o 42 (f 2 3),o 43 (l 42),o 44 (ln 43),o 45 (.mv (c (n 0)))]),
 (.block 0 (.loop (q [(.reg [o 46 (b .lss 45 44)]),
 (i 46 .skip (.exit 0)),
 (.block 1 (q [(.reg [o 47 (m 45),o 9 (m 47)]),
 (.regd [o 49 (la 4 3),o 50 (m 9),o 51 (m 1),o 52 (.call 18 [(t 50),(t 51)]),o 53 (.call 17 [(t 49),(t 52)]),o 48 (m 53),o 54 (e 48 0),o 55 (e 48 1),o 10 (m 54),o 11 (m 55)] [0,0,0,6,15,31,63,63,127,511]),
 (.regd [o 57 (la 4 3),o 58 (m 9),o 59 (m 1),o 60 (.call 19 [(t 58),(t 59)]),o 61 (.call 17 [(t 57),(t 60)]),o 56 (m 61),o 62 (e 56 0),o 63 (e 56 1),o 12 (m 62),o 13 (m 63)] [0,0,0,6,15,31,63,63,127,511]),
 (.regd [o 65 (la 4 3),o 66 (m 9),o 67 (.call 21 []),o 68 (m 1),o 69 (.call 20 [(t 66),(t 67),(t 68)]),o 70 (.call 17 [(t 65),(t 69)]),o 64 (m 70),o 71 (e 64 0),o 72 (e 64 1),o 14 (m 71),o 15 (m 72)] [0,0,0,0,14,31,63,127,127,255,1023]),
 (q [(.reg [o 73 (m 11),o 74 (.un .not (t 73)),o 75 (m 74),g 76 75 false (m 13),g 77 75 false (.un .not (t 76)),o 78 (pt 75 77),o 79 (m 78),g 80 79 false (m 15),g 81 79 false (.un .not (t 80)),o 82 (pt 79 81),o 83 (m 82),g 84 83 false (m 10),g 85 83 false (m 12),g 86 83 false (b .andNot 84 85),g 87 83 false (bc .neq 86 (u 0)),o 88 (pt 83 87),o 89 (m 88),g 90 89 false (m 12),g 91 89 false (m 7),g 92 89 false (b .andNot 90 91),g 93 89 false (bc .neq 92 (u 0)),o 94 (pt 89 93),o 95 (m 94),g 96 95 false (m 12),g 97 95 false (m 14),g 98 95 false (b .andNot 96 97),g 99 95 false (bc .neq 98 (u 0)),o 100 (pt 95 99)]),
 (i 100 (q [(.reg [o 6 (.mv (c .bf))]),
 .ret]) .skip)]),
 (.regd [o 102 (la 4 3),o 103 (m 9),o 104 (m 2),o 105 (m 1),o 106 (.call 20 [(t 103),(t 104),(t 105)]),o 107 (.call 17 [(t 102),(t 106)]),o 101 (m 107),o 108 (e 101 0),o 109 (e 101 1),o 16 (m 108),o 17 (m 109)] [0,0,0,0,14,31,63,127,127,255,1023]),
 (.reg [o 110 (m 17),o 111 (m 110),g 112 111 true (m 10),g 113 111 true (m 16),g 114 111 true (b .andNot 112 113),g 115 111 true (bc .neq 114 (u 0)),o 116 (pf 111 115)]),
 (i 116 (q [(.reg [o 6 (.mv (c .bf))]),
 .ret]) .skip)])),
 (.reg [o 117 (bc .add 45 (n 1)),o 45 (m 117)])])))]),
 (.reg [o 6 (.mv (c .bt))]),
 .ret])⟩
def c_wittinglaw34_DoxasticDefines:CFn:=⟨102,[.tmp 6],(q [(.reg [o 3 (.box 4 (t 0)),o 6 (.mv (c .bf))]),
 (q [(.reg [o 16 (.call 10 []),o 17 (.un .not (t 16)),o 18 (m 17),g 19 18 false (la 4 3),g 20 18 false (m 1),g 21 18 false (m 2),g 22 18 false (.bslice 1 2 [(.nils 6)] [(0,(t 20)),(1,(t 21))]),g 23 18 false (.call 11 [(t 19),(t 22)]),g 24 18 false (.un .not (t 23)),o 25 (pt 18 24),o 26 (m 25),g 27 26 false (la 4 3),g 28 26 false (.call 16 [(t 27)]),g 29 26 false (bc .neq 28 (n 0)),o 30 (pt 26 29)]),
 (i 30 (q [(.reg [o 31 (.call 10 []),o 6 (m 31)]),
 .ret]) .skip)]),
 (q [(.reg [o 32 (f 2 3),o 33 (l 32),o 34 (ln 33),o 35 (.mv (c (n 0)))]),
 (.block 0 (.loop (q [(.reg [o 36 (b .lss 35 34)]),
 (i 36 .skip (.exit 0)),
 (.block 1 (q [(.reg [o 37 (m 35),o 7 (m 37)]),
 (.regd [o 39 (la 4 3),o 40 (m 7),o 41 (m 1),o 42 (.call 18 [(t 40),(t 41)]),o 43 (.call 17 [(t 39),(t 42)]),o 38 (m 43),o 44 (e 38 0),o 45 (e 38 1),o 8 (m 44),o 9 (m 45)] [0,0,0,6,15,31,63,63,127,511]),
 (q [(.reg [o 46 (m 9),o 47 (.un .not (t 46))]),
 (i 47 (q [(.reg [o 6 (.mv (c .bt))]),
 .ret]) .skip)]),
 (.regd [o 49 (la 4 3),o 50 (m 7),o 51 (m 1),o 52 (.call 22 [(t 51)]),o 53 (.call 27 []),o 54 (.call 20 [(t 50),(t 52),(t 53)]),o 55 (.call 17 [(t 49),(t 54)]),o 48 (m 55),o 56 (e 48 0),o 57 (e 48 1),o 10 (m 56),o 11 (m 57)] [0,0,0,4,12,30,63,127,255,255,511,2047]),
 (q [(.reg [o 58 (m 11),o 59 (.un .not (t 58)),o 60 (m 59),g 61 60 false (m 8),g 62 60 false (m 10),g 63 60 false (b .neq 61 62),o 64 (pt 60 63)]),
 (i 64 (q [(.reg [o 6 (.mv (c .bf))]),
 .ret]) .skip)]),
 (.regd [o 66 (la 4 3),o 67 (m 7),o 68 (m 2),o 69 (m 1),o 70 (.call 20 [(t 67),(t 68),(t 69)]),o 71 (.call 17 [(t 66),(t 70)]),o 65 (m 71),o 72 (e 65 0),o 73 (e 65 1),o 12 (m 72),o 13 (m 73)] [0,0,0,0,14,31,63,127,127,255,1023]),
 (q [(.reg [o 74 (m 13),o 75 (.un .not (t 74))]),
 (i 75 (q [(.reg [o 6 (.mv (c .bt))]),
 .ret]) .skip)]),
 (.regd [o 77 (la 4 3),o 78 (m 7),o 79 (m 2),o 80 (.call 29 [(t 78),(t 79)]),o 81 (m 7),o 82 (m 2),o 83 (m 7),o 84 (m 2),o 85 (m 1),o 86 (.call 28 [(t 84),(t 85)]),o 87 (.call 19 [(t 83),(t 86)]),o 88 (.call 30 [(t 82),(t 87)]),o 89 (.call 29 [(t 81),(t 88)]),o 90 (.call 28 [(t 80),(t 89)]),o 91 (.call 17 [(t 77),(t 90)]),o 76 (m 91),o 92 (e 76 0),o 93 (e 76 1),o 14 (m 92),o 15 (m 93)] [0,0,0,6,0,0,0,0,0,398,974,2030,4094,8190,16383,32767,65535,65535,131071,524287]),
 (.reg [o 94 (m 15),o 95 (.un .not (t 94)),o 96 (m 95),g 97 96 false (m 12),g 98 96 false (m 14),g 99 96 false (b .neq 97 98),o 100 (pt 96 99)]),
 (i 100 (q [(.reg [o 6 (.mv (c .bf))]),
 .ret]) .skip)])),
 (.reg [o 101 (bc .add 35 (n 1)),o 35 (m 101)])])))]),
 (.reg [o 6 (.mv (c .bt))]),
 .ret])⟩
end
theorem k_wittinglaw34_DoxasticOrders:compFn Try.prog f_wittinglaw34_DoxasticOrders=some c_wittinglaw34_DoxasticOrders:=by kernel_rfl
theorem k_wittinglaw34_DoxasticDefines:compFn Try.prog f_wittinglaw34_DoxasticDefines=some c_wittinglaw34_DoxasticDefines:=by kernel_rfl
end Go.Ab
namespace Go.Ab
open Go Go.Proofs
set_option linter.unusedSimpArgs false
set_option linter.unusedVariables false
set_option maxRecDepth 10000
set_option maxHeartbeats 4000000
variable {T:Nat→Obj→Prop}
theorem few_len {p:PM} {ls:List (List Nd)} (h:fewL p ls=true) : ∀ f∈ls,f.length≤60:=by
 rw [fewL,Bool.and_eq_true,List.all_eq_true] at h
 exact fun f hf=>of_decide_eq_true (h.1 f hf)
theorem fn_setOf (hR:RanksOk T) {p:PM} (hp:IntsOk p.rank) (hc0:checkL p=0) {f:List Nd} {x:BitVec 64} {n:Nat} (h:Fm p f x n):Fn Try.prog T f_wittinglaw34_set [.d (dPM p),.d (dF f)] [] (.d (.tup [.u64 x,.bool true])) []:=by
 have:=fn_set (T:=T) hR p hp f
 rw [h.holds hc0] at this
 exact this
theorem law_Orders (p:PM) (hp:IntsOk p.rank) (f c:List Nd):Fn Try.prog T f_wittinglaw34_DoxasticOrders [.d (dPM p),.d (dF f),.d (dF c)] [] (.d (.bool true)) []:=by
 have hR:=ranks_ok (T:=T)
 have hA:=fn_awake (T:=T)
 have hF:=fn_few (T:=T) p [f,c]
 refine fn_dataR hmix k_wittinglaw34_DoxasticOrders (by show 3≤118;decide) ?_
 (repeat' ((conv=>whnf);first|refine TestS.no (by decide) ?_|refine vA ?_|refine vE ?_|((first|refine vD ?_ ?_|refine vF ?_ ?_|refine vI ?_ ?_)<;>intro hc)|refine vJ fun hg=>?_|refine vZ ?_|refine yD hA rfl rfl ?_|refine yD hF ⟨⟨rfl,rfl⟩,⟨rfl,rfl⟩,rfl⟩ rfl ?_|refine yD (fn_ref33_Check _ hp) (by (repeat refine ⟨⟨rfl,rfl⟩,?_⟩);rfl) rfl ?_|refine yN (fn_set hR p hp _) ⟨⟨rfl,rfl⟩,⟨rfl,rfl⟩,rfl⟩ ?_));all_goals try conv=>whnf
 have hc0:=‹checkL p=0›
 have hfew:=few_len ‹fewL p [f,c]=true›
 have hf:Fm p f (holdsL p f).1 60 := .of ‹_› (hfew f (by simp))
 have hcl:c.length≤60:=hfew c (by simp)
 refine loop_mem (fun (k:Nat)=>[(1,.d (dF f)),(2,.d (dF c)),(3,.ptr 0 0),(7,.d (.u64 ((holdsL p f).1))),(44,.d (.int .i64 ((p.cell.map dI).length:Int))),(45,.d (.int .i64 ((k:Int))))]) (fun (k:Nat)=>[(0,some (boxPM p))]) 1 (fun (k:Nat)=>k≤p.cell.length) (fun (k:Nat)=>p.cell.length - k) (0) [(0,0)] [] (by simp) (by (refine ⟨rfl,rfl,rfl,?_,?_⟩;repeat' first|exact trivial|exact rfl|refine And.intro ?_ ?_|refine ⟨_,rfl,?_⟩|decide)) ?_
 rintro k hk
 by_cases hkl:k < p.cell.length
 ·have s1:=fn_setOf (T:=T) hR hp hc0 (hf.know hc0 hkl (by decide))
  have s2:=fn_setOf (T:=T) hR hp hc0 (hf.safe hc0 hkl (by decide))
  have s3:=fn_setOf (T:=T) hR hp hc0 (Fm.tru.belief hc0 hf hkl (by decide))
  (repeat' ((conv=>whnf);first|refine TestS.no (by decide) ?_|refine vA ?_|((first|refine vD ?_ ?_|refine vF ?_ ?_)<;>intro hc<;>try simp only [vL] at hc)|(refine vO ?_ ?_;·omega)|(refine vU ?_ ?_;·kernel_rfl)|refine vZ ?_|refine yN (fn_FKnow _ _) ⟨⟨rfl,rfl⟩,⟨rfl,rfl⟩,rfl⟩ ?_|refine yN s1 ⟨⟨rfl,rfl⟩,⟨rfl,rfl⟩,rfl⟩ ?_|refine yN (fn_FSafe _ _) ⟨⟨rfl,rfl⟩,⟨rfl,rfl⟩,rfl⟩ ?_|refine yN s2 ⟨⟨rfl,rfl⟩,⟨rfl,rfl⟩,rfl⟩ ?_|refine yN fn_FTrue rfl ?_|refine yN (fn_FBelief _ _ _) ⟨⟨rfl,rfl⟩,⟨rfl,rfl⟩,⟨rfl,rfl⟩,rfl⟩ ?_|refine yN s3 ⟨⟨rfl,rfl⟩,⟨rfl,rfl⟩,rfl⟩ ?_|refine yN (fn_set hR p hp _) ⟨⟨rfl,rfl⟩,⟨rfl,rfl⟩,rfl⟩ ?_));all_goals try conv=>whnf
  ·exact absurd (know_safe hc0 hkl) hc
  ·exact absurd (safe_true hc0 hkl) hc
  ·exact absurd (safe_belief hc0 hkl) hc
  ·have hcF:=Fm.under hc0 (hd:=⟨14,k,0,0⟩) (agent_hd (by decide) (checkL_good hc0) hkl).1 (by simp only;decide) hf hcl (by decide) ‹_›
   rw [(hcF.belief hc0 hf hkl (by decide)).holds hc0] at hc
   exact absurd (know_belief hc0 hkl) hc
  ·exact ⟨k+1,[(0,0)],[],by (omega),by (omega),by (refine ⟨rfl,rfl,rfl,?_,?_⟩;repeat' first|exact trivial|exact rfl|refine And.intro ?_ ?_|refine ⟨_,rfl,?_⟩|decide)⟩
  ·exact ⟨k+1,[(0,0)],[],by (omega),by (omega),by (refine ⟨rfl,rfl,rfl,?_,?_⟩;repeat' first|exact trivial|exact rfl|refine And.intro ?_ ?_|refine ⟨_,rfl,?_⟩|decide)⟩
  all_goals omega
 ·(repeat' ((conv=>whnf);first|refine vA ?_|(refine vF ?_ ?_<;>intro hc<;>try simp only [vL] at hc)|refine vZ ?_));all_goals try conv=>whnf
  all_goals omega
end Go.Ab
namespace Go.Ab
open Go
set_option linter.unusedVariables false
set_option linter.unusedSimpArgs false
inductive SubT:Tm→Tm→Prop where
 | refl (t:Tm):SubT t t
 | u {s x:Tm} (h:Hd):SubT s x→SubT s (.u h x)
 | l {s x:Tm} (h:Hd) (y:Tm):SubT s x→SubT s (.b h x y)
 | r {s y:Tm} (h:Hd) (x:Tm):SubT s y→SubT s (.b h x y)
def Num (l:List Nd):Prop := ∀ r,r < l.length→HasT (tmOf l r) l r
theorem put_num {l:List Nd} {x:Nd} (hl:Okay l) (hn:Num l) (hx:nErr x l.length=0) {t:Tm} (h1:tmOf (put l x).2 (put l x).1=t) (h2:HasT t (put l x).2 (put l x).1) :
  Num (put l x).2 ∧ ∀ r,r < (put l x).2.length→r < l.length∨tmOf (put l x).2 r=t:=by
 cases hi:l.idxOf? x with
 | some k=>rw [put_found hi];exact ⟨hn,fun r hr => .inl hr⟩
 | none =>
  rw [put_new hi] at h1 h2 ⊢
  simp only at h1 h2 ⊢
  refine ⟨fun r hr=>?_,fun r hr=>?_⟩
  ·simp only [List.length_append,List.length_cons,List.length_nil] at hr
   by_cases e:r < l.length
   ·rw [tmOf_append hl e];exact (hn r e).mono [x]
   ·have:r=l.length:=by omega
    subst this;rw [h1];exact h2
  ·simp only [List.length_append,List.length_cons,List.length_nil] at hr
   by_cases e:r < l.length
   ·exact .inl e
   ·have:r=l.length:=by omega
    subst this;exact .inr h1
theorem finT_num : ∀ (t:Tm) (l:List Nd),t.ok→Okay l→Num l→Num (finT t l).2 ∧ ∀ r,r < (finT t l).2.length→r < l.length∨SubT (tmOf (finT t l).2 r) t
 | .z h,l,ht,hl,hn=>by
  obtain ⟨o1,o2⟩:=finT_okay (.z h) l ht hl
  have hx:nErr (nd h 0 0) l.length=0:=nErr_iff.2 ⟨ht.1,fun e=>by have:=ht.2.1;simp [nd] at e;simp [this] at e,fun _=>rfl,fun e=>by have:=ht.2.2;simp [nd] at e;simp [this] at e,fun _=>rfl⟩
  obtain ⟨a,b⟩:=put_num hl hn hx o2 (finT_has (.z h) l)
  exact ⟨a,fun r hr=>(b r hr).imp id fun e=>by rw [show (finT (.z h) l).2=(put l (nd h 0 0)).2 from rfl,e];exact .refl _⟩
 | .u h x,l,ht,hl,hn=>by
  obtain ⟨o1,o2⟩:=finT_okay (.u h x) l ht hl
  obtain ⟨a1,a2⟩:=finT_okay x l ht.2.2.2 hl
  have a3:=finT_lt x l
  obtain ⟨n1,n2⟩:=finT_num x l ht.2.2.2 hl hn
  have hx:nErr (nd h (finT x l).1 0) (finT x l).2.length=0:=nErr_iff.2 ⟨ht.1,fun e=>⟨by simp [nd],by simp only [nd];omega⟩,fun e=>by have:=ht.2.1;simp [nd] at e;simp [this] at e,fun e=>by have:=ht.2.2.1;simp [nd] at e;simp [this] at e,fun _=>rfl⟩
  obtain ⟨a,b⟩:=put_num a1 n1 hx o2 (finT_has (.u h x) l)
  obtain ⟨m,hm⟩:=(put_ext (finT x l).2 (nd h (finT x l).1 0)).1
  refine ⟨a,fun r hr=>?_⟩
  rw [show (finT (.u h x) l).2=(put (finT x l).2 (nd h (finT x l).1 0)).2 from rfl] at hr ⊢
  rcases b r hr with e|e
  ·rw [hm,tmOf_append a1 e]
   exact (n2 r e).imp id fun s => .u h s
  ·rw [e];exact .inr (.refl _)
 | .b h x y,l,ht,hl,hn=>by
  obtain ⟨o1,o2⟩:=finT_okay (.b h x y) l ht hl
  obtain ⟨a1,a2⟩:=finT_okay x l ht.2.2.2.1 hl
  have a3:=finT_lt x l
  obtain ⟨b1,b2⟩:=finT_okay y (finT x l).2 ht.2.2.2.2 a1
  have b3:=finT_lt y (finT x l).2
  obtain ⟨n1,n2⟩:=finT_num x l ht.2.2.2.1 hl hn
  obtain ⟨n3,n4⟩:=finT_num y (finT x l).2 ht.2.2.2.2 a1 n1
  obtain ⟨m2,hm2⟩:=finT_ext y (finT x l).2
  have hx:nErr (nd h (finT x l).1 (finT y (finT x l).2).1) (finT y (finT x l).2).2.length=0:=nErr_iff.2 ⟨ht.1,fun e=>⟨by simp [nd],by simp only [nd];rw [hm2,List.length_append];omega⟩,
   fun e=>by have:=ht.2.1;simp [nd] at e;simp [this] at e,fun e=>⟨by simp [nd],by simp only [nd];omega⟩,fun e=>by have:=ht.2.2.1;simp [nd] at e;simp [this] at e⟩
  obtain ⟨a,b⟩:=put_num b1 n3 hx o2 (finT_has (.b h x y) l)
  obtain ⟨m,hm⟩:=(put_ext (finT y (finT x l).2).2 (nd h (finT x l).1 (finT y (finT x l).2).1)).1
  refine ⟨a,fun r hr=>?_⟩
  rw [show (finT (.b h x y) l).2=(put (finT y (finT x l).2).2 (nd h (finT x l).1 (finT y (finT x l).2).1)).2 from rfl] at hr ⊢
  rcases b r hr with e|e
  ·rw [hm,tmOf_append b1 e]
   rcases n4 r e with e'|s
   ·rw [hm2,tmOf_append a1 e']
    exact (n2 r e').imp id fun s => .l h y s
   ·exact .inr (.r h x s)
  ·rw [e];exact .inr (.refl _)
theorem nd_len {α:Type} : ∀ {l l':List α},l.Nodup→(∀ x∈l,x∈l')→l.length≤l'.length:=by
 intro l l' h1 h2
 haveI:DecidableEq α:=fun a b=>Classical.propDecidable _
 exact List.Nodup.length_le_of_subset h1 h2
theorem canon_len {t:Tm} (ht:t.ok) {L:List Tm} (hL : ∀ s,SubT s t→s∈L):(finT t []).2.length≤L.length:=by
 obtain ⟨h1,h2⟩:=finT_num t [] ht okay_nil (fun r hr=>by simp at hr)
 have:=nd_len (l:=(List.range (finT t []).2.length).map (tmOf (finT t []).2)) (l':=L) ?_ (fun s hs=>?_)
 ·simpa using this
 ·show List.Pairwise (fun a b=>a≠b) _
  rw [List.pairwise_map]
  refine List.Pairwise.imp_of_mem (fun {i j} hi hj hne e=>hne ?_) (show List.Pairwise (fun a b=>a≠b) _ from List.nodup_range)
  have a:=h1 i (List.mem_range.1 hi)
  have b:=h1 j (List.mem_range.1 hj)
  unfold HasT at a b
  rw [e,b] at a
  exact (Prod.mk.inj a).1.symm
 ·obtain ⟨r,hr,rfl⟩:=List.mem_map.1 hs
  exact hL _ ((h2 r (List.mem_range.1 hr)).resolve_left (by simp))
theorem sub_list {f:List Nd} (hf:Okay f) : ∀ (n i:Nat),i < n→i < f.length → ∀ s,SubT s (tmOf f i)→s∈(List.range f.length).map (tmOf f)
 | 0,i,h,_,_,_=>by omega
 | n+1,i,h,hi,s,hs=>by
  have h0:tmOf f i∈(List.range f.length).map (tmOf f):=List.mem_map.2 ⟨i,List.mem_range.2 hi,rfl⟩
  rw [tmOf_eq hf hi] at hs
  cases hy:useY (f.getD i default).op with
  | true =>
   have e1:=okay_x hf hi (useX_of_useY hy)
   have e2:=okay_y hf hi hy
   rw [hy,cond_true] at hs
   generalize hq:Tm.b (f.getD i default).hd (tmOf f (f.getD i default).x.toNat) (tmOf f (f.getD i default).y.toNat)=q at hs
   cases hs with
   | refl=>rw [← hq];rw [tmOf_eq hf hi,hy,cond_true] at h0;exact h0
   | u=>cases hq
   | l _ _ hs=>cases hq;exact sub_list hf n _ (by omega) (by omega) s hs
   | r _ _ hs=>cases hq;exact sub_list hf n _ (by omega) (by omega) s hs
  | false =>
   rw [hy,cond_false] at hs
   cases hx:useX (f.getD i default).op with
   | true =>
    have e1:=okay_x hf hi hx
    rw [hx,cond_true] at hs
    generalize hq:Tm.u (f.getD i default).hd (tmOf f (f.getD i default).x.toNat)=q at hs
    cases hs with
    | refl=>rw [← hq];rw [tmOf_eq hf hi,hy,hx,cond_false,cond_true] at h0;exact h0
    | u _ hs=>cases hq;exact sub_list hf n _ (by omega) (by omega) s hs
    | l=>cases hq
    | r=>cases hq
   | false =>
    rw [hx,cond_false] at hs
    generalize hq:Tm.z (f.getD i default).hd=q at hs
    cases hs with
    | refl=>rw [← hq];rw [tmOf_eq hf hi,hy,hx,cond_false,cond_false] at h0;exact h0
    | u=>cases hq
    | l=>cases hq
    | r=>cases hq
end Go.Ab
namespace Go.Ab
open Go
set_option linter.unusedVariables false
set_option linter.unusedSimpArgs false
theorem finish_isF2 {x:Nd} {f:List Nd} (hf:Okay f) (hx:nErr x f.length=0) (hl:(finT (tmOf (f++[x]) f.length) []).2.length≤200):IsF (finishL x f) (tmOf (f++[x]) f.length):=by
 have hok:Okay (f++[x]):=by
  intro k n hk
  rw [List.getElem?_append] at hk
  split at hk
  ·exact hf k n hk
  ·rename_i h1
   have:k=f.length:=by have:=(List.getElem?_eq_some_iff.1 hk).1;simp at this;omega
   subst this
   simp at hk;subst hk;exact hx
 have hlt:f.length < (f++[x]).length:=by simp
 have h1:=compactL_canon hok hlt
 rw [← (compactL_eq hok hlt).1] at hl
 have e:finishL x f=compactL (f++[x]) f.length:=by
  unfold finishL
  rw [if_neg (by omega),if_neg (by omega)]
 rw [e]
 exact ⟨fErr_ok.2 ⟨h1.pos,hl,h1.ok⟩,h1.tree⟩
theorem build_one2 {h:Hd} (hh:HdOk h) (hx:useX h.op=true) (hy:useY h.op=false) {o:List Nd} {t:Tm} (ho:IsF o t) (hl:(finT (.u h t) []).2.length≤200):IsF (buildL ⟨h.op,h.i,h.e,h.g,0,0⟩ [o]) (.u h t):=by
 obtain ⟨c1,c2⟩:=ho.canon
 have hp:=c1.pos
 have e0:(addL [] (cL o)).length=(cL o).length:=by simp [addL]
 have hok:=addL_okay okay_nil c1.ok
 have ht:tmOf (addL [] (cL o)) ((cL o).length - 1)=t:=by
  have:=addL_tree (f:=[]) okay_nil c1.ok (cL o).length ((cL o).length - 1) (by omega) (by omega)
  rw [List.length_nil,Nat.zero_add] at this
  rw [this];exact c1.tree
 have hn:nErr ⟨h.op,h.i,h.e,h.g,((addL [] (cL o)).length:Int) - 1,0⟩ (addL [] (cL o)).length=0:=nErr_iff.2 ⟨hh,fun _=>by simp only;omega,fun e=>by simp [hx] at e,fun e=>by simp [hy] at e,fun _=>rfl⟩
 have e:buildL ⟨h.op,h.i,h.e,h.g,0,0⟩ [o]=finishL ⟨h.op,h.i,h.e,h.g,((addL [] (cL o)).length:Int) - 1,0⟩ (addL [] (cL o)):=by
  simp [buildL,buildGo,ho.ok]
 have h0:=root_eq hok hn
 simp only [hx,hy,cond_false,cond_true] at h0
 rw [show (((addL [] (cL o)).length:Int) - 1).toNat=(cL o).length - 1 by omega,ht] at h0
 have h1:=finish_isF2 hok hn (by rw [h0];exact hl)
 rw [h0] at h1
 rw [e]
 exact h1
theorem build_two2 {h:Hd} (hh:HdOk h) (hy:useY h.op=true) {o q:List Nd} {t u:Tm} (ho:IsF o t) (hq:IsF q u) (hl:(finT (.b h t u) []).2.length≤200):IsF (buildL ⟨h.op,h.i,h.e,h.g,0,0⟩ [o,q]) (.b h t u):=by
 have hx:=useX_of_useY hy
 obtain ⟨c1,c2⟩:=ho.canon
 obtain ⟨d1,d2⟩:=hq.canon
 have hp:=c1.pos
 have hp2:=d1.pos
 have e0:(addL [] (cL o)).length=(cL o).length:=by simp [addL]
 have hok:=addL_okay okay_nil c1.ok
 have hok2:=addL_okay hok d1.ok
 have e2:(addL (addL [] (cL o)) (cL q)).length=(cL o).length+(cL q).length:=by rw [addL,List.length_append,List.length_map,e0]
 have ht:tmOf (addL (addL [] (cL o)) (cL q)) ((cL o).length - 1)=t:=by
  rw [addL_old hok (by omega)]
  have:=addL_tree (f:=[]) okay_nil c1.ok (cL o).length ((cL o).length - 1) (by omega) (by omega)
  rw [List.length_nil,Nat.zero_add] at this
  rw [this];exact c1.tree
 have hu:tmOf (addL (addL [] (cL o)) (cL q)) ((cL o).length+(cL q).length - 1)=u:=by
  have:=addL_tree hok d1.ok (cL q).length ((cL q).length - 1) (by omega) (by omega)
  rw [e0,show (cL o).length+((cL q).length - 1)=(cL o).length+(cL q).length - 1 by omega] at this
  rw [this];exact d1.tree
 have hn:nErr ⟨h.op,h.i,h.e,h.g,((addL [] (cL o)).length:Int) - 1,((addL (addL [] (cL o)) (cL q)).length:Int) - 1⟩ (addL (addL [] (cL o)) (cL q)).length=0 :=
  nErr_iff.2 ⟨hh,fun _=>by simp only;omega,fun e=>by simp [hx] at e,fun _=>by simp only;omega,fun e=>by simp [hy] at e⟩
 have e:buildL ⟨h.op,h.i,h.e,h.g,0,0⟩ [o,q]=finishL ⟨h.op,h.i,h.e,h.g,((addL [] (cL o)).length:Int) - 1,((addL (addL [] (cL o)) (cL q)).length:Int) - 1⟩ (addL (addL [] (cL o)) (cL q)):=by
  simp [buildL,buildGo,ho.ok,hq.ok]
 have h0:=root_eq hok2 hn
 simp only [hy,cond_true] at h0
 rw [show (((addL [] (cL o)).length:Int) - 1).toNat=(cL o).length - 1 by omega,show (((addL (addL [] (cL o)) (cL q)).length:Int) - 1).toNat=(cL o).length+(cL q).length - 1 by omega,ht,hu] at h0
 have h1:=finish_isF2 hok2 hn (by rw [h0];exact hl)
 rw [h0] at h1
 rw [e]
 exact h1
structure Gm (p:PM) (f:List Nd) (x:BitVec 64) (L:List Tm):Prop where
 ok : ∃ t,OkT p f t∧ev (valL p) 0#64 t=x ∧ ∀ s,SubT s t→s∈L
theorem Gm.holds {p:PM} {f:List Nd} {x:BitVec 64} {L:List Tm} (h:Gm p f x L) (hc0:checkL p=0):holdsL p f=(x,0):=by
 obtain ⟨t,h1,h2,-⟩:=h.ok
 rw [h1.holds hc0,h2]
theorem Fm.gm {p:PM} {f:List Nd} {x:BitVec 64} {n:Nat} (h:Fm p f x n):Gm p f x ((List.range f.length).map (tmOf f)):=by
 obtain ⟨t,h1,h2⟩:=h.ok
 obtain ⟨a,b,c⟩:=fErr_ok.1 h1.isF.ok
 refine ⟨t,h1,h2,fun s hs=>?_⟩
 rw [← h1.isF.tree] at hs
 exact sub_list c f.length _ (by omega) (by omega) s hs
theorem Gm.mono {p:PM} {f:List Nd} {x:BitVec 64} {L L':List Tm} (h:Gm p f x L) (hs : ∀ s,s∈L→s∈L'):Gm p f x L':=by
 obtain ⟨t,h1,h2,h3⟩:=h.ok
 exact ⟨t,h1,h2,fun s hq=>hs s (h3 s hq)⟩
theorem Gm.un {p:PM} {f:List Nd} {x:BitVec 64} {L:List Tm} (h:Gm p f x L) {hd:Hd} (hh:HdOk hd∧Allow hd∧FitH p hd) (hx:useX hd.op=true) (hy:useY hd.op=false) (hn:L.length≤199) :
  ∃ t',Gm p (buildL ⟨hd.op,hd.i,hd.e,hd.g,0,0⟩ [f]) (valL p hd x 0#64) (L++[t']):=by
 obtain ⟨t,h1,h2,h3⟩:=h.ok
 have hok:(Tm.u hd t).ok:=⟨hh.1,hx,hy,h1.isF.tok⟩
 have hL : ∀ s,SubT s (.u hd t)→s∈L++[.u hd t]:=fun s hs=>by
  cases hs with
  | refl=>simp
  | u _ hs=>exact List.mem_append.2 (.inl (h3 s hs))
 have hl:=canon_len hok hL
 simp only [List.length_append,List.length_cons,List.length_nil] at hl
 exact ⟨.u hd t,.u hd t,⟨build_one2 hh.1 hx hy h1.isF (by omega),⟨hh.2.1,h1.lang⟩,⟨hh.2.2,h1.fit⟩⟩,by rw [ev,h2],hL⟩
theorem Gm.bi {p:PM} {f g:List Nd} {x y:BitVec 64} {L:List Tm} (h:Gm p f x L) (h':Gm p g y L) {hd:Hd} (hh:HdOk hd∧Allow hd∧FitH p hd) (hy:useY hd.op=true) (hn:L.length≤199) :
  ∃ t',Gm p (buildL ⟨hd.op,hd.i,hd.e,hd.g,0,0⟩ [f,g]) (valL p hd x y) (L++[t']):=by
 obtain ⟨t,h1,h2,h3⟩:=h.ok
 obtain ⟨u,g1,g2,g3⟩:=h'.ok
 have hok:(Tm.b hd t u).ok:=⟨hh.1,useX_of_useY hy,hy,h1.isF.tok,g1.isF.tok⟩
 have hL : ∀ s,SubT s (.b hd t u)→s∈L++[.b hd t u]:=fun s hs=>by
  cases hs with
  | refl=>simp
  | l _ _ hs=>exact List.mem_append.2 (.inl (h3 s hs))
  | r _ _ hs=>exact List.mem_append.2 (.inl (g3 s hs))
 have hl:=canon_len hok hL
 simp only [List.length_append,List.length_cons,List.length_nil] at hl
 exact ⟨.b hd t u,.b hd t u,⟨build_two2 hh.1 hy h1.isF g1.isF (by omega),⟨hh.2.1,h1.lang,g1.lang⟩,⟨hh.2.2,h1.fit,g1.fit⟩⟩,by rw [ev,h2,g2],hL⟩
theorem Fm.under1 {p:PM} {f:List Nd} {n:Nat} (hc0:checkL p=0) {hd:Hd} (hh:HdOk hd) (hx:useX hd.op=true) (hy:useY hd.op=false) (hl:f.length≤n) (hn:n≤199) (h0:(holdsL p (buildL ⟨hd.op,hd.i,hd.e,hd.g,0,0⟩ [f])).2=0):Fm p f (holdsL p f).1 n:=by
 obtain ⟨-,t',a1,a2,a3,a4⟩:=holds_inv h0
 by_cases hf0:fErr f=0
 ·have hf:=isF_of hf0
  have hb:=(build_one hh hx hy hf (by omega)).1
  have e:t' = .u hd (tmOf f (f.length - 1)):=a1.tree.symm.trans hb.tree
  subst e
  exact .of (congrArg Prod.snd (holds_ok hf hc0 a2.2 a3.2)) hl
 ·have e:buildL ⟨hd.op,hd.i,hd.e,hd.g,0,0⟩ [f]=[]:=build_bad1 hf0
  have:=a1.ok
  rw [e] at this
  cases this
end Go.Ab
namespace Go.Ab
open Go Go.Proofs
set_option linter.unusedSimpArgs false
set_option linter.unusedVariables false
set_option maxRecDepth 10000
set_option maxHeartbeats 4000000
variable {T:Nat→Obj→Prop}
theorem fn_setG (hR:RanksOk T) {p:PM} (hp:IntsOk p.rank) (hc0:checkL p=0) {f:List Nd} {x:BitVec 64} {L:List Tm} (h:Gm p f x L):Fn Try.prog T f_wittinglaw34_set [.d (dPM p),.d (dF f)] [] (.d (.tup [.u64 x,.bool true])) []:=by
 have:=fn_set (T:=T) hR p hp f
 rw [h.holds hc0] at this
 exact this
theorem def_gm {p:PM} (hc0:checkL p=0) {f c:List Nd} {x y:BitVec 64} (hf:Fm p f x 60) (hc:Fm p c y 60) {a:Nat} (ha:a < p.cell.length) :
  ∃ L,Gm p (buildL ⟨7,0,0,0,0,0⟩ [buildL ⟨10,a,0,0,0,0⟩ [c],buildL ⟨10,a,0,0,0,0⟩ [buildL ⟨5,0,0,0,0,0⟩ [c,buildL ⟨15,a,0,0,0,0⟩ [buildL ⟨7,0,0,0,0,0⟩ [c,f]]]]]) (believesL p a y x) L:=by
 have hg:=checkL_good hc0
 have h10:=agent_hd (op:=10) (by decide) hg ha
 have h15:=agent_hd (op:=15) (by decide) hg ha
 have h7:=conn_hd (op:=7) (p:=p) (by decide)
 have h5:=conn_hd (op:=5) (p:=p) (by decide)
 let L0:=(List.range c.length).map (tmOf c)++(List.range f.length).map (tmOf f)
 have l0:L0.length≤120:=by have:=hf.len;have:=hc.len;simp [L0];omega
 have gc:Gm p c y L0:=hc.gm.mono fun s hs=>List.mem_append.2 (.inl hs)
 have gf:Gm p f x L0:=hf.gm.mono fun s hs=>List.mem_append.2 (.inr hs)
 obtain ⟨t1,g1⟩:=gc.bi gf (hd:=⟨7,0,0,0⟩) h7 (by decide) (by omega)
 obtain ⟨t2,g2⟩:=g1.un (hd:=⟨15,a,0,0⟩) h15 (by simp only;decide) (by simp only;decide) (by simp;omega)
 obtain ⟨t3,g3⟩:=(gc.mono (L':=L0++[t1]++[t2]) fun s hs=>by simp [hs]).bi g2 (hd:=⟨5,0,0,0⟩) h5 (by decide) (by simp;omega)
 obtain ⟨t4,g4⟩:=g3.un (hd:=⟨10,a,0,0⟩) h10 (by simp only;decide) (by simp only;decide) (by simp;omega)
 obtain ⟨t5,g5⟩:=(gc.mono (L':=L0++[t1]++[t2]++[t3]++[t4]) fun s hs=>by simp [hs]).un (hd:=⟨10,a,0,0⟩) h10 (by simp only;decide) (by simp only;decide) (by simp;omega)
 obtain ⟨t6,g6⟩:=g5.bi (g4.mono (L':=L0++[t1]++[t2]++[t3]++[t4]++[t5]) fun s hs=>List.mem_append.2 (.inl hs)) (hd:=⟨7,0,0,0⟩) h7 (by decide) (by simp;omega)
 rw [bel_def hc0 ha]
 exact ⟨_,g6⟩
set_option maxHeartbeats 40000000 in
theorem law_Defines (p:PM) (hp:IntsOk p.rank) (f c:List Nd):Fn Try.prog T f_wittinglaw34_DoxasticDefines [.d (dPM p),.d (dF f),.d (dF c)] [] (.d (.bool true)) []:=by
 have hR:=ranks_ok (T:=T)
 have hA:=fn_awake (T:=T)
 have hF:=fn_few (T:=T) p [f,c]
 refine fn_dataR hmix k_wittinglaw34_DoxasticDefines (by show 3≤102;decide) ?_
 (repeat' ((conv=>whnf);first|refine TestS.no (by decide) ?_|refine vA ?_|refine vE ?_|((first|refine vD ?_ ?_|refine vI ?_ ?_)<;>intro hc)|refine vJ fun hg=>?_|refine vZ ?_|refine yD hA rfl rfl ?_|refine yD hF ⟨⟨rfl,rfl⟩,⟨rfl,rfl⟩,rfl⟩ rfl ?_|refine yD (fn_ref33_Check _ hp) (by (repeat refine ⟨⟨rfl,rfl⟩,?_⟩);rfl) rfl ?_));all_goals try conv=>whnf
 have hc0:=‹checkL p=0›
 have hg:=checkL_good hc0
 have hfew:=few_len ‹fewL p [f,c]=true›
 have hfl:f.length≤60:=hfew f (by simp)
 have hcl:c.length≤60:=hfew c (by simp)
 refine loop_mem (fun (k:Nat)=>[(1,.d (dF f)),(2,.d (dF c)),(3,.ptr 0 0),(34,.d (.int .i64 ((p.cell.map dI).length:Int))),(35,.d (.int .i64 ((k:Int))))]) (fun (k:Nat)=>[(0,some (boxPM p))]) 1 (fun (k:Nat)=>k≤p.cell.length) (fun (k:Nat)=>p.cell.length - k) (0) [(0,0)] [] (by simp) (by (refine ⟨rfl,rfl,rfl,?_,?_⟩;repeat' first|exact trivial|exact rfl|refine And.intro ?_ ?_|refine ⟨_,rfl,?_⟩|decide)) ?_
 rintro k hk
 by_cases hkl:k < p.cell.length
 ·by_cases hK:(holdsL p (buildL ⟨9,k,0,0,0,0⟩ [f])).2=0
  ·have hf:=Fm.under1 hc0 (hd:=⟨9,k,0,0⟩) (agent_hd (by decide) hg hkl).1 (by simp only;decide) (by simp only;decide) hfl (by decide) hK
   have s1:=fn_setOf (T:=T) hR hp hc0 (hf.know hc0 hkl (by decide))
   have s2:=fn_setOf (T:=T) hR hp hc0 ((hf.not (by decide)).belief hc0 Fm.fls hkl (by decide))
   rw [← know_none hc0 hkl] at s2
   by_cases hB:(holdsL p (buildL ⟨14,k,0,0,0,0⟩ [c,f])).2=0
   ·have hcF:=(Fm.under2 hc0 (hd:=⟨14,k,0,0⟩) (agent_hd (by decide) hg hkl).1 (by simp only;decide) hcl hfl (by decide) hB).1
    have s3:=fn_setOf (T:=T) hR hp hc0 (hcF.belief hc0 hf hkl (by decide))
    obtain ⟨L,hL⟩:=def_gm hc0 hf hcF hkl
    have s4:=fn_setG (T:=T) hR hp hc0 hL
    (repeat' ((conv=>whnf);first|refine SeqS.but 47 rfl ?_|(refine vF ?_ ?_<;>intro hc<;>try simp only [vL] at hc)|(refine vU ?_ ?_;·kernel_rfl)|refine vZ ?_|refine yN (fn_FKnow _ _) ⟨⟨rfl,rfl⟩,⟨rfl,rfl⟩,rfl⟩ ?_|refine yN s1 ⟨⟨rfl,rfl⟩,⟨rfl,rfl⟩,rfl⟩ ?_));all_goals try conv=>whnf
    refine SeqS.cut (fun (u:Unit)=>[(1,.d (dF f)),(2,.d (dF c)),(3,.ptr 0 0),(34,.d (.int .i64 ((p.cell.map dI).length:Int))),(35,.d (.int .i64 ((k:Int)))),(7,.d (.int .i64 ((k:Int)))),(8,.d (.u64 (knowsL p k (holdsL p f).1)))]) (fun (u:Unit)=>[(0,some (boxPM p))]) 1 (fun (u:Unit)=>True) ?_ ?_
    ·(repeat' ((conv=>whnf);refine TestS.no (by decide) ?_));all_goals try conv=>whnf
     exact ⟨(),[(0,0)],[],trivial,by (refine ⟨rfl,rfl,rfl,?_,?_⟩;repeat' first|exact trivial|exact rfl|refine And.intro ?_ ?_|refine ⟨_,rfl,?_⟩|decide)⟩
    ·intro u hu
     (repeat' ((conv=>whnf);first|refine SeqS.but 64 rfl ?_|(refine vU ?_ ?_;·kernel_rfl)|refine yN (fn_FNot _) ⟨⟨rfl,rfl⟩,rfl⟩ ?_|refine yN fn_FFalse rfl ?_|refine yN (fn_FBelief _ _ _) ⟨⟨rfl,rfl⟩,⟨rfl,rfl⟩,⟨rfl,rfl⟩,rfl⟩ ?_|refine yN s2 ⟨⟨rfl,rfl⟩,⟨rfl,rfl⟩,rfl⟩ ?_));all_goals try conv=>whnf
     refine SeqS.cut (fun (u:Unit)=>[(1,.d (dF f)),(2,.d (dF c)),(3,.ptr 0 0),(34,.d (.int .i64 ((p.cell.map dI).length:Int))),(35,.d (.int .i64 ((k:Int)))),(7,.d (.int .i64 ((k:Int))))]) (fun (u:Unit)=>[(0,some (boxPM p))]) 1 (fun (u:Unit)=>True) ?_ ?_
     ·(repeat' ((conv=>whnf);first|refine TestS.no (by decide) ?_|refine vA ?_|(refine vD ?_ ?_<;>intro hc<;>try simp only [vL] at hc)|refine vZ ?_));all_goals try conv=>whnf
      ·exact absurd rfl hc
      ·exact ⟨(),[(0,0)],[],trivial,by (refine ⟨rfl,rfl,rfl,?_,?_⟩;repeat' first|exact trivial|exact rfl|refine And.intro ?_ ?_|refine ⟨_,rfl,?_⟩|decide)⟩
     ·intro u hu
      (repeat' ((conv=>whnf);first|refine SeqS.but 75 rfl ?_|(refine vU ?_ ?_;·kernel_rfl)|refine yN (fn_FBelief _ _ _) ⟨⟨rfl,rfl⟩,⟨rfl,rfl⟩,⟨rfl,rfl⟩,rfl⟩ ?_|refine yN s3 ⟨⟨rfl,rfl⟩,⟨rfl,rfl⟩,rfl⟩ ?_));all_goals try conv=>whnf
      refine SeqS.cut (fun (u:Unit)=>[(1,.d (dF f)),(2,.d (dF c)),(3,.ptr 0 0),(34,.d (.int .i64 ((p.cell.map dI).length:Int))),(35,.d (.int .i64 ((k:Int)))),(7,.d (.int .i64 ((k:Int)))),(12,.d (.u64 (believesL p k (holdsL p c).1 (holdsL p f).1)))]) (fun (u:Unit)=>[(0,some (boxPM p))]) 1 (fun (u:Unit)=>True) ?_ ?_
      ·(repeat' ((conv=>whnf);refine TestS.no (by decide) ?_));all_goals try conv=>whnf
       exact ⟨(),[(0,0)],[],trivial,by (refine ⟨rfl,rfl,rfl,?_,?_⟩;repeat' first|exact trivial|exact rfl|refine And.intro ?_ ?_|refine ⟨_,rfl,?_⟩|decide)⟩
      ·intro u hu
       (repeat' ((conv=>whnf);first|refine TestS.no (by decide) ?_|refine vA ?_|(refine vD ?_ ?_<;>intro hc<;>try simp only [vL] at hc)|(refine vO ?_ ?_;·omega)|(refine vU ?_ ?_;·kernel_rfl)|refine vZ ?_|refine yN (fn_FPoss _ _) ⟨⟨rfl,rfl⟩,⟨rfl,rfl⟩,rfl⟩ ?_|refine yN (fn_FImp _ _) ⟨⟨rfl,rfl⟩,⟨rfl,rfl⟩,rfl⟩ ?_|refine yN (fn_FSafe _ _) ⟨⟨rfl,rfl⟩,⟨rfl,rfl⟩,rfl⟩ ?_|refine yN (fn_FAnd _ _) ⟨⟨rfl,rfl⟩,⟨rfl,rfl⟩,rfl⟩ ?_|refine yN s4 ⟨⟨rfl,rfl⟩,⟨rfl,rfl⟩,rfl⟩ ?_));all_goals try conv=>whnf
       ·exact absurd rfl hc
       ·exact ⟨k+1,[(0,0)],[],by (omega),by (omega),by (refine ⟨rfl,rfl,rfl,?_,?_⟩;repeat' first|exact trivial|exact rfl|refine And.intro ?_ ?_|refine ⟨_,rfl,?_⟩|decide)⟩
   ·have s3:=fn_set (T:=T) hR p hp (buildL ⟨14,k,0,0,0,0⟩ [c,f])
    rw [decide_eq_false hB] at s3
    (repeat' ((conv=>whnf);first|refine SeqS.but 47 rfl ?_|(refine vF ?_ ?_<;>intro hc<;>try simp only [vL] at hc)|(refine vU ?_ ?_;·kernel_rfl)|refine vZ ?_|refine yN (fn_FKnow _ _) ⟨⟨rfl,rfl⟩,⟨rfl,rfl⟩,rfl⟩ ?_|refine yN s1 ⟨⟨rfl,rfl⟩,⟨rfl,rfl⟩,rfl⟩ ?_));all_goals try conv=>whnf
    refine SeqS.cut (fun (u:Unit)=>[(1,.d (dF f)),(2,.d (dF c)),(3,.ptr 0 0),(34,.d (.int .i64 ((p.cell.map dI).length:Int))),(35,.d (.int .i64 ((k:Int)))),(7,.d (.int .i64 ((k:Int)))),(8,.d (.u64 (knowsL p k (holdsL p f).1)))]) (fun (u:Unit)=>[(0,some (boxPM p))]) 1 (fun (u:Unit)=>True) ?_ ?_
    ·(repeat' ((conv=>whnf);refine TestS.no (by decide) ?_));all_goals try conv=>whnf
     exact ⟨(),[(0,0)],[],trivial,by (refine ⟨rfl,rfl,rfl,?_,?_⟩;repeat' first|exact trivial|exact rfl|refine And.intro ?_ ?_|refine ⟨_,rfl,?_⟩|decide)⟩
    ·intro u hu
     (repeat' ((conv=>whnf);first|refine SeqS.but 64 rfl ?_|(refine vU ?_ ?_;·kernel_rfl)|refine yN (fn_FNot _) ⟨⟨rfl,rfl⟩,rfl⟩ ?_|refine yN fn_FFalse rfl ?_|refine yN (fn_FBelief _ _ _) ⟨⟨rfl,rfl⟩,⟨rfl,rfl⟩,⟨rfl,rfl⟩,rfl⟩ ?_|refine yN s2 ⟨⟨rfl,rfl⟩,⟨rfl,rfl⟩,rfl⟩ ?_));all_goals try conv=>whnf
     refine SeqS.cut (fun (u:Unit)=>[(1,.d (dF f)),(2,.d (dF c)),(3,.ptr 0 0),(34,.d (.int .i64 ((p.cell.map dI).length:Int))),(35,.d (.int .i64 ((k:Int)))),(7,.d (.int .i64 ((k:Int))))]) (fun (u:Unit)=>[(0,some (boxPM p))]) 1 (fun (u:Unit)=>True) ?_ ?_
     ·(repeat' ((conv=>whnf);first|refine TestS.no (by decide) ?_|refine vA ?_|(refine vD ?_ ?_<;>intro hc<;>try simp only [vL] at hc)|refine vZ ?_));all_goals try conv=>whnf
      ·exact absurd rfl hc
      ·exact ⟨(),[(0,0)],[],trivial,by (refine ⟨rfl,rfl,rfl,?_,?_⟩;repeat' first|exact trivial|exact rfl|refine And.intro ?_ ?_|refine ⟨_,rfl,?_⟩|decide)⟩
     ·intro u hu
      (repeat' ((conv=>whnf);first|refine TestS.yes (by decide) ?_|refine vA ?_|(refine vU ?_ ?_;·kernel_rfl)|refine vZ ?_|refine yN (fn_FBelief _ _ _) ⟨⟨rfl,rfl⟩,⟨rfl,rfl⟩,⟨rfl,rfl⟩,rfl⟩ ?_|refine yN s3 ⟨⟨rfl,rfl⟩,⟨rfl,rfl⟩,rfl⟩ ?_));all_goals try conv=>whnf
  ·have s1:=fn_set (T:=T) hR p hp (buildL ⟨9,k,0,0,0,0⟩ [f])
   rw [decide_eq_false hK] at s1
   (repeat' ((conv=>whnf);first|refine TestS.yes (by decide) ?_|refine vA ?_|(refine vF ?_ ?_<;>intro hc<;>try simp only [vL] at hc)|(refine vU ?_ ?_;·kernel_rfl)|refine vZ ?_|refine yN (fn_FKnow _ _) ⟨⟨rfl,rfl⟩,⟨rfl,rfl⟩,rfl⟩ ?_|refine yN s1 ⟨⟨rfl,rfl⟩,⟨rfl,rfl⟩,rfl⟩ ?_));all_goals try conv=>whnf
 ·(repeat' ((conv=>whnf);first|refine vA ?_|(refine vF ?_ ?_<;>intro hc<;>try simp only [vL] at hc)|refine vZ ?_));all_goals try conv=>whnf
  all_goals omega
end Go.Ab
namespace Go.Proofs.Ytffknaghkomefaa
open Go Go.Ab Go.RowKit Go.ChangeShapes Go.WideShapes
set_option linter.unusedVariables false
set_option maxRecDepth 100000 in
theorem doxasticDefines_holds:Rows.DoxasticDefinesSaid :=
 OpenClaim.holds_of_wide 9 Try.f9 rfl rfl rfl rfl rfl rfl rfl ⟨rfl,rfl,rfl,rfl,rfl⟩ rfl rfl rfl rfl rfl (by kernel_rfl) Try.func9 (by kernel_rfl)
  (of_decide_eq_true (by kernel_rfl)) (by unfold Func.isWrapper;rw [if_neg (of_decide_eq_false (by kernel_rfl))];exact ⟨rfl,rfl⟩)
  (fun os started H enc _=>strip_of <| law_lifted (C:=Try.checked) (s:=Rows.doxasticDefinesSpec) (laid:=[]) knob started (by kernel_rfl) Try.func9 laidOut [25,35,35] Try.params9 rfl Try.underlying4 rfl (by kernel_rfl)
   (fun ds hds=>by match ds,hds with|[d1,d2,d3],_=>rfl)
   (ChangeSpec.witness_shaped (enc:=enc) (C:=Try.checked) (os:=os) (X:=fun w _=>laidMetH Try.prog [] w) false (World.doorLaid Try.prog 14 os)
    #[.agg #[.int .i64 0,.slice none 0 0,.slice none 0 0,.slice none 0 0],.slice none 0 0,.slice none 0 0] 8 rfl (World.shaped_of_RefB (by kernel_rfl) (by kernel_rfl)) (by kernel_rfl) (by kernel_rfl) (by kernel_rfl) laid_nil)
   (fun W hL=>⟨noT,fun b o h=>h.elim,fun b h=>h.elim fun o h=>h.elim,fun ds hds=>by
    obtain ⟨p1,r,rfl,hc1,hp1,k1⟩:=arg25 hds
    obtain ⟨f2,r,rfl,k2⟩:=arg35 k1
    obtain ⟨f3,r,rfl,k3⟩:=arg35 k2
    obtain rfl:=arg0 k3
    exact law_Defines p1 hp1 f2 f3⟩))
end Go.Proofs.Ytffknaghkomefaa
