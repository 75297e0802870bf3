/- What is proved here: the law PlausbisimSatisfies returns true at every input and leaves its arguments as they were. The condition is the row own: the listed table of math bits holds what the text lays. -/
import Derived.Test.YtmnbcipineblbaaGreatDoorMG
set_option linter.unusedVariables false
set_option linter.unusedSimpArgs false
set_option linter.unusedSectionVars false
namespace Go.Ab
open Go Go.Proofs
section
open K
def zbL:Nat:=6
def zeD:Nat:=26
def ze3:Nat:=28
def zfV:Nat:=62
def zdN:CFn:=⟨83,[.tmp 4],(q [(.reg [o 2 (.box 4 (t 0)),o 4 (.mv (c .bf))]),
 (q [(.reg [o 11 (la 4 2),o 12 (.call 10 [(t 11),(c (n 8))]),o 13 (.un .not (t 12)),o 14 (m 13),g 15 14 false (la 4 2),g 16 14 false (m 1),g 17 14 false (.call 28 [(t 15),(t 16)]),g 18 14 false (.un .not (t 17)),o 19 (pt 14 18)]),
 (i 19 (q [(.reg [o 20 (.call 11 []),o 4 (m 20)]),
 .ret]) .skip)]),
 (.reg [o 22 (la 4 2),o 23 (m 1),o 24 (.call 27 [(t 22),(t 23)]),o 21 (m 24),o 25 (e 21 0),o 26 (e 21 1),o 5 (m 25),o 6 (m 26)]),
 (.reg [o 28 (la 4 2),o 29 (.call 14 [(t 28)]),o 27 (m 29),o 30 (e 27 0),o 31 (e 27 1),o 7 (m 30),o 8 (m 31)]),
 (q [(.reg [o 32 (m 1),o 33 (.call 25 [(t 32)]),o 34 (bc .andNot 33 (n 33)),o 35 (bc .eql 34 (n 0))]),
 (i 35 (.regd [o 37 (la 4 2),o 38 (m 1),o 39 (.call 26 [(t 38)]),o 40 (.call 12 [(t 37),(t 39)]),o 36 (m 40),o 41 (e 36 0),o 42 (e 36 1),o 7 (m 41),o 8 (m 42)] [0,0,2,7,15,31,31,63,255]) .skip)]),
 (q [(.reg [o 43 (m 6),o 44 (bc .neq 43 (n 0)),o 45 (m 44),g 46 45 false (m 8),g 47 45 false (bc .neq 46 (n 0)),o 48 (pt 45 47),o 49 (m 48),g 50 49 false (m 7),g 51 49 false (ln 50),g 52 49 false (f 0 2),g 53 49 false (l 52),g 54 49 false (b .neq 51 53),o 55 (pt 49 54)]),
 (i 55 (q [(.reg [o 4 (.mv (c .bf))]),
 .ret]) .skip)]),
 (q [(.reg [o 56 (m 7),o 57 (ln 56),o 58 (.mv (c (n 0)))]),
 (.block 0 (.loop (q [(.reg [o 59 (b .lss 58 57)]),
 (i 59 .skip (.exit 0)),
 (.block 1 (q [(.reg [o 60 (m 58),o 61 (ia 1 56 58),o 62 (l 61),o 9 (m 60),o 10 (m 62)]),
 (.regd [o 63 (m 10),o 64 (bc .lss 63 (n 0)),o 65 (m 64),g 66 65 false (m 10),g 67 65 false (m 9),g 68 65 false (b .gtr 66 67),o 69 (pt 65 68),o 70 (m 69),g 71 70 false (m 5),g 72 70 false (m 9),g 73 70 false (b .shr 71 72),g 74 70 false (bc .and 73 (u 1)),g 75 70 false (m 5),g 76 70 false (m 10),g 77 70 false (b .shr 75 76),g 78 70 false (bc .and 77 (u 1)),g 79 70 false (b .neq 74 78),o 80 (pt 70 79)] [0,1,3,7,7,31,63,127,255,255,1023,2047,255,255,12543,28927,65535,131071]),
 (i 80 (q [(.reg [o 4 (.mv (c .bf))]),
 .ret]) .skip)])),
 (.reg [o 81 (bc .add 58 (n 1)),o 58 (m 81)])])))]),
 (.reg [o 82 (.call 11 []),o 4 (m 82)]),
 .ret])⟩
def zjh:CFn:=⟨82,[.tmp 2],(q [(.reg [o 2 (.mv (c (n 0)))]),
 (.reg [o 7 (m 0),o 8 (.call 54 [(t 7)]),o 3 (m 8)]),
 (.reg [o 4 (.mv (c (.nils 1)))]),
 (q [(.reg [o 5 (.mv (c (n 0)))]),
 (.block 0 (.loop (q [(q [(.reg [o 9 (m 5),o 10 (m 3),o 11 (ln 10),o 12 (b .lss 9 11)]),
 (i 12 .skip (.exit 0))]),
 (.block 1 (q [(.reg [o 6 (.mv (c (n 0)))]),
 (q [(.reg [o 15 (m 3),o 16 (m 5),o 17 (ia 6 15 16),o 18 (f 0 17),o 19 (l 18),o 20 (.call 56 [(t 19)])]),
 (i 20 (.reg [o 21 (m 4),o 22 (m 3),o 23 (m 5),o 24 (ia 6 22 23),o 25 (f 4 24),o 26 (l 25),o 27 (ia 1 21 26),o 28 (l 27),o 6 (m 28)]) .skip)]),
 (q [(.reg [o 29 (m 3),o 30 (m 5),o 31 (ia 6 29 30),o 32 (f 0 31),o 33 (l 32),o 34 (.call 57 [(t 33)])]),
 (i 34 (.reg [o 35 (m 6),o 36 (m 4),o 37 (m 3),o 38 (m 5),o 39 (ia 6 37 38),o 40 (f 5 39),o 41 (l 40),o 42 (ia 1 36 41),o 43 (l 42),o 44 (.mm true (t 35) (t 43)),o 6 (m 44)]) .skip)]),
 (q [(.reg [o 45 (m 3),o 46 (m 5),o 47 (ia 6 45 46),o 48 (f 0 47),o 49 (l 48),o 50 (bc .geq 49 (n 9)),o 51 (m 50),g 52 51 true (m 3),g 53 51 true (m 5),g 54 51 true (ia 6 52 53),g 55 51 true (f 0 54),g 56 51 true (l 55),g 57 51 true (bc .leq 56 (n 15)),o 58 (pf 51 57),o 59 (m 58),g 60 59 false (m 3),g 61 59 false (m 5),g 62 59 false (ia 6 60 61),g 63 59 false (f 0 62),g 64 59 false (l 63),g 65 59 false (bc .geq 64 (n 18)),o 66 (pt 59 65)]),
 (i 66 (.reg [o 67 (m 6),o 68 (bc .add 67 (n 1)),o 6 (m 68)]) .skip)]),
 (.reg [o 69 (m 4),o 70 (m 6),o 71 (.bslice 1 1 [(n 0)] [(0,(t 70))]),o 72 (.app 1 8 (t 69) (t 71)),o 4 (m 72)])])),
 (.reg [o 13 (m 5),o 14 (bc .add 13 (n 1)),o 5 (m 14)])])))]),
 (q [(.reg [o 73 (m 4),o 74 (ln 73),o 75 (bc .eql 74 (n 0))]),
 (i 75 (q [(.reg [o 2 (.mv (c (n (-1))))]),
 .ret]) .skip)]),
 (.reg [o 76 (m 4),o 77 (m 4),o 78 (ln 77),o 79 (bc .sub 78 (n 1)),o 80 (ia 1 76 79),o 81 (l 80),o 2 (m 81)]),
 .ret])⟩
def zkB:CFn:=⟨28,[.tmp 4],(q [(.reg [o 2 (.box 4 (t 0)),o 4 (.mv (c .bf))]),
 (.reg [o 5 (la 4 2),o 6 (.call 29 [(t 5)]),o 7 (bc .eql 6 (n 0)),o 8 (m 7),g 9 8 true (m 1),g 10 8 true (.call 62 [(t 9),(c (n 20))]),o 11 (pf 8 10),o 12 (m 11),g 13 12 true (m 1),g 14 12 true (f 2 2),g 15 12 true (l 14),g 16 12 true (ln 15),g 17 12 true (f 1 2),g 18 12 true (l 17),g 19 12 true (ln 18),g 20 12 true (.call 24 [(t 13),(t 16),(t 19)]),o 21 (pf 12 20),o 22 (m 21),g 23 22 true (m 1),g 24 22 true (.call 25 [(t 23)]),g 25 22 true (bc .andNot 24 (n 59)),g 26 22 true (bc .eql 25 (n 0)),o 27 (pf 22 26),o 4 (m 27)]),
 .ret])⟩
def zk5:CFn:=⟨9,[.tmp 4],(q [(.reg [o 4 (.mv (c .bf))]),
 (.reg [o 5 (m 0),o 6 (ln 5),o 7 (m 1),o 8 (b .leq 6 7),o 4 (m 8)]),
 .ret])⟩
end
theorem zdO:zk Tryz.prog zbL=some zdN:=by kernel_rfl
theorem zjT:zk Tryz.prog zeD=some zjh:=by kernel_rfl
theorem zkK:zk Tryz.prog ze3=some zkB:=by kernel_rfl
theorem zlL:zk Tryz.prog zfV=some zk5:=by kernel_rfl
end Go.Ab
namespace Go.Ab
open Go Go.Proofs
set_option maxRecDepth 10000
set_option maxHeartbeats 4000000
variable {T:Nat→Obj→Prop}
abbrev zo8 (l:List Nat):List D:=l.map fun d:Nat=>D.int .i64 (d:Int)
theorem zx0:ztF zas where
 x h a b c hx:=by unfold zas;simp [hx]
 y h a b c hy:=by unfold zas;simp [hy]
def zrm (f:List Nd):Int:=if (cL f).length=0 then -1 else ((zat zas 0 (cL f) []).getD ((cL f).length - 1) 0:Nat)
theorem zvg (f:List Nd) (ho : ∀ n∈cL f,n.op≤15):Fn Tryz.prog T zeD [.d (dF f)] [] (.d (.int .i64 (zrm f))) []:=by
 have hlen:=zkY f
 have hok:=zo2 f
 refine zj zz zjT (by show 1≤82;decide) ?_
 (repeat' ((conv=>whnf);first|refine vA ?_|refine vT ?_|refine yN (zdV _) ⟨⟨rfl,rfl⟩,rfl⟩ ?_));all_goals try conv=>whnf
 refine zu (fun ((k,zs):Nat×List D)=>[(3,.d (dF (cL f))),(4,.own 0),(5,.d (.int .i64 ((k:Int))))]) (fun ((k,zs):Nat×List D)=>[(0,some (.row 1 zs))]) 1 (fun ((k,zs):Nat×List D)=>k≤(cL f).length∧zs=zo8 (zat zas 0 ((cL f).take k) []) ∧ ∀ x∈zat zas 0 ((cL f).take k) [],x≤k) (fun ((k,zs):Nat×List D)=>(cL f).length - k) ((0,[])) [] [0] (⟨by simp,rfl,by simp [zat]⟩) (by (refine ⟨rfl,rfl,rfl,?_,?_⟩;repeat' first|exact trivial|exact rfl|exact ⟨_,rfl⟩|refine And.intro ?_ ?_|decide)) ?_
 rintro ⟨k,zs⟩ ⟨hk,hI,hB⟩
 subst hI
 have hl:(zat zas 0 ((cL f).take k) []).length=k:=by rw [znV];simp;omega
 by_cases hkl:k < (cL f).length
 ·obtain ⟨n,hn⟩ : ∃ n,(cL f)[k]? = some n:=⟨(cL f)[k],by simp [hkl]⟩
  have hnm:=List.mem_of_getElem? hn
  have h15:=ho n hnm
  obtain ⟨-,x1,-,y1,-⟩:=ziH (hok k n hn)
  have hst0:zat zas 0 ((cL f).take (k+1)) []=zat zas 0 ((cL f).take k) []++[zas n.hd ((zat zas 0 ((cL f).take k) []).getD n.x.toNat 0) ((zat zas 0 ((cL f).take k) []).getD n.y.toNat 0)]:=by
   rw [List.take_add_one,hn];exact zmf _ _ _ _ _
  generalize zat zas 0 ((cL f).take k) []=S at hst0 hl hB
  have hSl:(zo8 S).length=k:=by simp;omega
  have hgx : ∀ i:Int,0≤i→i < k → ∃ a,S[i.toNat]? = some a∧a≤k∧S.getD i.toNat 0=a:=fun i h0 h1=>by
   obtain ⟨a,ha⟩ : ∃ a,S[i.toNat]? = some a:=⟨_,List.getElem?_eq_getElem (by omega)⟩
   exact ⟨a,ha,hB _ (List.mem_of_getElem? ha),by rw [List.getD,ha];rfl⟩
  have hux:=zcL (T:=T) n.op
  have huy:=zbv (T:=T) n.op
  have fin : ∀ (d:Nat) (z:Int),z=d→d≤k+1→zas n.hd (S.getD n.x.toNat 0) (S.getD n.y.toNat 0)=d→zo8 S++[D.int .i64 z]=zo8 (zat zas 0 ((cL f).take (k+1)) []) ∧ ∀ x∈zat zas 0 ((cL f).take (k+1)) [],x≤k+1:=by
   rintro d z rfl hd e
   rw [hst0,e]
   refine ⟨by simp,fun x hx=>?_⟩
   rcases List.mem_append.1 hx with h|h
   ·have:=hB x h;omega
   ·rw [List.mem_singleton.1 h];omega
  have hm:zhb n.hd.op=if 9≤n.op then 1 else 0:=by
   unfold zhb;show (if (9≤n.op∧n.op≤15)∨16≤n.op then 1 else 0)=_
   by_cases h:9≤n.op
   ·rw [if_pos (by omega),if_pos h]
   ·rw [if_neg (by omega),if_neg h]
  cases hx:zR n.op with
  | false =>
   have hy:zD n.op=false:=by
    cases hy:zD n.op with
    | true=>rw [zac hy] at hx;cases hx
    | false=>rfl
   rw [hx] at hux
   rw [hy] at huy
   have hlt:n.op < 9:=by have : ¬(4≤n.op∧n.op≤21):=of_decide_eq_false hx;omega
   have hd:zas n.hd (S.getD n.x.toNat 0) (S.getD n.y.toNat 0)=0:=by
    unfold zas;rw [hm,if_neg (show ¬zR n.hd.op=true by rw [show zR n.hd.op=false from hx];decide),if_neg (show ¬zD n.hd.op=true by rw [show zD n.hd.op=false from hy];decide),if_neg (by omega)];rfl
   (repeat' ((conv=>whnf);first|refine zE.decN (by omega) ?_|refine vA ?_|refine vH ?_|(refine vF ?_ ?_<;>intro hc<;>try simp only [vL] at hc)|refine vJ fun hg=>?_|refine vT ?_|refine vN ‹_› ?_|(refine vQ ?_ fun x hx=>?_;·omega)|((first|refine vO ?_ ?_|refine vP ?_ ?_);·first|omega|(simp only [vM] at *;omega))|refine vX ?_|refine yD hux ⟨⟨rfl,rfl⟩,rfl⟩ rfl ?_|refine yD huy ⟨⟨rfl,rfl⟩,rfl⟩ rfl ?_));all_goals try conv=>whnf
   all_goals try omega
   refine ⟨(k+1,_),[(0,2)],[],?_,?_,by (refine ⟨rfl,rfl,rfl,?_,?_⟩;repeat' first|exact trivial|exact rfl|refine And.intro ?_ ?_|refine ⟨_,rfl,?_⟩|decide)⟩
   ·exact ⟨hkl,fin 0 _ rfl (by omega) hd⟩
   ·((simp only [vM] at *;omega))
  | true =>
   obtain ⟨x2,x3⟩:=x1 hx
   obtain ⟨a,ha,hak,hga⟩:=hgx n.x x2 x3
   rw [hx] at hux
   cases hy:zD n.op with
   | false =>
    rw [hy] at huy
    have hd:zas n.hd (S.getD n.x.toNat 0) (S.getD n.y.toNat 0)=a+if 9≤n.op then 1 else 0:=by
     unfold zas;rw [hm,if_pos (show zR n.hd.op=true from hx),if_neg (show ¬zD n.hd.op=true by rw [show zD n.hd.op=false from hy];decide),hga];omega
    by_cases h9:9≤n.op
    ·rw [if_pos h9] at hd
     (repeat' ((conv=>whnf);first|refine zE.decN (by omega) ?_|refine zE.decY (by omega) ?_|refine vA ?_|refine vG ?_|refine vH ?_|(refine vF ?_ ?_<;>intro hc<;>try simp only [vL] at hc)|refine vJ fun hg=>?_|refine vT ?_|refine vN ‹_› ?_|(refine vQ ?_ fun x hx=>?_;·omega)|((first|refine vO ?_ ?_|refine vP ?_ ?_);·first|omega|(simp only [vM] at *;omega))|refine vX ?_|refine yD hux ⟨⟨rfl,rfl⟩,rfl⟩ rfl ?_|refine yD huy ⟨⟨rfl,rfl⟩,rfl⟩ rfl ?_));all_goals try conv=>whnf
     all_goals try omega
     refine ⟨(k+1,_),[(0,2)],[],?_,?_,by (refine ⟨rfl,rfl,rfl,?_,?_⟩;repeat' first|exact trivial|exact rfl|refine And.intro ?_ ?_|refine ⟨_,rfl,?_⟩|decide)⟩
     ·exact ⟨hkl,fin _ _ (by omega) (by omega) hd⟩
     ·((simp only [vM] at *;omega))
    ·rw [if_neg h9] at hd
     (repeat' ((conv=>whnf);first|refine zE.decN (by omega) ?_|refine vA ?_|refine vG ?_|refine vH ?_|(refine vF ?_ ?_<;>intro hc<;>try simp only [vL] at hc)|refine vJ fun hg=>?_|refine vT ?_|refine vN ‹_› ?_|(refine vQ ?_ fun x hx=>?_;·omega)|((first|refine vO ?_ ?_|refine vP ?_ ?_);·first|omega|(simp only [vM] at *;omega))|refine vX ?_|refine yD hux ⟨⟨rfl,rfl⟩,rfl⟩ rfl ?_|refine yD huy ⟨⟨rfl,rfl⟩,rfl⟩ rfl ?_));all_goals try conv=>whnf
     all_goals try omega
     refine ⟨(k+1,_),[(0,2)],[],?_,?_,by (refine ⟨rfl,rfl,rfl,?_,?_⟩;repeat' first|exact trivial|exact rfl|refine And.intro ?_ ?_|refine ⟨_,rfl,?_⟩|decide)⟩
     ·exact ⟨hkl,fin _ _ (by omega) (by omega) hd⟩
     ·((simp only [vM] at *;omega))
   | true =>
    obtain ⟨y2,y3⟩:=y1 hy
    obtain ⟨b,hb,hbk,hgb⟩:=hgx n.y y2 y3
    rw [hy] at huy
    have hd:zas n.hd (S.getD n.x.toNat 0) (S.getD n.y.toNat 0)=max a b+if 9≤n.op then 1 else 0:=by
     unfold zas;rw [hm,if_pos (show zR n.hd.op=true from hx),if_pos (show zD n.hd.op=true from hy),hga,hgb]
    by_cases h9:9≤n.op
    ·rw [if_pos h9] at hd
     (repeat' ((conv=>whnf);first|refine zE.decN (by omega) ?_|refine zE.decY (by omega) ?_|refine vA ?_|refine vG ?_|(refine vF ?_ ?_<;>intro hc<;>try simp only [vL] at hc)|refine vJ fun hg=>?_|refine vT ?_|refine vN ‹_› ?_|(refine vQ ?_ fun x hx=>?_;·omega)|((first|refine vO ?_ ?_|refine vP ?_ ?_);·first|omega|(simp only [vM] at *;omega))|refine vX ?_|refine yD hux ⟨⟨rfl,rfl⟩,rfl⟩ rfl ?_|refine yD huy ⟨⟨rfl,rfl⟩,rfl⟩ rfl ?_));all_goals try conv=>whnf
     all_goals try omega
     refine ⟨(k+1,_),[(0,2)],[],?_,?_,by (refine ⟨rfl,rfl,rfl,?_,?_⟩;repeat' first|exact trivial|exact rfl|refine And.intro ?_ ?_|refine ⟨_,rfl,?_⟩|decide)⟩
     ·exact ⟨hkl,fin _ _ (by omega) (by omega) hd⟩
     ·((simp only [vM] at *;omega))
    ·rw [if_neg h9] at hd
     (repeat' ((conv=>whnf);first|refine zE.decN (by omega) ?_|refine vA ?_|refine vG ?_|(refine vF ?_ ?_<;>intro hc<;>try simp only [vL] at hc)|refine vJ fun hg=>?_|refine vT ?_|refine vN ‹_› ?_|(refine vQ ?_ fun x hx=>?_;·omega)|((first|refine vO ?_ ?_|refine vP ?_ ?_);·first|omega|(simp only [vM] at *;omega))|refine vX ?_|refine yD hux ⟨⟨rfl,rfl⟩,rfl⟩ rfl ?_|refine yD huy ⟨⟨rfl,rfl⟩,rfl⟩ rfl ?_));all_goals try conv=>whnf
     all_goals try omega
     refine ⟨(k+1,_),[(0,2)],[],?_,?_,by (refine ⟨rfl,rfl,rfl,?_,?_⟩;repeat' first|exact trivial|exact rfl|refine And.intro ?_ ?_|refine ⟨_,rfl,?_⟩|decide)⟩
     ·exact ⟨hkl,fin _ _ (by omega) (by omega) hd⟩
     ·((simp only [vM] at *;omega))
 ·obtain rfl:k=(cL f).length:=by omega
  rw [List.take_length] at hl
  rw [List.take_length]
  have h0:=congrArg List.length (show zo8 (zat zas 0 (cL f) [])=_ from rfl)
  (repeat' ((conv=>whnf);first|refine vA ?_|(refine vF ?_ ?_<;>intro hc<;>try simp only [vL] at hc)|refine vJ fun hg=>?_|refine vT ?_|(refine vQ ?_ fun x hx=>?_;·first|omega|(simp only [vM] at *;omega))|((first|refine vO ?_ ?_|refine vP ?_ ?_);·(simp only [vM] at *;omega))|refine vX ?_));all_goals try conv=>whnf
  ·omega
  ·have:zrm f = -1:=if_pos (by omega)
   rw [this]
  ·have h1:zrm f=_:=if_neg (by omega)
   have h2:((zo8 (zat zas 0 (cL f) [])).length:Int) - 1=((cL f).length - 1:Nat):=by simp;omega
   rw [h2,Int.toNat_natCast] at hx
   rw [h1,List.getD,hx];rfl
def zlt (p:PM) (f:List Nd):Bool:=decide (zp p=0)&&(decide (f.length≤20)&&(zde f p.cell.length p.val.length&&decide (zaK .i64 (fun p q=>p &&& ~~~q) (uni zaM (cL f):Int) 59=0)))
theorem zvi (f:List Nd) (n:Int):Fn Tryz.prog T zfV [.d (dF f),.d (.int .i64 n)] [] (.d (.bool (decide (f.length≤n)))) []:=by
 refine zj zz zlL (by show 2≤9;decide) ?_
 (repeat' ((conv=>whnf);first|refine vJ fun hg=>?_|refine vT ?_|refine vZ ?_));all_goals try conv=>whnf
 rw [List.length_map]
theorem zvb (p:PM) (hp:zav p.rank) (f:List Nd):Fn Tryz.prog T ze3 [.d (dPM p),.d (dF f)] [] (.d (.bool (zlt p f))) []:=by
 refine zj zz zkK (by show 2≤28;decide) ?_
 (repeat' ((conv=>whnf);first|refine vA ?_|((first|refine vF ?_ ?_|refine vI ?_ ?_)<;>intro hc<;>try simp only [vL] at hc)|refine vJ fun hg=>?_|refine vT ?_|refine vZ ?_|refine yD (ziq p hp) ⟨⟨rfl,rfl⟩,rfl⟩ rfl ?_|refine yD (zvi _ _) ⟨⟨rfl,rfl⟩,⟨rfl,rfl⟩,rfl⟩ rfl ?_|refine yD (zrJ _ _ _) ⟨⟨rfl,rfl⟩,⟨rfl,rfl⟩,⟨rfl,rfl⟩,rfl⟩ rfl ?_|refine yD (zhy _) ⟨⟨rfl,rfl⟩,rfl⟩ rfl ?_));all_goals try conv=>whnf
 all_goals (unfold zlt;first|(rw [decide_eq_false ‹¬zp p=0›];rfl)|(rw [decide_eq_true ‹zp p=0›,decide_eq_false (show ¬f.length≤20 by omega)];rfl)|(rw [decide_eq_true ‹zp p=0›,decide_eq_true (show f.length≤20 by omega),‹zde f _ _=_›];rfl))
theorem zwY {p:PM} {f:List Nd} (h:zlt p f=true):zp p=0∧zbt f=0∧(∀ n∈cL f,n.op≤15)∧(zW f (f.length - 1)).ok∧(zW f (f.length - 1)).all (zhI p)∧zch p f=(ev (zau p) 0#64 (zW f (f.length - 1)),0):=by
 unfold zlt at h
 simp only [Bool.and_eq_true,decide_eq_true_eq] at h
 obtain ⟨hc0,h20,hfit,hfr⟩:=h
 have hf0:zbt f=0:=by
  have:=hfit
  unfold zde at this
  simp only [Bool.and_eq_true,decide_eq_true_eq] at this
  exact this.1.1
 have hf:=zvt hf0
 have hc:=hf.canon.1
 have a1:=(zrW hc).1 hfr
 have a2:=(zrA (zS hc0) hf).1 hfit
 exact ⟨hc0,hf0,fun n hn=>(zoF hfr hn).2.1,hf.tok,a2,zrP hf hc0 a1 a2⟩
theorem zqR : ∀ {t:Tm},t.ok→t.all zet
 | .z h,ho=>ho.1
 | .u h x,ho=>⟨ho.1,zqR ho.2.2.2⟩
 | .b h x y,ho=>⟨ho.1,zqR ho.2.2.2.1,zqR ho.2.2.2.2⟩
theorem zra {S S':BitVec 64} {v w:Nat} (h:S.getLsbD v=S'.getLsbD w):S >>> v&&&1#64=S' >>> w&&&1#64:=by
 cases hb:S.getLsbD v with
 | true=>rw [(zh1 S v).2 hb,(zh1 S' w).2 (h▸hb)]
 | false=>rw [(zgX S v).2 hb,(zgX S' w).2 (h▸hb)]
theorem zxt {f:List Nd} (h:zaK .i64 (fun p q=>p &&& ~~~q) (uni zaM (cL f):Int) 33=0) {n:Nd} (hn:n∈cL f) (h15:n.op≤15):zfa n.hd:=by
 have hlt:uni zaM (cL f) < 2 ^ 63:=Nat.lt_trans ((zdZ zaM).2 fun n _=>zg7 n.hd) (by decide)
 have h1:=(zhJ hlt (b:=33) (by decide)).1 h
 have h2 : ∀ i,(zaM n.hd).testBit i=true→(33:Nat).testBit i=true:=fun i hi=>h1 i (by rw [zgP];exact List.any_eq_true.2 ⟨n,hn,hi⟩)
 have key : ∀ (o:Int) (i:Nat),n.op=o→((zcZ o).toNat).testBit i=true→(33:Nat).testBit i=true:=fun o i e hi=>h2 i (by rw [zaM];show ((zcZ n.op).toNat).testBit i=true;rw [e];exact hi)
 refine Classical.byContradiction fun hc=>?_
 have hc : ¬(n.op≤10∨n.op=15):=hc
 have:n.op=11∨n.op=12∨n.op=13∨n.op=14:=by omega
 rcases this with e|e|e|e
 ·exact absurd (key 11 1 e (by decide)) (by decide)
 ·exact absurd (key 12 2 e (by decide)) (by decide)
 ·exact absurd (key 13 3 e (by decide)) (by decide)
 ·exact absurd (key 14 4 e (by decide)) (by decide)
end Go.Ab
namespace Go.Ab
open Go Go.Proofs
set_option maxRecDepth 10000
set_option maxHeartbeats 4000000
variable {T:Nat→Obj→Prop}
theorem zqz (hT:znm T) (p:PM) (hp:zav p.rank) (f:List Nd):Fn Tryz.prog T zbL [.d (dPM p),.d (dF f)] [] (.d (.bool true)) []:=by
 have hR:=znP (T:=T)
 have hA:=zt7 hT
 have hf:=zw0 (T:=T) p 8
 have hk:=zvb (T:=T) p hp f
 refine zj zz zdO (by show 2≤83;decide) ?_
 cases hb:znw p 8 with
 | false =>
  rw [hb] at hf
  (repeat' ((conv=>whnf);first|refine vA ?_|refine vE ?_|refine vH ?_|refine vT ?_|refine vZ ?_|refine yD hf ⟨⟨rfl,rfl⟩,⟨rfl,rfl⟩,rfl⟩ rfl ?_|refine yD hA (by (repeat refine ⟨⟨rfl,rfl⟩,?_⟩);rfl) rfl ?_));all_goals try conv=>whnf
 | true =>
  rw [hb] at hf
  cases hfi:zlt p f with
  | false =>
   rw [hfi] at hk
   (repeat' ((conv=>whnf);first|refine vA ?_|refine vE ?_|refine vG ?_|refine vH ?_|refine vT ?_|refine vZ ?_|refine yD hf ⟨⟨rfl,rfl⟩,⟨rfl,rfl⟩,rfl⟩ rfl ?_|refine yD hk ⟨⟨rfl,rfl⟩,⟨rfl,rfl⟩,rfl⟩ rfl ?_|refine yD hA (by (repeat refine ⟨⟨rfl,rfl⟩,?_⟩);rfl) rfl ?_));all_goals try conv=>whnf
  | true =>
   rw [hfi] at hk
   obtain ⟨hc0,hf0,h15,htok,hfit,hh⟩:=zwY hfi
   have cH:=zt6 (T:=T) p hp f
   rw [hh] at cH
   have hg:=zS hc0
   have hw1:=hg.w1
   have hw2:=hg.w2
   generalize hS:ev (zau p) 0#64 (zW f (f.length - 1))=S at cH
   have loop : ∀ (k:Nat),za6 p k S → ∀ w,w < p.W.toNat→zQ p k w≤w∧(S.getLsbD w=S.getLsbD (zQ p k w)):=by
    intro k hr w hw
    have hc:=zgt p k
    have h1:=hc.le w hw
    exact ⟨h1,Bool.eq_iff_iff.2 (hr w _ hw (by omega) (hc.idem w hw).symm)⟩
   have fin : ∀ k:Nat,za6 p k S→zee p k=(ptL p.W.toNat (zQ p k),0):=fun k _=>by rw [zee,if_neg (by omega),if_neg (by omega)];rfl
   have hcan:=zvt hf0
   have hco:=hcan.canon.1
   by_cases h33:zaK .i64 (fun p q=>p &&& ~~~q) (uni zaM (cL f):Int) 33=0
   ·have hpl:(zW f (f.length - 1)).all zfa:=(hco.all _).1 fun n hn=>zxt h33 hn (h15 n hn)
    have hr:=zmD hc0 _ htok hfit hpl
    rw [hS] at hr
    have hdep:zrm f=(ev zas 0 (zW f (f.length - 1)):Nat):=by
     have:=hco.pos
     rw [zrm,if_neg (by omega),zqb zx0 hco]
    generalize ev zas 0 (zW f (f.length - 1))=d at hr hdep
    have c2:=zvg (T:=T) f h15
    rw [hdep] at c2
    have c3:=zop (T:=T) hR p hp (d:Int)
    rw [fin d hr] at c3
    have hl:=loop d hr
    generalize zQ p d=q at c3 hl
    have l2:=zdE (n:=p.W.toNat) (q:=q)
    (repeat' ((conv=>whnf);first|refine vA ?_|refine vE ?_|refine vG ?_|refine vH ?_|((first|refine vD ?_ ?_|refine vF ?_ ?_)<;>intro hc<;>try simp only [vL] at hc)|refine vJ fun hg=>?_|refine vT ?_|(refine vU ?_ ?_;·kernel_rfl)|refine vZ ?_|refine yD hf ⟨⟨rfl,rfl⟩,⟨rfl,rfl⟩,rfl⟩ rfl ?_|refine yD hk ⟨⟨rfl,rfl⟩,⟨rfl,rfl⟩,rfl⟩ rfl ?_|refine yN cH ⟨⟨rfl,rfl⟩,⟨rfl,rfl⟩,rfl⟩ ?_|refine yN (zlv hR p hp) ⟨⟨rfl,rfl⟩,rfl⟩ ?_|refine yD (zhy f) ⟨⟨rfl,rfl⟩,rfl⟩ rfl ?_|refine yD c2 ⟨⟨rfl,rfl⟩,rfl⟩ rfl ?_|refine yN c3 ⟨⟨rfl,rfl⟩,⟨rfl,rfl⟩,rfl⟩ ?_));all_goals try conv=>whnf
    all_goals try (exact absurd h33 ‹¬zaK _ _ _ _=0›)
    all_goals try omega
    ·refine zX (fun (k:Nat)=>[(5,.d (.u64 (S))),(56,.d (dI (ptL p.W.toNat q))),(57,.d (.int .i64 (((ptL p.W.toNat q).map (D.int .i64)).length:Int))),(58,.d (.int .i64 ((k:Int))))]) (fun (k:Nat)=>k≤p.W.toNat) (fun (k:Nat)=>p.W.toNat - k) (0) (by simp) (by (repeat' first|exact trivial|exact rfl|refine And.intro ?_ ?_)) ?_
     rintro k hk
     by_cases hkl:k < p.W.toNat
     ·have e1:(ptL p.W.toNat q)[k]? = some ((q k:Nat):Int):=zb0 hkl
      obtain ⟨b1,b2⟩:=hl k hkl
      have b3:=zra b2
      (repeat' ((conv=>whnf);first|refine vA ?_|refine vH ?_|((first|refine vD ?_ ?_|refine vF ?_ ?_)<;>intro hc<;>try simp only [vL] at hc)|refine vT ?_|refine vN ‹_› ?_|((first|refine vO ?_ ?_|refine vP ?_ ?_);·omega)|(refine vU ?_ ?_;·kernel_rfl)|refine vZ ?_));all_goals try conv=>whnf
      all_goals try omega
      ·exact absurd b3 ‹_›
      ·exact ⟨k+1,[],[],by (omega),by (omega),by (refine ⟨rfl,rfl,rfl,?_,?_⟩;repeat' first|exact trivial|exact rfl|refine And.intro ?_ ?_)⟩
     ·(repeat' ((conv=>whnf);first|refine vA ?_|((first|refine vD ?_ ?_|refine vF ?_ ?_)<;>intro hc<;>try simp only [vL] at hc)|refine vT ?_|(refine vQ ?_ fun x hx=>?_;·omega)|((first|refine vO ?_ ?_|refine vP ?_ ?_);·omega)|(refine vU ?_ ?_;·kernel_rfl)|refine vZ ?_|refine yD hA (by (repeat refine ⟨⟨rfl,rfl⟩,?_⟩);rfl) rfl ?_));all_goals try conv=>whnf
      all_goals try omega
   ·have hr:za6 p 64 S:=by
     have hag:=zi5 hc0 hc0 ((zwV hc0).bis hc0) _ (zqR htok) hfit
     rw [hS] at hag
     exact fun v w hv hw h=>hag v w ⟨hv,hw,h⟩
    have c4:=zlv (T:=T) hR p hp
    have e64:zee p 64=_:=fin 64 hr
    rw [e64] at c4
    have hl:=loop 64 hr
    generalize zQ p 64=q at c4 hl
    have l2:=zdE (n:=p.W.toNat) (q:=q)
    (repeat' ((conv=>whnf);first|refine vA ?_|refine vE ?_|refine vG ?_|refine vH ?_|((first|refine vD ?_ ?_|refine vF ?_ ?_)<;>intro hc<;>try simp only [vL] at hc)|refine vJ fun hg=>?_|refine vT ?_|refine vZ ?_|refine yD hf ⟨⟨rfl,rfl⟩,⟨rfl,rfl⟩,rfl⟩ rfl ?_|refine yD hk ⟨⟨rfl,rfl⟩,⟨rfl,rfl⟩,rfl⟩ rfl ?_|refine yN cH ⟨⟨rfl,rfl⟩,⟨rfl,rfl⟩,rfl⟩ ?_|refine yN c4 ⟨⟨rfl,rfl⟩,rfl⟩ ?_|refine yD (zhy f) ⟨⟨rfl,rfl⟩,rfl⟩ rfl ?_));all_goals try conv=>whnf
    all_goals try (exact absurd ‹zaK _ _ _ _=0› h33)
    all_goals try omega
    ·refine zX (fun (k:Nat)=>[(5,.d (.u64 (S))),(56,.d (dI (ptL p.W.toNat q))),(57,.d (.int .i64 (((ptL p.W.toNat q).map (D.int .i64)).length:Int))),(58,.d (.int .i64 ((k:Int))))]) (fun (k:Nat)=>k≤p.W.toNat) (fun (k:Nat)=>p.W.toNat - k) (0) (by simp) (by (repeat' first|exact trivial|exact rfl|refine And.intro ?_ ?_)) ?_
     rintro k hk
     by_cases hkl:k < p.W.toNat
     ·have e1:(ptL p.W.toNat q)[k]? = some ((q k:Nat):Int):=zb0 hkl
      obtain ⟨b1,b2⟩:=hl k hkl
      have b3:=zra b2
      (repeat' ((conv=>whnf);first|refine vA ?_|refine vH ?_|((first|refine vD ?_ ?_|refine vF ?_ ?_)<;>intro hc<;>try simp only [vL] at hc)|refine vT ?_|refine vN ‹_› ?_|((first|refine vO ?_ ?_|refine vP ?_ ?_);·omega)|(refine vU ?_ ?_;·kernel_rfl)|refine vZ ?_));all_goals try conv=>whnf
      all_goals try omega
      ·exact absurd b3 ‹_›
      ·exact ⟨k+1,[],[],by (omega),by (omega),by (refine ⟨rfl,rfl,rfl,?_,?_⟩;repeat' first|exact trivial|exact rfl|refine And.intro ?_ ?_)⟩
     ·(repeat' ((conv=>whnf);first|refine vA ?_|((first|refine vD ?_ ?_|refine vF ?_ ?_)<;>intro hc<;>try simp only [vL] at hc)|refine vT ?_|(refine vQ ?_ fun x hx=>?_;·omega)|((first|refine vO ?_ ?_|refine vP ?_ ?_);·omega)|(refine vU ?_ ?_;·kernel_rfl)|refine vZ ?_|refine yD hA (by (repeat refine ⟨⟨rfl,rfl⟩,?_⟩);rfl) rfl ?_));all_goals try conv=>whnf
      all_goals try omega
end Go.Ab
namespace Go.Proofs.YtmnbcipineblbaaGreatDoor
open Go Go.Ab Go.RowKit Go.ChangeShapes Go.WideShapes
set_option maxRecDepth 100000 in
theorem plausbisimSatisfies_holds:Rows.PlausbisimSatisfiesSaid :=
 OpenClaim.holds_of_wide 6 Tryz.f6 rfl rfl rfl rfl rfl rfl rfl ⟨rfl,rfl,rfl,rfl,rfl⟩ rfl rfl rfl rfl rfl (by kernel_rfl) Tryz.func6 (by kernel_rfl)
  (of_decide_eq_true (by kernel_rfl)) (by unfold Func.isWrapper;rw [if_neg (of_decide_eq_false (by kernel_rfl))];exact ⟨rfl,rfl⟩)
  (fun os started H enc _=>zug (C:=Tryz.checked) (s:=Rows.plausbisimSatisfiesSpec) (laid:=laidL) knob started (by kernel_rfl) Tryz.func6 laidOut [25,39] Tryz.params6 rfl Tryz.underlying4 rfl (by kernel_rfl)
   (fun ds hds=>by match ds,hds with|[d1,d2],_=>rfl)
   (ChangeSpec.witness_shaped (enc:=enc) (C:=Tryz.checked) (os:=os) (X:=fun w _=>laidMetH Tryz.prog laidL w) false (World.doorLaid Tryz.prog 14 os)
    #[.agg #[.int .i64 0,.slice none 0 0,.slice none 0 0,.slice none 0 0],.slice none 0 0] 8 rfl (World.shaped_of_RefB (by kernel_rfl) (by kernel_rfl)) (by kernel_rfl) (by kernel_rfl) (by kernel_rfl) (door_met os _))
   (fun W hL=>⟨TOf W,(zvy hL).1,(zvy hL).2,fun ds hds=>by
    obtain ⟨p1,r,rfl,hc1,hp1,k1⟩:=zuP hds
    obtain ⟨f2,r,rfl,k2⟩:=zwG k1
    obtain rfl:=zzZ k2
    exact zqz (tz_of hL) p1 hp1 f2⟩))
theorem plausbisimSatisfies_card:Rows.PlausbisimSatisfiesCardSaid :=
 Claim7.holds_tied_plain_at .later [] [.data] true (true, "18dfd4ab517486b5b4083ac9653826283ad51281ee160e75dab1c2a0d205e19f") false
  plausbisimSatisfies_holds (fun _ h=>by cases h) (by kernel_rfl) (fun _ h=>by cases h) plausbisimSatisfies_row_tie rfl ⟨rfl,rfl⟩ (by kernel_rfl) rfl
  (fun f fn hf hfn=>by
   obtain rfl:f=6:=Option.some.inj ((show Tryz.prog.funcNamed Rows.plausbisimSatisfiesRow.func=some 6 by kernel_rfl).symm.trans hf) |>.symm
   obtain rfl:fn=Tryz.f6:=(Option.some.inj (Tryz.func6.symm.trans hfn)).symm
   exact ⟨by kernel_rfl,fun j t ht=>by
    rw [Tryz.params6] at ht
    have hm:t∈[25,39]:=by
     have:=List.mem_of_getElem? (l:=[25,39]) (i:=j) (by simpa using ht)
     exact this
    have hall:([25,39].all fun t=>Tryz.prog.wantsStandIn t==false)=true:=by kernel_rfl
    exact eq_of_beq (List.all_eq_true.1 hall t hm)⟩)
  (by kernel_rfl)
end Go.Proofs.YtmnbcipineblbaaGreatDoor
