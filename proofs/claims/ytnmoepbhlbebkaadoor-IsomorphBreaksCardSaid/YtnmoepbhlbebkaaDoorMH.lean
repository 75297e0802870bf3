/- What is proved here: the law IsomorphBreaks returns true at every input and leaves its arguments as they were. The condition is the row own: the listed table of math bits holds what the text lays. -/
import Derived.Test.YtnmoepbhlbebkaaDoorMG
set_option linter.unusedVariables false
set_option linter.unusedSimpArgs false
set_option linter.unusedSectionVars false
namespace Go.Ab
open Go Go.Proofs
section
open K
def f_wittinglaw16_IsomorphBreaks:Nat:=4
def c_wittinglaw16_IsomorphBreaks:CFn:=⟨111,[.tmp 4],(q [(.reg [o 2 (.box 3 (t 0)),o 3 (.box 3 (t 1)),o 4 (.mv (c .bf))]),
 (.regd [o 13 (f 0 3),o 14 (l 13),o 15 (f 1 3),o 16 (l 15),o 17 (f 2 3),o 18 (l 17),o 5 (m 14),o 6 (m 16),o 7 (m 18)] [0,1,0,4,0,16,3,79,255]),
 (q [(.reg [o 19 (la 3 2),o 20 (.call 5 [(t 19),(c (n 7))]),o 21 (.un .not (t 20)),o 22 (m 21),g 23 22 false (la 3 2),g 24 22 false (.call 13 [(t 23)]),g 25 22 false (bc .neq 24 (n 0)),o 26 (pt 22 25),o 27 (m 26),g 28 27 false (m 5),g 29 27 false (bc .lss 28 (n 0)),o 30 (pt 27 29),o 31 (m 30),g 32 31 false (m 5),g 33 31 false (f 2 2),g 34 31 false (l 33),g 35 31 false (ln 34),g 36 31 false (b .geq 32 35),o 37 (pt 31 36),o 38 (m 37),g 39 38 false (m 6),g 40 38 false (bc .lss 39 (n 0)),o 41 (pt 38 40),o 42 (m 41),g 43 42 false (m 6),g 44 42 false (f 0 2),g 45 42 false (l 44),g 46 42 false (b .geq 43 45),o 47 (pt 42 46),o 48 (m 47),g 49 48 false (m 7),g 50 48 false (bc .lss 49 (n 0)),o 51 (pt 48 50),o 52 (m 51),g 53 52 false (m 7),g 54 52 false (f 0 2),g 55 52 false (l 54),g 56 52 false (b .geq 53 55),o 57 (pt 52 56)]),
 (i 57 (q [(.reg [o 58 (.call 14 []),o 4 (m 58)]),
 .ret]) .skip)]),
 (.reg [o 59 (la 3 2),o 60 (.call 15 [(t 59)]),o 8 (.alloc [(n 0),(.nils 1),(.nils 1)]),w (.store 3 (t 8) (t 60))]),
 (.regd [o 61 (f 2 8),o 62 (l 61),o 63 (m 5),o 64 (ia 1 62 63),o 65 (l 64),o 66 (m 6),o 67 (ia 1 65 66),o 68 (l 67),o 69 (m 7),o 70 (.bin .shl (c (u 1)) (t 69)),o 71 (b .xor 68 70),o 72 (ia 1 65 66),w (.store 1 (t 72) (t 71))] [0,1,0,7,15,0,63,127,0,256,1023,2047,4095]),
 (.reg [o 73 (f 0 2),o 74 (l 73),o 75 (.mkslice 1 8 [(n 0)] (t 74) (t 74)),o 9 (m 75)]),
 (q [(.reg [o 76 (m 9),o 77 (ln 76),o 78 (.mv (c (n 0)))]),
 (.block 0 (.loop (q [(.reg [o 79 (b .lss 78 77)]),
 (i 79 .skip (.exit 0)),
 (.block 1 (q [(.reg [o 80 (m 78),o 10 (m 80)]),
 (.reg [o 81 (m 9),o 82 (m 10),o 83 (m 10),o 84 (ia 1 81 82),w (.store 1 (t 84) (t 83))])])),
 (.reg [o 85 (bc .add 78 (n 1)),o 78 (m 85)])])))]),
 (.reg [o 87 (la 3 2),o 88 (la 3 8),o 89 (.call 16 [(t 87),(t 88)]),o 86 (m 89),o 90 (e 86 0),o 91 (e 86 1),o 11 (m 90),o 12 (m 91)]),
 (.reg [o 92 (la 3 2),o 93 (la 3 8),o 94 (m 9),o 95 (.call 17 [(t 92),(t 93),(t 94)]),o 96 (bc .eql 95 (n 13)),o 97 (m 96),g 98 97 true (m 12),g 99 97 true (bc .eql 98 (n 6)),o 100 (pf 97 99),o 101 (m 100),g 102 101 true (la 3 2),g 103 101 true (la 3 2),g 104 101 true (m 9),g 105 101 true (.call 17 [(t 102),(t 103),(t 104)]),g 106 101 true (bc .eql 105 (n 0)),o 107 (pf 101 106),o 108 (m 107),g 109 108 true (.call 14 []),o 110 (pf 108 109),o 4 (m 110)]),
 .ret])⟩
end
theorem k_wittinglaw16_IsomorphBreaks:ze Tryd.prog f_wittinglaw16_IsomorphBreaks=some c_wittinglaw16_IsomorphBreaks:=by kernel_rfl
end Go.Ab
namespace Go.Ab
open Go Go.Proofs
set_option maxRecDepth 10000
set_option maxHeartbeats 4000000
variable {T:Nat→Obj→Prop}
theorem map_flip {r:List (BitVec 64)} {v w:Nat} {x:BitVec 64} (h:r[v]? = some x):(r.map D.u64).set v (D.u64 (x ^^^ 1#64 <<< w))=(zmO r v w).map D.u64:=by
 rw [zmO,List.map_set]
 simp [List.getD,h]
def numsD (n k:Nat):List D:=(List.range k).map (fun (i:Nat)=>D.int .i64 (i:Int))++List.replicate (n - k) (D.int .i64 0)
theorem nums_zero (n:Nat):List.replicate n (D.int .i64 0)=numsD n 0:=by simp [numsD]
theorem nums_len {n k:Nat} (h:k≤n):(numsD n k).length=n:=by simp [numsD];omega
theorem nums_set {n k:Nat} (h:k < n):(numsD n k).set k (D.int .i64 (k:Int))=numsD n (k+1):=by
 unfold numsD
 rw [List.set_append_right _ _ (by simp),List.range_succ,List.map_append,List.append_assoc]
 congr 1
 obtain ⟨j,hj⟩ : ∃ j,n - k=j+1:=⟨n - k - 1,by omega⟩
 rw [hj,List.replicate_succ,show n - (k+1)=j by omega]
 simp
theorem nums_all (n:Nat):numsD n n=(zsn n).map (D.int .i64):=by simp [numsD,zsn]
theorem law_Breaks (hT:zcl T) (m:KM) (a v w:Int):Fn Tryd.prog T f_wittinglaw16_IsomorphBreaks [.d (dKM m),.d (.agg [.int .i64 a,.int .i64 v,.int .i64 w])] [] (.d (.bool true)) []:=by
 have hA:=zBX hT
 have hf:=zCt (T:=T) m 7
 have hk:=zCd (T:=T) m
 refine zb zk k_wittinglaw16_IsomorphBreaks (by show 2≤111;decide) ?_
 cases hbw:zs0 m 7 with
 | false =>
  rw [hbw] at hf
  (repeat' ((conv=>whnf);first|refine vA ?_|refine vE ?_|refine vH ?_|refine vT ?_|(refine vU ?_ ?_;·kernel_rfl)|refine vZ ?_|refine yD hf ⟨⟨rfl,rfl⟩,⟨rfl,rfl⟩,rfl⟩ rfl ?_|refine yD hA (by (repeat refine ⟨⟨rfl,rfl⟩,?_⟩);rfl) rfl ?_));all_goals try conv=>whnf
 | true =>
  rw [hbw] at hf
  (repeat' ((conv=>whnf);first|refine vA ?_|refine vE ?_|refine vG ?_|((first|refine vD ?_ ?_|refine vF ?_ ?_)<;>intro hc<;>try simp only [vL] at hc)|refine vJ fun hg=>?_|refine vT ?_|(refine vU ?_ ?_;·kernel_rfl)|refine vZ ?_|refine yD hf ⟨⟨rfl,rfl⟩,⟨rfl,rfl⟩,rfl⟩ rfl ?_|refine yD hk ⟨⟨rfl,rfl⟩,rfl⟩ rfl ?_|refine yD hA (by (repeat refine ⟨⟨rfl,rfl⟩,?_⟩);rfl) rfl ?_));all_goals try conv=>whnf
  have hk0:zi m=0:=by assumption
  have gm:=zw hk0
  have h7:m.W≤7:=by
   have:=of_decide_eq_true hbw
   have w2:=gm.w2
   omega
  obtain ⟨g,rfl⟩ : ∃ g:Nat,a=(g:Int):=⟨a.toNat,by omega⟩
  obtain ⟨v,rfl⟩ : ∃ g:Nat,v=(g:Int):=⟨v.toNat,by omega⟩
  obtain ⟨w,rfl⟩ : ∃ g:Nat,w=(g:Int):=⟨w.toNat,by omega⟩
  have hg:g < m.rel.length:=by omega
  have hv:v < m.W.toNat:=by omega
  have hw:w < m.W.toNat:=by omega
  have c1:=zCk (T:=T) m gm.v8 (by omega) gm.n4 (fun r hr=>by have:=gm.len r hr;have:=gm.w2;omega)
  have c2:=zAO (T:=T) hT m (zeb m g v w)
  rw [zBJ hk0 hg hv hw (by omega)] at c2
  have c3:=zCc (T:=T) m (zeb m g v w) (zsn m.W.toNat)
  rw [zAN hk0 hg hv hw] at c3
  have c4:=zCc (T:=T) m m (zsn m.W.toNat)
  rw [zAP hk0] at c4
  have n4:=gm.n4
  have hl:=fun r hr=>gm.len r hr
  have hwN:((w:Nat):Int).toNat=w:=Int.toNat_natCast w
  clear hf hk hbw gm hk0
  obtain ⟨W,val,rel⟩:=m
  rcases rel with _|⟨r0,_|⟨r1,_|⟨r2,_|⟨r3,_|⟨r4,rel⟩⟩⟩⟩⟩
  ·exfalso;dsimp only [List.length] at hg;omega
  ·dsimp only [List.length] at hg
   have hgs:g=0:=by omega
   obtain rfl:=hgs
   ·have hlg:r0.length=W.toNat:=by have:=hl r0 (by simp);dsimp only at this;omega
    refine zo.res (c1) (by (repeat refine ⟨⟨rfl,rfl⟩,?_⟩);rfl) ?_
    (repeat' ((conv=>whnf);first|refine vA ?_|refine vK fun hg=>?_|refine vT ?_|(refine vQ ?_ fun x hx=>?_;·(simp only [vM] at *;omega))|(refine vP ?_ ?_;·first|omega|(simp only [vM] at *;omega))|(refine vU ?_ ?_;·kernel_rfl)|fail));all_goals try conv=>whnf
    rename_i x hx _
    rw [Int.toNat_natCast] at hx
    refine zy (fun ((k,S,q):Nat×List D×List D)=>[(2,.ptr 0 0),(8,.ptr 1 0),(9,.own 2),(77,.d (.int .i64 (((List.replicate W.toNat (D.int .i64 0)).length:Int)))),(78,.d (.int .i64 ((k:Int))))]) (fun ((k,S,q):Nat×List D×List D)=>[(0,some (zaH ⟨W,val,[r0]⟩)),(1,some (.box [.d (.int .i64 W),.own 3,.bown 4 1])),(2,some (.row 1 S)),(3,some (.row 1 (val.map D.u64))),(4,some (.box [.own 5])),(5,some (.row 1 q))]) 6 (fun ((k,S,q):Nat×List D×List D)=>k≤W.toNat∧S=numsD W.toNat k∧q=(zmO r0 v w).map D.u64) (fun ((k,S,q):Nat×List D×List D)=>W.toNat - k) ((0,List.replicate W.toNat (D.int .i64 0),(r0.map D.u64).set v (D.u64 (x ^^^ 1#64 <<< ((w:Nat):Int).toNat)))) [(0,0),(1,5),(2,6),(3,2),(4,3),(5,4)] [] (⟨by omega,nums_zero _,by rw [hwN];exact map_flip hx⟩) (by (refine ⟨rfl,rfl,rfl,?_,?_⟩;repeat' first|exact trivial|exact rfl|refine And.intro ?_ ?_|refine ⟨_,rfl,?_⟩|decide)) ?_
    rintro ⟨k,S,q⟩ ⟨i1,rfl,rfl⟩
    have hSl:=nums_len i1
    have hz:(List.replicate W.toNat (D.int .i64 0)).length=W.toNat:=List.length_replicate
    by_cases hkl:k < W.toNat
    ·(repeat' ((conv=>whnf);first|refine vA ?_|(refine vF ?_ ?_<;>intro hc<;>try simp only [vL] at hc)|refine vT ?_|((first|refine vO ?_ ?_|refine vP ?_ ?_);·first|omega|(simp only [vM] at *;omega))|fail));all_goals try conv=>whnf
     ·refine ⟨(k+1,_,_),[(0,0),(1,1),(2,2),(3,3),(4,4),(5,5)],[],?_,?_,by (refine ⟨rfl,rfl,rfl,?_,?_⟩;repeat' first|exact trivial|exact rfl|refine And.intro ?_ ?_|refine ⟨_,rfl,?_⟩|decide)⟩
      ·exact ⟨by omega,nums_set hkl,rfl⟩
      ·((simp only [vM] at *;omega))
     ·exfalso;omega
    ·obtain rfl:k=W.toNat:=by omega
     rw [nums_all]
     (repeat' ((conv=>whnf);first|refine vA ?_|(refine vF ?_ ?_<;>intro hc<;>try simp only [vL] at hc)|refine vT ?_|((first|refine vO ?_ ?_|refine vP ?_ ?_);·omega)|fail));all_goals try conv=>whnf
     ·exfalso;omega
     ·refine zo.data (c2) (by (repeat refine ⟨⟨rfl,rfl⟩,?_⟩);rfl) rfl ?_
      (repeat' ((conv=>whnf);first|refine vA ?_|refine vT ?_));all_goals try conv=>whnf
      refine zo.data (c3) (by (repeat refine ⟨⟨rfl,rfl⟩,?_⟩);rfl) rfl ?_
      (repeat' ((conv=>whnf);first|refine vG ?_|refine vT ?_));all_goals try conv=>whnf
      refine zo.data (c4) (by (repeat refine ⟨⟨rfl,rfl⟩,?_⟩);rfl) rfl ?_
      (repeat' ((conv=>whnf);first|refine vG ?_|refine vT ?_|refine vZ ?_|refine yD hA (by (repeat refine ⟨⟨rfl,rfl⟩,?_⟩);rfl) rfl ?_));all_goals try conv=>whnf
      skip
  ·dsimp only [List.length] at hg
   have hgs:g=0∨g=1:=by omega
   rcases hgs with rfl|rfl
   ·have hlg:r0.length=W.toNat:=by have:=hl r0 (by simp);dsimp only at this;omega
    refine zo.res (c1) (by (repeat refine ⟨⟨rfl,rfl⟩,?_⟩);rfl) ?_
    (repeat' ((conv=>whnf);first|refine vA ?_|refine vK fun hg=>?_|refine vT ?_|(refine vQ ?_ fun x hx=>?_;·(simp only [vM] at *;omega))|(refine vP ?_ ?_;·first|omega|(simp only [vM] at *;omega))|(refine vU ?_ ?_;·kernel_rfl)|fail));all_goals try conv=>whnf
    rename_i x hx _
    rw [Int.toNat_natCast] at hx
    refine zy (fun ((k,S,q):Nat×List D×List D)=>[(2,.ptr 0 0),(8,.ptr 1 0),(9,.own 2),(77,.d (.int .i64 (((List.replicate W.toNat (D.int .i64 0)).length:Int)))),(78,.d (.int .i64 ((k:Int))))]) (fun ((k,S,q):Nat×List D×List D)=>[(0,some (zaH ⟨W,val,[r0,r1]⟩)),(1,some (.box [.d (.int .i64 W),.own 3,.bown 4 2])),(2,some (.row 1 S)),(3,some (.row 1 (val.map D.u64))),(4,some (.box [.own 5,.own 6])),(5,some (.row 1 q)),(6,some (.row 1 (r1.map D.u64)))]) 7 (fun ((k,S,q):Nat×List D×List D)=>k≤W.toNat∧S=numsD W.toNat k∧q=(zmO r0 v w).map D.u64) (fun ((k,S,q):Nat×List D×List D)=>W.toNat - k) ((0,List.replicate W.toNat (D.int .i64 0),(r0.map D.u64).set v (D.u64 (x ^^^ 1#64 <<< ((w:Nat):Int).toNat)))) [(0,0),(1,6),(2,7),(3,2),(4,3),(5,4),(6,5)] [] (⟨by omega,nums_zero _,by rw [hwN];exact map_flip hx⟩) (by (refine ⟨rfl,rfl,rfl,?_,?_⟩;repeat' first|exact trivial|exact rfl|refine And.intro ?_ ?_|refine ⟨_,rfl,?_⟩|decide)) ?_
    rintro ⟨k,S,q⟩ ⟨i1,rfl,rfl⟩
    have hSl:=nums_len i1
    have hz:(List.replicate W.toNat (D.int .i64 0)).length=W.toNat:=List.length_replicate
    by_cases hkl:k < W.toNat
    ·(repeat' ((conv=>whnf);first|refine vA ?_|(refine vF ?_ ?_<;>intro hc<;>try simp only [vL] at hc)|refine vT ?_|((first|refine vO ?_ ?_|refine vP ?_ ?_);·first|omega|(simp only [vM] at *;omega))|fail));all_goals try conv=>whnf
     ·refine ⟨(k+1,_,_),[(0,0),(1,1),(2,2),(3,3),(4,4),(5,5),(6,6)],[],?_,?_,by (refine ⟨rfl,rfl,rfl,?_,?_⟩;repeat' first|exact trivial|exact rfl|refine And.intro ?_ ?_|refine ⟨_,rfl,?_⟩|decide)⟩
      ·exact ⟨by omega,nums_set hkl,rfl⟩
      ·((simp only [vM] at *;omega))
     ·exfalso;omega
    ·obtain rfl:k=W.toNat:=by omega
     rw [nums_all]
     (repeat' ((conv=>whnf);first|refine vA ?_|(refine vF ?_ ?_<;>intro hc<;>try simp only [vL] at hc)|refine vT ?_|((first|refine vO ?_ ?_|refine vP ?_ ?_);·omega)|fail));all_goals try conv=>whnf
     ·exfalso;omega
     ·refine zo.data (c2) (by (repeat refine ⟨⟨rfl,rfl⟩,?_⟩);rfl) rfl ?_
      (repeat' ((conv=>whnf);first|refine vA ?_|refine vT ?_));all_goals try conv=>whnf
      refine zo.data (c3) (by (repeat refine ⟨⟨rfl,rfl⟩,?_⟩);rfl) rfl ?_
      (repeat' ((conv=>whnf);first|refine vG ?_|refine vT ?_));all_goals try conv=>whnf
      refine zo.data (c4) (by (repeat refine ⟨⟨rfl,rfl⟩,?_⟩);rfl) rfl ?_
      (repeat' ((conv=>whnf);first|refine vG ?_|refine vT ?_|refine vZ ?_|refine yD hA (by (repeat refine ⟨⟨rfl,rfl⟩,?_⟩);rfl) rfl ?_));all_goals try conv=>whnf
      skip
   ·have hlg:r1.length=W.toNat:=by have:=hl r1 (by simp);dsimp only at this;omega
    refine zo.res (c1) (by (repeat refine ⟨⟨rfl,rfl⟩,?_⟩);rfl) ?_
    (repeat' ((conv=>whnf);first|refine vA ?_|refine vK fun hg=>?_|refine vT ?_|(refine vQ ?_ fun x hx=>?_;·(simp only [vM] at *;omega))|(refine vP ?_ ?_;·first|omega|(simp only [vM] at *;omega))|(refine vU ?_ ?_;·kernel_rfl)|fail));all_goals try conv=>whnf
    rename_i x hx _
    rw [Int.toNat_natCast] at hx
    refine zy (fun ((k,S,q):Nat×List D×List D)=>[(2,.ptr 0 0),(8,.ptr 1 0),(9,.own 2),(77,.d (.int .i64 (((List.replicate W.toNat (D.int .i64 0)).length:Int)))),(78,.d (.int .i64 ((k:Int))))]) (fun ((k,S,q):Nat×List D×List D)=>[(0,some (zaH ⟨W,val,[r0,r1]⟩)),(1,some (.box [.d (.int .i64 W),.own 3,.bown 4 2])),(2,some (.row 1 S)),(3,some (.row 1 (val.map D.u64))),(4,some (.box [.own 5,.own 6])),(5,some (.row 1 (r0.map D.u64))),(6,some (.row 1 q))]) 7 (fun ((k,S,q):Nat×List D×List D)=>k≤W.toNat∧S=numsD W.toNat k∧q=(zmO r1 v w).map D.u64) (fun ((k,S,q):Nat×List D×List D)=>W.toNat - k) ((0,List.replicate W.toNat (D.int .i64 0),(r1.map D.u64).set v (D.u64 (x ^^^ 1#64 <<< ((w:Nat):Int).toNat)))) [(0,0),(1,6),(2,7),(3,2),(4,3),(5,4),(6,5)] [] (⟨by omega,nums_zero _,by rw [hwN];exact map_flip hx⟩) (by (refine ⟨rfl,rfl,rfl,?_,?_⟩;repeat' first|exact trivial|exact rfl|refine And.intro ?_ ?_|refine ⟨_,rfl,?_⟩|decide)) ?_
    rintro ⟨k,S,q⟩ ⟨i1,rfl,rfl⟩
    have hSl:=nums_len i1
    have hz:(List.replicate W.toNat (D.int .i64 0)).length=W.toNat:=List.length_replicate
    by_cases hkl:k < W.toNat
    ·(repeat' ((conv=>whnf);first|refine vA ?_|(refine vF ?_ ?_<;>intro hc<;>try simp only [vL] at hc)|refine vT ?_|((first|refine vO ?_ ?_|refine vP ?_ ?_);·first|omega|(simp only [vM] at *;omega))|fail));all_goals try conv=>whnf
     ·refine ⟨(k+1,_,_),[(0,0),(1,1),(2,2),(3,3),(4,4),(5,5),(6,6)],[],?_,?_,by (refine ⟨rfl,rfl,rfl,?_,?_⟩;repeat' first|exact trivial|exact rfl|refine And.intro ?_ ?_|refine ⟨_,rfl,?_⟩|decide)⟩
      ·exact ⟨by omega,nums_set hkl,rfl⟩
      ·((simp only [vM] at *;omega))
     ·exfalso;omega
    ·obtain rfl:k=W.toNat:=by omega
     rw [nums_all]
     (repeat' ((conv=>whnf);first|refine vA ?_|(refine vF ?_ ?_<;>intro hc<;>try simp only [vL] at hc)|refine vT ?_|((first|refine vO ?_ ?_|refine vP ?_ ?_);·omega)|fail));all_goals try conv=>whnf
     ·exfalso;omega
     ·refine zo.data (c2) (by (repeat refine ⟨⟨rfl,rfl⟩,?_⟩);rfl) rfl ?_
      (repeat' ((conv=>whnf);first|refine vA ?_|refine vT ?_));all_goals try conv=>whnf
      refine zo.data (c3) (by (repeat refine ⟨⟨rfl,rfl⟩,?_⟩);rfl) rfl ?_
      (repeat' ((conv=>whnf);first|refine vG ?_|refine vT ?_));all_goals try conv=>whnf
      refine zo.data (c4) (by (repeat refine ⟨⟨rfl,rfl⟩,?_⟩);rfl) rfl ?_
      (repeat' ((conv=>whnf);first|refine vG ?_|refine vT ?_|refine vZ ?_|refine yD hA (by (repeat refine ⟨⟨rfl,rfl⟩,?_⟩);rfl) rfl ?_));all_goals try conv=>whnf
      skip
  ·dsimp only [List.length] at hg
   have hgs:g=0∨g=1∨g=2:=by omega
   rcases hgs with rfl|rfl|rfl
   ·have hlg:r0.length=W.toNat:=by have:=hl r0 (by simp);dsimp only at this;omega
    refine zo.res (c1) (by (repeat refine ⟨⟨rfl,rfl⟩,?_⟩);rfl) ?_
    (repeat' ((conv=>whnf);first|refine vA ?_|refine vK fun hg=>?_|refine vT ?_|(refine vQ ?_ fun x hx=>?_;·(simp only [vM] at *;omega))|(refine vP ?_ ?_;·first|omega|(simp only [vM] at *;omega))|(refine vU ?_ ?_;·kernel_rfl)|fail));all_goals try conv=>whnf
    rename_i x hx _
    rw [Int.toNat_natCast] at hx
    refine zy (fun ((k,S,q):Nat×List D×List D)=>[(2,.ptr 0 0),(8,.ptr 1 0),(9,.own 2),(77,.d (.int .i64 (((List.replicate W.toNat (D.int .i64 0)).length:Int)))),(78,.d (.int .i64 ((k:Int))))]) (fun ((k,S,q):Nat×List D×List D)=>[(0,some (zaH ⟨W,val,[r0,r1,r2]⟩)),(1,some (.box [.d (.int .i64 W),.own 3,.bown 4 3])),(2,some (.row 1 S)),(3,some (.row 1 (val.map D.u64))),(4,some (.box [.own 5,.own 6,.own 7])),(5,some (.row 1 q)),(6,some (.row 1 (r1.map D.u64))),(7,some (.row 1 (r2.map D.u64)))]) 8 (fun ((k,S,q):Nat×List D×List D)=>k≤W.toNat∧S=numsD W.toNat k∧q=(zmO r0 v w).map D.u64) (fun ((k,S,q):Nat×List D×List D)=>W.toNat - k) ((0,List.replicate W.toNat (D.int .i64 0),(r0.map D.u64).set v (D.u64 (x ^^^ 1#64 <<< ((w:Nat):Int).toNat)))) [(0,0),(1,7),(2,8),(3,2),(4,3),(5,4),(6,5),(7,6)] [] (⟨by omega,nums_zero _,by rw [hwN];exact map_flip hx⟩) (by (refine ⟨rfl,rfl,rfl,?_,?_⟩;repeat' first|exact trivial|exact rfl|refine And.intro ?_ ?_|refine ⟨_,rfl,?_⟩|decide)) ?_
    rintro ⟨k,S,q⟩ ⟨i1,rfl,rfl⟩
    have hSl:=nums_len i1
    have hz:(List.replicate W.toNat (D.int .i64 0)).length=W.toNat:=List.length_replicate
    by_cases hkl:k < W.toNat
    ·(repeat' ((conv=>whnf);first|refine vA ?_|(refine vF ?_ ?_<;>intro hc<;>try simp only [vL] at hc)|refine vT ?_|((first|refine vO ?_ ?_|refine vP ?_ ?_);·first|omega|(simp only [vM] at *;omega))|fail));all_goals try conv=>whnf
     ·refine ⟨(k+1,_,_),[(0,0),(1,1),(2,2),(3,3),(4,4),(5,5),(6,6),(7,7)],[],?_,?_,by (refine ⟨rfl,rfl,rfl,?_,?_⟩;repeat' first|exact trivial|exact rfl|refine And.intro ?_ ?_|refine ⟨_,rfl,?_⟩|decide)⟩
      ·exact ⟨by omega,nums_set hkl,rfl⟩
      ·((simp only [vM] at *;omega))
     ·exfalso;omega
    ·obtain rfl:k=W.toNat:=by omega
     rw [nums_all]
     (repeat' ((conv=>whnf);first|refine vA ?_|(refine vF ?_ ?_<;>intro hc<;>try simp only [vL] at hc)|refine vT ?_|((first|refine vO ?_ ?_|refine vP ?_ ?_);·omega)|fail));all_goals try conv=>whnf
     ·exfalso;omega
     ·refine zo.data (c2) (by (repeat refine ⟨⟨rfl,rfl⟩,?_⟩);rfl) rfl ?_
      (repeat' ((conv=>whnf);first|refine vA ?_|refine vT ?_));all_goals try conv=>whnf
      refine zo.data (c3) (by (repeat refine ⟨⟨rfl,rfl⟩,?_⟩);rfl) rfl ?_
      (repeat' ((conv=>whnf);first|refine vG ?_|refine vT ?_));all_goals try conv=>whnf
      refine zo.data (c4) (by (repeat refine ⟨⟨rfl,rfl⟩,?_⟩);rfl) rfl ?_
      (repeat' ((conv=>whnf);first|refine vG ?_|refine vT ?_|refine vZ ?_|refine yD hA (by (repeat refine ⟨⟨rfl,rfl⟩,?_⟩);rfl) rfl ?_));all_goals try conv=>whnf
      skip
   ·have hlg:r1.length=W.toNat:=by have:=hl r1 (by simp);dsimp only at this;omega
    refine zo.res (c1) (by (repeat refine ⟨⟨rfl,rfl⟩,?_⟩);rfl) ?_
    (repeat' ((conv=>whnf);first|refine vA ?_|refine vK fun hg=>?_|refine vT ?_|(refine vQ ?_ fun x hx=>?_;·(simp only [vM] at *;omega))|(refine vP ?_ ?_;·first|omega|(simp only [vM] at *;omega))|(refine vU ?_ ?_;·kernel_rfl)|fail));all_goals try conv=>whnf
    rename_i x hx _
    rw [Int.toNat_natCast] at hx
    refine zy (fun ((k,S,q):Nat×List D×List D)=>[(2,.ptr 0 0),(8,.ptr 1 0),(9,.own 2),(77,.d (.int .i64 (((List.replicate W.toNat (D.int .i64 0)).length:Int)))),(78,.d (.int .i64 ((k:Int))))]) (fun ((k,S,q):Nat×List D×List D)=>[(0,some (zaH ⟨W,val,[r0,r1,r2]⟩)),(1,some (.box [.d (.int .i64 W),.own 3,.bown 4 3])),(2,some (.row 1 S)),(3,some (.row 1 (val.map D.u64))),(4,some (.box [.own 5,.own 6,.own 7])),(5,some (.row 1 (r0.map D.u64))),(6,some (.row 1 q)),(7,some (.row 1 (r2.map D.u64)))]) 8 (fun ((k,S,q):Nat×List D×List D)=>k≤W.toNat∧S=numsD W.toNat k∧q=(zmO r1 v w).map D.u64) (fun ((k,S,q):Nat×List D×List D)=>W.toNat - k) ((0,List.replicate W.toNat (D.int .i64 0),(r1.map D.u64).set v (D.u64 (x ^^^ 1#64 <<< ((w:Nat):Int).toNat)))) [(0,0),(1,7),(2,8),(3,2),(4,3),(5,4),(6,5),(7,6)] [] (⟨by omega,nums_zero _,by rw [hwN];exact map_flip hx⟩) (by (refine ⟨rfl,rfl,rfl,?_,?_⟩;repeat' first|exact trivial|exact rfl|refine And.intro ?_ ?_|refine ⟨_,rfl,?_⟩|decide)) ?_
    rintro ⟨k,S,q⟩ ⟨i1,rfl,rfl⟩
    have hSl:=nums_len i1
    have hz:(List.replicate W.toNat (D.int .i64 0)).length=W.toNat:=List.length_replicate
    by_cases hkl:k < W.toNat
    ·(repeat' ((conv=>whnf);first|refine vA ?_|(refine vF ?_ ?_<;>intro hc<;>try simp only [vL] at hc)|refine vT ?_|((first|refine vO ?_ ?_|refine vP ?_ ?_);·first|omega|(simp only [vM] at *;omega))|fail));all_goals try conv=>whnf
     ·refine ⟨(k+1,_,_),[(0,0),(1,1),(2,2),(3,3),(4,4),(5,5),(6,6),(7,7)],[],?_,?_,by (refine ⟨rfl,rfl,rfl,?_,?_⟩;repeat' first|exact trivial|exact rfl|refine And.intro ?_ ?_|refine ⟨_,rfl,?_⟩|decide)⟩
      ·exact ⟨by omega,nums_set hkl,rfl⟩
      ·((simp only [vM] at *;omega))
     ·exfalso;omega
    ·obtain rfl:k=W.toNat:=by omega
     rw [nums_all]
     (repeat' ((conv=>whnf);first|refine vA ?_|(refine vF ?_ ?_<;>intro hc<;>try simp only [vL] at hc)|refine vT ?_|((first|refine vO ?_ ?_|refine vP ?_ ?_);·omega)|fail));all_goals try conv=>whnf
     ·exfalso;omega
     ·refine zo.data (c2) (by (repeat refine ⟨⟨rfl,rfl⟩,?_⟩);rfl) rfl ?_
      (repeat' ((conv=>whnf);first|refine vA ?_|refine vT ?_));all_goals try conv=>whnf
      refine zo.data (c3) (by (repeat refine ⟨⟨rfl,rfl⟩,?_⟩);rfl) rfl ?_
      (repeat' ((conv=>whnf);first|refine vG ?_|refine vT ?_));all_goals try conv=>whnf
      refine zo.data (c4) (by (repeat refine ⟨⟨rfl,rfl⟩,?_⟩);rfl) rfl ?_
      (repeat' ((conv=>whnf);first|refine vG ?_|refine vT ?_|refine vZ ?_|refine yD hA (by (repeat refine ⟨⟨rfl,rfl⟩,?_⟩);rfl) rfl ?_));all_goals try conv=>whnf
      skip
   ·have hlg:r2.length=W.toNat:=by have:=hl r2 (by simp);dsimp only at this;omega
    refine zo.res (c1) (by (repeat refine ⟨⟨rfl,rfl⟩,?_⟩);rfl) ?_
    (repeat' ((conv=>whnf);first|refine vA ?_|refine vK fun hg=>?_|refine vT ?_|(refine vQ ?_ fun x hx=>?_;·(simp only [vM] at *;omega))|(refine vP ?_ ?_;·first|omega|(simp only [vM] at *;omega))|(refine vU ?_ ?_;·kernel_rfl)|fail));all_goals try conv=>whnf
    rename_i x hx _
    rw [Int.toNat_natCast] at hx
    refine zy (fun ((k,S,q):Nat×List D×List D)=>[(2,.ptr 0 0),(8,.ptr 1 0),(9,.own 2),(77,.d (.int .i64 (((List.replicate W.toNat (D.int .i64 0)).length:Int)))),(78,.d (.int .i64 ((k:Int))))]) (fun ((k,S,q):Nat×List D×List D)=>[(0,some (zaH ⟨W,val,[r0,r1,r2]⟩)),(1,some (.box [.d (.int .i64 W),.own 3,.bown 4 3])),(2,some (.row 1 S)),(3,some (.row 1 (val.map D.u64))),(4,some (.box [.own 5,.own 6,.own 7])),(5,some (.row 1 (r0.map D.u64))),(6,some (.row 1 (r1.map D.u64))),(7,some (.row 1 q))]) 8 (fun ((k,S,q):Nat×List D×List D)=>k≤W.toNat∧S=numsD W.toNat k∧q=(zmO r2 v w).map D.u64) (fun ((k,S,q):Nat×List D×List D)=>W.toNat - k) ((0,List.replicate W.toNat (D.int .i64 0),(r2.map D.u64).set v (D.u64 (x ^^^ 1#64 <<< ((w:Nat):Int).toNat)))) [(0,0),(1,7),(2,8),(3,2),(4,3),(5,4),(6,5),(7,6)] [] (⟨by omega,nums_zero _,by rw [hwN];exact map_flip hx⟩) (by (refine ⟨rfl,rfl,rfl,?_,?_⟩;repeat' first|exact trivial|exact rfl|refine And.intro ?_ ?_|refine ⟨_,rfl,?_⟩|decide)) ?_
    rintro ⟨k,S,q⟩ ⟨i1,rfl,rfl⟩
    have hSl:=nums_len i1
    have hz:(List.replicate W.toNat (D.int .i64 0)).length=W.toNat:=List.length_replicate
    by_cases hkl:k < W.toNat
    ·(repeat' ((conv=>whnf);first|refine vA ?_|(refine vF ?_ ?_<;>intro hc<;>try simp only [vL] at hc)|refine vT ?_|((first|refine vO ?_ ?_|refine vP ?_ ?_);·first|omega|(simp only [vM] at *;omega))|fail));all_goals try conv=>whnf
     ·refine ⟨(k+1,_,_),[(0,0),(1,1),(2,2),(3,3),(4,4),(5,5),(6,6),(7,7)],[],?_,?_,by (refine ⟨rfl,rfl,rfl,?_,?_⟩;repeat' first|exact trivial|exact rfl|refine And.intro ?_ ?_|refine ⟨_,rfl,?_⟩|decide)⟩
      ·exact ⟨by omega,nums_set hkl,rfl⟩
      ·((simp only [vM] at *;omega))
     ·exfalso;omega
    ·obtain rfl:k=W.toNat:=by omega
     rw [nums_all]
     (repeat' ((conv=>whnf);first|refine vA ?_|(refine vF ?_ ?_<;>intro hc<;>try simp only [vL] at hc)|refine vT ?_|((first|refine vO ?_ ?_|refine vP ?_ ?_);·omega)|fail));all_goals try conv=>whnf
     ·exfalso;omega
     ·refine zo.data (c2) (by (repeat refine ⟨⟨rfl,rfl⟩,?_⟩);rfl) rfl ?_
      (repeat' ((conv=>whnf);first|refine vA ?_|refine vT ?_));all_goals try conv=>whnf
      refine zo.data (c3) (by (repeat refine ⟨⟨rfl,rfl⟩,?_⟩);rfl) rfl ?_
      (repeat' ((conv=>whnf);first|refine vG ?_|refine vT ?_));all_goals try conv=>whnf
      refine zo.data (c4) (by (repeat refine ⟨⟨rfl,rfl⟩,?_⟩);rfl) rfl ?_
      (repeat' ((conv=>whnf);first|refine vG ?_|refine vT ?_|refine vZ ?_|refine yD hA (by (repeat refine ⟨⟨rfl,rfl⟩,?_⟩);rfl) rfl ?_));all_goals try conv=>whnf
      skip
  ·dsimp only [List.length] at hg
   have hgs:g=0∨g=1∨g=2∨g=3:=by omega
   rcases hgs with rfl|rfl|rfl|rfl
   ·have hlg:r0.length=W.toNat:=by have:=hl r0 (by simp);dsimp only at this;omega
    refine zo.res (c1) (by (repeat refine ⟨⟨rfl,rfl⟩,?_⟩);rfl) ?_
    (repeat' ((conv=>whnf);first|refine vA ?_|refine vK fun hg=>?_|refine vT ?_|(refine vQ ?_ fun x hx=>?_;·(simp only [vM] at *;omega))|(refine vP ?_ ?_;·first|omega|(simp only [vM] at *;omega))|(refine vU ?_ ?_;·kernel_rfl)|fail));all_goals try conv=>whnf
    rename_i x hx _
    rw [Int.toNat_natCast] at hx
    refine zy (fun ((k,S,q):Nat×List D×List D)=>[(2,.ptr 0 0),(8,.ptr 1 0),(9,.own 2),(77,.d (.int .i64 (((List.replicate W.toNat (D.int .i64 0)).length:Int)))),(78,.d (.int .i64 ((k:Int))))]) (fun ((k,S,q):Nat×List D×List D)=>[(0,some (zaH ⟨W,val,[r0,r1,r2,r3]⟩)),(1,some (.box [.d (.int .i64 W),.own 3,.bown 4 4])),(2,some (.row 1 S)),(3,some (.row 1 (val.map D.u64))),(4,some (.box [.own 5,.own 6,.own 7,.own 8])),(5,some (.row 1 q)),(6,some (.row 1 (r1.map D.u64))),(7,some (.row 1 (r2.map D.u64))),(8,some (.row 1 (r3.map D.u64)))]) 9 (fun ((k,S,q):Nat×List D×List D)=>k≤W.toNat∧S=numsD W.toNat k∧q=(zmO r0 v w).map D.u64) (fun ((k,S,q):Nat×List D×List D)=>W.toNat - k) ((0,List.replicate W.toNat (D.int .i64 0),(r0.map D.u64).set v (D.u64 (x ^^^ 1#64 <<< ((w:Nat):Int).toNat)))) [(0,0),(1,8),(2,9),(3,2),(4,3),(5,4),(6,5),(7,6),(8,7)] [] (⟨by omega,nums_zero _,by rw [hwN];exact map_flip hx⟩) (by (refine ⟨rfl,rfl,rfl,?_,?_⟩;repeat' first|exact trivial|exact rfl|refine And.intro ?_ ?_|refine ⟨_,rfl,?_⟩|decide)) ?_
    rintro ⟨k,S,q⟩ ⟨i1,rfl,rfl⟩
    have hSl:=nums_len i1
    have hz:(List.replicate W.toNat (D.int .i64 0)).length=W.toNat:=List.length_replicate
    by_cases hkl:k < W.toNat
    ·(repeat' ((conv=>whnf);first|refine vA ?_|(refine vF ?_ ?_<;>intro hc<;>try simp only [vL] at hc)|refine vT ?_|((first|refine vO ?_ ?_|refine vP ?_ ?_);·first|omega|(simp only [vM] at *;omega))|fail));all_goals try conv=>whnf
     ·refine ⟨(k+1,_,_),[(0,0),(1,1),(2,2),(3,3),(4,4),(5,5),(6,6),(7,7),(8,8)],[],?_,?_,by (refine ⟨rfl,rfl,rfl,?_,?_⟩;repeat' first|exact trivial|exact rfl|refine And.intro ?_ ?_|refine ⟨_,rfl,?_⟩|decide)⟩
      ·exact ⟨by omega,nums_set hkl,rfl⟩
      ·((simp only [vM] at *;omega))
     ·exfalso;omega
    ·obtain rfl:k=W.toNat:=by omega
     rw [nums_all]
     (repeat' ((conv=>whnf);first|refine vA ?_|(refine vF ?_ ?_<;>intro hc<;>try simp only [vL] at hc)|refine vT ?_|((first|refine vO ?_ ?_|refine vP ?_ ?_);·omega)|fail));all_goals try conv=>whnf
     ·exfalso;omega
     ·refine zo.data (c2) (by (repeat refine ⟨⟨rfl,rfl⟩,?_⟩);rfl) rfl ?_
      (repeat' ((conv=>whnf);first|refine vA ?_|refine vT ?_));all_goals try conv=>whnf
      refine zo.data (c3) (by (repeat refine ⟨⟨rfl,rfl⟩,?_⟩);rfl) rfl ?_
      (repeat' ((conv=>whnf);first|refine vG ?_|refine vT ?_));all_goals try conv=>whnf
      refine zo.data (c4) (by (repeat refine ⟨⟨rfl,rfl⟩,?_⟩);rfl) rfl ?_
      (repeat' ((conv=>whnf);first|refine vG ?_|refine vT ?_|refine vZ ?_|refine yD hA (by (repeat refine ⟨⟨rfl,rfl⟩,?_⟩);rfl) rfl ?_));all_goals try conv=>whnf
      skip
   ·have hlg:r1.length=W.toNat:=by have:=hl r1 (by simp);dsimp only at this;omega
    refine zo.res (c1) (by (repeat refine ⟨⟨rfl,rfl⟩,?_⟩);rfl) ?_
    (repeat' ((conv=>whnf);first|refine vA ?_|refine vK fun hg=>?_|refine vT ?_|(refine vQ ?_ fun x hx=>?_;·(simp only [vM] at *;omega))|(refine vP ?_ ?_;·first|omega|(simp only [vM] at *;omega))|(refine vU ?_ ?_;·kernel_rfl)|fail));all_goals try conv=>whnf
    rename_i x hx _
    rw [Int.toNat_natCast] at hx
    refine zy (fun ((k,S,q):Nat×List D×List D)=>[(2,.ptr 0 0),(8,.ptr 1 0),(9,.own 2),(77,.d (.int .i64 (((List.replicate W.toNat (D.int .i64 0)).length:Int)))),(78,.d (.int .i64 ((k:Int))))]) (fun ((k,S,q):Nat×List D×List D)=>[(0,some (zaH ⟨W,val,[r0,r1,r2,r3]⟩)),(1,some (.box [.d (.int .i64 W),.own 3,.bown 4 4])),(2,some (.row 1 S)),(3,some (.row 1 (val.map D.u64))),(4,some (.box [.own 5,.own 6,.own 7,.own 8])),(5,some (.row 1 (r0.map D.u64))),(6,some (.row 1 q)),(7,some (.row 1 (r2.map D.u64))),(8,some (.row 1 (r3.map D.u64)))]) 9 (fun ((k,S,q):Nat×List D×List D)=>k≤W.toNat∧S=numsD W.toNat k∧q=(zmO r1 v w).map D.u64) (fun ((k,S,q):Nat×List D×List D)=>W.toNat - k) ((0,List.replicate W.toNat (D.int .i64 0),(r1.map D.u64).set v (D.u64 (x ^^^ 1#64 <<< ((w:Nat):Int).toNat)))) [(0,0),(1,8),(2,9),(3,2),(4,3),(5,4),(6,5),(7,6),(8,7)] [] (⟨by omega,nums_zero _,by rw [hwN];exact map_flip hx⟩) (by (refine ⟨rfl,rfl,rfl,?_,?_⟩;repeat' first|exact trivial|exact rfl|refine And.intro ?_ ?_|refine ⟨_,rfl,?_⟩|decide)) ?_
    rintro ⟨k,S,q⟩ ⟨i1,rfl,rfl⟩
    have hSl:=nums_len i1
    have hz:(List.replicate W.toNat (D.int .i64 0)).length=W.toNat:=List.length_replicate
    by_cases hkl:k < W.toNat
    ·(repeat' ((conv=>whnf);first|refine vA ?_|(refine vF ?_ ?_<;>intro hc<;>try simp only [vL] at hc)|refine vT ?_|((first|refine vO ?_ ?_|refine vP ?_ ?_);·first|omega|(simp only [vM] at *;omega))|fail));all_goals try conv=>whnf
     ·refine ⟨(k+1,_,_),[(0,0),(1,1),(2,2),(3,3),(4,4),(5,5),(6,6),(7,7),(8,8)],[],?_,?_,by (refine ⟨rfl,rfl,rfl,?_,?_⟩;repeat' first|exact trivial|exact rfl|refine And.intro ?_ ?_|refine ⟨_,rfl,?_⟩|decide)⟩
      ·exact ⟨by omega,nums_set hkl,rfl⟩
      ·((simp only [vM] at *;omega))
     ·exfalso;omega
    ·obtain rfl:k=W.toNat:=by omega
     rw [nums_all]
     (repeat' ((conv=>whnf);first|refine vA ?_|(refine vF ?_ ?_<;>intro hc<;>try simp only [vL] at hc)|refine vT ?_|((first|refine vO ?_ ?_|refine vP ?_ ?_);·omega)|fail));all_goals try conv=>whnf
     ·exfalso;omega
     ·refine zo.data (c2) (by (repeat refine ⟨⟨rfl,rfl⟩,?_⟩);rfl) rfl ?_
      (repeat' ((conv=>whnf);first|refine vA ?_|refine vT ?_));all_goals try conv=>whnf
      refine zo.data (c3) (by (repeat refine ⟨⟨rfl,rfl⟩,?_⟩);rfl) rfl ?_
      (repeat' ((conv=>whnf);first|refine vG ?_|refine vT ?_));all_goals try conv=>whnf
      refine zo.data (c4) (by (repeat refine ⟨⟨rfl,rfl⟩,?_⟩);rfl) rfl ?_
      (repeat' ((conv=>whnf);first|refine vG ?_|refine vT ?_|refine vZ ?_|refine yD hA (by (repeat refine ⟨⟨rfl,rfl⟩,?_⟩);rfl) rfl ?_));all_goals try conv=>whnf
      skip
   ·have hlg:r2.length=W.toNat:=by have:=hl r2 (by simp);dsimp only at this;omega
    refine zo.res (c1) (by (repeat refine ⟨⟨rfl,rfl⟩,?_⟩);rfl) ?_
    (repeat' ((conv=>whnf);first|refine vA ?_|refine vK fun hg=>?_|refine vT ?_|(refine vQ ?_ fun x hx=>?_;·(simp only [vM] at *;omega))|(refine vP ?_ ?_;·first|omega|(simp only [vM] at *;omega))|(refine vU ?_ ?_;·kernel_rfl)|fail));all_goals try conv=>whnf
    rename_i x hx _
    rw [Int.toNat_natCast] at hx
    refine zy (fun ((k,S,q):Nat×List D×List D)=>[(2,.ptr 0 0),(8,.ptr 1 0),(9,.own 2),(77,.d (.int .i64 (((List.replicate W.toNat (D.int .i64 0)).length:Int)))),(78,.d (.int .i64 ((k:Int))))]) (fun ((k,S,q):Nat×List D×List D)=>[(0,some (zaH ⟨W,val,[r0,r1,r2,r3]⟩)),(1,some (.box [.d (.int .i64 W),.own 3,.bown 4 4])),(2,some (.row 1 S)),(3,some (.row 1 (val.map D.u64))),(4,some (.box [.own 5,.own 6,.own 7,.own 8])),(5,some (.row 1 (r0.map D.u64))),(6,some (.row 1 (r1.map D.u64))),(7,some (.row 1 q)),(8,some (.row 1 (r3.map D.u64)))]) 9 (fun ((k,S,q):Nat×List D×List D)=>k≤W.toNat∧S=numsD W.toNat k∧q=(zmO r2 v w).map D.u64) (fun ((k,S,q):Nat×List D×List D)=>W.toNat - k) ((0,List.replicate W.toNat (D.int .i64 0),(r2.map D.u64).set v (D.u64 (x ^^^ 1#64 <<< ((w:Nat):Int).toNat)))) [(0,0),(1,8),(2,9),(3,2),(4,3),(5,4),(6,5),(7,6),(8,7)] [] (⟨by omega,nums_zero _,by rw [hwN];exact map_flip hx⟩) (by (refine ⟨rfl,rfl,rfl,?_,?_⟩;repeat' first|exact trivial|exact rfl|refine And.intro ?_ ?_|refine ⟨_,rfl,?_⟩|decide)) ?_
    rintro ⟨k,S,q⟩ ⟨i1,rfl,rfl⟩
    have hSl:=nums_len i1
    have hz:(List.replicate W.toNat (D.int .i64 0)).length=W.toNat:=List.length_replicate
    by_cases hkl:k < W.toNat
    ·(repeat' ((conv=>whnf);first|refine vA ?_|(refine vF ?_ ?_<;>intro hc<;>try simp only [vL] at hc)|refine vT ?_|((first|refine vO ?_ ?_|refine vP ?_ ?_);·first|omega|(simp only [vM] at *;omega))|fail));all_goals try conv=>whnf
     ·refine ⟨(k+1,_,_),[(0,0),(1,1),(2,2),(3,3),(4,4),(5,5),(6,6),(7,7),(8,8)],[],?_,?_,by (refine ⟨rfl,rfl,rfl,?_,?_⟩;repeat' first|exact trivial|exact rfl|refine And.intro ?_ ?_|refine ⟨_,rfl,?_⟩|decide)⟩
      ·exact ⟨by omega,nums_set hkl,rfl⟩
      ·((simp only [vM] at *;omega))
     ·exfalso;omega
    ·obtain rfl:k=W.toNat:=by omega
     rw [nums_all]
     (repeat' ((conv=>whnf);first|refine vA ?_|(refine vF ?_ ?_<;>intro hc<;>try simp only [vL] at hc)|refine vT ?_|((first|refine vO ?_ ?_|refine vP ?_ ?_);·omega)|fail));all_goals try conv=>whnf
     ·exfalso;omega
     ·refine zo.data (c2) (by (repeat refine ⟨⟨rfl,rfl⟩,?_⟩);rfl) rfl ?_
      (repeat' ((conv=>whnf);first|refine vA ?_|refine vT ?_));all_goals try conv=>whnf
      refine zo.data (c3) (by (repeat refine ⟨⟨rfl,rfl⟩,?_⟩);rfl) rfl ?_
      (repeat' ((conv=>whnf);first|refine vG ?_|refine vT ?_));all_goals try conv=>whnf
      refine zo.data (c4) (by (repeat refine ⟨⟨rfl,rfl⟩,?_⟩);rfl) rfl ?_
      (repeat' ((conv=>whnf);first|refine vG ?_|refine vT ?_|refine vZ ?_|refine yD hA (by (repeat refine ⟨⟨rfl,rfl⟩,?_⟩);rfl) rfl ?_));all_goals try conv=>whnf
      skip
   ·have hlg:r3.length=W.toNat:=by have:=hl r3 (by simp);dsimp only at this;omega
    refine zo.res (c1) (by (repeat refine ⟨⟨rfl,rfl⟩,?_⟩);rfl) ?_
    (repeat' ((conv=>whnf);first|refine vA ?_|refine vK fun hg=>?_|refine vT ?_|(refine vQ ?_ fun x hx=>?_;·(simp only [vM] at *;omega))|(refine vP ?_ ?_;·first|omega|(simp only [vM] at *;omega))|(refine vU ?_ ?_;·kernel_rfl)|fail));all_goals try conv=>whnf
    rename_i x hx _
    rw [Int.toNat_natCast] at hx
    refine zy (fun ((k,S,q):Nat×List D×List D)=>[(2,.ptr 0 0),(8,.ptr 1 0),(9,.own 2),(77,.d (.int .i64 (((List.replicate W.toNat (D.int .i64 0)).length:Int)))),(78,.d (.int .i64 ((k:Int))))]) (fun ((k,S,q):Nat×List D×List D)=>[(0,some (zaH ⟨W,val,[r0,r1,r2,r3]⟩)),(1,some (.box [.d (.int .i64 W),.own 3,.bown 4 4])),(2,some (.row 1 S)),(3,some (.row 1 (val.map D.u64))),(4,some (.box [.own 5,.own 6,.own 7,.own 8])),(5,some (.row 1 (r0.map D.u64))),(6,some (.row 1 (r1.map D.u64))),(7,some (.row 1 (r2.map D.u64))),(8,some (.row 1 q))]) 9 (fun ((k,S,q):Nat×List D×List D)=>k≤W.toNat∧S=numsD W.toNat k∧q=(zmO r3 v w).map D.u64) (fun ((k,S,q):Nat×List D×List D)=>W.toNat - k) ((0,List.replicate W.toNat (D.int .i64 0),(r3.map D.u64).set v (D.u64 (x ^^^ 1#64 <<< ((w:Nat):Int).toNat)))) [(0,0),(1,8),(2,9),(3,2),(4,3),(5,4),(6,5),(7,6),(8,7)] [] (⟨by omega,nums_zero _,by rw [hwN];exact map_flip hx⟩) (by (refine ⟨rfl,rfl,rfl,?_,?_⟩;repeat' first|exact trivial|exact rfl|refine And.intro ?_ ?_|refine ⟨_,rfl,?_⟩|decide)) ?_
    rintro ⟨k,S,q⟩ ⟨i1,rfl,rfl⟩
    have hSl:=nums_len i1
    have hz:(List.replicate W.toNat (D.int .i64 0)).length=W.toNat:=List.length_replicate
    by_cases hkl:k < W.toNat
    ·(repeat' ((conv=>whnf);first|refine vA ?_|(refine vF ?_ ?_<;>intro hc<;>try simp only [vL] at hc)|refine vT ?_|((first|refine vO ?_ ?_|refine vP ?_ ?_);·first|omega|(simp only [vM] at *;omega))|fail));all_goals try conv=>whnf
     ·refine ⟨(k+1,_,_),[(0,0),(1,1),(2,2),(3,3),(4,4),(5,5),(6,6),(7,7),(8,8)],[],?_,?_,by (refine ⟨rfl,rfl,rfl,?_,?_⟩;repeat' first|exact trivial|exact rfl|refine And.intro ?_ ?_|refine ⟨_,rfl,?_⟩|decide)⟩
      ·exact ⟨by omega,nums_set hkl,rfl⟩
      ·((simp only [vM] at *;omega))
     ·exfalso;omega
    ·obtain rfl:k=W.toNat:=by omega
     rw [nums_all]
     (repeat' ((conv=>whnf);first|refine vA ?_|(refine vF ?_ ?_<;>intro hc<;>try simp only [vL] at hc)|refine vT ?_|((first|refine vO ?_ ?_|refine vP ?_ ?_);·omega)|fail));all_goals try conv=>whnf
     ·exfalso;omega
     ·refine zo.data (c2) (by (repeat refine ⟨⟨rfl,rfl⟩,?_⟩);rfl) rfl ?_
      (repeat' ((conv=>whnf);first|refine vA ?_|refine vT ?_));all_goals try conv=>whnf
      refine zo.data (c3) (by (repeat refine ⟨⟨rfl,rfl⟩,?_⟩);rfl) rfl ?_
      (repeat' ((conv=>whnf);first|refine vG ?_|refine vT ?_));all_goals try conv=>whnf
      refine zo.data (c4) (by (repeat refine ⟨⟨rfl,rfl⟩,?_⟩);rfl) rfl ?_
      (repeat' ((conv=>whnf);first|refine vG ?_|refine vT ?_|refine vZ ?_|refine yD hA (by (repeat refine ⟨⟨rfl,rfl⟩,?_⟩);rfl) rfl ?_));all_goals try conv=>whnf
      skip
  ·exfalso;dsimp only [List.length] at n4;omega
end Go.Ab
namespace Go.Proofs.YtnmoepbhlbebkaaDoor
open Go Go.Ab Go.RowKit Go.ChangeShapes Go.WideShapes
set_option maxRecDepth 100000
theorem isomorphBreaks_c9:(Rows.isomorphBreaksRow.inPlace==Tryd.pinned.checked.prog.inPlace 4)=true:=by kernel_rfl
theorem isomorphBreaks_c10:(Rows.isomorphBreaksRow.unfollowed==Tryd.pinned.checked.prog.unfollowed 4)=true:=by kernel_rfl
theorem isomorphBreaks_c11:(Rows.isomorphBreaksRow.recurses==Tryd.pinned.checked.prog.recurses 4)=true:=by kernel_rfl
theorem isomorphBreaks_c12:(Rows.isomorphBreaksRow.named==Tryd.pinned.checked.prog.varsNamed 4)=true:=by kernel_rfl
theorem isomorphBreaks_c25:Tryd.pinned.checked.prog.mayEnter=true:=by kernel_rfl
theorem isomorphBreaks_c26:(Rows.isomorphBreaksRow.lifted==Tryd.pinned.checked.prog.liftsFinal)=true:=by kernel_rfl
theorem isomorphBreaks_c27:(Tryd.pinned.checked.prog.make==some Rows.isomorphBreaksRow.make)=true:=by kernel_rfl
theorem isomorphBreaks_facts:joinedFacts Tryd.pinned.checked.prog 4 Tryd.f4 Rows.isomorphBreaksSpec Rows.isomorphBreaksRow=true:=(zCB (zCB (zCB (zCB (zCB (zCB (zCB (zCB (zCB (zCB (zCB (zCB (zCB (zCB (zCB (zCB (zCB (zCB (zCB (zCB (zCB (zCB (zCB (zCB (zCB (zCB (zCB (zCB (zCB (zCB (zCB (by kernel_rfl) (by kernel_rfl)) (by kernel_rfl)) (by kernel_rfl)) (by kernel_rfl)) (by kernel_rfl)) (by kernel_rfl)) (by kernel_rfl)) (by kernel_rfl)) isomorphBreaks_c9) isomorphBreaks_c10) isomorphBreaks_c11) isomorphBreaks_c12) (by kernel_rfl)) (by kernel_rfl)) (by kernel_rfl)) (by kernel_rfl)) (by kernel_rfl)) (by kernel_rfl)) (by kernel_rfl)) (by kernel_rfl)) (by kernel_rfl)) (by kernel_rfl)) (by kernel_rfl)) (by kernel_rfl)) isomorphBreaks_c25) isomorphBreaks_c26) isomorphBreaks_c27) (by kernel_rfl)) (by kernel_rfl)) (by kernel_rfl)) (by kernel_rfl))
theorem isomorphBreaks_holds:Rows.IsomorphBreaksSaid :=
 OpenClaim.holds_of_wide 4 Tryd.f4 rfl rfl rfl rfl rfl rfl rfl ⟨rfl,rfl,rfl,rfl,rfl⟩ rfl rfl rfl rfl rfl (by kernel_rfl) Tryd.func4 isomorphBreaks_facts
  (of_decide_eq_true (by kernel_rfl)) (by unfold Func.isWrapper;rw [if_neg (of_decide_eq_false (by kernel_rfl))];exact ⟨rfl,rfl⟩)
  (fun os started H enc _=>zB1 (C:=Tryd.checked) (s:=Rows.isomorphBreaksSpec) (laid:=laidL) knob started (by kernel_rfl) Tryd.func4 laidOut [25,45] Tryd.params4 rfl Tryd.underlying4 rfl (by kernel_rfl)
   (fun ds hds=>by match ds,hds with|[d1,d2],_=>rfl)
   (ChangeSpec.witness_shaped (enc:=enc) (C:=Tryd.checked) (os:=os) (X:=fun w _=>laidMetH Tryd.prog laidL w) false (World.doorLaid Tryd.prog 14 os)
    #[.agg #[.int .i64 0,.slice none 0 0,.slice none 0 0],.agg #[.int .i64 0,.int .i64 0,.int .i64 0]] 8 rfl (World.shaped_of_RefB (by kernel_rfl) (by kernel_rfl)) (by kernel_rfl) (by kernel_rfl) (by kernel_rfl) (door_met os _))
   (fun W hL=>⟨TOf W,(zCx hL).1,(zCx hL).2,fun ds hds=>by
    obtain ⟨m1,r,rfl,hm1,k1⟩:=zB7 hds
    obtain ⟨a2,v2,w2,r,rfl,k2⟩:=zB8 k1
    obtain rfl:=zCC k2
    exact law_Breaks (tz_of hL) m1 a2 v2 w2⟩))
theorem isomorphBreaks_card:Rows.IsomorphBreaksCardSaid :=
 Claim7.holds_tied_plain_at .later [] [.data] true (true, "7a347cb9a06394a95226200a4545b30b3c5f3750811211b8b198eb3700db2b15") false
  isomorphBreaks_holds (fun _ h=>by cases h) (by kernel_rfl) (fun _ h=>by cases h) isomorphBreaks_row_tie rfl ⟨rfl,rfl⟩ (by kernel_rfl) rfl
  (fun f fn hf hfn=>by
   obtain rfl:f=4:=Option.some.inj ((show Tryd.prog.funcNamed Rows.isomorphBreaksRow.func=some 4 by kernel_rfl).symm.trans hf) |>.symm
   obtain rfl:fn=Tryd.f4:=(Option.some.inj (Tryd.func4.symm.trans hfn)).symm
   exact ⟨by kernel_rfl,fun j t ht=>by
    rw [Tryd.params4] at ht
    have hm:t∈[25,45]:=by
     have:=List.mem_of_getElem? (l:=[25,45]) (i:=j) (by simpa using ht)
     exact this
    have hall:([25,45].all fun t=>Tryd.prog.wantsStandIn t==false)=true:=by kernel_rfl
    exact eq_of_beq (List.all_eq_true.1 hall t hm)⟩)
  (by kernel_rfl)
end Go.Proofs.YtnmoepbhlbebkaaDoor
