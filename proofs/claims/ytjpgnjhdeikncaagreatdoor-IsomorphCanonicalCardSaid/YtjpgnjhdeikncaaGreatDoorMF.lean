/- A part of the proofs of this seat: functions and their contracts. -/
import Derived.Test.YtjpgnjhdeikncaaGreatDoorME
set_option linter.unusedVariables false
set_option linter.unusedSimpArgs false
set_option linter.unusedSectionVars false
namespace Go.Ab
open Go Go.Proofs
set_option maxRecDepth 10000
set_option maxHeartbeats 4000000
variable {T:Nat→Obj→Prop}
theorem zk5 {m:KM} (q:Nat→Nat) (w:Nat):(zq m.W.toNat (zu m) q w).map dI=dI [(q w:Int)]::m.rel.map fun r=>dI (zeD true (zhi m.W.toNat q (r.getD w 0#64))):=by
 unfold zq zu
 simp only [List.map_map,List.map_cons]
 rfl
def mkW (p:KM) (ws:List Nat) (root:Int) (i:Nat):Tup:=[[if (ws.getD i 0:Int)=root then (0:Int) else 1],[zaT p i]]
set_option maxHeartbeats 8000000 in
theorem zrV {m:KM} (hk0:zm m=0) (ws:List Nat) (hws:ws.length=m.W.toNat) (root:Int):Fn Tryz.prog T zea [.d (dKM m),.d (dN ws),.d (.int .i64 root)] [] (.d (dI (ptL m.W.toNat (zbw m.W.toNat (zu m) (mkW m ws root)).1))) []:=by
 have hg0:=zB hk0
 have w1:=hg0.w1;have w2:=hg0.w2
 have n4:=hg0.n4
 have c1:=ziy (T:=T) (n:=m.W.toNat) (mkW m ws root) (by omega) (by omega) (fun v w _ _=>rfl)
 have c2:=fun q=>ziy (T:=T) (n:=m.W.toNat) (zq m.W.toNat (zu m) q) (by omega) (by omega) (fun v w _ _=>by simp [zq])
 have hd0:=zsM (n:=m.W.toNat) (mkW m ws root)
 unfold zbw
 generalize (fun w=>rkN ((List.range m.W.toNat).map (mkW m ws root)) (mkW m ws root w))=q0 at c1 hd0
 rw [hd0] at c1 ⊢
 generalize hR:zaM m.W.toNat (zq m.W.toNat (zu m)) (m.W.toNat+1) q0 (dcN m.W.toNat q0)=R
 refine zg zw zhN (by show 3≤92;decide) ?_
 (repeat' ((conv=>whnf);first|refine vA ?_|refine vB fun b hb=>?_|refine vC (fun hl=>?_) fun i kv vv hi=>?_|refine vE ?_|refine vG ?_|refine vH ?_|((first|refine vD ?_ ?_|refine vF ?_ ?_|refine vI ?_ ?_)<;>intro hc<;>try simp only [vL] at hc)|refine vJ fun hg=>?_|refine vK fun hg=>?_|refine vT ?_|refine vN ‹_› ?_|(refine vQ ?_ fun x hx=>?_;·first|omega|(simp only [vM] at *;omega))|((first|refine vO ?_ ?_|refine vR ?_ ‹_› ?_|refine vS ?_ fun x hx=>?_|refine vP ?_ ?_);·first|omega|(simp only [vM] at *;omega))|refine vW ⟨by omega,by omega⟩ ?_|(refine vU ?_ ?_;·kernel_rfl)|refine vX ?_|refine vY ?_|refine vZ ?_|refine za.mk _ ‹_› ?_|refine vP (show (_:BitVec 64)≠_ by decide) ?_));all_goals try conv=>whnf
 refine zj (fun ((k,zs):Nat×List D)=>[(1,.d (dN ws)),(2,.d (.int .i64 (root))),(3,.ptr 0 0),(7,.own 1),(8,.d (.int .i64 ((k:Int))))]) (fun ((k,zs):Nat×List D)=>[(0,some (zac m)),(1,some (.row 1 zs))]) 2 (fun ((k,zs):Nat×List D)=>k≤m.W.toNat∧zs=((List.range k).map (mkW m ws root)).map dII) (fun ((k,zs):Nat×List D)=>m.W.toNat - k) ((0,[])) [(0,0)]   [1] (⟨by omega,rfl⟩) (by (refine ⟨rfl,rfl,rfl,?_,?_⟩;repeat' first|exact trivial|exact rfl|exact ⟨_,rfl⟩|exact .inl rfl|exact .inr (.inl ⟨rfl,rfl⟩)|exact .inr (.inr ⟨rfl,rfl⟩)|refine And.intro ?_ ?_|refine ⟨_,rfl,?_⟩|decide|exact of_decide_eq_true rfl)) ?_
 rintro ⟨k,zs⟩ ⟨hk,hz⟩
 have hzl:zs.length≤64:=by rw [hz];simp;omega
 by_cases hkl:k < m.W.toNat
 ·have cf:=zmp (T:=T) m (k:Int)
  rw [zna hk0 hkl] at cf
  have e1:=zee (show k < ws.length by omega)
  (repeat' ((conv=>whnf);first|refine vA ?_|refine vB fun b hb=>?_|refine vC (fun hl=>?_) fun i kv vv hi=>?_|refine vE ?_|refine vG ?_|refine vH ?_|((first|refine vD ?_ ?_|refine vF ?_ ?_|refine vI ?_ ?_)<;>intro hc<;>try simp only [vL] at hc)|refine vJ fun hg=>?_|refine vK fun hg=>?_|refine vT ?_|refine vN ‹_› ?_|(refine vQ ?_ fun x hx=>?_;·first|omega|(simp only [vM] at *;omega))|((first|refine vO ?_ ?_|refine vR ?_ ‹_› ?_|refine vS ?_ fun x hx=>?_|refine vP ?_ ?_);·first|omega|(simp only [vM] at *;omega))|refine vW ⟨by omega,by omega⟩ ?_|(refine vU ?_ ?_;·kernel_rfl)|refine vX ?_|refine vY ?_|refine vZ ?_|refine yD cf ⟨⟨rfl,rfl⟩,⟨rfl,rfl⟩,rfl⟩ rfl ?_|refine za.mk _ ‹_› ?_|refine vP (show (_:BitVec 64)≠_ by decide) ?_));all_goals try conv=>whnf
  ·refine ⟨(k+1,_),[(0,0),(1,6)],[],?_,?_,by (refine ⟨rfl,rfl,rfl,?_,?_⟩;repeat' first|exact trivial|exact rfl|exact ⟨_,rfl⟩|exact .inl rfl|exact .inr (.inl ⟨rfl,rfl⟩)|exact .inr (.inr ⟨rfl,rfl⟩)|refine And.intro ?_ ?_|refine ⟨_,rfl,?_⟩|decide|exact of_decide_eq_true rfl)⟩
   ·refine ⟨by omega,?_⟩
    rw [hz,List.range_succ,List.map_append,List.map_append]
    refine congrArg _ ?_
    show [D.arr 1 [D.arr 1 [D.int .i64 0],D.arr 1 [D.int .i64 (zaT m k)]]]=[dII (mkW m ws root k)]
    unfold mkW;rw [if_pos ‹_›];rfl
   ·(first|omega|(simp only [vM] at *;omega))
  ·refine ⟨(k+1,_),[(0,0),(1,6)],[],?_,?_,by (refine ⟨rfl,rfl,rfl,?_,?_⟩;repeat' first|exact trivial|exact rfl|exact ⟨_,rfl⟩|exact .inl rfl|exact .inr (.inl ⟨rfl,rfl⟩)|exact .inr (.inr ⟨rfl,rfl⟩)|refine And.intro ?_ ?_|refine ⟨_,rfl,?_⟩|decide|exact of_decide_eq_true rfl)⟩
   ·refine ⟨by omega,?_⟩
    rw [hz,List.range_succ,List.map_append,List.map_append]
    refine congrArg _ ?_
    show [D.arr 1 [D.arr 1 [D.int .i64 1],D.arr 1 [D.int .i64 (zaT m k)]]]=[dII (mkW m ws root k)]
    unfold mkW;rw [if_neg ‹_›];rfl
   ·(first|omega|(simp only [vM] at *;omega))
  ·exfalso;omega
 ·have hzz:zs=((List.range m.W.toNat).map (mkW m ws root)).map dII:=by rw [hz,show k=m.W.toNat by omega]
  clear hz
  subst hzz
  (repeat' ((conv=>whnf);first|refine vA ?_|refine vB fun b hb=>?_|refine vC (fun hl=>?_) fun i kv vv hi=>?_|refine vE ?_|refine vG ?_|refine vH ?_|((first|refine vD ?_ ?_|refine vF ?_ ?_|refine vI ?_ ?_)<;>intro hc<;>try simp only [vL] at hc)|refine vJ fun hg=>?_|refine vK fun hg=>?_|refine vT ?_|refine vN ‹_› ?_|(refine vQ ?_ fun x hx=>?_;·first|omega|(simp only [vM] at *;omega))|((first|refine vO ?_ ?_|refine vR ?_ ‹_› ?_|refine vS ?_ fun x hx=>?_|refine vP ?_ ?_);·first|omega|(simp only [vM] at *;omega))|refine vW ⟨by omega,by omega⟩ ?_|(refine vU ?_ ?_;·kernel_rfl)|refine vX ?_|refine vY ?_|refine vZ ?_|refine yN c1 ⟨⟨rfl,rfl⟩,rfl⟩ ?_|refine za.mk _ ‹_› ?_|refine vP (show (_:BitVec 64)≠_ by decide) ?_));all_goals try conv=>whnf
  iterate 2 (exfalso;omega)
  refine zj (fun ((q,c):(Nat→Nat)×Nat)=>[(3,.ptr 0 0),(10,.d (dI (ptL m.W.toNat q))),(11,.d (.int .i64 ((c:Int))))]) (fun ((q,c):(Nat→Nat)×Nat)=>[(0,some (zac m))]) 1 (fun ((q,c):(Nat→Nat)×Nat)=>c=dcN m.W.toNat q∧zaM m.W.toNat (zq m.W.toNat (zu m)) (m.W.toNat+1) q (dcN m.W.toNat q)=R) (fun ((q,c):(Nat→Nat)×Nat)=>m.W.toNat+1 - c) ((q0,dcN m.W.toNat q0)) [(0,0)] [] (⟨rfl,hR⟩) (by (refine ⟨rfl,rfl,rfl,?_,?_⟩;repeat' first|exact trivial|exact rfl|exact ⟨_,rfl⟩|exact .inl rfl|exact .inr (.inl ⟨rfl,rfl⟩)|exact .inr (.inr ⟨rfl,rfl⟩)|refine And.intro ?_ ?_|refine ⟨_,rfl,?_⟩|decide|exact of_decide_eq_true rfl)) ?_
  clear hk hkl hzl
  rintro ⟨q,c⟩ ⟨hc0,hI⟩
  (repeat' ((conv=>whnf);first|refine vA ?_|refine vB fun b hb=>?_|refine vC (fun hl=>?_) fun i kv vv hi=>?_|refine vE ?_|refine vG ?_|refine vH ?_|((first|refine vD ?_ ?_|refine vF ?_ ?_|refine vI ?_ ?_)<;>intro hc<;>try simp only [vL] at hc)|refine vJ fun hg=>?_|refine vK fun hg=>?_|refine vT ?_|refine vN ‹_› ?_|(refine vQ ?_ fun x hx=>?_;·first|omega|(simp only [vM] at *;omega))|((first|refine vO ?_ ?_|refine vR ?_ ‹_› ?_|refine vS ?_ fun x hx=>?_|refine vP ?_ ?_);·first|omega|(simp only [vM] at *;omega))|refine vW ⟨by omega,by omega⟩ ?_|(refine vU ?_ ?_;·kernel_rfl)|refine vX ?_|refine vY ?_|refine vZ ?_|refine za.mk _ ‹_› ?_|refine vP (show (_:BitVec 64)≠_ by decide) ?_));all_goals try conv=>whnf
  refine zj (fun ((w,zs):Nat×List D)=>[(3,.ptr 0 0),(10,.d (dI (ptL m.W.toNat q))),(11,.d (.int .i64 ((c:Int)))),(12,.own 1),(13,.d (.int .i64 ((w:Int))))]) (fun ((w,zs):Nat×List D)=>[(0,some (zac m)),(1,some (.row 1 zs))]) 2 (fun ((w,zs):Nat×List D)=>w≤m.W.toNat∧zs=((List.range w).map (zq m.W.toNat (zu m) q)).map dII) (fun ((w,zs):Nat×List D)=>m.W.toNat - w) ((0,[])) [(0,0)]   [1] (⟨by omega,rfl⟩) (by (refine ⟨rfl,rfl,rfl,?_,?_⟩;repeat' first|exact trivial|exact rfl|exact ⟨_,rfl⟩|exact .inl rfl|exact .inr (.inl ⟨rfl,rfl⟩)|exact .inr (.inr ⟨rfl,rfl⟩)|refine And.intro ?_ ?_|refine ⟨_,rfl,?_⟩|decide|exact of_decide_eq_true rfl)) ?_
  rintro ⟨w,zs⟩ ⟨hw,hz⟩
  have hzl:zs.length≤64:=by rw [hz];simp;omega
  by_cases hwl:w < m.W.toNat
  ·have e0:=zaw (q:=q) hwl
   (repeat' ((conv=>whnf);first|refine vA ?_|refine vB fun b hb=>?_|refine vC (fun hl=>?_) fun i kv vv hi=>?_|refine vE ?_|refine vG ?_|refine vH ?_|((first|refine vD ?_ ?_|refine vF ?_ ?_|refine vI ?_ ?_)<;>intro hc<;>try simp only [vL] at hc)|refine vJ fun hg=>?_|refine vK fun hg=>?_|refine vT ?_|refine vN ‹_› ?_|(refine vQ ?_ fun x hx=>?_;·first|omega|(simp only [vM] at *;omega))|((first|refine vO ?_ ?_|refine vR ?_ ‹_› ?_|refine vS ?_ fun x hx=>?_|refine vP ?_ ?_);·first|omega|(simp only [vM] at *;omega))|refine vW ⟨by omega,by omega⟩ ?_|(refine vU ?_ ?_;·kernel_rfl)|refine vX ?_|refine vY ?_|refine vZ ?_|refine za.mk _ ‹_› ?_|refine vP (show (_:BitVec 64)≠_ by decide) ?_));all_goals try conv=>whnf
   ·refine zj (fun ((i,xs):Nat×List D)=>[(3,.ptr 0 0),(10,.d (dI (ptL m.W.toNat q))),(11,.d (.int .i64 ((c:Int)))),(12,.own 1),(13,.d (.int .i64 ((w:Int)))),(14,.own 2),(59,.d (.int .i64 ((m.rel.map dU).length:Int))),(60,.d (.int .i64 ((i:Int))))]) (fun ((i,xs):Nat×List D)=>[(0,some (zac m)),(1,some (.row 1 zs)),(2,some (.row 1 xs))]) 3 (fun ((i,xs):Nat×List D)=>i≤m.rel.length∧xs=dI [(q w:Int)]::(m.rel.take i).map fun r=>dI (zeD true (zhi m.W.toNat q (r.getD w 0#64)))) (fun ((i,xs):Nat×List D)=>m.rel.length - i) ((0,[dI [(q w:Int)]])) [(0,0),(1,1),(2,3)] [] (⟨by omega,by simp⟩) (by (refine ⟨rfl,rfl,rfl,?_,?_⟩;repeat' first|exact trivial|exact rfl|exact ⟨_,rfl⟩|exact .inl rfl|exact .inr (.inl ⟨rfl,rfl⟩)|exact .inr (.inr ⟨rfl,rfl⟩)|refine And.intro ?_ ?_|refine ⟨_,rfl,?_⟩|decide|exact of_decide_eq_true rfl)) ?_
    rintro ⟨i,xs⟩ ⟨hi,hx⟩
    have hxl:xs.length≤5:=by rw [hx];simp;omega
    by_cases hil:i < m.rel.length
    ·obtain ⟨r,hr⟩ : ∃ r,m.rel[i]? = some r:=⟨_,List.getElem?_eq_getElem hil⟩
     have hrl:=hg0.len r (List.mem_of_getElem? hr)
     have hy:=zaZ (l:=r) (d:=0#64) (show w < r.length by omega)
     (repeat' ((conv=>whnf);first|refine vA ?_|refine vB fun b hb=>?_|refine vC (fun hl=>?_) fun i kv vv hi=>?_|refine vE ?_|refine vG ?_|refine vH ?_|((first|refine vD ?_ ?_|refine vF ?_ ?_|refine vI ?_ ?_)<;>intro hc<;>try simp only [vL] at hc)|refine vJ fun hg=>?_|refine vK fun hg=>?_|refine vT ?_|refine vN ‹_› ?_|(refine vQ ?_ fun x hx=>?_;·first|omega|(simp only [vM] at *;omega))|((first|refine vO ?_ ?_|refine vR ?_ ‹_› ?_|refine vS ?_ fun x hx=>?_|refine vP ?_ ?_);·first|omega|(simp only [vM] at *;omega))|refine vW ⟨by omega,by omega⟩ ?_|(refine vU ?_ ?_;·kernel_rfl)|refine vX ?_|refine vY ?_|refine vZ ?_|refine yN (zq8 q (n:=m.W.toNat) (by omega) _ true) ⟨⟨rfl,rfl⟩,⟨rfl,rfl⟩,⟨rfl,rfl⟩,rfl⟩ ?_|refine za.mk _ ‹_› ?_|refine vP (show (_:BitVec 64)≠_ by decide) ?_));all_goals try conv=>whnf
     ·refine ⟨(i+1,_),[(0,0),(1,1),(2,4)],[],?_,?_,by (refine ⟨rfl,rfl,rfl,?_,?_⟩;repeat' first|exact trivial|exact rfl|exact ⟨_,rfl⟩|exact .inl rfl|exact .inr (.inl ⟨rfl,rfl⟩)|exact .inr (.inr ⟨rfl,rfl⟩)|refine And.intro ?_ ?_|refine ⟨_,rfl,?_⟩|decide|exact of_decide_eq_true rfl)⟩
      ·exact ⟨by omega,by rw [List.take_add_one,hr,hx];simp⟩
      ·(first|omega|(simp only [vM] at *;omega))
     ·exfalso;omega
    ·(repeat' ((conv=>whnf);first|refine vA ?_|refine vB fun b hb=>?_|refine vC (fun hl=>?_) fun i kv vv hi=>?_|refine vE ?_|refine vG ?_|refine vH ?_|((first|refine vD ?_ ?_|refine vF ?_ ?_|refine vI ?_ ?_)<;>intro hc<;>try simp only [vL] at hc)|refine vJ fun hg=>?_|refine vK fun hg=>?_|refine vT ?_|refine vN ‹_› ?_|(refine vQ ?_ fun x hx=>?_;·first|omega|(simp only [vM] at *;omega))|((first|refine vO ?_ ?_|refine vR ?_ ‹_› ?_|refine vS ?_ fun x hx=>?_|refine vP ?_ ?_);·first|omega|(simp only [vM] at *;omega))|refine vW ⟨by omega,by omega⟩ ?_|(refine vU ?_ ?_;·kernel_rfl)|refine vX ?_|refine vY ?_|refine vZ ?_|refine za.mk _ ‹_› ?_|refine vP (show (_:BitVec 64)≠_ by decide) ?_));all_goals try conv=>whnf
     ·exfalso;omega
     ·refine ⟨(w+1,_),[(0,0),(1,4)],[],?_,?_,by (refine ⟨rfl,rfl,rfl,?_,?_⟩;repeat' first|exact trivial|exact rfl|exact ⟨_,rfl⟩|exact .inl rfl|exact .inr (.inl ⟨rfl,rfl⟩)|exact .inr (.inr ⟨rfl,rfl⟩)|refine And.intro ?_ ?_|refine ⟨_,rfl,?_⟩|decide|exact of_decide_eq_true rfl)⟩
      ·refine ⟨by omega,?_⟩
       rw [List.range_succ,List.map_append,List.map_append,← hz]
       have h1:xs=(zq m.W.toNat (zu m) q w).map dI:=by
        rw [hx,List.take_of_length_le (by omega),zk5]
       show zs++[D.arr 1 xs]=zs++[D.arr 1 _]
       rw [h1]
      ·(first|omega|(simp only [vM] at *;omega))
   ·exfalso;omega
  ·have hzz:zs=((List.range m.W.toNat).map (zq m.W.toNat (zu m) q)).map dII:=by rw [hz,show w=m.W.toNat by omega]
   clear hz
   subst hzz
   have c3:=c2 q
   (repeat' ((conv=>whnf);first|refine vA ?_|refine vB fun b hb=>?_|refine vC (fun hl=>?_) fun i kv vv hi=>?_|refine vE ?_|refine vG ?_|refine vH ?_|((first|refine vD ?_ ?_|refine vF ?_ ?_|refine vI ?_ ?_)<;>intro hc<;>try simp only [vL] at hc)|refine vJ fun hg=>?_|refine vK fun hg=>?_|refine vT ?_|refine vN ‹_› ?_|(refine vQ ?_ fun x hx=>?_;·first|omega|(simp only [vM] at *;omega))|((first|refine vO ?_ ?_|refine vR ?_ ‹_› ?_|refine vS ?_ fun x hx=>?_|refine vP ?_ ?_);·first|omega|(simp only [vM] at *;omega))|refine vW ⟨by omega,by omega⟩ ?_|(refine vU ?_ ?_;·kernel_rfl)|refine vX ?_|refine vY ?_|refine vZ ?_|refine yD c3 (by (repeat refine ⟨⟨rfl,rfl⟩,?_⟩);rfl) rfl ?_|refine yN c3 (by (repeat refine ⟨⟨rfl,rfl⟩,?_⟩);rfl) ?_|refine za.mk _ ‹_› ?_|refine vP (show (_:BitVec 64)≠_ by decide) ?_));all_goals try conv=>whnf
   ·exfalso;omega
   ·have e1:zam m.W.toNat (zq m.W.toNat (zu m)) q=dcN m.W.toNat q:=by have h:(cnN ((List.range m.W.toNat).map (zq m.W.toNat (zu m) q)):Int)=(c:Int):=‹_›;unfold zam rfT;omega
    rw [zaM,if_pos e1] at hI
    rw [← hI];rfl
   ·have e1:zam m.W.toNat (zq m.W.toNat (zu m)) q≠dcN m.W.toNat q:=fun e=>by
     have h : ¬(cnN ((List.range m.W.toNat).map (zq m.W.toNat (zu m) q)):Int)=(c:Int):=‹_›
     unfold zam rfT at e;omega
    have hF:=fun q v w hv hw h=>zcy (n:=m.W.toNat) (R:=zu m) q v w hv hw h
    have e2:=zmh hF q
    have e3:=zca (n:=m.W.toNat) (next:=zq m.W.toNat (zu m)) q
    have e4:=zoX (n:=m.W.toNat) (next:=zq m.W.toNat (zu m)) q
    refine ⟨(zcm m.W.toNat (zq m.W.toNat (zu m)) q,zam m.W.toNat (zq m.W.toNat (zu m)) q),[(0,0)],[],?_,?_,by (refine ⟨rfl,rfl,rfl,?_,?_⟩;repeat' first|exact trivial|exact rfl|exact ⟨_,rfl⟩|exact .inl rfl|exact .inr (.inl ⟨rfl,rfl⟩)|exact .inr (.inr ⟨rfl,rfl⟩)|refine And.intro ?_ ?_|refine ⟨_,rfl,?_⟩|decide|exact of_decide_eq_true rfl)⟩
    ·refine ⟨e3.symm,?_⟩
     rw [zaM,if_neg e1,← e3] at hI
     rw [← hI]
     exact znn hF _ _ _ (by omega) (by omega)
    ·show m.W.toNat+1 - zam m.W.toNat (zq m.W.toNat (zu m)) q < m.W.toNat+1 - c
     omega
end Go.Ab
namespace Go.Ab
open Go Go.Proofs
set_option maxRecDepth 10000
set_option maxHeartbeats 4000000
def zkw:List D→Option (List Int)
 | []=>some []
 | .int .i64 n::r=>match zkw r with
  | some l=>some (n::l)
  | none=>none
 | _=>none
theorem zpt : ∀ {ds:List D} {l:List Int},zkw ds=some l→ds=l.map (D.int .i64)
 | [],l,h=>by cases h;rfl
 | .int .i64 n::r,l,h=>by
  unfold zkw at h
  split at h
  ·rename_i l' h';cases h;rw [zpt h'];rfl
  ·cases h
def zgy:List D→Option (List (BitVec 64))
 | []=>some []
 | .u64 n::r=>match zgy r with
  | some l=>some (n::l)
  | none=>none
 | _=>none
theorem zkj : ∀ {ds:List D} {l:List (BitVec 64)},zgy ds=some l→ds=l.map D.u64
 | [],l,h=>by cases h;rfl
 | .u64 n::r,l,h=>by
  unfold zgy at h
  split at h
  ·rename_i l' h';cases h;rw [zkj h'];rfl
  ·cases h
def zhR:List D→Option (List (List Int))
 | []=>some []
 | .arr 1 x::r=>match zkw x with
  | some a=>match zhR r with
   | some l=>some (a::l)
   | none=>none
  | none=>none
 | _=>none
theorem zjZ : ∀ {ds:List D} {l:List (List Int)},zhR ds=some l→ds=l.map dI
 | [],l,h=>by cases h;rfl
 | .arr 1 x::r,l,h=>by
  replace h:(match zkw x with
   | some a=>match zhR r with
    | some l=>some (a::l)
    | none=>none
   | none=>none)=some l:=h
  cases h1:zkw x with
  | none=>rw [h1] at h;cases h
  | some a =>
   cases h2:zhR r with
   | none=>rw [h1,h2] at h;cases h
   | some l'=>rw [h1,h2] at h;cases h;rw [zjZ h2,zpt h1];rfl
def zmM:List D→Option (List (List (BitVec 64)))
 | []=>some []
 | .arr 1 x::r=>match zgy x with
  | some a=>match zmM r with
   | some l=>some (a::l)
   | none=>none
  | none=>none
 | _=>none
theorem zpX : ∀ {ds:List D} {l:List (List (BitVec 64))},zmM ds=some l→ds=l.map dU
 | [],l,h=>by cases h;rfl
 | .arr 1 x::r,l,h=>by
  replace h:(match zgy x with
   | some a=>match zmM r with
    | some l=>some (a::l)
    | none=>none
   | none=>none)=some l:=h
  cases h1:zgy x with
  | none=>rw [h1] at h;cases h
  | some a =>
   cases h2:zmM r with
   | none=>rw [h1,h2] at h;cases h
   | some l'=>rw [h1,h2] at h;cases h;rw [zpX h2,zkj h1];rfl
def zr7:D→Option KM
 | .agg [.int .i64 W,.arr 1 v,.arr 1 r]=>match zgy v,zmM r with
  | some v,some r=>some ⟨W,v,r⟩
  | _,_=>none
 | _=>none
theorem zrc {d:D} {m:KM} (h:zr7 d=some m):d=dKM m:=by
 unfold zr7 at h
 split at h
 ·split at h
  ·rename_i h1 h2;cases h;rw [zkj h1,zpX h2]
  ·cases h
 ·cases h
def zsm (t:Tup):Bool:=Nat.ble t.length 1000&&t.all fun r=>Nat.ble r.length 1000
theorem zv4 {t:Tup} (h:zsm t=true):Sml t:=by
 unfold zsm at h
 rw [Bool.and_eq_true,Nat.ble_eq] at h
 exact ⟨h.1,fun r hr=>by have:=List.all_eq_true.1 h.2 r hr;rwa [Nat.ble_eq] at this⟩
def zpw:Fs:=fun f vs obs =>
 cond (Nat.beq f zI) (match vs,obs with
  | [.d (.arr 1 a),.d (.arr 1 b)],[]=>match zhR a,zhR b with
   | some a,some b=>cond (zsm a) (some (.d (.int .i64 (z7 a b)),[])) none
   | _,_=>none
  | _,_=>none)
 (cond (Nat.beq f zar) (match vs,obs with
  | [.d (.u64 w)],[]=>some (.d (.int .i64 (Lib.ctz 64 w.toNat)),[])
  | _,_=>none)
 (cond (Nat.beq f zcX) (match vs,obs with
  | [.d (.u64 w)],[]=>some (.d (.int .i64 (Sort.bitsLen w.toNat:Int)),[])
  | _,_=>none)
 (cond (Nat.beq f zdU) (match vs,obs with
  | [.d d],[]=>match zr7 d with
   | some m=>some (.d (.int .i64 (zm m)),[])
   | none=>none
  | _,_=>none)
 (cond (Nat.beq f zdV) (match vs,obs with
  | [.d d,.d (.int .i64 w)],[]=>match zr7 d with
   | some m=>some (.d (.int .i64 (zeR m w)),[])
   | none=>none
  | _,_=>none) none))))
def zw5 (f:Nat):Bool:=Nat.beq f zU||(Nat.beq f zy||(Nat.beq f zdF||(Nat.beq f zax||Nat.beq f zgg)))
noncomputable def zwo:Cfg:=⟨zi Tryz.prog,zpw,fun _ _ _=>none,zw5,fun f=>Nat.beq f zct,150⟩
variable {T:Nat→Obj→Prop}
theorem zs7 (hT:zeM T):zrs Tryz.prog T zpw:=by
 intro f vs obs v obs' h
 unfold zpw at h
 cases h1:Nat.beq f zI with
 | true =>
  rw [h1,cond_true] at h
  rw [Nat.eq_of_beq_eq_true h1]
  split at h
  ·split at h
   ·rename_i a b ha hb
    rw [zjZ ha,zjZ hb]
    cases hc:zsm a with
    | true=>rw [hc] at h;cases h;exact zgh _ _ (zv4 hc)
    | false=>rw [hc] at h;cases h
   ·cases h
  ·cases h
 | false =>
  rw [h1,cond_false] at h
  cases h2:Nat.beq f zar with
  | true =>
   rw [h2,cond_true] at h
   rw [Nat.eq_of_beq_eq_true h2]
   split at h
   ·cases h;exact hT _
   ·cases h
  | false =>
   rw [h2,cond_false] at h
   cases h3:Nat.beq f zcX with
   | true =>
    rw [h3,cond_true] at h
    rw [Nat.eq_of_beq_eq_true h3]
    split at h
    ·cases h;exact zph _
    ·cases h
   | false =>
    rw [h3,cond_false] at h
    cases h4:Nat.beq f zdU with
    | true =>
     rw [h4,cond_true] at h
     rw [Nat.eq_of_beq_eq_true h4]
     split at h
     ·split at h
      ·rename_i hm;cases h;rw [zrc hm];exact zec _
      ·cases h
     ·cases h
    | false =>
     rw [h4,cond_false] at h
     cases h5:Nat.beq f zdV with
     | true =>
      rw [h5,cond_true] at h
      rw [Nat.eq_of_beq_eq_true h5]
      split at h
      ·split at h
       ·rename_i hm;cases h;rw [zrc hm];exact znI _ _
       ·cases h
      ·cases h
     | false=>rw [h5] at h;cases h
theorem zvE (hT:zeM T):zrr Tryz.prog T zwo:=⟨fun f c h=>h,zs7 hT,fun g vs obs xs h=>by cases h⟩
end Go.Ab
namespace Go.Ab
open Go Go.Proofs
set_option maxRecDepth 10000
set_option maxHeartbeats 4000000
variable {T:Nat→Obj→Prop}
def zdu (a b:List Int) (v w:Nat):Bool:=decide (at0 a v=at0 a w∧at0 b v=at0 b w)
theorem zg7 {n:Nat} {q:Nat→Nat} (hq:zfr n q) (hn:n≤64):Fn Tryz.prog T zer [.d (dI (ptL n q))] [] (.d (.int .i64 0)) []:=by
 have hl:(ptL n q).length=n:=zbJ
 refine zg zw ziG (by show 1≤31;decide) ?_
 (repeat' ((conv=>whnf);first|refine vA ?_|refine vB fun b hb=>?_|refine vC (fun hl=>?_) fun i kv vv hi=>?_|refine vE ?_|refine vG ?_|refine vH ?_|((first|refine vD ?_ ?_|refine vF ?_ ?_|refine vI ?_ ?_)<;>intro hc<;>try simp only [vL] at hc)|refine vJ fun hg=>?_|refine vK fun hg=>?_|refine vT ?_|refine vN ‹_› ?_|(refine vQ ?_ fun x hx=>?_;·first|omega|(simp only [vM] at *;omega))|((first|refine vO ?_ ?_|refine vR ?_ ‹_› ?_|refine vS ?_ fun x hx=>?_|refine vP ?_ ?_);·first|omega|(simp only [vM] at *;omega))|refine vW ⟨by omega,by omega⟩ ?_|(refine vU ?_ ?_;·kernel_rfl)|refine vX ?_|refine vY ?_|refine vZ ?_|refine za.mk _ ‹_› ?_|refine vP (show (_:BitVec 64)≠_ by decide) ?_));all_goals try conv=>whnf
 ·omega
 ·refine zW (fun (k:Nat)=>[(0,.d (dI (ptL n q))),(8,.d (dI (ptL n q))),(9,.d (.int .i64 (((ptL n q).map (D.int .i64)).length:Int))),(10,.d (.int .i64 ((k:Int))))]) (fun (k:Nat)=>k≤n) (fun (k:Nat)=>n - k) (0) (by simp) (by (repeat' first|exact trivial|exact rfl|exact ⟨_,rfl⟩|exact .inl rfl|exact .inr (.inl ⟨rfl,rfl⟩)|exact .inr (.inr ⟨rfl,rfl⟩)|refine And.intro ?_ ?_|refine ⟨_,rfl,?_⟩|decide|exact of_decide_eq_true rfl)) ?_
  rintro k hk
  by_cases hkl:k < n
  ·have e1:(ptL n q)[k]? = some ((q k:Nat):Int):=zaw hkl
   have b1:=hq.le k hkl
   have e2:(ptL n q)[q k]? = some ((q k:Nat):Int):=by rw [zaw (by omega),hq.idem k hkl]
   (repeat' ((conv=>whnf);first|refine vA ?_|refine vB fun b hb=>?_|refine vC (fun hl=>?_) fun i kv vv hi=>?_|refine vE ?_|refine vG ?_|refine vH ?_|((first|refine vD ?_ ?_|refine vF ?_ ?_|refine vI ?_ ?_)<;>intro hc<;>try simp only [vL] at hc)|refine vJ fun hg=>?_|refine vK fun hg=>?_|refine vT ?_|refine vN ‹_› ?_|(refine vQ ?_ fun x hx=>?_;·first|omega|(simp only [vM] at *;omega))|((first|refine vO ?_ ?_|refine vR ?_ ‹_› ?_|refine vS ?_ fun x hx=>?_|refine vP ?_ ?_);·first|omega|(simp only [vM] at *;omega))|refine vW ⟨by omega,by omega⟩ ?_|(refine vU ?_ ?_;·kernel_rfl)|refine vX ?_|refine vY ?_|refine vZ ?_|refine za.mk _ ‹_› ?_|refine vP (show (_:BitVec 64)≠_ by decide) ?_));all_goals try conv=>whnf
   all_goals try omega
   exact ⟨k+1,[],[],by (first|omega|(simp only [vM] at *;omega)),by (first|omega|(simp only [vM] at *;omega)),by (refine ⟨rfl,rfl,rfl,?_,?_⟩;repeat' first|exact trivial|exact rfl|exact ⟨_,rfl⟩|exact .inl rfl|exact .inr (.inl ⟨rfl,rfl⟩)|exact .inr (.inr ⟨rfl,rfl⟩)|refine And.intro ?_ ?_|refine ⟨_,rfl,?_⟩|decide|exact of_decide_eq_true rfl)⟩
  ·(repeat' ((conv=>whnf);first|refine vA ?_|refine vB fun b hb=>?_|refine vC (fun hl=>?_) fun i kv vv hi=>?_|refine vE ?_|refine vG ?_|refine vH ?_|((first|refine vD ?_ ?_|refine vF ?_ ?_|refine vI ?_ ?_)<;>intro hc<;>try simp only [vL] at hc)|refine vJ fun hg=>?_|refine vK fun hg=>?_|refine vT ?_|refine vN ‹_› ?_|(refine vQ ?_ fun x hx=>?_;·first|omega|(simp only [vM] at *;omega))|((first|refine vO ?_ ?_|refine vR ?_ ‹_› ?_|refine vS ?_ fun x hx=>?_|refine vP ?_ ?_);·first|omega|(simp only [vM] at *;omega))|refine vW ⟨by omega,by omega⟩ ?_|(refine vU ?_ ?_;·kernel_rfl)|refine vX ?_|refine vY ?_|refine vZ ?_|refine za.mk _ ‹_› ?_|refine vP (show (_:BitVec 64)≠_ by decide) ?_));all_goals try conv=>whnf
   all_goals omega
def ziM (e:Nat→Nat→Bool) (w k:Nat):Nat:=((List.range' k (w - k)).find? fun v=>e v w).getD w
theorem zpy (e:Nat→Nat→Bool) (w:Nat):ziM e w (w+1)=w:=by simp [ziM]
theorem zta (e:Nat→Nat→Bool) (w:Nat):ziM e w 0=zY e w:=by simp [ziM,zY,List.range_eq_range']
theorem zs9 (e:Nat→Nat→Bool) {w k:Nat} (h:k≤w):ziM e w k=if e k w=true then k else ziM e w (k+1):=by
 by_cases hw:k=w
 ·subst hw;rw [zpy];simp [ziM]
 ·unfold ziM
  rw [show w - k=(w - (k+1))+1 by omega,List.range'_succ,List.find?_cons]
  by_cases hk:e k w=true
  ·rw [hk,if_pos rfl];rfl
  ·rw [if_neg hk];simp only [Bool.not_eq_true] at hk;rw [hk]
theorem zsU (a b:List Int) (hl:a.length=b.length) (h64:a.length≤64):Fn Tryz.prog T zdd [.d (dI a),.d (dI b)] [] (.d (dI (ptL a.length (zY (zdu a b))))) []:=by
 refine zg zw zgm (by show 2≤47;decide) ?_
 (repeat' ((conv=>whnf);first|refine vA ?_|refine vB fun b hb=>?_|refine vC (fun hl=>?_) fun i kv vv hi=>?_|refine vE ?_|refine vG ?_|refine vH ?_|((first|refine vD ?_ ?_|refine vF ?_ ?_|refine vI ?_ ?_)<;>intro hc<;>try simp only [vL] at hc)|refine vJ fun hg=>?_|refine vK fun hg=>?_|refine vT ?_|refine vN ‹_› ?_|(refine vQ ?_ fun x hx=>?_;·first|omega|(simp only [vM] at *;omega))|((first|refine vO ?_ ?_|refine vR ?_ ‹_› ?_|refine vS ?_ fun x hx=>?_|refine vP ?_ ?_);·first|omega|(simp only [vM] at *;omega))|refine vW ⟨by omega,by omega⟩ ?_|(refine vU ?_ ?_;·kernel_rfl)|refine vX ?_|refine vY ?_|refine vZ ?_|refine za.mk _ ‹_› ?_|refine vP (show (_:BitVec 64)≠_ by decide) ?_));all_goals try conv=>whnf
 refine zj (fun ((i,zs):Nat×List D)=>[(0,.d (dI a)),(1,.d (dI b)),(5,.own 0),(10,.d (.int .i64 (((a.map (D.int .i64)).length:Int)))),(11,.d (.int .i64 ((i:Int))))]) (fun ((i,zs):Nat×List D)=>[(0,some (.row 1 zs))]) 1 (fun ((i,zs):Nat×List D)=>i≤a.length∧zs=(ptL i (zY (zdu a b))).map (D.int .i64)) (fun ((i,zs):Nat×List D)=>a.length - i) ((0,[])) []   [0] (⟨by simp,rfl⟩) (by (refine ⟨rfl,rfl,rfl,?_,?_⟩;repeat' first|exact trivial|exact rfl|exact ⟨_,rfl⟩|exact .inl rfl|exact .inr (.inl ⟨rfl,rfl⟩)|exact .inr (.inr ⟨rfl,rfl⟩)|refine And.intro ?_ ?_|refine ⟨_,rfl,?_⟩|decide|exact of_decide_eq_true rfl)) ?_
 rintro ⟨i,zs⟩ ⟨hi,hz⟩
 have hzl:zs.length=i:=by rw [hz];simp [ptL]
 by_cases hil:i < a.length
 ·have a1:=zl2 hil
  have b1:b[i]? = some (at0 b i):=zl2 (by omega)
  (repeat' ((conv=>whnf);first|refine vA ?_|refine vB fun b hb=>?_|refine vC (fun hl=>?_) fun i kv vv hi=>?_|refine vE ?_|refine vG ?_|refine vH ?_|((first|refine vD ?_ ?_|refine vF ?_ ?_|refine vI ?_ ?_)<;>intro hc<;>try simp only [vL] at hc)|refine vJ fun hg=>?_|refine vK fun hg=>?_|refine vT ?_|refine vN ‹_› ?_|(refine vQ ?_ fun x hx=>?_;·first|omega|(simp only [vM] at *;omega))|((first|refine vO ?_ ?_|refine vR ?_ ‹_› ?_|refine vS ?_ fun x hx=>?_|refine vP ?_ ?_);·first|omega|(simp only [vM] at *;omega))|refine vW ⟨by omega,by omega⟩ ?_|(refine vU ?_ ?_;·kernel_rfl)|refine vX ?_|refine vY ?_|refine vZ ?_|refine za.mk _ ‹_› ?_|refine vP (show (_:BitVec 64)≠_ by decide) ?_));all_goals try conv=>whnf
  ·refine zj (fun ((d,j):Int×Nat)=>[(0,.d (dI a)),(1,.d (dI b)),(5,.own 0),(6,.d (.int .i64 ((i:Int)))),(7,.d (.int .i64 ((j:Int)))),(8,.d (.int .i64 (d))),(10,.d (.int .i64 (((a.map (D.int .i64)).length:Int)))),(11,.d (.int .i64 ((i:Int))))]) (fun ((d,j):Int×Nat)=>[(0,some (.row 1 zs))]) 1 (fun ((d,j):Int×Nat) => -1≤d∧d≤i∧j=ziM (zdu a b) i (d+1).toNat) (fun ((d,j):Int×Nat)=>(d+1).toNat) (((i:Int),i)) [(0,0)] [] (⟨by omega,by omega,by rw [show ((i:Int)+1).toNat=i+1 by omega,zpy]⟩) (by (refine ⟨rfl,rfl,rfl,?_,?_⟩;repeat' first|exact trivial|exact rfl|exact ⟨_,rfl⟩|exact .inl rfl|exact .inr (.inl ⟨rfl,rfl⟩)|exact .inr (.inr ⟨rfl,rfl⟩)|refine And.intro ?_ ?_|refine ⟨_,rfl,?_⟩|decide|exact of_decide_eq_true rfl)) ?_
   rintro ⟨d,j⟩ ⟨hd1,hd2,hj⟩
   by_cases hd:0≤d
   ·obtain ⟨v,rfl⟩ : ∃ v:Nat,d=(v:Int):=⟨d.toNat,by omega⟩
    have a2:a[v]? = some (at0 a v):=zl2 (by omega)
    have b2:b[v]? = some (at0 b v):=zl2 (by omega)
    have hs:=zs9 (zdu a b) (w:=i) (k:=v) (by omega)
    rw [show ((v:Int)+1).toNat=v+1 by omega] at hj
    (repeat' ((conv=>whnf);first|refine vA ?_|refine vB fun b hb=>?_|refine vC (fun hl=>?_) fun i kv vv hi=>?_|refine vE ?_|refine vG ?_|refine vH ?_|((first|refine vD ?_ ?_|refine vF ?_ ?_|refine vI ?_ ?_)<;>intro hc<;>try simp only [vL] at hc)|refine vJ fun hg=>?_|refine vK fun hg=>?_|refine vT ?_|refine vN ‹_› ?_|(refine vQ ?_ fun x hx=>?_;·first|omega|(simp only [vM] at *;omega))|((first|refine vO ?_ ?_|refine vR ?_ ‹_› ?_|refine vS ?_ fun x hx=>?_|refine vP ?_ ?_);·first|omega|(simp only [vM] at *;omega))|refine vW ⟨by omega,by omega⟩ ?_|(refine vU ?_ ?_;·kernel_rfl)|refine vX ?_|refine vY ?_|refine vZ ?_|refine za.mk _ ‹_› ?_|refine vP (show (_:BitVec 64)≠_ by decide) ?_));all_goals try conv=>whnf
    ·refine ⟨((v:Int) - 1,v),[(0,0)],[],?_,?_,by (refine ⟨rfl,rfl,rfl,?_,?_⟩;repeat' first|exact trivial|exact rfl|exact ⟨_,rfl⟩|exact .inl rfl|exact .inr (.inl ⟨rfl,rfl⟩)|exact .inr (.inr ⟨rfl,rfl⟩)|refine And.intro ?_ ?_|refine ⟨_,rfl,?_⟩|decide|exact of_decide_eq_true rfl)⟩
     ·refine ⟨by omega,by omega,?_⟩
      rw [show ((v:Int) - 1+1).toNat=v by omega,hs,if_pos (by simp_all [zdu])]
     ·(first|omega|(simp only [vM] at *;omega))
    all_goals try (exact absurd ‹(v:Int) < 0› (by omega))
    all_goals
     refine ⟨((v:Int) - 1,j),[(0,0)],[],?_,?_,by (refine ⟨rfl,rfl,rfl,?_,?_⟩;repeat' first|exact trivial|exact rfl|exact ⟨_,rfl⟩|exact .inl rfl|exact .inr (.inl ⟨rfl,rfl⟩)|exact .inr (.inr ⟨rfl,rfl⟩)|refine And.intro ?_ ?_|refine ⟨_,rfl,?_⟩|decide|exact of_decide_eq_true rfl)⟩
     ·refine ⟨by omega,by omega,?_⟩
      rw [show ((v:Int) - 1+1).toNat=v by omega,hs,if_neg (by simp_all [zdu]),hj]
     ·(first|omega|(simp only [vM] at *;omega))
   ·(repeat' ((conv=>whnf);first|refine vA ?_|refine vB fun b hb=>?_|refine vC (fun hl=>?_) fun i kv vv hi=>?_|refine vE ?_|refine vG ?_|refine vH ?_|((first|refine vD ?_ ?_|refine vF ?_ ?_|refine vI ?_ ?_)<;>intro hc<;>try simp only [vL] at hc)|refine vJ fun hg=>?_|refine vK fun hg=>?_|refine vT ?_|refine vN ‹_› ?_|(refine vQ ?_ fun x hx=>?_;·first|omega|(simp only [vM] at *;omega))|((first|refine vO ?_ ?_|refine vR ?_ ‹_› ?_|refine vS ?_ fun x hx=>?_|refine vP ?_ ?_);·first|omega|(simp only [vM] at *;omega))|refine vW ⟨by omega,by omega⟩ ?_|(refine vU ?_ ?_;·kernel_rfl)|refine vX ?_|refine vY ?_|refine vZ ?_|refine za.mk _ ‹_› ?_|refine vP (show (_:BitVec 64)≠_ by decide) ?_));all_goals try conv=>whnf
    all_goals try omega
    refine ⟨(i+1,_),[(0,2)],[],?_,?_,by (refine ⟨rfl,rfl,rfl,?_,?_⟩;repeat' first|exact trivial|exact rfl|exact ⟨_,rfl⟩|exact .inl rfl|exact .inr (.inl ⟨rfl,rfl⟩)|exact .inr (.inr ⟨rfl,rfl⟩)|refine And.intro ?_ ?_|refine ⟨_,rfl,?_⟩|decide|exact of_decide_eq_true rfl)⟩
    ·refine ⟨by omega,?_⟩
     rw [← zuT,← hz,hj,show (d+1).toNat=0 by omega,zta];rfl
    ·(first|omega|(simp only [vM] at *;omega))
  all_goals omega
 ·(repeat' ((conv=>whnf);first|refine vA ?_|refine vB fun b hb=>?_|refine vC (fun hl=>?_) fun i kv vv hi=>?_|refine vE ?_|refine vG ?_|refine vH ?_|((first|refine vD ?_ ?_|refine vF ?_ ?_|refine vI ?_ ?_)<;>intro hc<;>try simp only [vL] at hc)|refine vJ fun hg=>?_|refine vK fun hg=>?_|refine vT ?_|refine vN ‹_› ?_|(refine vQ ?_ fun x hx=>?_;·first|omega|(simp only [vM] at *;omega))|((first|refine vO ?_ ?_|refine vR ?_ ‹_› ?_|refine vS ?_ fun x hx=>?_|refine vP ?_ ?_);·first|omega|(simp only [vM] at *;omega))|refine vW ⟨by omega,by omega⟩ ?_|(refine vU ?_ ?_;·kernel_rfl)|refine vX ?_|refine vY ?_|refine vZ ?_|refine za.mk _ ‹_› ?_|refine vP (show (_:BitVec 64)≠_ by decide) ?_));all_goals try conv=>whnf
  ·omega
  ·have e0:i=a.length:=by omega
   subst e0
   rw [hz];rfl
theorem znL {n:Nat} {q:Nat→Nat} (hq:zfr n q) (hn:n≤64) (ks:List Int) (hk:ks.length=n):Fn Tryz.prog T zet [.d (dI (ptL n q)),.d (dI ks)] [] (.d (.tup [dI (ptL n (zY (zdu (ptL n q) ks))),.int .i64 0])) []:=by
 have hl:(ptL n q).length=n:=zbJ
 have cc:=zsU (T:=T) (ptL n q) ks (by omega) (by omega)
 rw [hl] at cc
 refine zg zw ziI (by show 2≤20;decide) ?_
 (repeat' ((conv=>whnf);first|refine vA ?_|refine vB fun b hb=>?_|refine vC (fun hl=>?_) fun i kv vv hi=>?_|refine vE ?_|refine vG ?_|refine vH ?_|((first|refine vD ?_ ?_|refine vF ?_ ?_|refine vI ?_ ?_)<;>intro hc<;>try simp only [vL] at hc)|refine vJ fun hg=>?_|refine vK fun hg=>?_|refine vT ?_|refine vN ‹_› ?_|(refine vQ ?_ fun x hx=>?_;·first|omega|(simp only [vM] at *;omega))|((first|refine vO ?_ ?_|refine vR ?_ ‹_› ?_|refine vS ?_ fun x hx=>?_|refine vP ?_ ?_);·first|omega|(simp only [vM] at *;omega))|refine vW ⟨by omega,by omega⟩ ?_|(refine vU ?_ ?_;·kernel_rfl)|refine vX ?_|refine vY ?_|refine vZ ?_|refine yD (zg7 hq hn) ⟨⟨rfl,rfl⟩,rfl⟩ rfl ?_|refine yN cc ⟨⟨rfl,rfl⟩,⟨rfl,rfl⟩,rfl⟩ ?_|refine za.mk _ ‹_› ?_|refine vP (show (_:BitVec 64)≠_ by decide) ?_));all_goals try conv=>whnf
 ·omega
 ·rfl
theorem zqA (n:Nat) (hn:n≤64):Fn Tryz.prog T zdM [.d (.int .i64 (n:Int))] [] (.d (.tup [dI (ptL n fun _=>0),.int .i64 0])) []:=by
 refine zg zw zg9 (by show 1≤12;decide) ?_
 (repeat' ((conv=>whnf);first|refine vA ?_|refine vB fun b hb=>?_|refine vC (fun hl=>?_) fun i kv vv hi=>?_|refine vE ?_|refine vG ?_|refine vH ?_|((first|refine vD ?_ ?_|refine vF ?_ ?_|refine vI ?_ ?_)<;>intro hc<;>try simp only [vL] at hc)|refine vJ fun hg=>?_|refine vK fun hg=>?_|refine vT ?_|refine vN ‹_› ?_|(refine vQ ?_ fun x hx=>?_;·first|omega|(simp only [vM] at *;omega))|((first|refine vO ?_ ?_|refine vR ?_ ‹_› ?_|refine vS ?_ fun x hx=>?_|refine vP ?_ ?_);·first|omega|(simp only [vM] at *;omega))|refine vW ⟨by omega,by omega⟩ ?_|(refine vU ?_ ?_;·kernel_rfl)|refine vX ?_|refine vY ?_|refine vZ ?_|refine za.mk _ ‹_› ?_|refine vP (show (_:BitVec 64)≠_ by decide) ?_));all_goals try conv=>whnf
 ·omega
 ·refine congrArg (fun l=>some (D.tup [D.arr 1 l,D.int .i64 0])) ?_
  rw [zbg];unfold ptL;rw [List.map_map];rfl
theorem zsW (a b:List Int):Fn Tryz.prog T zeG [.d (dI a),.d (dI b)] [] (.d (.bool (a==b))) []:=by
 refine zg zw zjg (by show 2≤26;decide) ?_
 (repeat' ((conv=>whnf);first|refine vA ?_|refine vB fun b hb=>?_|refine vC (fun hl=>?_) fun i kv vv hi=>?_|refine vE ?_|refine vG ?_|refine vH ?_|((first|refine vD ?_ ?_|refine vF ?_ ?_|refine vI ?_ ?_)<;>intro hc<;>try simp only [vL] at hc)|refine vJ fun hg=>?_|refine vK fun hg=>?_|refine vT ?_|refine vN ‹_› ?_|(refine vQ ?_ fun x hx=>?_;·first|omega|(simp only [vM] at *;omega))|((first|refine vO ?_ ?_|refine vR ?_ ‹_› ?_|refine vS ?_ fun x hx=>?_|refine vP ?_ ?_);·first|omega|(simp only [vM] at *;omega))|refine vW ⟨by omega,by omega⟩ ?_|(refine vU ?_ ?_;·kernel_rfl)|refine vX ?_|refine vY ?_|refine vZ ?_|refine za.mk _ ‹_› ?_|refine vP (show (_:BitVec 64)≠_ by decide) ?_));all_goals try conv=>whnf
 ·have:a≠b:=fun e=>hc (by rw [e])
  simp [this]
 ·refine zW (fun (k:Nat)=>[(0,.d (dI a)),(1,.d (dI b)),(12,.d (.int .i64 ((a.map (D.int .i64)).length:Int))),(13,.d (.int .i64 ((k:Int))))]) (fun (k:Nat)=>k≤a.length∧(a==b)=(a.drop k==b.drop k)) (fun (k:Nat)=>a.length - k) (0) (⟨by simp,by simp⟩) (by (repeat' first|exact trivial|exact rfl|exact ⟨_,rfl⟩|exact .inl rfl|exact .inr (.inl ⟨rfl,rfl⟩)|exact .inr (.inr ⟨rfl,rfl⟩)|refine And.intro ?_ ?_|refine ⟨_,rfl,?_⟩|decide|exact of_decide_eq_true rfl)) ?_
  rintro k ⟨hk,hI⟩
  (repeat' ((conv=>whnf);first|refine vA ?_|refine vB fun b hb=>?_|refine vC (fun hl=>?_) fun i kv vv hi=>?_|refine vE ?_|refine vG ?_|refine vH ?_|((first|refine vD ?_ ?_|refine vF ?_ ?_|refine vI ?_ ?_)<;>intro hc<;>try simp only [vL] at hc)|refine vJ fun hg=>?_|refine vK fun hg=>?_|refine vT ?_|refine vN ‹_› ?_|(refine vQ ?_ fun x hx=>?_;·first|omega|(simp only [vM] at *;omega))|((first|refine vO ?_ ?_|refine vR ?_ ‹_› ?_|refine vS ?_ fun x hx=>?_|refine vP ?_ ?_);·first|omega|(simp only [vM] at *;omega))|refine vW ⟨by omega,by omega⟩ ?_|(refine vU ?_ ?_;·kernel_rfl)|refine vX ?_|refine vY ?_|refine vZ ?_|refine za.mk _ ‹_› ?_|refine vP (show (_:BitVec 64)≠_ by decide) ?_));all_goals try conv=>whnf
  ·rw [hI,zx ‹a[k]? = some _›,zx ‹b[k]? = some _›];simp [hc]
  ·exact ⟨k+1,[],[],⟨by (first|omega|(simp only [vM] at *;omega)),by rw [hI,zx ‹a[k]? = some _›,zx ‹b[k]? = some _›];simp [hc]⟩,by (first|omega|(simp only [vM] at *;omega)),by (refine ⟨rfl,rfl,rfl,?_,?_⟩;repeat' first|exact trivial|exact rfl|exact ⟨_,rfl⟩|exact .inl rfl|exact .inr (.inl ⟨rfl,rfl⟩)|exact .inr (.inr ⟨rfl,rfl⟩)|refine And.intro ?_ ?_|refine ⟨_,rfl,?_⟩|decide|exact of_decide_eq_true rfl)⟩
  ·rw [hI,List.drop_eq_nil_of_le (by omega),List.drop_eq_nil_of_le (by omega)];rfl
theorem znK {n:Nat} {q:Nat→Nat} (hq:zfr n q) (hn:n≤64) {i:Nat} (hi:i < n) : ∃ s,Fn Tryz.prog T zcu [.d (dI (ptL n q)),.d (.int .i64 (i:Int))] [] (.d (.u64 s)) []:=by
 have hl:(ptL n q).length=n:=zbJ
 have ei:=zaw (q:=q) hi
 generalize hf:(fun (s:BitVec 64) (j:Nat)=>if q j=q i then s+1#64 <<< j else s)=f
 refine ⟨(List.range n).foldl f 0#64,?_⟩
 refine zg zw ziF (by show 2≤42;decide) ?_
 (repeat' ((conv=>whnf);first|refine vA ?_|refine vB fun b hb=>?_|refine vC (fun hl=>?_) fun i kv vv hi=>?_|refine vE ?_|refine vG ?_|refine vH ?_|((first|refine vD ?_ ?_|refine vF ?_ ?_|refine vI ?_ ?_)<;>intro hc<;>try simp only [vL] at hc)|refine vJ fun hg=>?_|refine vK fun hg=>?_|refine vT ?_|refine vN ‹_› ?_|(refine vQ ?_ fun x hx=>?_;·first|omega|(simp only [vM] at *;omega))|((first|refine vO ?_ ?_|refine vR ?_ ‹_› ?_|refine vS ?_ fun x hx=>?_|refine vP ?_ ?_);·first|omega|(simp only [vM] at *;omega))|refine vW ⟨by omega,by omega⟩ ?_|(refine vU ?_ ?_;·kernel_rfl)|refine vX ?_|refine vY ?_|refine vZ ?_|refine yD (zg7 hq hn) ⟨⟨rfl,rfl⟩,rfl⟩ rfl ?_|refine za.mk _ ‹_› ?_|refine vP (show (_:BitVec 64)≠_ by decide) ?_));all_goals try conv=>whnf
 all_goals try (exfalso;omega)
 refine zW (fun ((j,s,bt):Nat×BitVec 64×BitVec 64)=>[(0,.d (dI (ptL n q))),(1,.d (.int .i64 ((i:Int)))),(5,.d (.u64 (s))),(6,.d (.u64 (bt))),(22,.d (.int .i64 (((ptL n q).map (D.int .i64)).length:Int))),(23,.d (.int .i64 ((j:Int))))]) (fun ((j,s,bt):Nat×BitVec 64×BitVec 64)=>j≤n∧s=(List.range j).foldl f 0#64∧bt=1#64 <<< j) (fun ((j,s,bt):Nat×BitVec 64×BitVec 64)=>n - j) ((0,0#64,1#64)) (⟨by omega,rfl,by simp⟩) (by (repeat' first|exact trivial|exact rfl|exact ⟨_,rfl⟩|exact .inl rfl|exact .inr (.inl ⟨rfl,rfl⟩)|exact .inr (.inr ⟨rfl,rfl⟩)|refine And.intro ?_ ?_|refine ⟨_,rfl,?_⟩|decide|exact of_decide_eq_true rfl)) ?_
 rintro ⟨j,s,bt⟩ ⟨hj,hs,hbt⟩
 by_cases hjl:j < n
 ·have ej:=zaw (q:=q) hjl
  have hsucc:(List.range (j+1)).foldl f 0#64=f ((List.range j).foldl f 0#64) j:=by rw [List.range_succ,List.foldl_append];rfl
  (repeat' ((conv=>whnf);first|refine vA ?_|refine vB fun b hb=>?_|refine vC (fun hl=>?_) fun i kv vv hi=>?_|refine vE ?_|refine vG ?_|refine vH ?_|((first|refine vD ?_ ?_|refine vF ?_ ?_|refine vI ?_ ?_)<;>intro hc<;>try simp only [vL] at hc)|refine vJ fun hg=>?_|refine vK fun hg=>?_|refine vT ?_|refine vN ‹_› ?_|(refine vQ ?_ fun x hx=>?_;·first|omega|(simp only [vM] at *;omega))|((first|refine vO ?_ ?_|refine vR ?_ ‹_› ?_|refine vS ?_ fun x hx=>?_|refine vP ?_ ?_);·first|omega|(simp only [vM] at *;omega))|refine vW ⟨by omega,by omega⟩ ?_|(refine vU ?_ ?_;·kernel_rfl)|refine vX ?_|refine vY ?_|refine vZ ?_|refine za.mk _ ‹_› ?_|refine vP (show (_:BitVec 64)≠_ by decide) ?_));all_goals try conv=>whnf
  ·refine ⟨(j+1,_,_),[],[],?_,?_,by (refine ⟨rfl,rfl,rfl,?_,?_⟩;repeat' first|exact trivial|exact rfl|exact ⟨_,rfl⟩|exact .inl rfl|exact .inr (.inl ⟨rfl,rfl⟩)|exact .inr (.inr ⟨rfl,rfl⟩)|refine And.intro ?_ ?_|refine ⟨_,rfl,?_⟩|decide|exact of_decide_eq_true rfl)⟩
   ·refine ⟨by omega,?_,by rw [hbt];exact zmU j⟩
    have h1:((q j:Nat):Int)=((q i:Nat):Int):=‹_›
    rw [hsucc,← hs,hbt,← hf]
    exact (if_pos (by omega)).symm
   ·(first|omega|(simp only [vM] at *;omega))
  ·refine ⟨(j+1,s,_),[],[],?_,?_,by (refine ⟨rfl,rfl,rfl,?_,?_⟩;repeat' first|exact trivial|exact rfl|exact ⟨_,rfl⟩|exact .inl rfl|exact .inr (.inl ⟨rfl,rfl⟩)|exact .inr (.inr ⟨rfl,rfl⟩)|refine And.intro ?_ ?_|refine ⟨_,rfl,?_⟩|decide|exact of_decide_eq_true rfl)⟩
   ·refine ⟨by omega,?_,by rw [hbt];exact zmU j⟩
    have h1 : ¬((q j:Nat):Int)=((q i:Nat):Int):=‹_›
    rw [hsucc,← hs,← hf]
    exact (if_neg (by omega)).symm
   ·(first|omega|(simp only [vM] at *;omega))
  ·exfalso;omega
 ·(repeat' ((conv=>whnf);first|refine vA ?_|refine vB fun b hb=>?_|refine vC (fun hl=>?_) fun i kv vv hi=>?_|refine vE ?_|refine vG ?_|refine vH ?_|((first|refine vD ?_ ?_|refine vF ?_ ?_|refine vI ?_ ?_)<;>intro hc<;>try simp only [vL] at hc)|refine vJ fun hg=>?_|refine vK fun hg=>?_|refine vT ?_|refine vN ‹_› ?_|(refine vQ ?_ fun x hx=>?_;·first|omega|(simp only [vM] at *;omega))|((first|refine vO ?_ ?_|refine vR ?_ ‹_› ?_|refine vS ?_ fun x hx=>?_|refine vP ?_ ?_);·first|omega|(simp only [vM] at *;omega))|refine vW ⟨by omega,by omega⟩ ?_|(refine vU ?_ ?_;·kernel_rfl)|refine vX ?_|refine vY ?_|refine vZ ?_|refine za.mk _ ‹_› ?_|refine vP (show (_:BitVec 64)≠_ by decide) ?_));all_goals try conv=>whnf
  iterate 2 (exfalso;omega)
  rw [hs,show j=n by omega]
theorem zsV {n:Nat} {q:Nat→Nat} (hq:zfr n q) (hn:n≤64):Fn Tryz.prog T zes [.d (dI (ptL n q))] [] (.d (.int .i64 (zeP n q:Int))) []:=by
 have hl:(ptL n q).length=n:=zbJ
 have hB : ∃ blk:Nat→BitVec 64,∀ i,i < n→Fn Tryz.prog T zcu [.d (dI (ptL n q)),.d (.int .i64 (i:Int))] [] (.d (.u64 (blk i))) [] :=
  ⟨fun i=>if h:i < n then Classical.choose (znK (T:=T) hq hn h) else 0#64,fun i hi=>by
   simp only [hi,dite_true]
   exact Classical.choose_spec (znK (T:=T) hq hn hi)⟩
 obtain ⟨blk,hB⟩:=hB
 have cb:Fn Tryz.prog T zd6 [.d (dI (ptL n q))] [] (.d (dU (((List.range n).filter fun w=>decide (q w=w)).map blk))) []:=by
  refine zg zw zhJ (by show 1≤27;decide) ?_
  (repeat' ((conv=>whnf);first|refine vA ?_|refine vB fun b hb=>?_|refine vC (fun hl=>?_) fun i kv vv hi=>?_|refine vE ?_|refine vG ?_|refine vH ?_|((first|refine vD ?_ ?_|refine vF ?_ ?_|refine vI ?_ ?_)<;>intro hc<;>try simp only [vL] at hc)|refine vJ fun hg=>?_|refine vK fun hg=>?_|refine vT ?_|refine vN ‹_› ?_|(refine vQ ?_ fun x hx=>?_;·first|omega|(simp only [vM] at *;omega))|((first|refine vO ?_ ?_|refine vR ?_ ‹_› ?_|refine vS ?_ fun x hx=>?_|refine vP ?_ ?_);·first|omega|(simp only [vM] at *;omega))|refine vW ⟨by omega,by omega⟩ ?_|(refine vU ?_ ?_;·kernel_rfl)|refine vX ?_|refine vY ?_|refine vZ ?_|refine yD (zg7 hq hn) ⟨⟨rfl,rfl⟩,rfl⟩ rfl ?_|refine za.mk _ ‹_› ?_|refine vP (show (_:BitVec 64)≠_ by decide) ?_));all_goals try conv=>whnf
  refine zj (fun ((k,zs):Nat×List D)=>[(0,.d (dI (ptL n q))),(3,.own 0),(9,.d (.int .i64 (((ptL n q).map (D.int .i64)).length:Int))),(10,.d (.int .i64 ((k:Int))))]) (fun ((k,zs):Nat×List D)=>[(0,some (.row 1 zs))]) 1 (fun ((k,zs):Nat×List D)=>k≤n∧zs=(((List.range k).filter fun w=>decide (q w=w)).map blk).map D.u64) (fun ((k,zs):Nat×List D)=>n - k) ((0,[])) []   [0] (⟨by omega,rfl⟩) (by (refine ⟨rfl,rfl,rfl,?_,?_⟩;repeat' first|exact trivial|exact rfl|exact ⟨_,rfl⟩|exact .inl rfl|exact .inr (.inl ⟨rfl,rfl⟩)|exact .inr (.inr ⟨rfl,rfl⟩)|refine And.intro ?_ ?_|refine ⟨_,rfl,?_⟩|decide|exact of_decide_eq_true rfl)) ?_
  rintro ⟨k,zs⟩ ⟨hk,hz⟩
  have hzl:zs.length≤64:=by
   rw [hz,List.length_map,List.length_map]
   have:=List.length_filter_le (fun w=>decide (q w=w)) (List.range k)
   rw [List.length_range] at this;omega
  have hsucc:((List.range (k+1)).filter fun w=>decide (q w=w))=((List.range k).filter fun w=>decide (q w=w))++if q k=k then [k] else []:=by
   rw [List.range_succ,List.filter_append,List.filter_cons,List.filter_nil]
   by_cases h:q k=k
   ·rw [if_pos (by simpa using h),if_pos h]
   ·rw [if_neg (by simpa using h),if_neg h]
  by_cases hkl:k < n
  ·have ek:=zaw (q:=q) hkl
   have hBk:=hB k hkl
   (repeat' ((conv=>whnf);first|refine vA ?_|refine vB fun b hb=>?_|refine vC (fun hl=>?_) fun i kv vv hi=>?_|refine vE ?_|refine vG ?_|refine vH ?_|((first|refine vD ?_ ?_|refine vF ?_ ?_|refine vI ?_ ?_)<;>intro hc<;>try simp only [vL] at hc)|refine vJ fun hg=>?_|refine vK fun hg=>?_|refine vT ?_|refine vN ‹_› ?_|(refine vQ ?_ fun x hx=>?_;·first|omega|(simp only [vM] at *;omega))|((first|refine vO ?_ ?_|refine vR ?_ ‹_› ?_|refine vS ?_ fun x hx=>?_|refine vP ?_ ?_);·first|omega|(simp only [vM] at *;omega))|refine vW ⟨by omega,by omega⟩ ?_|(refine vU ?_ ?_;·kernel_rfl)|refine vX ?_|refine vY ?_|refine vZ ?_|refine yD hBk (by (repeat refine ⟨⟨rfl,rfl⟩,?_⟩);rfl) rfl ?_|refine yN hBk (by (repeat refine ⟨⟨rfl,rfl⟩,?_⟩);rfl) ?_|refine za.mk _ ‹_› ?_|refine vP (show (_:BitVec 64)≠_ by decide) ?_));all_goals try conv=>whnf
   ·refine ⟨(k+1,_),[(0,2)],[],?_,?_,by (refine ⟨rfl,rfl,rfl,?_,?_⟩;repeat' first|exact trivial|exact rfl|exact ⟨_,rfl⟩|exact .inl rfl|exact .inr (.inl ⟨rfl,rfl⟩)|exact .inr (.inr ⟨rfl,rfl⟩)|refine And.intro ?_ ?_|refine ⟨_,rfl,?_⟩|decide|exact of_decide_eq_true rfl)⟩
    ·refine ⟨by omega,?_⟩
     have h1:((q k:Nat):Int)=((k:Nat):Int):=‹_›
     rw [hsucc,if_pos (by omega),hz];simp
    ·(first|omega|(simp only [vM] at *;omega))
   ·refine ⟨(k+1,_),[(0,0)],[],?_,?_,by (refine ⟨rfl,rfl,rfl,?_,?_⟩;repeat' first|exact trivial|exact rfl|exact ⟨_,rfl⟩|exact .inl rfl|exact .inr (.inl ⟨rfl,rfl⟩)|exact .inr (.inr ⟨rfl,rfl⟩)|refine And.intro ?_ ?_|refine ⟨_,rfl,?_⟩|decide|exact of_decide_eq_true rfl)⟩
    ·refine ⟨by omega,?_⟩
     have h1 : ¬((q k:Nat):Int)=((k:Nat):Int):=‹_›
     rw [hsucc,if_neg (by omega),hz];simp
    ·(first|omega|(simp only [vM] at *;omega))
   ·exfalso;omega
  ·(repeat' ((conv=>whnf);first|refine vA ?_|refine vB fun b hb=>?_|refine vC (fun hl=>?_) fun i kv vv hi=>?_|refine vE ?_|refine vG ?_|refine vH ?_|((first|refine vD ?_ ?_|refine vF ?_ ?_|refine vI ?_ ?_)<;>intro hc<;>try simp only [vL] at hc)|refine vJ fun hg=>?_|refine vK fun hg=>?_|refine vT ?_|refine vN ‹_› ?_|(refine vQ ?_ fun x hx=>?_;·first|omega|(simp only [vM] at *;omega))|((first|refine vO ?_ ?_|refine vR ?_ ‹_› ?_|refine vS ?_ fun x hx=>?_|refine vP ?_ ?_);·first|omega|(simp only [vM] at *;omega))|refine vW ⟨by omega,by omega⟩ ?_|(refine vU ?_ ?_;·kernel_rfl)|refine vX ?_|refine vY ?_|refine vZ ?_|refine za.mk _ ‹_› ?_|refine vP (show (_:BitVec 64)≠_ by decide) ?_));all_goals try conv=>whnf
   iterate 2 (exfalso;omega)
   rw [hz,show k=n by omega];rfl
 refine zg zw ziH (by show 1≤6;decide) ?_
 (repeat' ((conv=>whnf);first|refine vA ?_|refine vB fun b hb=>?_|refine vC (fun hl=>?_) fun i kv vv hi=>?_|refine vE ?_|refine vG ?_|refine vH ?_|((first|refine vD ?_ ?_|refine vF ?_ ?_|refine vI ?_ ?_)<;>intro hc<;>try simp only [vL] at hc)|refine vJ fun hg=>?_|refine vK fun hg=>?_|refine vT ?_|refine vN ‹_› ?_|(refine vQ ?_ fun x hx=>?_;·first|omega|(simp only [vM] at *;omega))|((first|refine vO ?_ ?_|refine vR ?_ ‹_› ?_|refine vS ?_ fun x hx=>?_|refine vP ?_ ?_);·first|omega|(simp only [vM] at *;omega))|refine vW ⟨by omega,by omega⟩ ?_|(refine vU ?_ ?_;·kernel_rfl)|refine vX ?_|refine vY ?_|refine vZ ?_|refine yD cb (by (repeat refine ⟨⟨rfl,rfl⟩,?_⟩);rfl) rfl ?_|refine yN cb (by (repeat refine ⟨⟨rfl,rfl⟩,?_⟩);rfl) ?_|refine za.mk _ ‹_› ?_|refine vP (show (_:BitVec 64)≠_ by decide) ?_));all_goals try conv=>whnf
 rw [List.length_map,List.length_map];rfl
theorem ztS {n:Nat} {R:zaa} {p:Nat→Nat} {w:Nat} (hw:w < n):zY (zdu (ptL n p) (ptL n fun w=>rkN (rfT n (zq n R) p) (zq n R p w))) w=za1 n R p w:=by
 refine zpA fun v hv=>?_
 have h1:at0 (ptL n p) v=((p v:Nat):Int):=zcG (zaw (by omega))
 have h2:at0 (ptL n p) w=((p w:Nat):Int):=zcG (zaw hw)
 have h3:at0 (ptL n fun w=>rkN (rfT n (zq n R) p) (zq n R p w)) v=((rkN (rfT n (zq n R) p) (zq n R p v):Nat):Int):=zcG (zaw (q:=fun w=>rkN (rfT n (zq n R) p) (zq n R p w)) (by omega))
 have h4:at0 (ptL n fun w=>rkN (rfT n (zq n R) p) (zq n R p w)) w=((rkN (rfT n (zq n R) p) (zq n R p w):Nat):Int):=zcG (zaw (q:=fun w=>rkN (rfT n (zq n R) p) (zq n R p w)) hw)
 unfold zdu zcR
 rw [h1,h2,h3,h4,Bool.eq_iff_iff,decide_eq_true_eq,decide_eq_true_eq]
 constructor
 ·rintro ⟨-,h⟩
  exact zj9 (zh4 (by omega)) (zh4 hw) (by omega)
 ·intro h
  exact ⟨by rw [zcy p v w (by omega) hw h],by rw [h]⟩
theorem zqL {n:Nat} {fa:Nat→Int} {w:Nat} (hw:w < n):zY (zdu (ptL n fun _=>0) ((List.range n).map fa)) w=zY (zcR fa) w:=by
 refine zpA fun v hv=>?_
 have h1:at0 (ptL n fun _=>0) v=0:=zcG (zaw (q:=fun _=>0) (by omega))
 have h2:at0 (ptL n fun _=>0) w=0:=zcG (zaw (q:=fun _=>0) hw)
 have h3:at0 ((List.range n).map fa) v=fa v:=zcG (by rw [List.getElem?_map,List.getElem?_range (by omega)];rfl)
 have h4:at0 ((List.range n).map fa) w=fa w:=zcG (by simp [hw])
 unfold zdu zcR
 rw [h1,h2,h3,h4,Bool.eq_iff_iff,decide_eq_true_eq,decide_eq_true_eq]
 exact ⟨fun h=>h.2,fun h=>⟨rfl,h⟩⟩
theorem zuB {p:KM} : zeP p.W.toNat (ze9 p.W.toNat (zu p) (p.W.toNat+1) (zY (zcR (zaT p))))=p.W.toNat↔zfx p=true:=by
 rw [zfx,decide_eq_true_eq]
 exact zuC (first:=mkT p (-1)) fun v w _ _=>by
  unfold mkT
  rw [if_neg (by omega),if_neg (by omega)]
  simp
theorem zsu (n:Nat):zfr n (fun _=>0):=⟨fun w _=>Nat.zero_le w,fun w _=>rfl⟩
set_option maxHeartbeats 8000000 in
theorem zqB {m:KM} (hk0:zm m=0):Fn Tryz.prog T zdQ [.d (dKM m)] [] (.d (.bool (zfx m))) []:=by
 have hg0:=zB hk0
 have w1:=hg0.w1;have w2:=hg0.w2
 have n4:=hg0.n4
 have ct:=zqA (T:=T) m.W.toNat (by omega)
 rw [show ((m.W.toNat:Nat):Int)=m.W by omega] at ct
 have c1:=znL (T:=T) (zsu m.W.toNat) (by omega) ((List.range m.W.toNat).map (zaT m)) (by simp)
 rw [show ptL m.W.toNat (zY (zdu (ptL m.W.toNat fun _=>0) ((List.range m.W.toNat).map (zaT m))))=ptL m.W.toNat (zY (zcR (zaT m))) from zgY fun w hw=>zqL hw] at c1
 have c2:=fun q=>ziy (T:=T) (n:=m.W.toNat) (zq m.W.toNat (zu m) q) (by omega) (by omega) (fun v w _ _=>by simp [zq])
 have c4:=fun p (hp:zfr m.W.toNat p)=>znL (T:=T) hp (by omega) (ptL m.W.toNat fun w=>rkN (rfT m.W.toNat (zq m.W.toNat (zu m)) p) (zq m.W.toNat (zu m) p w)) zbJ
 have c4' : ∀ p,ptL m.W.toNat (zY (zdu (ptL m.W.toNat p) (ptL m.W.toNat fun w=>rkN (rfT m.W.toNat (zq m.W.toNat (zu m)) p) (zq m.W.toNat (zu m) p w))))=ptL m.W.toNat (za1 m.W.toNat (zu m) p):=fun p=>zgY fun w hw=>ztS hw
 simp only [c4'] at c4
 have hmin:=zuB (p:=m)
 refine zg zw zhd (by show 1≤97;decide) ?_
 (repeat' ((conv=>whnf);first|refine vA ?_|refine vB fun b hb=>?_|refine vC (fun hl=>?_) fun i kv vv hi=>?_|refine vE ?_|refine vG ?_|refine vH ?_|((first|refine vD ?_ ?_|refine vF ?_ ?_|refine vI ?_ ?_)<;>intro hc<;>try simp only [vL] at hc)|refine vJ fun hg=>?_|refine vK fun hg=>?_|refine vT ?_|refine vN ‹_› ?_|(refine vQ ?_ fun x hx=>?_;·first|omega|(simp only [vM] at *;omega))|((first|refine vO ?_ ?_|refine vR ?_ ‹_› ?_|refine vS ?_ fun x hx=>?_|refine vP ?_ ?_);·first|omega|(simp only [vM] at *;omega))|refine vW ⟨by omega,by omega⟩ ?_|(refine vU ?_ ?_;·kernel_rfl)|refine vX ?_|refine vY ?_|refine vZ ?_|refine yN ct ⟨⟨rfl,rfl⟩,rfl⟩ ?_|refine za.mk _ ‹_› ?_|refine vP (show (_:BitVec 64)≠_ by decide) ?_));all_goals try conv=>whnf
 refine zj (fun ((k,zs):Nat×List D)=>[(1,.ptr 0 0),(3,.d (dI (ptL m.W.toNat fun _=>0))),(5,.own 1),(6,.d (.int .i64 ((k:Int))))]) (fun ((k,zs):Nat×List D)=>[(0,some (zac m)),(1,some (.row 1 zs))]) 2 (fun ((k,zs):Nat×List D)=>k≤m.W.toNat∧zs=((List.range k).map (zaT m)).map (D.int .i64)) (fun ((k,zs):Nat×List D)=>m.W.toNat - k) ((0,[])) [(0,0)]   [1] (⟨by omega,rfl⟩) (by (refine ⟨rfl,rfl,rfl,?_,?_⟩;repeat' first|exact trivial|exact rfl|exact ⟨_,rfl⟩|exact .inl rfl|exact .inr (.inl ⟨rfl,rfl⟩)|exact .inr (.inr ⟨rfl,rfl⟩)|refine And.intro ?_ ?_|refine ⟨_,rfl,?_⟩|decide|exact of_decide_eq_true rfl)) ?_
 rintro ⟨k,zs⟩ ⟨hk,hz⟩
 have hzl:zs.length≤64:=by rw [hz];simp;omega
 by_cases hkl:k < m.W.toNat
 ·have cf:=zmp (T:=T) m (k:Int)
  rw [zna hk0 hkl] at cf
  (repeat' ((conv=>whnf);first|refine vA ?_|refine vB fun b hb=>?_|refine vC (fun hl=>?_) fun i kv vv hi=>?_|refine vE ?_|refine vG ?_|refine vH ?_|((first|refine vD ?_ ?_|refine vF ?_ ?_|refine vI ?_ ?_)<;>intro hc<;>try simp only [vL] at hc)|refine vJ fun hg=>?_|refine vK fun hg=>?_|refine vT ?_|refine vN ‹_› ?_|(refine vQ ?_ fun x hx=>?_;·first|omega|(simp only [vM] at *;omega))|((first|refine vO ?_ ?_|refine vR ?_ ‹_› ?_|refine vS ?_ fun x hx=>?_|refine vP ?_ ?_);·first|omega|(simp only [vM] at *;omega))|refine vW ⟨by omega,by omega⟩ ?_|(refine vU ?_ ?_;·kernel_rfl)|refine vX ?_|refine vY ?_|refine vZ ?_|refine yD cf ⟨⟨rfl,rfl⟩,⟨rfl,rfl⟩,rfl⟩ rfl ?_|refine za.mk _ ‹_› ?_|refine vP (show (_:BitVec 64)≠_ by decide) ?_));all_goals try conv=>whnf
  ·refine ⟨(k+1,_),[(0,0),(1,3)],[],?_,?_,by (refine ⟨rfl,rfl,rfl,?_,?_⟩;repeat' first|exact trivial|exact rfl|exact ⟨_,rfl⟩|exact .inl rfl|exact .inr (.inl ⟨rfl,rfl⟩)|exact .inr (.inr ⟨rfl,rfl⟩)|refine And.intro ?_ ?_|refine ⟨_,rfl,?_⟩|decide|exact of_decide_eq_true rfl)⟩
   ·exact ⟨by omega,by rw [hz,List.range_succ,List.map_append,List.map_append];rfl⟩
   ·(first|omega|(simp only [vM] at *;omega))
  ·exfalso;omega
 ·have hzz:zs=((List.range m.W.toNat).map (zaT m)).map (D.int .i64):=by rw [hz,show k=m.W.toNat by omega]
  clear hz
  subst hzz
  (repeat' ((conv=>whnf);first|refine vA ?_|refine vB fun b hb=>?_|refine vC (fun hl=>?_) fun i kv vv hi=>?_|refine vE ?_|refine vG ?_|refine vH ?_|((first|refine vD ?_ ?_|refine vF ?_ ?_|refine vI ?_ ?_)<;>intro hc<;>try simp only [vL] at hc)|refine vJ fun hg=>?_|refine vK fun hg=>?_|refine vT ?_|refine vN ‹_› ?_|(refine vQ ?_ fun x hx=>?_;·first|omega|(simp only [vM] at *;omega))|((first|refine vO ?_ ?_|refine vR ?_ ‹_› ?_|refine vS ?_ fun x hx=>?_|refine vP ?_ ?_);·first|omega|(simp only [vM] at *;omega))|refine vW ⟨by omega,by omega⟩ ?_|(refine vU ?_ ?_;·kernel_rfl)|refine vX ?_|refine vY ?_|refine vZ ?_|refine yN c1 ⟨⟨rfl,rfl⟩,⟨rfl,rfl⟩,rfl⟩ ?_|refine za.mk _ ‹_› ?_|refine vP (show (_:BitVec 64)≠_ by decide) ?_));all_goals try conv=>whnf
  ·exfalso;omega
  refine zj (fun ((p,f):(Nat→Nat)×Nat)=>[(1,.ptr 0 0),(7,.d (dI (ptL m.W.toNat p)))]) (fun ((p,f):(Nat→Nat)×Nat)=>[(0,some (zac m))]) 1 (fun ((p,f):(Nat→Nat)×Nat)=>zfr m.W.toNat p∧m.W.toNat < f+zeP m.W.toNat p∧ze9 m.W.toNat (zu m) f p=ze9 m.W.toNat (zu m) (m.W.toNat+1) (zY (zcR (zaT m)))) (fun ((p,f):(Nat→Nat)×Nat)=>f) ((zY (zcR (zaT m)),m.W.toNat+1)) [(0,0)] [] (⟨zlF (zgo _) _,by omega,rfl⟩) (by (refine ⟨rfl,rfl,rfl,?_,?_⟩;repeat' first|exact trivial|exact rfl|exact ⟨_,rfl⟩|exact .inl rfl|exact .inr (.inl ⟨rfl,rfl⟩)|exact .inr (.inr ⟨rfl,rfl⟩)|refine And.intro ?_ ?_|refine ⟨_,rfl,?_⟩|decide|exact of_decide_eq_true rfl)) ?_
  clear hk hkl hzl
  rintro ⟨p,f⟩ ⟨hp,hf,hG⟩
  have hcp:=zq0 m.W.toNat p
  (repeat' ((conv=>whnf);first|refine vA ?_|refine vB fun b hb=>?_|refine vC (fun hl=>?_) fun i kv vv hi=>?_|refine vE ?_|refine vG ?_|refine vH ?_|((first|refine vD ?_ ?_|refine vF ?_ ?_|refine vI ?_ ?_)<;>intro hc<;>try simp only [vL] at hc)|refine vJ fun hg=>?_|refine vK fun hg=>?_|refine vT ?_|refine vN ‹_› ?_|(refine vQ ?_ fun x hx=>?_;·first|omega|(simp only [vM] at *;omega))|((first|refine vO ?_ ?_|refine vR ?_ ‹_› ?_|refine vS ?_ fun x hx=>?_|refine vP ?_ ?_);·first|omega|(simp only [vM] at *;omega))|refine vW ⟨by omega,by omega⟩ ?_|(refine vU ?_ ?_;·kernel_rfl)|refine vX ?_|refine vY ?_|refine vZ ?_|refine za.mk _ ‹_› ?_|refine vP (show (_:BitVec 64)≠_ by decide) ?_));all_goals try conv=>whnf
  refine zj (fun ((w,zs):Nat×List D)=>[(1,.ptr 0 0),(7,.d (dI (ptL m.W.toNat p))),(9,.own 1),(10,.d (.int .i64 ((w:Int))))]) (fun ((w,zs):Nat×List D)=>[(0,some (zac m)),(1,some (.row 1 zs))]) 2 (fun ((w,zs):Nat×List D)=>w≤m.W.toNat∧zs=((List.range w).map (zq m.W.toNat (zu m) p)).map dII) (fun ((w,zs):Nat×List D)=>m.W.toNat - w) ((0,[])) [(0,0)]   [1] (⟨by omega,rfl⟩) (by (refine ⟨rfl,rfl,rfl,?_,?_⟩;repeat' first|exact trivial|exact rfl|exact ⟨_,rfl⟩|exact .inl rfl|exact .inr (.inl ⟨rfl,rfl⟩)|exact .inr (.inr ⟨rfl,rfl⟩)|refine And.intro ?_ ?_|refine ⟨_,rfl,?_⟩|decide|exact of_decide_eq_true rfl)) ?_
  rintro ⟨w,zs⟩ ⟨hw,hz⟩
  have hzl:zs.length≤64:=by rw [hz];simp;omega
  by_cases hwl:w < m.W.toNat
  ·have e0:=zaw (q:=p) hwl
   (repeat' ((conv=>whnf);first|refine vA ?_|refine vB fun b hb=>?_|refine vC (fun hl=>?_) fun i kv vv hi=>?_|refine vE ?_|refine vG ?_|refine vH ?_|((first|refine vD ?_ ?_|refine vF ?_ ?_|refine vI ?_ ?_)<;>intro hc<;>try simp only [vL] at hc)|refine vJ fun hg=>?_|refine vK fun hg=>?_|refine vT ?_|refine vN ‹_› ?_|(refine vQ ?_ fun x hx=>?_;·first|omega|(simp only [vM] at *;omega))|((first|refine vO ?_ ?_|refine vR ?_ ‹_› ?_|refine vS ?_ fun x hx=>?_|refine vP ?_ ?_);·first|omega|(simp only [vM] at *;omega))|refine vW ⟨by omega,by omega⟩ ?_|(refine vU ?_ ?_;·kernel_rfl)|refine vX ?_|refine vY ?_|refine vZ ?_|refine za.mk _ ‹_› ?_|refine vP (show (_:BitVec 64)≠_ by decide) ?_));all_goals try conv=>whnf
   ·refine zj (fun ((i,xs):Nat×List D)=>[(1,.ptr 0 0),(7,.d (dI (ptL m.W.toNat p))),(9,.own 1),(10,.d (.int .i64 ((w:Int)))),(11,.own 2),(55,.d (.int .i64 ((m.rel.map dU).length:Int))),(56,.d (.int .i64 ((i:Int))))]) (fun ((i,xs):Nat×List D)=>[(0,some (zac m)),(1,some (.row 1 zs)),(2,some (.row 1 xs))]) 3 (fun ((i,xs):Nat×List D)=>i≤m.rel.length∧xs=dI [(p w:Int)]::(m.rel.take i).map fun r=>dI (zeD true (zhi m.W.toNat p (r.getD w 0#64)))) (fun ((i,xs):Nat×List D)=>m.rel.length - i) ((0,[dI [(p w:Int)]])) [(0,0),(1,1),(2,3)] [] (⟨by omega,by simp⟩) (by (refine ⟨rfl,rfl,rfl,?_,?_⟩;repeat' first|exact trivial|exact rfl|exact ⟨_,rfl⟩|exact .inl rfl|exact .inr (.inl ⟨rfl,rfl⟩)|exact .inr (.inr ⟨rfl,rfl⟩)|refine And.intro ?_ ?_|refine ⟨_,rfl,?_⟩|decide|exact of_decide_eq_true rfl)) ?_
    rintro ⟨i,xs⟩ ⟨hi,hx⟩
    have hxl:xs.length≤5:=by rw [hx];simp;omega
    by_cases hil:i < m.rel.length
    ·obtain ⟨r,hr⟩ : ∃ r,m.rel[i]? = some r:=⟨_,List.getElem?_eq_getElem hil⟩
     have hrl:=hg0.len r (List.mem_of_getElem? hr)
     have hy:=zaZ (l:=r) (d:=0#64) (show w < r.length by omega)
     (repeat' ((conv=>whnf);first|refine vA ?_|refine vB fun b hb=>?_|refine vC (fun hl=>?_) fun i kv vv hi=>?_|refine vE ?_|refine vG ?_|refine vH ?_|((first|refine vD ?_ ?_|refine vF ?_ ?_|refine vI ?_ ?_)<;>intro hc<;>try simp only [vL] at hc)|refine vJ fun hg=>?_|refine vK fun hg=>?_|refine vT ?_|refine vN ‹_› ?_|(refine vQ ?_ fun x hx=>?_;·first|omega|(simp only [vM] at *;omega))|((first|refine vO ?_ ?_|refine vR ?_ ‹_› ?_|refine vS ?_ fun x hx=>?_|refine vP ?_ ?_);·first|omega|(simp only [vM] at *;omega))|refine vW ⟨by omega,by omega⟩ ?_|(refine vU ?_ ?_;·kernel_rfl)|refine vX ?_|refine vY ?_|refine vZ ?_|refine yN (zq8 p (n:=m.W.toNat) (by omega) _ true) ⟨⟨rfl,rfl⟩,⟨rfl,rfl⟩,⟨rfl,rfl⟩,rfl⟩ ?_|refine za.mk _ ‹_› ?_|refine vP (show (_:BitVec 64)≠_ by decide) ?_));all_goals try conv=>whnf
     ·refine ⟨(i+1,_),[(0,0),(1,1),(2,4)],[],?_,?_,by (refine ⟨rfl,rfl,rfl,?_,?_⟩;repeat' first|exact trivial|exact rfl|exact ⟨_,rfl⟩|exact .inl rfl|exact .inr (.inl ⟨rfl,rfl⟩)|exact .inr (.inr ⟨rfl,rfl⟩)|refine And.intro ?_ ?_|refine ⟨_,rfl,?_⟩|decide|exact of_decide_eq_true rfl)⟩
      ·exact ⟨by omega,by rw [List.take_add_one,hr,hx];simp⟩
      ·(first|omega|(simp only [vM] at *;omega))
     ·exfalso;omega
    ·(repeat' ((conv=>whnf);first|refine vA ?_|refine vB fun b hb=>?_|refine vC (fun hl=>?_) fun i kv vv hi=>?_|refine vE ?_|refine vG ?_|refine vH ?_|((first|refine vD ?_ ?_|refine vF ?_ ?_|refine vI ?_ ?_)<;>intro hc<;>try simp only [vL] at hc)|refine vJ fun hg=>?_|refine vK fun hg=>?_|refine vT ?_|refine vN ‹_› ?_|(refine vQ ?_ fun x hx=>?_;·first|omega|(simp only [vM] at *;omega))|((first|refine vO ?_ ?_|refine vR ?_ ‹_› ?_|refine vS ?_ fun x hx=>?_|refine vP ?_ ?_);·first|omega|(simp only [vM] at *;omega))|refine vW ⟨by omega,by omega⟩ ?_|(refine vU ?_ ?_;·kernel_rfl)|refine vX ?_|refine vY ?_|refine vZ ?_|refine za.mk _ ‹_› ?_|refine vP (show (_:BitVec 64)≠_ by decide) ?_));all_goals try conv=>whnf
     ·exfalso;omega
     ·refine ⟨(w+1,_),[(0,0),(1,4)],[],?_,?_,by (refine ⟨rfl,rfl,rfl,?_,?_⟩;repeat' first|exact trivial|exact rfl|exact ⟨_,rfl⟩|exact .inl rfl|exact .inr (.inl ⟨rfl,rfl⟩)|exact .inr (.inr ⟨rfl,rfl⟩)|refine And.intro ?_ ?_|refine ⟨_,rfl,?_⟩|decide|exact of_decide_eq_true rfl)⟩
      ·refine ⟨by omega,?_⟩
       rw [List.range_succ,List.map_append,List.map_append,← hz]
       have h1:xs=(zq m.W.toNat (zu m) p w).map dI:=by
        rw [hx,List.take_of_length_le (by omega),zk5]
       show zs++[D.arr 1 xs]=zs++[D.arr 1 _]
       rw [h1]
      ·(first|omega|(simp only [vM] at *;omega))
   ·exfalso;omega
  ·have hzz:zs=((List.range m.W.toNat).map (zq m.W.toNat (zu m) p)).map dII:=by rw [hz,show w=m.W.toNat by omega]
   clear hz
   subst hzz
   have c3:=c2 p
   have c5:=c4 p hp
   have c6:=zsV (T:=T) hp (by omega)
   have c7:=zsW (T:=T) (ptL m.W.toNat p) (ptL m.W.toNat (za1 m.W.toNat (zu m) p))
   obtain ⟨f',rfl⟩ : ∃ f',f=f'+1:=⟨f - 1,by omega⟩
   have hpt:((ptL m.W.toNat p==ptL m.W.toNat (za1 m.W.toNat (zu m) p))=true)↔((List.range m.W.toNat).map (za1 m.W.toNat (zu m) p)=(List.range m.W.toNat).map p):=by
    rw [beq_iff_eq,zdX]
    exact ⟨fun h w hw=>(zv0 h hw).symm,fun h=>zgY fun w hw=>(h w hw).symm⟩
   (repeat' ((conv=>whnf);first|refine vA ?_|refine vB fun b hb=>?_|refine vC (fun hl=>?_) fun i kv vv hi=>?_|refine vE ?_|refine vG ?_|refine vH ?_|((first|refine vD ?_ ?_|refine vF ?_ ?_|refine vI ?_ ?_)<;>intro hc<;>try simp only [vL] at hc)|refine vJ fun hg=>?_|refine vK fun hg=>?_|refine vT ?_|refine vN ‹_› ?_|(refine vQ ?_ fun x hx=>?_;·first|omega|(simp only [vM] at *;omega))|((first|refine vO ?_ ?_|refine vR ?_ ‹_› ?_|refine vS ?_ fun x hx=>?_|refine vP ?_ ?_);·first|omega|(simp only [vM] at *;omega))|refine vW ⟨by omega,by omega⟩ ?_|(refine vU ?_ ?_;·kernel_rfl)|refine vX ?_|refine vY ?_|refine vZ ?_|refine yD c3 (by (repeat refine ⟨⟨rfl,rfl⟩,?_⟩);rfl) rfl ?_|refine yN c3 (by (repeat refine ⟨⟨rfl,rfl⟩,?_⟩);rfl) ?_|refine yD c5 (by (repeat refine ⟨⟨rfl,rfl⟩,?_⟩);rfl) rfl ?_|refine yN c5 (by (repeat refine ⟨⟨rfl,rfl⟩,?_⟩);rfl) ?_|refine yD c6 ⟨⟨rfl,rfl⟩,rfl⟩ rfl ?_|refine yD c7 ⟨⟨rfl,rfl⟩,⟨rfl,rfl⟩,rfl⟩ rfl ?_|refine za.mk _ ‹_› ?_|refine vP (show (_:BitVec 64)≠_ by decide) ?_));all_goals try conv=>whnf
   ·exfalso;omega
   ·have h3:ze9 m.W.toNat (zu m) (f'+1) p=p:=by
     show (if _ then p else _)=p
     exact if_pos (hpt.1 hc)
    rw [← hG,h3] at hmin
    rw [Bool.eq_iff_iff,decide_eq_true_eq,← hmin]
    omega
   ·have hne : ¬ (List.range m.W.toNat).map (za1 m.W.toNat (zu m) p)=(List.range m.W.toNat).map p:=fun h=>by
     rw [hpt.2 h] at hc;cases hc
    have hne2 : ∃ w,w < m.W.toNat∧za1 m.W.toNat (zu m) p w≠p w:=Classical.byContradiction fun hn=>hne (zdX.2 fun w hw=>Classical.byContradiction fun h=>hn ⟨w,hw,h⟩)
    have hgr:=znS hp hne2
    have h3:ze9 m.W.toNat (zu m) (f'+1) p=ze9 m.W.toNat (zu m) f' (za1 m.W.toNat (zu m) p):=by
     show (if _ then p else _)=_
     exact if_neg hne
    refine ⟨(za1 m.W.toNat (zu m) p,f'),[(0,0)],[],?_,?_,by (refine ⟨rfl,rfl,rfl,?_,?_⟩;repeat' first|exact trivial|exact rfl|exact ⟨_,rfl⟩|exact .inl rfl|exact .inr (.inl ⟨rfl,rfl⟩)|exact .inr (.inr ⟨rfl,rfl⟩)|refine And.intro ?_ ?_|refine ⟨_,rfl,?_⟩|decide|exact of_decide_eq_true rfl)⟩
    ·exact ⟨zds _ _ _ _,by omega,by rw [← h3,hG]⟩
    ·(first|omega|(simp only [vM] at *;omega))
end Go.Ab
namespace Go.Ab
open Go Go.Proofs
set_option maxRecDepth 10000
set_option maxHeartbeats 4000000
variable {T:Nat→Obj→Prop}
theorem zuD {m:KM} {l:List Nat} (hn:l.Nodup) {w:Nat} (hw:w∈l) : ∀ i,i < l.length→mkW (zA m l) l (w:Int) i=mkT (zA m l) (l.idxOf w:Int) i:=fun i hi=>by
 have h1:=zly hw
 unfold mkW mkT
 by_cases e:i=l.idxOf w
 ·have h2:l.getD i 0=w:=by rw [e];exact h1.2
  rw [if_pos (by rw [h2]),if_pos (by omega)]
 ·rw [if_neg (fun e'=>e (zpp hn hi h1.1 (by rw [h1.2];omega))),if_neg (by omega)]
theorem zti {m:KM} {l:List Nat} (hn:l.Nodup) {w:Nat} (hw:w∈l):ptL l.length (zbw l.length (zu (zA m l)) (mkW (zA m l) l (w:Int))).1=ptL l.length (zcz (zA m l) (l.idxOf w:Int)).1:=by
 have hid:Ren l.length fun w=>w:=⟨fun _ h=>h,fun _ _ _ _ h=>h⟩
 have hR:zru l.length (fun w=>w) (zu (zA m l)) (zu (zA m l)):=⟨rfl,fun i r r' h1 h2 v w _ _=>by rw [h1] at h2;rw [Option.some.inj h2]⟩
 have:=zrg hid hR (first:=mkW (zA m l) l (w:Int)) (first':=mkT (zA m l) (l.idxOf w:Int)) fun i hi=>(zuD hn hw i hi).symm
 unfold zcz
 rw [show (zA m l).W.toNat=l.length from Int.toNat_natCast _]
 exact zgY fun w hw=>(this.2.2.1 w hw).symm
set_option maxHeartbeats 8000000 in
theorem zwe (hT:zeM T) (m:KM) (w:Int):Fn Tryz.prog T zdf [.d (dKM m),.d (.int .i64 w)] [] (.d (.tup [dKM (zel m w).1,dI (zel m w).2.1,.int .i64 (zel m w).2.2])) []:=by
 have cc:=zfl (T:=T) m
 by_cases hk0:zm m=0
 ·have hg0:=zB hk0
  have w1:=hg0.w1
  have w2:=hg0.w2
  rw [hk0] at cc
  by_cases hw:w < 0∨m.W≤w
  ·refine zg zw zbu (by show 2≤82;decide) ?_
   (repeat' ((conv=>whnf);first|refine vA ?_|refine vB fun b hb=>?_|refine vC (fun hl=>?_) fun i kv vv hi=>?_|refine vE ?_|refine vG ?_|refine vH ?_|((first|refine vD ?_ ?_|refine vF ?_ ?_|refine vI ?_ ?_)<;>intro hc<;>try simp only [vL] at hc)|refine vJ fun hg=>?_|refine vK fun hg=>?_|refine vT ?_|refine vN ‹_› ?_|(refine vQ ?_ fun x hx=>?_;·first|omega|(simp only [vM] at *;omega))|((first|refine vO ?_ ?_|refine vR ?_ ‹_› ?_|refine vS ?_ fun x hx=>?_|refine vP ?_ ?_);·first|omega|(simp only [vM] at *;omega))|refine vW ⟨by omega,by omega⟩ ?_|(refine vU ?_ ?_;·kernel_rfl)|refine vX ?_|refine vY ?_|refine vZ ?_|refine yD cc ⟨⟨rfl,rfl⟩,rfl⟩ rfl ?_|refine za.mk _ ‹_› ?_|refine vP (show (_:BitVec 64)≠_ by decide) ?_));all_goals try conv=>whnf
   iterate 2 (rw [zel,if_neg (by omega),if_pos hw];rfl)
   exfalso;omega
  ·obtain ⟨w,rfl⟩ : ∃ v:Nat,w=(v:Int):=⟨w.toNat,by omega⟩
   have hwl:w < m.W.toNat:=by omega
   have hbit : ∀ v,(1#64 <<< w).getLsbD v=true→v < m.W.toNat:=fun v hv=>by have:=(zkC (by omega)).1 hv;omega
   have hl:=zpo hk0 hwl
   have hroot:=zlw (R:=zu m) hwl
   have hlen:=zne (n:=m.W.toNat) (R:=zu m) (w:=w)
   have hlt : ∀ x∈zcw m.W.toNat (zu m) w,x < m.W.toNat:=fun x hx=>(zku.1 hx).lt
   have hnd:=zgS m.W.toNat (zu m) w
   have hcan:zel m (w:Int)=if zfx (zA m (zcw m.W.toNat (zu m) w))=false then (zfq,[],16) else (zA m (zcW m w),(zcW m w).map fun (x:Nat)=>(x:Int),0):=by
    rw [zel,if_neg (by omega),if_neg hw,Int.toNat_natCast]
   have hcc:=zoV hk0 hwl
   have cg:=zon (T:=T) hk0 hbit
   have cr:=znd (T:=T) hk0 (s:=zeS m (1#64 <<< w)) (fun e=>by
    rw [e,ze3] at hl;rw [← hl] at hroot;cases hroot) (fun v hv=>((zfS hk0).1 hv).lt)
   rw [hl] at cr
   generalize zeS m (1#64 <<< w)=gs at cg cr
   clear hl
   generalize hL:zcw m.W.toNat (zu m) w=l at hroot hlen hlt hnd hcan hcc cr
   have hll:1≤l.length:=List.length_pos_of_mem hroot
   have hp0:=zsz hk0 hll (by omega)
   have hpW:(zA m l).W.toNat=l.length:=Int.toNat_natCast _
   have hpI:(zA m l).W=(l.length:Int):=rfl
   have cm1:=zqB (T:=T) hp0
   have cn2:=zrV (T:=T) hp0 l hpW.symm (w:Int)
   rw [hpW,zti hnd hroot] at cn2
   refine zg zw zbu (by show 2≤82;decide) ?_
   cases hmin:zfx (zA m l) with
   | false =>
    rw [hmin] at cm1
    rw [hcan,hmin,if_pos rfl]
    (repeat' ((conv=>whnf);first|refine vA ?_|refine vB fun b hb=>?_|refine vC (fun hl=>?_) fun i kv vv hi=>?_|refine vE ?_|refine vG ?_|refine vH ?_|((first|refine vD ?_ ?_|refine vF ?_ ?_|refine vI ?_ ?_)<;>intro hc<;>try simp only [vL] at hc)|refine vJ fun hg=>?_|refine vK fun hg=>?_|refine vT ?_|refine vN ‹_› ?_|(refine vQ ?_ fun x hx=>?_;·first|omega|(simp only [vM] at *;omega))|((first|refine vO ?_ ?_|refine vR ?_ ‹_› ?_|refine vS ?_ fun x hx=>?_|refine vP ?_ ?_);·first|omega|(simp only [vM] at *;omega))|refine vW ⟨by omega,by omega⟩ ?_|(refine vU ?_ ?_;·kernel_rfl)|refine vX ?_|refine vY ?_|refine vZ ?_|refine yD cc ⟨⟨rfl,rfl⟩,rfl⟩ rfl ?_|refine yN cg ⟨⟨rfl,rfl⟩,⟨rfl,rfl⟩,rfl⟩ ?_|refine yN cr ⟨⟨rfl,rfl⟩,⟨rfl,rfl⟩,rfl⟩ ?_|refine yD cm1 ⟨⟨rfl,rfl⟩,rfl⟩ rfl ?_|refine za.mk _ ‹_› ?_|refine vP (show (_:BitVec 64)≠_ by decide) ?_));all_goals try conv=>whnf
    ·exfalso;omega
    ·rfl
   | true =>
    rw [hmin] at cm1
    rw [hcan,hmin,if_neg (by decide)]
    obtain ⟨hq,ha,hw2⟩:=hcc hmin
    have cq3:=zrT (T:=T) (zA m l) (ptL l.length (zcz (zA m l) (l.idxOf w:Int)).1)
    rw [zfz,if_neg (by omega),if_pos (by rw [hpW];exact zkD hq),hpW,ha] at cq3
    generalize (zcz (zA m l) (l.idxOf w:Int)).1=q at cn2 cq3 hq hw2
    have hln:(ptL l.length q).length=l.length:=zbJ
    (repeat' ((conv=>whnf);first|refine vA ?_|refine vB fun b hb=>?_|refine vC (fun hl=>?_) fun i kv vv hi=>?_|refine vE ?_|refine vG ?_|refine vH ?_|((first|refine vD ?_ ?_|refine vF ?_ ?_|refine vI ?_ ?_)<;>intro hc<;>try simp only [vL] at hc)|refine vJ fun hg=>?_|refine vK fun hg=>?_|refine vT ?_|refine vN ‹_› ?_|(refine vQ ?_ fun x hx=>?_;·first|omega|(simp only [vM] at *;omega))|((first|refine vO ?_ ?_|refine vR ?_ ‹_› ?_|refine vS ?_ fun x hx=>?_|refine vP ?_ ?_);·first|omega|(simp only [vM] at *;omega))|refine vW ⟨by omega,by omega⟩ ?_|(refine vU ?_ ?_;·kernel_rfl)|refine vX ?_|refine vY ?_|refine vZ ?_|refine yD cc ⟨⟨rfl,rfl⟩,rfl⟩ rfl ?_|refine yN cg ⟨⟨rfl,rfl⟩,⟨rfl,rfl⟩,rfl⟩ ?_|refine yN cr ⟨⟨rfl,rfl⟩,⟨rfl,rfl⟩,rfl⟩ ?_|refine yD cm1 ⟨⟨rfl,rfl⟩,rfl⟩ rfl ?_|refine yN cn2 ⟨⟨rfl,rfl⟩,⟨rfl,rfl⟩,⟨rfl,rfl⟩,rfl⟩ ?_|refine yN cq3 ⟨⟨rfl,rfl⟩,⟨rfl,rfl⟩,rfl⟩ ?_|refine za.mk _ ‹_› ?_|refine vP (show (_:BitVec 64)≠_ by decide) ?_));all_goals try conv=>whnf
    ·exfalso;omega
    refine zj (fun ((k,zs):Nat×List D)=>[(4,.ptr 0 0),(13,.d (dI (ptL l.length q))),(14,.ptr 1 0),(16,.own 2),(65,.d (dN l)),(66,.d (.int .i64 (((l.map fun (x:Nat)=>(x:Int)).map (D.int .i64)).length:Int))),(67,.d (.int .i64 ((k:Int))))]) (fun ((k,zs):Nat×List D)=>[(0,some (.box [.d (.int .i64 0),.nils 1,.nils 1])),(1,some (zac (zA m (zcW m w)))),(2,some (.row 1 zs))]) 3 (fun ((k,zs):Nat×List D)=>k≤l.length∧zs=(List.range l.length).map fun i=>D.int .i64 (if zcQ l.length q i < k then (l.getD (zcQ l.length q i) 0:Int) else 0)) (fun ((k,zs):Nat×List D)=>l.length - k) ((0,List.replicate ((((l.map fun (x:Nat)=>(x:Int)).map (D.int .i64)).length:Int)).toNat (D.int .i64 0))) [(0,1),(1,3),(2,4)] [] (⟨by omega,by simp only [Nat.not_lt_zero,if_false];rw [List.length_map,List.length_map,Int.toNat_natCast];exact zbg _ _⟩) (by (refine ⟨rfl,rfl,rfl,?_,?_⟩;repeat' first|exact trivial|exact rfl|exact ⟨_,rfl⟩|exact .inl rfl|exact .inr (.inl ⟨rfl,rfl⟩)|exact .inr (.inr ⟨rfl,rfl⟩)|refine And.intro ?_ ?_|refine ⟨_,rfl,?_⟩|decide|exact of_decide_eq_true rfl)) ?_
    rintro ⟨k,zs⟩ ⟨hk,hz⟩
    subst hz
    by_cases hkl:k < l.length
    ·have e1:=zaw (q:=q) hkl
     have e2:=zee hkl
     have er:(List.range l.length)[q k]? = some (q k):=List.getElem?_range (hq.lt k hkl)
     have hqk:=hq.lt k hkl
     (repeat' ((conv=>whnf);first|refine vA ?_|refine vB fun b hb=>?_|refine vC (fun hl=>?_) fun i kv vv hi=>?_|refine vE ?_|refine vG ?_|refine vH ?_|((first|refine vD ?_ ?_|refine vF ?_ ?_|refine vI ?_ ?_)<;>intro hc<;>try simp only [vL] at hc)|refine vJ fun hg=>?_|refine vK fun hg=>?_|refine vT ?_|refine vN ‹_› ?_|(refine vQ ?_ fun x hx=>?_;·first|omega|(simp only [vM] at *;omega))|((first|refine vO ?_ ?_|refine vR ?_ ‹_› ?_|refine vS ?_ fun x hx=>?_|refine vP ?_ ?_);·first|omega|(simp only [vM] at *;omega))|refine vW ⟨by omega,by omega⟩ ?_|(refine vU ?_ ?_;·kernel_rfl)|refine vX ?_|refine vY ?_|refine vZ ?_|refine za.mk _ ‹_› ?_|refine vP (show (_:BitVec 64)≠_ by decide) ?_));all_goals try conv=>whnf
     ·refine ⟨(k+1,_),[(0,0),(1,1),(2,2)],[],?_,?_,by (refine ⟨rfl,rfl,rfl,?_,?_⟩;repeat' first|exact trivial|exact rfl|exact ⟨_,rfl⟩|exact .inl rfl|exact .inr (.inl ⟨rfl,rfl⟩)|exact .inr (.inr ⟨rfl,rfl⟩)|refine And.intro ?_ ?_|refine ⟨_,rfl,?_⟩|decide|exact of_decide_eq_true rfl)⟩
      ·refine ⟨by omega,(zdm _).trans (zS fun u hu=>?_)⟩
       show (if u=q k then _ else _)=_
       by_cases e:u=q k
       ·subst e
        rw [if_pos rfl,zkx hq hkl,if_pos (by omega)]
       ·rw [if_neg e]
        have hne:zcQ l.length q u≠k:=fun e'=>e (by rw [← e'];exact (ziu hq hu).2.symm)
        by_cases e2:zcQ l.length q u < k
        ·rw [if_pos e2,if_pos (by omega)]
        ·rw [if_neg e2,if_neg (by omega)]
      ·(first|omega|(simp only [vM] at *;omega))
     all_goals (exfalso;omega)
    ·(repeat' ((conv=>whnf);first|refine vA ?_|refine vB fun b hb=>?_|refine vC (fun hl=>?_) fun i kv vv hi=>?_|refine vE ?_|refine vG ?_|refine vH ?_|((first|refine vD ?_ ?_|refine vF ?_ ?_|refine vI ?_ ?_)<;>intro hc<;>try simp only [vL] at hc)|refine vJ fun hg=>?_|refine vK fun hg=>?_|refine vT ?_|refine vN ‹_› ?_|(refine vQ ?_ fun x hx=>?_;·first|omega|(simp only [vM] at *;omega))|((first|refine vO ?_ ?_|refine vR ?_ ‹_› ?_|refine vS ?_ fun x hx=>?_|refine vP ?_ ?_);·first|omega|(simp only [vM] at *;omega))|refine vW ⟨by omega,by omega⟩ ?_|(refine vU ?_ ?_;·kernel_rfl)|refine vX ?_|refine vY ?_|refine vZ ?_|refine za.mk _ ‹_› ?_|refine vP (show (_:BitVec 64)≠_ by decide) ?_));all_goals try conv=>whnf
     all_goals try (exfalso;omega)
     have e0:k=l.length:=by omega
     refine congrArg (fun x=>some (D.tup [dKM (zA m (zcW m w)),D.arr 1 x,D.int .i64 0])) ?_
     rw [hw2,List.map_map,List.map_map]
     exact zS fun u hu=>by rw [if_pos (by rw [e0];exact (ziu hq hu).1)];rfl
 ·refine zg zw zbu (by show 2≤82;decide) ?_
  (repeat' ((conv=>whnf);first|refine vA ?_|refine vB fun b hb=>?_|refine vC (fun hl=>?_) fun i kv vv hi=>?_|refine vE ?_|refine vG ?_|refine vH ?_|((first|refine vD ?_ ?_|refine vF ?_ ?_|refine vI ?_ ?_)<;>intro hc<;>try simp only [vL] at hc)|refine vJ fun hg=>?_|refine vK fun hg=>?_|refine vT ?_|refine vN ‹_› ?_|(refine vQ ?_ fun x hx=>?_;·first|omega|(simp only [vM] at *;omega))|((first|refine vO ?_ ?_|refine vR ?_ ‹_› ?_|refine vS ?_ fun x hx=>?_|refine vP ?_ ?_);·first|omega|(simp only [vM] at *;omega))|refine vW ⟨by omega,by omega⟩ ?_|(refine vU ?_ ?_;·kernel_rfl)|refine vX ?_|refine vY ?_|refine vZ ?_|refine yD cc ⟨⟨rfl,rfl⟩,rfl⟩ rfl ?_|refine za.mk _ ‹_› ?_|refine vP (show (_:BitVec 64)≠_ by decide) ?_));all_goals try conv=>whnf
  ·rw [zel,if_pos hk0];rfl
  all_goals exact absurd ‹zm m=0› hk0
end Go.Ab
