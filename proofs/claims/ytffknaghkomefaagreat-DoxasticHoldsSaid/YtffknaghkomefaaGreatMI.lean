/- A part of the proofs of this seat: functions and their contracts. -/
import Derived.Test.YtffknaghkomefaaGreatMH
set_option linter.unusedVariables false
set_option linter.unusedSimpArgs false
set_option linter.unusedSectionVars false
namespace Go.Ab
open Go Go.Proofs
set_option linter.unusedSimpArgs false
set_option linter.unusedVariables false
set_option maxRecDepth 10000
set_option maxHeartbeats 4000000
variable {T:Nat→Obj→Prop}
theorem fn_rUsesX (op:Int):Fn Tryz.prog T f_wittingref05_UsesX [.d (.int .i64 op)] [] (.d (.bool (useX op))) []:=by
 refine fn_dataR hmix k_wittingref05_UsesX (by show 1≤9;decide) ?_
 (repeat' ((conv=>whnf);first|refine vA ?_|(refine vF ?_ ?_<;>intro hc<;>try simp only [vL] at hc)|refine vZ ?_));all_goals try conv=>whnf
 all_goals first|rfl|(simp_all [useX]<;>omega)|skip
theorem fn_rUsesY (op:Int):Fn Tryz.prog T f_wittingref05_UsesY [.d (.int .i64 op)] [] (.d (.bool (useY op))) []:=by
 refine fn_dataR hmix k_wittingref05_UsesY (by show 1≤29;decide) ?_
 (repeat' ((conv=>whnf);first|refine vA ?_|(refine vF ?_ ?_<;>intro hc<;>try simp only [vL] at hc)|refine vZ ?_));all_goals try conv=>whnf
 all_goals first|rfl|(simp_all [useY]<;>omega)|skip
theorem fn_rAgent (op:Int):Fn Tryz.prog T f_wittingref05_agent [.d (.int .i64 op)] [] (.d (.bool (useAgent op))) []:=by
 refine fn_dataR hmix k_wittingref05_agent (by show 1≤17;decide) ?_
 (repeat' ((conv=>whnf);first|refine vA ?_|(refine vF ?_ ?_<;>intro hc)|refine vZ ?_));all_goals try conv=>whnf
 all_goals first|rfl|(simp_all [useAgent]<;>omega)|skip
theorem fn_rGroup (op:Int):Fn Tryz.prog T f_wittingref05_group [.d (.int .i64 op)] [] (.d (.bool (useGroup op))) []:=by
 refine fn_dataR hmix k_wittingref05_group (by show 1≤9;decide) ?_
 (repeat' ((conv=>whnf);first|refine vA ?_|(refine vF ?_ ?_<;>intro hc<;>try simp only [vL] at hc)|refine vZ ?_));all_goals try conv=>whnf
 all_goals first|rfl|(simp_all [useGroup]<;>omega)|skip
end Go.Ab
namespace Go.Ab
open Go Go.Proofs
set_option linter.unusedSimpArgs false
set_option linter.unusedVariables false
set_option maxRecDepth 10000
set_option maxHeartbeats 4000000
variable {T:Nat→Obj→Prop}
abbrev boxNd (n:Nd):Ob := .box [.d (.int .i64 n.op),.d (.int .i64 n.i),.d (.int .i64 n.e),.d (.int .i64 n.g),.d (.int .i64 n.x),.d (.int .i64 n.y)]
def rErrB (ok fa ev ux uy ag gr:Bool) (n:Nd) (at_:Int):Int :=
 if ok=false then 10 else
 if opdOk ux n.x at_=false∨opdOk uy n.y at_=false then 3 else
 if (!(fa||ag||ev)&&decide (n.i≠0)||(!ev&&decide (n.e≠0))||(!gr&&decide (n.g≠0)))=true then 3 else
 if (outside fa n.i 0 7||outside ag n.i 0 3||outside ev n.i 0 7||outside ev n.e 0 7||outside gr n.g 1 15)=true then 2 else 0
theorem rErrB_at {ok fa ev ux uy ag gr:Bool} {n:Nd} {a:Int} (h0:ok=true) (h1:opdOk ux n.x a=true) (h2:opdOk uy n.y a=true) (h3:(!(fa||ag||ev)&&decide (n.i≠0)||(!ev&&decide (n.e≠0))||(!gr&&decide (n.g≠0)))=false) :
  rErrB ok fa ev ux uy ag gr n a=if (outside fa n.i 0 7||outside ag n.i 0 3||outside ev n.i 0 7||outside ev n.e 0 7||outside gr n.g 1 15)=true then 2 else 0:=by
 rw [rErrB,if_neg (by rw [h0];simp),if_neg (by rw [h1,h2];simp),if_neg (by rw [h3];simp)]
set_option maxHeartbeats 40000000 in
theorem fn_rNodeB (ux uy ag gr:Bool) (n:Nd) (a:Int) (hux:Fn Tryz.prog T f_wittingref05_UsesX [.d (.int .i64 n.op)] [] (.d (.bool ux)) []) (huy:Fn Tryz.prog T f_wittingref05_UsesY [.d (.int .i64 n.op)] [] (.d (.bool uy)) []) (hag:Fn Tryz.prog T f_wittingref05_agent [.d (.int .i64 n.op)] [] (.d (.bool ag)) []) (hgr:Fn Tryz.prog T f_wittingref05_group [.d (.int .i64 n.op)] [] (.d (.bool gr)) []) :
  Fn Tryz.prog T f_wittingref05_node [.d (dNd n),.d (.int .i64 a)] [] (.d (.int .i64 (rErrB (isOp n.op) (decide (n.op=3)) (decide (n.op=17)) ux uy ag gr n a))) []:=by
 refine fn_dataR hmix k_wittingref05_node (by show 2≤169;decide) ?_
 (repeat' ((conv=>whnf);first|refine SeqS.but 38 rfl ?_|(refine vF ?_ ?_<;>intro hc<;>try simp only [vL] at hc)|refine vX ?_));all_goals try conv=>whnf
 ·(clear hux huy hag hgr;first|(simp_all [opdOk,outside,rErrB,isOp];done)|(simp_all [opdOk,outside,rErrB,isOp]<;>omega)|skip)
 ·(clear hux huy hag hgr;first|(simp_all [opdOk,outside,rErrB,isOp];done)|(simp_all [opdOk,outside,rErrB,isOp]<;>omega)|skip)
 refine SeqS.cut (fun (u:Unit)=>[(1,.d (.int .i64 (a))),(2,.ptr 0 0)]) (fun (u:Unit)=>[(0,some (boxNd n))]) 1 (fun (u:Unit)=>opdOk ux n.x a=true) ?_ ?_
 ·(repeat' ((conv=>whnf);first|refine vA ?_|refine vE ?_|((first|refine vD ?_ ?_|refine vF ?_ ?_|refine vI ?_ ?_)<;>intro hc<;>try simp only [vL] at hc)|refine vX ?_|refine yD hux (by (repeat refine ⟨⟨rfl,rfl⟩,?_⟩);rfl) rfl ?_));all_goals try conv=>whnf
  all_goals try (refine ⟨(),[(0,0)],[],?_,by (refine ⟨rfl,rfl,rfl,?_,?_⟩;repeat' first|exact trivial|exact rfl|refine And.intro ?_ ?_|refine ⟨_,rfl,?_⟩|decide)⟩)
  all_goals (clear hux huy hag hgr;first|(simp_all [opdOk,outside,rErrB,isOp];done)|(simp_all [opdOk,outside,rErrB,isOp]<;>omega)|skip)
 ·intro u0 hu0
  (repeat' ((conv=>whnf);fail));all_goals try conv=>whnf
  refine SeqS.cut (fun (u:Unit)=>[(1,.d (.int .i64 (a))),(2,.ptr 0 0)]) (fun (u:Unit)=>[(0,some (boxNd n))]) 1 (fun (u:Unit)=>opdOk uy n.y a=true) ?_ ?_
  ·(repeat' ((conv=>whnf);first|refine vA ?_|refine vE ?_|((first|refine vD ?_ ?_|refine vF ?_ ?_|refine vI ?_ ?_)<;>intro hc<;>try simp only [vL] at hc)|refine vX ?_|refine yD huy (by (repeat refine ⟨⟨rfl,rfl⟩,?_⟩);rfl) rfl ?_));all_goals try conv=>whnf
   all_goals try (refine ⟨(),[(0,0)],[],?_,by (refine ⟨rfl,rfl,rfl,?_,?_⟩;repeat' first|exact trivial|exact rfl|refine And.intro ?_ ?_|refine ⟨_,rfl,?_⟩|decide)⟩)
   all_goals (clear hux huy hag hgr;first|(simp_all [opdOk,outside,rErrB,isOp];done)|(simp_all [opdOk,outside,rErrB,isOp]<;>omega)|skip)
  ·intro u1 hu1
   (repeat' ((conv=>whnf);fail));all_goals try conv=>whnf
   refine SeqS.cut (fun (u:Bool)=>[(1,.d (.int .i64 (a))),(2,.ptr 0 0),(5,.d (.bool (u)))]) (fun (u:Bool)=>[(0,some (boxNd n))]) 1 (fun (u:Bool)=>u=(decide (n.op=3)||ag||decide (n.op=17))) ?_ ?_
   ·(repeat' ((conv=>whnf);first|((first|refine vF ?_ ?_|refine vI ?_ ?_)<;>intro hc)|refine yD hag (by (repeat refine ⟨⟨rfl,rfl⟩,?_⟩);rfl) rfl ?_));all_goals try conv=>whnf
    all_goals (refine ⟨_,[(0,0)],[],?_,by (refine ⟨rfl,rfl,rfl,?_,?_⟩;repeat' first|exact trivial|exact rfl|exact .inl rfl|exact .inr (.inl ⟨rfl,rfl⟩)|refine And.intro ?_ ?_|refine ⟨_,rfl,?_⟩|decide)⟩)
    all_goals (clear hux huy hag hgr;first|(simp_all;done)|(simp_all<;>omega)|skip)
   ·intro ub hub
    (repeat' ((conv=>whnf);fail));all_goals try conv=>whnf
    refine SeqS.cut (fun (u:Unit)=>[(1,.d (.int .i64 (a))),(2,.ptr 0 0)]) (fun (u:Unit)=>[(0,some (boxNd n))]) 1 (fun (u:Unit)=>(!(decide (n.op=3)||ag||decide (n.op=17))&&decide (n.i≠0)||(!decide (n.op=17)&&decide (n.e≠0))||(!gr&&decide (n.g≠0)))=false) ?_ ?_
    ·(repeat' ((conv=>whnf);first|refine vA ?_|refine vE ?_|((first|refine vD ?_ ?_|refine vI ?_ ?_)<;>intro hc)|refine vX ?_|refine yD hgr (by (repeat refine ⟨⟨rfl,rfl⟩,?_⟩);rfl) rfl ?_));all_goals try conv=>whnf
     all_goals try (refine ⟨(),[(0,0)],[],?_,by (refine ⟨rfl,rfl,rfl,?_,?_⟩;repeat' first|exact trivial|exact rfl|refine And.intro ?_ ?_|refine ⟨_,rfl,?_⟩|decide)⟩)
     all_goals (clear hux huy hag hgr;first|(rw [← hub];clear hub;simp_all;done)|(simp_all [opdOk,outside,rErrB,isOp];done)|(simp_all [opdOk,outside,rErrB,isOp]<;>omega)|skip)
    ·intro u2 hu2
     (repeat' ((conv=>whnf);fail));all_goals try conv=>whnf
     refine SeqS.cut (fun (u:Unit)=>[(1,.d (.int .i64 (a))),(2,.ptr 0 0)]) (fun (u:Unit)=>[(0,some (boxNd n))]) 1 (fun (u:Unit)=>(outside (decide (n.op=3)) n.i 0 7||outside ag n.i 0 3)=false) ?_ ?_
     ·(repeat' ((conv=>whnf);first|refine vA ?_|((first|refine vF ?_ ?_|refine vI ?_ ?_)<;>intro hc<;>try simp only [vL] at hc)|refine vX ?_|refine yD hag (by (repeat refine ⟨⟨rfl,rfl⟩,?_⟩);rfl) rfl ?_));all_goals try conv=>whnf
      all_goals try (refine ⟨(),[(0,0)],[],?_,by (refine ⟨rfl,rfl,rfl,?_,?_⟩;repeat' first|exact trivial|exact rfl|refine And.intro ?_ ?_|refine ⟨_,rfl,?_⟩|decide)⟩)
      all_goals (clear hux huy hag hgr;first|exact trivial|(rw [rErrB_at (by simp [isOp];omega) hu0 hu1 hu2];clear hu0 hu1 hu2;simp_all [outside];done)|(rw [rErrB_at (by simp [isOp];omega) hu0 hu1 hu2];clear hu0 hu1 hu2;simp_all [outside]<;>omega)|(clear hu0 hu1 hu2;simp_all [outside];done)|(clear hu0 hu1 hu2;simp_all [outside]<;>omega)|skip)
     ·intro u3 hu3
      (repeat' ((conv=>whnf);fail));all_goals try conv=>whnf
      refine SeqS.cut (fun (u:Unit)=>[(1,.d (.int .i64 (a))),(2,.ptr 0 0)]) (fun (u:Unit)=>[(0,some (boxNd n))]) 1 (fun (u:Unit)=>(outside (decide (n.op=17)) n.i 0 7||outside (decide (n.op=17)) n.e 0 7)=false) ?_ ?_
      ·(repeat' ((conv=>whnf);first|refine vA ?_|(refine vF ?_ ?_<;>intro hc<;>try simp only [vL] at hc)|refine vX ?_));all_goals try conv=>whnf
       all_goals try (refine ⟨(),[(0,0)],[],?_,by (refine ⟨rfl,rfl,rfl,?_,?_⟩;repeat' first|exact trivial|exact rfl|refine And.intro ?_ ?_|refine ⟨_,rfl,?_⟩|decide)⟩)
       all_goals (clear hux huy hag hgr;first|exact trivial|(rw [rErrB_at (by simp [isOp];omega) hu0 hu1 hu2];clear hu0 hu1 hu2;simp_all [outside];done)|(rw [rErrB_at (by simp [isOp];omega) hu0 hu1 hu2];clear hu0 hu1 hu2;simp_all [outside]<;>omega)|(clear hu0 hu1 hu2;simp_all [outside];done)|(clear hu0 hu1 hu2;simp_all [outside]<;>omega)|skip)
      ·intro u4 hu4
       (repeat' ((conv=>whnf);first|refine vA ?_|((first|refine vF ?_ ?_|refine vI ?_ ?_)<;>intro hc<;>try simp only [vL] at hc)|refine vX ?_|refine yD hgr (by (repeat refine ⟨⟨rfl,rfl⟩,?_⟩);rfl) rfl ?_));all_goals try conv=>whnf
       all_goals (clear hux huy hag hgr;first|exact trivial|(rw [rErrB_at (by simp [isOp];omega) hu0 hu1 hu2];clear hu0 hu1 hu2;simp_all [outside];done)|(rw [rErrB_at (by simp [isOp];omega) hu0 hu1 hu2];clear hu0 hu1 hu2;simp_all [outside]<;>omega)|(clear hu0 hu1 hu2;simp_all [outside];done)|(clear hu0 hu1 hu2;simp_all [outside]<;>omega)|skip)
end Go.Ab
namespace Go.Ab
open Go Go.Proofs
set_option linter.unusedSimpArgs false
set_option linter.unusedVariables false
set_option maxRecDepth 10000
set_option maxHeartbeats 4000000
variable {T:Nat→Obj→Prop}
theorem fn_rNode (n:Nd) (a:Int):Fn Tryz.prog T f_wittingref05_node [.d (dNd n),.d (.int .i64 a)] [] (.d (.int .i64 (nErr n a))) []:=by
 exact fn_rNodeB _ _ _ _ n a (fn_rUsesX n.op) (fn_rUsesY n.op) (fn_rAgent n.op) (fn_rGroup n.op)
theorem fn_rCheck05 (f:List Nd):Fn Tryz.prog T f_wittingref05_Check [.d (dF f)] [] (.d (.int .i64 (fErr f))) []:=by
 refine fn_dataR hmix k_wittingref05_Check (by show 1≤26;decide) ?_
 (repeat' ((conv=>whnf);first|refine vA ?_|(refine vF ?_ ?_<;>intro hc<;>try simp only [vL] at hc)|refine vJ fun hg=>?_|refine vX ?_));all_goals try conv=>whnf
 ·simp_all [fErr]
 ·rw [fErr,if_neg (by omega),if_pos (by omega)]
 ·have h0 : ¬f.length=0:=by omega
  refine loop_intro (fun (k:Nat)=>[(0,.d (dF f)),(3,.d (.int .i64 ((k:Int))))]) (fun (k:Nat)=>k≤f.length∧fErr f=fErrGo (f.drop k) k) (fun (k:Nat)=>f.length - k) (0) (⟨by simp,by rw [fErr,if_neg (by omega),if_neg (by omega)];rfl⟩) (by (repeat' first|exact trivial|exact rfl|refine And.intro ?_ ?_)) ?_
  rintro k ⟨hk,hI⟩
  (repeat' ((conv=>whnf);first|refine vA ?_|((first|refine vD ?_ ?_|refine vF ?_ ?_)<;>intro hc<;>try simp only [vL] at hc)|refine vJ fun hg=>?_|(refine vQ ?_ fun x hx=>?_;·omega)|(refine vO ?_ ?_;·omega)|refine vX ?_|refine yD (fn_rNode x (k:Int)) ⟨⟨rfl,rfl⟩,⟨rfl,rfl⟩,rfl⟩ rfl ?_));all_goals try conv=>whnf
  ·rw [hI,drop_cons hx,fErrGo,if_pos hc]
  ·exact ⟨k+1,[],[],⟨by (omega),by rw [hI,drop_cons hx,fErrGo,if_neg (by simpa using hc)]⟩,by (omega),by (refine ⟨rfl,rfl,rfl,?_,?_⟩;repeat' first|exact trivial|exact rfl|refine And.intro ?_ ?_)⟩
  ·rw [hI,List.drop_eq_nil_of_le (by omega)];rfl
end Go.Ab
namespace Go.Ab
open Go Go.Proofs
set_option linter.unusedSimpArgs false
set_option linter.unusedVariables false
set_option maxRecDepth 10000
set_option maxHeartbeats 4000000
variable {T:Nat→Obj→Prop}
theorem put_at {l:List Nd} {x:Nd} {k:Nat} (h : ∀ j,j < k→l[j]? ≠ some x) (hk:l[k]? = some x):put l x=(k,l):=by
 refine put_found ?_
 obtain ⟨h1,h2⟩:=List.getElem?_eq_some_iff.1 hk
 simp only [List.idxOf?]
 rw [List.findIdx?_eq_some_iff_getElem]
 refine ⟨h1,by simp [h2],fun j hj=>?_⟩
 have:=h j hj
 rw [List.getElem?_eq_getElem (by omega)] at this
 simpa using fun e=>this (by rw [e])
theorem put_no {l:List Nd} {x:Nd} (h : ∀ j,j < l.length→l[j]? ≠ some x):put l x=(l.length,l++[x]):=by
 refine put_new ?_
 simp only [List.idxOf?,List.findIdx?_eq_none_iff]
 intro y hy
 obtain ⟨j,hj,rfl⟩:=List.getElem_of_mem hy
 have:=h j hj
 rw [List.getElem?_eq_getElem hj] at this
 simpa using fun e=>this (by rw [e])
theorem nd_eqB (a b:Nd):(decide (a.op=b.op)&&(decide (a.i=b.i)&&(decide (a.e=b.e)&&(decide (a.g=b.g)&&(decide (a.x=b.x)&&(decide (a.y=b.y)&&true))))))=decide (a=b):=Option.some.inj (same_nd a b)
theorem fn_rPut (ds:List D) (l:List Nd) (x:Nd) (hL:l.length≤1000) (r:Int) (hr:r=((put l x).1:Int)) (l':List D) (hl':l'=(put l x).2.map dNd) :
  Fn Tryz.prog T f_wittingref05_put [.ptr 0 0,.d (dNd x)] [.box [.own 2,.own 1],.row 1 ds,.row 6 (l.map dNd)] (.d (.int .i64 r)) [some (.box [.own 3,.own 1]),some (.row 1 ds),none,some (.row 6 l')]:=by
 refine fn_introR hmix k_wittingref05_put (by show 2≤41;decide) _ (fun e env mem n h=>h) ?_
 (repeat' ((conv=>whnf);refine vA ?_));all_goals try conv=>whnf
 refine loop_mem (fun (k:Nat)=>[(0,.ptr 0 0),(3,.ptr 3 0),(5,.d (.int .i64 ((k:Int)))),(ghostAt,.ptr 0 0),(ghostAt+1,.own 1),(ghostAt+2,.own 2)]) (fun (k:Nat)=>[(0,some (.box [.own 2,.own 1])),(1,some (.row 1 ds)),(2,some (.row 6 (l.map dNd))),(3,some (boxNd x))]) 4 (fun (k:Nat)=>k≤l.length ∧ ∀ j,j < k→l[j]? ≠ some x) (fun (k:Nat)=>l.length - k) (0) [(0,0),(1,1),(2,2),(3,3)] [] (⟨by simp,by omega⟩) (by (refine ⟨rfl,rfl,rfl,?_,?_⟩;repeat' first|exact trivial|exact rfl|refine And.intro ?_ ?_|refine ⟨_,rfl,?_⟩|decide)) ?_
 rintro k ⟨hk,hI⟩
 (repeat' ((conv=>whnf);first|refine vA ?_|((first|refine vF ?_ ?_|refine vI ?_ ?_)<;>intro hc<;>try simp only [vL] at hc)|refine vJ fun hg=>?_|refine vK fun hg=>?_|(refine vQ ?_ fun x hx=>?_;·omega)|((first|refine vO ?_ ?_|refine vP ?_ ?_);·first|omega|(simp only [vM] at *;omega))|(refine vU ?_ ?_;·kernel_rfl)|fail));all_goals try conv=>whnf
 ·have he:=(nd_eqB _ _).symm.trans hc
  rw [decide_eq_true_eq] at he
  subst he
  rw [put_at hI hx] at hr hl'
  subst hr;subst hl'
  refine ⟨trivial,_,[(0,0),(1,1),(3,2)],[],rfl,.inl (by (repeat' exact rfl)),⟨by rfl,by rfl,by rfl,trivial,by (repeat' first|exact trivial|exact rfl|refine And.intro ?_ ?_|refine ⟨_,rfl,?_⟩|exact of_decide_eq_true rfl)⟩,by (repeat' first|exact trivial|exact rfl|refine And.intro ?_ ?_|refine ⟨_,rfl,?_⟩)⟩
 ·have he:=(nd_eqB _ _).symm.trans hc
  rw [decide_eq_false_iff_not] at he
  exact ⟨k+1,[(0,0),(1,1),(2,2),(3,3)],[],⟨by (omega),fun j hj e=>by
   by_cases h:j=k
   ·subst h;rw [show (j:Int).toNat=j from rfl] at hx;rw [hx] at e;exact he (Option.some.inj e)
   ·exact hI j (by omega) e⟩,by (omega),by (refine ⟨rfl,rfl,rfl,?_,?_⟩;repeat' first|exact trivial|exact rfl|refine And.intro ?_ ?_|refine ⟨_,rfl,?_⟩|decide)⟩
 ·have hp:=put_no fun j hj=>hI j (by omega)
  rw [hp] at hr hl'
  have e1:l'=l.map dNd++[dNd x]:=by rw [hl'];simp
  have e2:r=(((l.map dNd++[dNd x]).length:Nat):Int) - 1:=by rw [hr];simp
  subst e1;subst e2
  refine ⟨trivial,_,[(0,0),(1,1),(3,5)],[],rfl,.inl (by (repeat' exact rfl)),⟨by rfl,by rfl,by rfl,trivial,by (repeat' first|exact trivial|exact rfl|refine And.intro ?_ ?_|refine ⟨_,rfl,?_⟩|exact of_decide_eq_true rfl)⟩,by (repeat' first|exact trivial|exact rfl|refine And.intro ?_ ?_|refine ⟨_,rfl,?_⟩)⟩
theorem fn_rPut0 (ds:List D) (x:Nd):Fn Tryz.prog T f_wittingref05_put [.ptr 0 0,.d (dNd x)] [.box [.nils 6,.own 1],.row 1 ds] (.d (.int .i64 0)) [some (.box [.own 2,.own 1]),some (.row 1 ds),some (.row 6 [dNd x])]:=by
 refine fn_introR hmix k_wittingref05_put (by show 2≤41;decide) _ (fun e env mem n h=>h) ?_
 (repeat' ((conv=>whnf);refine vA ?_));all_goals try conv=>whnf
 refine loop_mem (fun (u:Unit)=>[(0,.ptr 0 0),(3,.ptr 2 0),(5,.d (.int .i64 (0))),(ghostAt,.ptr 0 0),(ghostAt+1,.own 1)]) (fun (u:Unit)=>[(0,some (.box [.nils 6,.own 1])),(1,some (.row 1 ds)),(2,some (boxNd x))]) 3 (fun (u:Unit)=>True) (fun (u:Unit)=>0) (()) [(0,0),(1,1),(2,2)] [] (trivial) (by (refine ⟨rfl,rfl,rfl,?_,?_⟩;repeat' first|exact trivial|exact rfl|refine And.intro ?_ ?_|refine ⟨_,rfl,?_⟩|decide)) ?_
 rintro u -
 (repeat' ((conv=>whnf);first|refine vA ?_|refine vH ?_|refine vK fun hg=>?_|((first|refine vO ?_ ?_|refine vP ?_ ?_);·first|omega|(simp only [vM] at *;omega))|(refine vU ?_ ?_;·kernel_rfl)|fail));all_goals try conv=>whnf
 all_goals skip
 refine ⟨trivial,_,[(0,0),(1,1),(2,4)],[],rfl,.inl (by (repeat' exact rfl)),⟨by rfl,by rfl,by rfl,trivial,by (repeat' first|exact trivial|exact rfl|refine And.intro ?_ ?_|refine ⟨_,rfl,?_⟩|exact of_decide_eq_true rfl)⟩,by (repeat' first|exact trivial|exact rfl|refine And.intro ?_ ?_|refine ⟨_,rfl,?_⟩)⟩
end Go.Ab
namespace Go.Ab
open Go Go.Proofs
set_option linter.unusedSimpArgs false
set_option linter.unusedVariables false
set_option maxRecDepth 10000
set_option maxHeartbeats 4000000
set_option maxHeartbeats 40000000
variable {T:Nat→Obj→Prop}
def dA (f:List Nd) (s:FSt):List Int:=(List.range f.length).map fun i=>match s.done.lookup i with
 | some r=>(r:Int)
 | none => -1
abbrev dRow (f:List Nd) (s:FSt):List D:=(dA f s).map (D.int .i64)
theorem rfinA0 {f:List Nd} (hL:f.length≤1000) {k:Nat} {n:Nd} (hn:f[k]? = some n) {s:FSt} (hl:s.out.length≤1000) (hd:(dA f s)[k]? = some (-1)) (hux:Fn Tryz.prog T f_wittingref05_UsesX [.d (.int .i64 n.op)] [] (.d (.bool false)) []) (huy:Fn Tryz.prog T f_wittingref05_UsesY [.d (.int .i64 n.op)] [] (.d (.bool false)) []) {p:Int} (hp:p=((put (s).out n).1:Int)) :
  Fn Tryz.prog T f_wittingref05_finish [.d (dF f),.d (.int .i64 (k:Int)),.ptr 0 0] [.box [.own 2,.own 1],.row 1 (dRow f s),.row 6 ((s).out.map dNd)] (.d (.int .i64 p)) [some (.box [.own 3,.own 1]),some (.row 1 ((dRow f s).set k (.int .i64 p))),none,some (.row 6 ((put (s).out n).2.map dNd))]:=by
 have hkl:k < ((dRow f s)).length:=by rw [dRow,List.length_map];exact (List.getElem?_eq_some_iff.1 hd).1
 have hk0:k < ((dRow f s)).length:=by rw [dRow,List.length_map];exact (List.getElem?_eq_some_iff.1 hd).1
 refine fn_introR hmix k_wittingref05_finish (by show 3≤67;decide) _ (fun e env mem n h=>h) ?_
 (repeat' ((conv=>whnf);first|refine vA ?_|refine vH ?_|refine vN ‹_› ?_|(refine vP ?_ ?_;·omega)|refine yD hux (by (repeat refine ⟨⟨rfl,rfl⟩,?_⟩);rfl) rfl ?_|refine yD huy (by (repeat refine ⟨⟨rfl,rfl⟩,?_⟩);rfl) rfl ?_));all_goals try conv=>whnf
 refine CallS.objsE [0,1,2] (fn_rPut (dRow f s) (s).out n hl p hp _ rfl) (by (repeat' first|exact rfl|refine And.intro ?_ ?_|refine ⟨_,rfl,?_⟩)) (by (repeat' first|exact rfl|refine And.intro ?_ ?_|refine ⟨_,rfl,?_⟩)) (by rfl) (by kernel_rfl) (by simp) [(0,some (.box [.own 4,.own 1])),(1,some (.row 1 (dRow f s))),(2,none),(4,some (.row 6 ((put (s).out n).2.map dNd)))] rfl ?_
 (repeat' ((conv=>whnf);first|(refine vP ?_ ?_;·first|omega|(simp only [vM] at *;omega))|(refine vU ?_ ?_;·kernel_rfl)|fail));all_goals try conv=>whnf
 refine ⟨.int .i64 p,⟨by omega,List.getElem?_set_self hkl⟩,?_⟩
 (repeat' ((conv=>whnf);fail));all_goals try conv=>whnf
 refine ⟨trivial,_,[(0,0),(1,1),(3,4)],[],rfl,.inl (by (repeat' exact rfl)),⟨by rfl,by rfl,by rfl,trivial,by (repeat' first|exact trivial|exact rfl|refine And.intro ?_ ?_|refine ⟨_,rfl,?_⟩|exact of_decide_eq_true rfl)⟩,by (repeat' first|exact trivial|exact rfl|refine And.intro ?_ ?_|refine ⟨_,rfl,?_⟩)⟩
theorem rfinA1 {f:List Nd} (hL:f.length≤1000) {k:Nat} {n:Nd} (hn:f[k]? = some n) {s:FSt} (hl:s.out.length≤1000) (hd:(dA f s)[k]? = some (-1)) (hux:Fn Tryz.prog T f_wittingref05_UsesX [.d (.int .i64 n.op)] [] (.d (.bool true)) []) (huy:Fn Tryz.prog T f_wittingref05_UsesY [.d (.int .i64 n.op)] [] (.d (.bool false)) []) {r1:Nat} {s1:FSt} (hl1:s1.out.length≤1000) (c1:Fn Tryz.prog T f_wittingref05_finish [.d (dF f),.d (.int .i64 n.x),.ptr 0 0] [.box [.own 2,.own 1],.row 1 (dRow f s),.row 6 ((s).out.map dNd)] (.d (.int .i64 (r1:Int))) [some (.box [.own 3,.own 1]),some (.row 1 (dRow f s1)),none,some (.row 6 (s1.out.map dNd))]) (hd1:(dA f s1)[k]? = some (-1)) {p:Int} (hp:p=((put (s1).out ⟨n.op,n.i,n.e,n.g,(r1:Int),n.y⟩).1:Int)) :
  Fn Tryz.prog T f_wittingref05_finish [.d (dF f),.d (.int .i64 (k:Int)),.ptr 0 0] [.box [.own 2,.own 1],.row 1 (dRow f s),.row 6 ((s).out.map dNd)] (.d (.int .i64 p)) [some (.box [.own 3,.own 1]),some (.row 1 ((dRow f s1).set k (.int .i64 p))),none,some (.row 6 ((put (s1).out ⟨n.op,n.i,n.e,n.g,(r1:Int),n.y⟩).2.map dNd))]:=by
 have hkl:k < ((dRow f s1)).length:=by rw [dRow,List.length_map];exact (List.getElem?_eq_some_iff.1 hd1).1
 have hk0:k < ((dRow f s)).length:=by rw [dRow,List.length_map];exact (List.getElem?_eq_some_iff.1 hd).1
 refine fn_introR hmix k_wittingref05_finish (by show 3≤67;decide) _ (fun e env mem n h=>h) ?_
 (repeat' ((conv=>whnf);first|refine vA ?_|refine vG ?_|refine vH ?_|refine vN ‹_› ?_|(refine vP ?_ ?_;·omega)|refine yD hux (by (repeat refine ⟨⟨rfl,rfl⟩,?_⟩);rfl) rfl ?_));all_goals try conv=>whnf
 refine CallS.objsE [0,1,2] (c1) (by (repeat' first|exact rfl|refine And.intro ?_ ?_|refine ⟨_,rfl,?_⟩)) (by (repeat' first|exact rfl|refine And.intro ?_ ?_|refine ⟨_,rfl,?_⟩)) (by rfl) (by kernel_rfl) (by simp) [(0,some (.box [.own 4,.own 1])),(1,some (.row 1 (dRow f s1))),(2,none),(4,some (.row 6 (s1.out.map dNd)))] rfl ?_
 (repeat' ((conv=>whnf);first|refine vA ?_|refine vH ?_|refine yD huy (by (repeat refine ⟨⟨rfl,rfl⟩,?_⟩);rfl) rfl ?_));all_goals try conv=>whnf
 refine CallS.objsE [0,1,4] (fn_rPut (dRow f s1) (s1).out ⟨n.op,n.i,n.e,n.g,(r1:Int),n.y⟩ hl1 p hp _ rfl) (by (repeat' first|exact rfl|refine And.intro ?_ ?_|refine ⟨_,rfl,?_⟩)) (by (repeat' first|exact rfl|refine And.intro ?_ ?_|refine ⟨_,rfl,?_⟩)) (by rfl) (by kernel_rfl) (by simp) [(0,some (.box [.own 5,.own 1])),(1,some (.row 1 (dRow f s1))),(4,none),(5,some (.row 6 ((put (s1).out ⟨n.op,n.i,n.e,n.g,(r1:Int),n.y⟩).2.map dNd)))] rfl ?_
 (repeat' ((conv=>whnf);first|(refine vP ?_ ?_;·first|omega|(simp only [vM] at *;omega))|(refine vU ?_ ?_;·kernel_rfl)|fail));all_goals try conv=>whnf
 refine ⟨.int .i64 p,⟨by omega,List.getElem?_set_self hkl⟩,?_⟩
 (repeat' ((conv=>whnf);fail));all_goals try conv=>whnf
 refine ⟨trivial,_,[(0,0),(1,1),(3,5)],[],rfl,.inl (by (repeat' exact rfl)),⟨by rfl,by rfl,by rfl,trivial,by (repeat' first|exact trivial|exact rfl|refine And.intro ?_ ?_|refine ⟨_,rfl,?_⟩|exact of_decide_eq_true rfl)⟩,by (repeat' first|exact trivial|exact rfl|refine And.intro ?_ ?_|refine ⟨_,rfl,?_⟩)⟩
theorem rfinA2 {f:List Nd} (hL:f.length≤1000) {k:Nat} {n:Nd} (hn:f[k]? = some n) {s:FSt} (hl:s.out.length≤1000) (hd:(dA f s)[k]? = some (-1)) (hux:Fn Tryz.prog T f_wittingref05_UsesX [.d (.int .i64 n.op)] [] (.d (.bool true)) []) (huy:Fn Tryz.prog T f_wittingref05_UsesY [.d (.int .i64 n.op)] [] (.d (.bool true)) []) {r1:Nat} {s1:FSt} (hl1:s1.out.length≤1000) (c1:Fn Tryz.prog T f_wittingref05_finish [.d (dF f),.d (.int .i64 n.x),.ptr 0 0] [.box [.own 2,.own 1],.row 1 (dRow f s),.row 6 ((s).out.map dNd)] (.d (.int .i64 (r1:Int))) [some (.box [.own 3,.own 1]),some (.row 1 (dRow f s1)),none,some (.row 6 (s1.out.map dNd))]) (hd1:(dA f s1)[k]? = some (-1)) {r2:Nat} {s2:FSt} (hl2:s2.out.length≤1000) (c2:Fn Tryz.prog T f_wittingref05_finish [.d (dF f),.d (.int .i64 n.y),.ptr 0 0] [.box [.own 2,.own 1],.row 1 (dRow f s1),.row 6 ((s1).out.map dNd)] (.d (.int .i64 (r2:Int))) [some (.box [.own 3,.own 1]),some (.row 1 (dRow f s2)),none,some (.row 6 (s2.out.map dNd))]) (hd2:(dA f s2)[k]? = some (-1)) {p:Int} (hp:p=((put (s2).out ⟨n.op,n.i,n.e,n.g,(r1:Int),(r2:Int)⟩).1:Int)) :
  Fn Tryz.prog T f_wittingref05_finish [.d (dF f),.d (.int .i64 (k:Int)),.ptr 0 0] [.box [.own 2,.own 1],.row 1 (dRow f s),.row 6 ((s).out.map dNd)] (.d (.int .i64 p)) [some (.box [.own 3,.own 1]),some (.row 1 ((dRow f s2).set k (.int .i64 p))),none,some (.row 6 ((put (s2).out ⟨n.op,n.i,n.e,n.g,(r1:Int),(r2:Int)⟩).2.map dNd))]:=by
 have hkl:k < ((dRow f s2)).length:=by rw [dRow,List.length_map];exact (List.getElem?_eq_some_iff.1 hd2).1
 have hk0:k < ((dRow f s)).length:=by rw [dRow,List.length_map];exact (List.getElem?_eq_some_iff.1 hd).1
 refine fn_introR hmix k_wittingref05_finish (by show 3≤67;decide) _ (fun e env mem n h=>h) ?_
 (repeat' ((conv=>whnf);first|refine vA ?_|refine vG ?_|refine vH ?_|refine vN ‹_› ?_|(refine vP ?_ ?_;·omega)|refine yD hux (by (repeat refine ⟨⟨rfl,rfl⟩,?_⟩);rfl) rfl ?_));all_goals try conv=>whnf
 refine CallS.objsE [0,1,2] (c1) (by (repeat' first|exact rfl|refine And.intro ?_ ?_|refine ⟨_,rfl,?_⟩)) (by (repeat' first|exact rfl|refine And.intro ?_ ?_|refine ⟨_,rfl,?_⟩)) (by rfl) (by kernel_rfl) (by simp) [(0,some (.box [.own 4,.own 1])),(1,some (.row 1 (dRow f s1))),(2,none),(4,some (.row 6 (s1.out.map dNd)))] rfl ?_
 (repeat' ((conv=>whnf);first|refine vA ?_|refine vG ?_|refine vN ‹_› ?_|refine yD huy (by (repeat refine ⟨⟨rfl,rfl⟩,?_⟩);rfl) rfl ?_));all_goals try conv=>whnf
 refine CallS.objsE [0,1,4] (c2) (by (repeat' first|exact rfl|refine And.intro ?_ ?_|refine ⟨_,rfl,?_⟩)) (by (repeat' first|exact rfl|refine And.intro ?_ ?_|refine ⟨_,rfl,?_⟩)) (by rfl) (by kernel_rfl) (by simp) [(0,some (.box [.own 5,.own 1])),(1,some (.row 1 (dRow f s2))),(4,none),(5,some (.row 6 (s2.out.map dNd)))] rfl ?_
 (repeat' ((conv=>whnf);refine vA ?_));all_goals try conv=>whnf
 refine CallS.objsE [0,1,5] (fn_rPut (dRow f s2) (s2).out ⟨n.op,n.i,n.e,n.g,(r1:Int),(r2:Int)⟩ hl2 p hp _ rfl) (by (repeat' first|exact rfl|refine And.intro ?_ ?_|refine ⟨_,rfl,?_⟩)) (by (repeat' first|exact rfl|refine And.intro ?_ ?_|refine ⟨_,rfl,?_⟩)) (by rfl) (by kernel_rfl) (by simp) [(0,some (.box [.own 6,.own 1])),(1,some (.row 1 (dRow f s2))),(5,none),(6,some (.row 6 ((put (s2).out ⟨n.op,n.i,n.e,n.g,(r1:Int),(r2:Int)⟩).2.map dNd)))] rfl ?_
 (repeat' ((conv=>whnf);first|(refine vP ?_ ?_;·first|omega|(simp only [vM] at *;omega))|(refine vU ?_ ?_;·kernel_rfl)|fail));all_goals try conv=>whnf
 refine ⟨.int .i64 p,⟨by omega,List.getElem?_set_self hkl⟩,?_⟩
 (repeat' ((conv=>whnf);fail));all_goals try conv=>whnf
 refine ⟨trivial,_,[(0,0),(1,1),(3,6)],[],rfl,.inl (by (repeat' exact rfl)),⟨by rfl,by rfl,by rfl,trivial,by (repeat' first|exact trivial|exact rfl|refine And.intro ?_ ?_|refine ⟨_,rfl,?_⟩|exact of_decide_eq_true rfl)⟩,by (repeat' first|exact trivial|exact rfl|refine And.intro ?_ ?_|refine ⟨_,rfl,?_⟩)⟩
theorem rfinB0 {f:List Nd} (hL:f.length≤1000) {k:Nat} {n:Nd} (hn:f[k]? = some n) (hd:(dA f ⟨[],[]⟩)[k]? = some (-1)) (hux:Fn Tryz.prog T f_wittingref05_UsesX [.d (.int .i64 n.op)] [] (.d (.bool false)) []) (huy:Fn Tryz.prog T f_wittingref05_UsesY [.d (.int .i64 n.op)] [] (.d (.bool false)) []) :
  Fn Tryz.prog T f_wittingref05_finish [.d (dF f),.d (.int .i64 (k:Int)),.ptr 0 0] [.box [.nils 6,.own 1],.row 1 (dRow f ⟨[],[]⟩)] (.d (.int .i64 (0:Int))) [some (.box [.own 2,.own 1]),some (.row 1 ((dRow f ⟨[],[]⟩).set k (.int .i64 (0:Int)))),some (.row 6 [dNd n])]:=by
 have hkl:k < ((dRow f ⟨[],[]⟩)).length:=by rw [dRow,List.length_map];exact (List.getElem?_eq_some_iff.1 hd).1
 have hk0:k < ((dRow f ⟨[],[]⟩)).length:=by rw [dRow,List.length_map];exact (List.getElem?_eq_some_iff.1 hd).1
 refine fn_introR hmix k_wittingref05_finish (by show 3≤67;decide) _ (fun e env mem n h=>h) ?_
 (repeat' ((conv=>whnf);first|refine vA ?_|refine vH ?_|refine vN ‹_› ?_|(refine vP ?_ ?_;·omega)|refine yD hux (by (repeat refine ⟨⟨rfl,rfl⟩,?_⟩);rfl) rfl ?_|refine yD huy (by (repeat refine ⟨⟨rfl,rfl⟩,?_⟩);rfl) rfl ?_));all_goals try conv=>whnf
 refine CallS.objsE [0,1] (fn_rPut0 (dRow f ⟨[],[]⟩) n) (by (repeat' first|exact rfl|refine And.intro ?_ ?_|refine ⟨_,rfl,?_⟩)) (by (repeat' first|exact rfl|refine And.intro ?_ ?_|refine ⟨_,rfl,?_⟩)) (by rfl) (by kernel_rfl) (by simp) [(0,some (.box [.own 3,.own 1])),(1,some (.row 1 (dRow f ⟨[],[]⟩))),(3,some (.row 6 [dNd n]))] rfl ?_
 (repeat' ((conv=>whnf);first|(refine vP ?_ ?_;·first|omega|(simp only [vM] at *;omega))|(refine vU ?_ ?_;·kernel_rfl)|fail));all_goals try conv=>whnf
 refine ⟨.int .i64 (0:Int),⟨by omega,List.getElem?_set_self hkl⟩,?_⟩
 (repeat' ((conv=>whnf);fail));all_goals try conv=>whnf
 refine ⟨trivial,_,[(0,0),(1,1),(2,3)],[],rfl,.inl (by (repeat' exact rfl)),⟨by rfl,by rfl,by rfl,trivial,by (repeat' first|exact trivial|exact rfl|refine And.intro ?_ ?_|refine ⟨_,rfl,?_⟩|exact of_decide_eq_true rfl)⟩,by (repeat' first|exact trivial|exact rfl|refine And.intro ?_ ?_|refine ⟨_,rfl,?_⟩)⟩
theorem rfinB1 {f:List Nd} (hL:f.length≤1000) {k:Nat} {n:Nd} (hn:f[k]? = some n) (hd:(dA f ⟨[],[]⟩)[k]? = some (-1)) (hux:Fn Tryz.prog T f_wittingref05_UsesX [.d (.int .i64 n.op)] [] (.d (.bool true)) []) (huy:Fn Tryz.prog T f_wittingref05_UsesY [.d (.int .i64 n.op)] [] (.d (.bool false)) []) {r1:Nat} {s1:FSt} (hl1:s1.out.length≤1000) (c1:Fn Tryz.prog T f_wittingref05_finish [.d (dF f),.d (.int .i64 n.x),.ptr 0 0] [.box [.nils 6,.own 1],.row 1 (dRow f ⟨[],[]⟩)] (.d (.int .i64 (r1:Int))) [some (.box [.own 2,.own 1]),some (.row 1 (dRow f s1)),some (.row 6 (s1.out.map dNd))]) (hd1:(dA f s1)[k]? = some (-1)) {p:Int} (hp:p=((put (s1).out ⟨n.op,n.i,n.e,n.g,(r1:Int),n.y⟩).1:Int)) :
  Fn Tryz.prog T f_wittingref05_finish [.d (dF f),.d (.int .i64 (k:Int)),.ptr 0 0] [.box [.nils 6,.own 1],.row 1 (dRow f ⟨[],[]⟩)] (.d (.int .i64 p)) [some (.box [.own 2,.own 1]),some (.row 1 ((dRow f s1).set k (.int .i64 p))),some (.row 6 ((put (s1).out ⟨n.op,n.i,n.e,n.g,(r1:Int),n.y⟩).2.map dNd))]:=by
 have hkl:k < ((dRow f s1)).length:=by rw [dRow,List.length_map];exact (List.getElem?_eq_some_iff.1 hd1).1
 have hk0:k < ((dRow f ⟨[],[]⟩)).length:=by rw [dRow,List.length_map];exact (List.getElem?_eq_some_iff.1 hd).1
 refine fn_introR hmix k_wittingref05_finish (by show 3≤67;decide) _ (fun e env mem n h=>h) ?_
 (repeat' ((conv=>whnf);first|refine vA ?_|refine vG ?_|refine vH ?_|refine vN ‹_› ?_|(refine vP ?_ ?_;·omega)|refine yD hux (by (repeat refine ⟨⟨rfl,rfl⟩,?_⟩);rfl) rfl ?_));all_goals try conv=>whnf
 refine CallS.objsE [0,1] (c1) (by (repeat' first|exact rfl|refine And.intro ?_ ?_|refine ⟨_,rfl,?_⟩)) (by (repeat' first|exact rfl|refine And.intro ?_ ?_|refine ⟨_,rfl,?_⟩)) (by rfl) (by kernel_rfl) (by simp) [(0,some (.box [.own 3,.own 1])),(1,some (.row 1 (dRow f s1))),(3,some (.row 6 (s1.out.map dNd)))] rfl ?_
 (repeat' ((conv=>whnf);first|refine vA ?_|refine vH ?_|refine yD huy (by (repeat refine ⟨⟨rfl,rfl⟩,?_⟩);rfl) rfl ?_));all_goals try conv=>whnf
 refine CallS.objsE [0,1,3] (fn_rPut (dRow f s1) (s1).out ⟨n.op,n.i,n.e,n.g,(r1:Int),n.y⟩ hl1 p hp _ rfl) (by (repeat' first|exact rfl|refine And.intro ?_ ?_|refine ⟨_,rfl,?_⟩)) (by (repeat' first|exact rfl|refine And.intro ?_ ?_|refine ⟨_,rfl,?_⟩)) (by rfl) (by kernel_rfl) (by simp) [(0,some (.box [.own 4,.own 1])),(1,some (.row 1 (dRow f s1))),(3,none),(4,some (.row 6 ((put (s1).out ⟨n.op,n.i,n.e,n.g,(r1:Int),n.y⟩).2.map dNd)))] rfl ?_
 (repeat' ((conv=>whnf);first|(refine vP ?_ ?_;·first|omega|(simp only [vM] at *;omega))|(refine vU ?_ ?_;·kernel_rfl)|fail));all_goals try conv=>whnf
 refine ⟨.int .i64 p,⟨by omega,List.getElem?_set_self hkl⟩,?_⟩
 (repeat' ((conv=>whnf);fail));all_goals try conv=>whnf
 refine ⟨trivial,_,[(0,0),(1,1),(2,4)],[],rfl,.inl (by (repeat' exact rfl)),⟨by rfl,by rfl,by rfl,trivial,by (repeat' first|exact trivial|exact rfl|refine And.intro ?_ ?_|refine ⟨_,rfl,?_⟩|exact of_decide_eq_true rfl)⟩,by (repeat' first|exact trivial|exact rfl|refine And.intro ?_ ?_|refine ⟨_,rfl,?_⟩)⟩
theorem rfinB2 {f:List Nd} (hL:f.length≤1000) {k:Nat} {n:Nd} (hn:f[k]? = some n) (hd:(dA f ⟨[],[]⟩)[k]? = some (-1)) (hux:Fn Tryz.prog T f_wittingref05_UsesX [.d (.int .i64 n.op)] [] (.d (.bool true)) []) (huy:Fn Tryz.prog T f_wittingref05_UsesY [.d (.int .i64 n.op)] [] (.d (.bool true)) []) {r1:Nat} {s1:FSt} (hl1:s1.out.length≤1000) (c1:Fn Tryz.prog T f_wittingref05_finish [.d (dF f),.d (.int .i64 n.x),.ptr 0 0] [.box [.nils 6,.own 1],.row 1 (dRow f ⟨[],[]⟩)] (.d (.int .i64 (r1:Int))) [some (.box [.own 2,.own 1]),some (.row 1 (dRow f s1)),some (.row 6 (s1.out.map dNd))]) (hd1:(dA f s1)[k]? = some (-1)) {r2:Nat} {s2:FSt} (hl2:s2.out.length≤1000) (c2:Fn Tryz.prog T f_wittingref05_finish [.d (dF f),.d (.int .i64 n.y),.ptr 0 0] [.box [.own 2,.own 1],.row 1 (dRow f s1),.row 6 ((s1).out.map dNd)] (.d (.int .i64 (r2:Int))) [some (.box [.own 3,.own 1]),some (.row 1 (dRow f s2)),none,some (.row 6 (s2.out.map dNd))]) (hd2:(dA f s2)[k]? = some (-1)) {p:Int} (hp:p=((put (s2).out ⟨n.op,n.i,n.e,n.g,(r1:Int),(r2:Int)⟩).1:Int)) :
  Fn Tryz.prog T f_wittingref05_finish [.d (dF f),.d (.int .i64 (k:Int)),.ptr 0 0] [.box [.nils 6,.own 1],.row 1 (dRow f ⟨[],[]⟩)] (.d (.int .i64 p)) [some (.box [.own 2,.own 1]),some (.row 1 ((dRow f s2).set k (.int .i64 p))),some (.row 6 ((put (s2).out ⟨n.op,n.i,n.e,n.g,(r1:Int),(r2:Int)⟩).2.map dNd))]:=by
 have hkl:k < ((dRow f s2)).length:=by rw [dRow,List.length_map];exact (List.getElem?_eq_some_iff.1 hd2).1
 have hk0:k < ((dRow f ⟨[],[]⟩)).length:=by rw [dRow,List.length_map];exact (List.getElem?_eq_some_iff.1 hd).1
 refine fn_introR hmix k_wittingref05_finish (by show 3≤67;decide) _ (fun e env mem n h=>h) ?_
 (repeat' ((conv=>whnf);first|refine vA ?_|refine vG ?_|refine vH ?_|refine vN ‹_› ?_|(refine vP ?_ ?_;·omega)|refine yD hux (by (repeat refine ⟨⟨rfl,rfl⟩,?_⟩);rfl) rfl ?_));all_goals try conv=>whnf
 refine CallS.objsE [0,1] (c1) (by (repeat' first|exact rfl|refine And.intro ?_ ?_|refine ⟨_,rfl,?_⟩)) (by (repeat' first|exact rfl|refine And.intro ?_ ?_|refine ⟨_,rfl,?_⟩)) (by rfl) (by kernel_rfl) (by simp) [(0,some (.box [.own 3,.own 1])),(1,some (.row 1 (dRow f s1))),(3,some (.row 6 (s1.out.map dNd)))] rfl ?_
 (repeat' ((conv=>whnf);first|refine vA ?_|refine vG ?_|refine vN ‹_› ?_|refine yD huy (by (repeat refine ⟨⟨rfl,rfl⟩,?_⟩);rfl) rfl ?_));all_goals try conv=>whnf
 refine CallS.objsE [0,1,3] (c2) (by (repeat' first|exact rfl|refine And.intro ?_ ?_|refine ⟨_,rfl,?_⟩)) (by (repeat' first|exact rfl|refine And.intro ?_ ?_|refine ⟨_,rfl,?_⟩)) (by rfl) (by kernel_rfl) (by simp) [(0,some (.box [.own 4,.own 1])),(1,some (.row 1 (dRow f s2))),(3,none),(4,some (.row 6 (s2.out.map dNd)))] rfl ?_
 (repeat' ((conv=>whnf);refine vA ?_));all_goals try conv=>whnf
 refine CallS.objsE [0,1,4] (fn_rPut (dRow f s2) (s2).out ⟨n.op,n.i,n.e,n.g,(r1:Int),(r2:Int)⟩ hl2 p hp _ rfl) (by (repeat' first|exact rfl|refine And.intro ?_ ?_|refine ⟨_,rfl,?_⟩)) (by (repeat' first|exact rfl|refine And.intro ?_ ?_|refine ⟨_,rfl,?_⟩)) (by rfl) (by kernel_rfl) (by simp) [(0,some (.box [.own 5,.own 1])),(1,some (.row 1 (dRow f s2))),(4,none),(5,some (.row 6 ((put (s2).out ⟨n.op,n.i,n.e,n.g,(r1:Int),(r2:Int)⟩).2.map dNd)))] rfl ?_
 (repeat' ((conv=>whnf);first|(refine vP ?_ ?_;·first|omega|(simp only [vM] at *;omega))|(refine vU ?_ ?_;·kernel_rfl)|fail));all_goals try conv=>whnf
 refine ⟨.int .i64 p,⟨by omega,List.getElem?_set_self hkl⟩,?_⟩
 (repeat' ((conv=>whnf);fail));all_goals try conv=>whnf
 refine ⟨trivial,_,[(0,0),(1,1),(2,5)],[],rfl,.inl (by (repeat' exact rfl)),⟨by rfl,by rfl,by rfl,trivial,by (repeat' first|exact trivial|exact rfl|refine And.intro ?_ ?_|refine ⟨_,rfl,?_⟩|exact of_decide_eq_true rfl)⟩,by (repeat' first|exact trivial|exact rfl|refine And.intro ?_ ?_|refine ⟨_,rfl,?_⟩)⟩
end Go.Ab
namespace Go.Ab
open Go Go.Proofs
set_option linter.unusedSimpArgs false
set_option linter.unusedVariables false
set_option maxRecDepth 10000
set_option maxHeartbeats 4000000
set_option maxHeartbeats 40000000
variable {T:Nat→Obj→Prop}
abbrev rUp (f:List Nd) (s:FSt):List (Option Ob):=[some (.box [.own 3,.own 1]),some (.row 1 (dRow f s)),none,some (.row 6 (s.out.map dNd))]
abbrev rUp0 (f:List Nd) (s:FSt):List (Option Ob):=[some (.box [.own 2,.own 1]),some (.row 1 (dRow f s)),some (.row 6 (s.out.map dNd))]
theorem dA_none {f:List Nd} {s:FSt} {k:Nat} (hk:k < f.length) (h:s.done.lookup k=none):(dA f s)[k]? = some (-1):=by
 simp [dA,hk,h]
theorem dA_some {f:List Nd} {s:FSt} {k r:Nat} (hk:k < f.length) (h:s.done.lookup k=some r):(dA f s)[k]? = some (r:Int):=by
 simp [dA,hk,h]
theorem dRow_add {f:List Nd} {d:List (Nat×Nat)} {o o':List Nd} {k p:Nat} (hd:d.lookup k=none):dRow f ⟨o',d++[(k,p)]⟩=(dRow f ⟨o,d⟩).set k (.int .i64 (p:Int)):=by
 show (dA f _).map _=((dA f _).map _).set _ _
 rw [← List.map_set]
 congr 1
 refine List.ext_getElem? fun i=>?_
 rw [List.getElem?_set]
 simp only [dA,List.getElem?_map,List.length_map,List.length_range,List.lookup_append]
 by_cases hi:i < f.length
 ·rw [List.getElem?_range hi]
  by_cases hik:k=i
  ·subst hik
   simp [hd,hi,List.lookup]
  ·simp only [if_neg hik,Option.map_some]
   have:([(k,p)]:List (Nat×Nat)).lookup i=none:=by
    have:(i==k)=false:=by simpa using fun e:i=k=>hik e.symm
    simp [List.lookup,this]
   rw [this,Option.or_none]
 ·rw [show (List.range f.length)[i]? = none by simp;omega]
  split
  ·rw [if_neg (by omega)];rfl
  ·rfl
theorem fn_rFin {f:List Nd} (hf:Okay f) (hL:f.length≤1000) : ∀ (m k:Nat) (i:Int) (s:FSt),k < m→i=k→k < f.length→FInv f s →
  Fn Tryz.prog T f_wittingref05_finish [.d (dF f),.d (.int .i64 i),.ptr 0 0] [.box [.own 2,.own 1],.row 1 (dRow f s),.row 6 (s.out.map dNd)] (.d (.int .i64 ((fin f (k+1) k s).1:Int))) (rUp f (fin f (k+1) k s).2):=by
 intro m
 induction m with
 | zero=>intro k i s h;omega
 | succ m ih =>
  intro k i s hk hi hkf hs
  subst hi
  have hl:s.out.length≤1000:=Nat.le_trans (fin_len hs) hL
  cases hd:s.done.lookup k with
  | some r =>
   have e:fin f (k+1) k s=(r,s):=by rw [fin,hd]
   have hfd:=dA_some hkf hd
   have hk0:k < (dRow f s).length:=by rw [dRow,List.length_map];exact (List.getElem?_eq_some_iff.1 hfd).1
   rw [e]
   refine fn_introR hmix k_wittingref05_finish (by show 3≤67;decide) _ (fun e env mem n h=>h) ?_
   (repeat' ((conv=>whnf);first|refine vA ?_|refine vG ?_|refine vN ‹_› ?_|(refine vP ?_ ?_;·omega)|fail));all_goals try conv=>whnf
   refine ⟨trivial,_,[(0,0),(1,1),(3,2)],[],rfl,.inl (by (repeat' exact rfl)),⟨by rfl,by rfl,by rfl,trivial,by (repeat' first|exact trivial|exact rfl|refine And.intro ?_ ?_|refine ⟨_,rfl,?_⟩|exact of_decide_eq_true rfl)⟩,by (repeat' first|exact trivial|exact rfl|refine And.intro ?_ ?_|refine ⟨_,rfl,?_⟩)⟩
  | none =>
   obtain ⟨n,hn⟩ : ∃ n,f[k]? = some n:=⟨f[k],by simp [hkf]⟩
   have hn':f.getD k default=n:=by simp [List.getD,hn]
   cases hx:useX n.op with
   | false =>
    have hy:useY n.op=false:=by
     cases hy:useY n.op with
     | true=>rw [useX_of_useY hy] at hx;cases hx
     | false=>rfl
    have hux:=hx▸fn_rUsesX (T:=T) n.op
    have huy:=hy▸fn_rUsesY (T:=T) n.op
    have e:=fin_ff hf hkf hd (by rw [hn'];exact hx) (by rw [hn'];exact hy)
    rw [hn'] at e
    rw [e]
    simp only [rUp,dRow_add (o:=s.out) hd]
    exact rfinA0 hL hn hl (dA_none hkf hd) hux huy rfl
   | true =>
    have hux:=hx▸fn_rUsesX (T:=T) n.op
    have hxk:=okay_x hf hkf (by rw [hn'];exact hx)
    rw [hn'] at hxk
    obtain ⟨i1,d1⟩:=fin_lookup hf hxk.2 (by omega) hs hd
    have c1:=ih n.x.toNat n.x s (by omega) (by omega) (by omega) hs
    cases h1:fin f (n.x.toNat+1) n.x.toNat s with
    | mk r1 s1 =>
    rw [h1] at i1 d1 c1
    simp only at i1 d1 c1
    have l1:s1.out.length≤1000:=Nat.le_trans (fin_len i1) hL
    cases hy:useY n.op with
    | false =>
     have huy:=hy▸fn_rUsesY (T:=T) n.op
     have e:=fin_tf hf hkf hd hn' hx hy h1
     rw [e]
     simp only [rUp,dRow_add (o:=s1.out) d1]
     exact rfinA1 hL hn hl (dA_none hkf hd) hux huy l1 c1 (dA_none hkf d1) rfl
    | true =>
     have huy:=hy▸fn_rUsesY (T:=T) n.op
     have hyk:=okay_y hf hkf (by rw [hn'];exact hy)
     rw [hn'] at hyk
     obtain ⟨i2,d2⟩:=fin_lookup hf hyk.2 (by omega) i1 d1
     have c2:=ih n.y.toNat n.y s1 (by omega) (by omega) (by omega) i1
     cases h2:fin f (n.y.toNat+1) n.y.toNat s1 with
     | mk r2 s2 =>
     rw [h2] at i2 d2 c2
     simp only at i2 d2 c2
     have l2:s2.out.length≤1000:=Nat.le_trans (fin_len i2) hL
     have e:=fin_tt hf hkf hd hn' hx hy h1 h2
     rw [e]
     simp only [rUp,dRow_add (o:=s2.out) d2]
     exact rfinA2 hL hn hl (dA_none hkf hd) hux huy l1 c1 (dA_none hkf d1) l2 c2 (dA_none hkf d2) rfl
theorem fn_rFin0 {f:List Nd} (hf:Okay f) (hL:f.length≤1000) : ∀ (m k:Nat) (i:Int),k < m→i=k→k < f.length →
  Fn Tryz.prog T f_wittingref05_finish [.d (dF f),.d (.int .i64 i),.ptr 0 0] [.box [.nils 6,.own 1],.row 1 (dRow f ⟨[],[]⟩)] (.d (.int .i64 ((fin f (k+1) k ⟨[],[]⟩).1:Int))) (rUp0 f (fin f (k+1) k ⟨[],[]⟩).2):=by
 intro m
 induction m with
 | zero=>intro k i h;omega
 | succ m ih =>
  intro k i hk hi hkf
  subst hi
  have hs:=inv_nil f
  have hd:(FSt.mk [] []).done.lookup k=none:=rfl
  obtain ⟨n,hn⟩ : ∃ n,f[k]? = some n:=⟨f[k],by simp [hkf]⟩
  have hn':f.getD k default=n:=by simp [List.getD,hn]
  cases hx:useX n.op with
  | false =>
   have hy:useY n.op=false:=by
    cases hy:useY n.op with
    | true=>rw [useX_of_useY hy] at hx;cases hx
    | false=>rfl
   have hux:=hx▸fn_rUsesX (T:=T) n.op
   have huy:=hy▸fn_rUsesY (T:=T) n.op
   have e:=fin_ff hf hkf hd (by rw [hn'];exact hx) (by rw [hn'];exact hy)
   rw [hn'] at e
   rw [e]
   simp only [rUp0,dRow_add (o:=([]:List Nd)) hd]
   exact rfinB0 hL hn (dA_none hkf hd) hux huy
  | true =>
   have hux:=hx▸fn_rUsesX (T:=T) n.op
   have hxk:=okay_x hf hkf (by rw [hn'];exact hx)
   rw [hn'] at hxk
   obtain ⟨i1,d1⟩:=fin_lookup hf hxk.2 (by omega) hs hd
   have c1:=ih n.x.toNat n.x (by omega) (by omega) (by omega)
   cases h1:fin f (n.x.toNat+1) n.x.toNat (FSt.mk [] []) with
   | mk r1 s1 =>
   rw [h1] at i1 d1 c1
   simp only at i1 d1 c1
   have l1:s1.out.length≤1000:=Nat.le_trans (fin_len i1) hL
   cases hy:useY n.op with
   | false =>
    have huy:=hy▸fn_rUsesY (T:=T) n.op
    have e:=fin_tf hf hkf hd hn' hx hy h1
    rw [e]
    simp only [rUp0,dRow_add (o:=s1.out) d1]
    exact rfinB1 hL hn (dA_none hkf hd) hux huy l1 c1 (dA_none hkf d1) rfl
   | true =>
    have huy:=hy▸fn_rUsesY (T:=T) n.op
    have hyk:=okay_y hf hkf (by rw [hn'];exact hy)
    rw [hn'] at hyk
    obtain ⟨i2,d2⟩:=fin_lookup hf hyk.2 (by omega) i1 d1
    have c2:=fn_rFin (T:=T) hf hL (n.y.toNat+1) n.y.toNat n.y s1 (by omega) (by omega) (by omega) i1
    cases h2:fin f (n.y.toNat+1) n.y.toNat s1 with
    | mk r2 s2 =>
    rw [h2] at i2 d2 c2
    simp only at i2 d2 c2
    have l2:s2.out.length≤1000:=Nat.le_trans (fin_len i2) hL
    have e:=fin_tt hf hkf hd hn' hx hy h1 h2
    rw [e]
    simp only [rUp0,dRow_add (o:=s2.out) d2]
    exact rfinB2 hL hn (dA_none hkf hd) hux huy l1 c1 (dA_none hkf d1) l2 c2 (dA_none hkf d2) rfl
end Go.Ab
namespace Go.Ab
open Go Go.Proofs
set_option linter.unusedSimpArgs false
set_option linter.unusedVariables false
set_option maxRecDepth 10000
set_option maxHeartbeats 4000000
variable {T:Nat→Obj→Prop}
theorem dA_nil (f:List Nd):dRow f ⟨[],[]⟩=List.replicate f.length (.int .i64 (-1)):=by
 show (dA f _).map _=_
 refine List.eq_replicate_iff.2 ⟨by simp [dA],fun b hb=>?_⟩
 simp [dA,List.lookup] at hb
 exact hb.2.symm
theorem fn_rSub (f:List Nd) (i:Int):Fn Tryz.prog T f_wittingref05_Sub [.d (dF f),.d (.int .i64 i)] [] (.d (dF (subL f i))) []:=by
 refine fn_dataR hmix k_wittingref05_Sub (by show 2≤45;decide) ?_
 (repeat' ((conv=>whnf);first|refine vA ?_|((first|refine vD ?_ ?_|refine vF ?_ ?_)<;>intro hc<;>try simp only [vL] at hc)|refine vJ fun hg=>?_|refine yD (fn_rCheck05 _) ⟨⟨rfl,rfl⟩,rfl⟩ rfl ?_));all_goals try conv=>whnf
 ·have hp:subL f i=[]:=if_pos (.inl ‹_›)
  rw [hp];rfl
 ·have hp:subL f i=[]:=if_pos (.inr (.inl ‹_›))
  rw [hp];rfl
 ·have hp:subL f i=[]:=if_pos (.inr (.inr (by omega)))
  rw [hp];rfl
 ·have h0:fErr f=0:=by omega
  have h1:=fErr_ok.1 h0
  have hp:subL f i=compactL f i.toNat:=if_neg (by omega)
  rw [hp]
  refine loop_mem (fun ((k,xs):Nat×List D)=>[(0,.d (dF f)),(1,.d (.int .i64 (i))),(5,.ptr 0 0),(6,.d (.int .i64 ((k:Int))))]) (fun ((k,xs):Nat×List D)=>[(0,some (.box [.nils 6,.own 1])),(1,some (.row 1 xs))]) 2 (fun ((k,xs):Nat×List D)=>k≤f.length∧xs=List.replicate k (.int .i64 (-1))) (fun ((k,xs):Nat×List D)=>f.length - k) ((0,[])) [(0,0)] [1] (⟨by simp,rfl⟩) (by (refine ⟨rfl,rfl,rfl,?_,?_⟩;repeat' first|exact trivial|exact rfl|exact ⟨_,rfl⟩|refine And.intro ?_ ?_|refine ⟨_,rfl,?_⟩|decide)) ?_
  rintro ⟨k,xs⟩ ⟨hk,hI⟩
  have hlx:xs.length≤1000:=by rw [hI,List.length_replicate];omega
  (repeat' ((conv=>whnf);first|refine vA ?_|(refine vF ?_ ?_<;>intro hc<;>try simp only [vL] at hc)|refine vJ fun hg=>?_|((first|refine vO ?_ ?_|refine vP ?_ ?_);·first|omega|(simp only [vM] at *;omega))|fail));all_goals try conv=>whnf
  ·refine ⟨(k+1,_),[(0,0),(1,3)],[],?_,?_,by (refine ⟨rfl,rfl,rfl,?_,?_⟩;repeat' first|exact trivial|exact rfl|refine And.intro ?_ ?_|refine ⟨_,rfl,?_⟩|decide)⟩
   ·exact ⟨by (omega),by rw [hI];exact List.replicate_succ'.symm⟩
   ·((simp only [vM] at *;omega))
  ·have hk:k=f.length:=by omega
   subst hk
   rw [← dA_nil] at hI
   subst hI
   have c:=fn_rFin0 (T:=T) h1.2.2 (by omega) (i.toNat+1) i.toNat i (by omega) (by omega) (by omega)
   refine CallS.objs [0,1] (c) (by (repeat' first|exact rfl|refine And.intro ?_ ?_|refine ⟨_,rfl,?_⟩)) (by (repeat' first|exact rfl|refine And.intro ?_ ?_|refine ⟨_,rfl,?_⟩)) (by rfl) (by rfl) (by simp) ?_
   (repeat' ((conv=>whnf);fail));all_goals try conv=>whnf
   rfl
theorem fn_rCompact (f:List Nd):Fn Tryz.prog T f_wittingref05_Compact [.d (dF f)] [] (.d (dF (cL f))) []:=by
 refine fn_dataR hmix k_wittingref05_Compact (by show 1≤8;decide) ?_
 (repeat' ((conv=>whnf);first|refine vJ fun hg=>?_|(refine vO ?_ ?_;·(simp only [vM] at *;omega))|fail));all_goals try conv=>whnf
 have cC:=fn_rSub (T:=T) f (((f.map dNd).length:Int) - 1)
 rw [show subL f (((f.map dNd).length:Int) - 1)=cL f by rw [List.length_map,subL_c]] at cC
 (repeat' ((conv=>whnf);refine yN cC ⟨⟨rfl,rfl⟩,⟨rfl,rfl⟩,rfl⟩ ?_));all_goals try conv=>whnf
 rfl
theorem fn_rFrag (op:Int) (h0:op≤21):Fn Tryz.prog T f_wittingref05_Frag [.d (.int .i64 op)] [] (.d (.int .i64 (fragOf op))) []:=by
 by_cases h:1≤op
 ·have:op=1∨op=2∨op=3∨op=4∨op=5∨op=6∨op=7∨op=8∨op=9∨op=10∨op=11∨op=12∨op=13∨op=14∨op=15∨op=16∨op=17∨op=18∨op=19∨op=20∨op=21:=by omega
  clear h h0
  rcases this with rfl|rfl|rfl|rfl|rfl|rfl|rfl|rfl|rfl|rfl|rfl|rfl|rfl|rfl|rfl|rfl|rfl|rfl|rfl|rfl|rfl
  all_goals refine fn_dataR hmix k_wittingref05_Frag (by show 1≤21;decide) ?_
  all_goals (repeat' ((conv=>whnf);first|refine TestS.decN (by omega) ?_|refine TestS.decY (by omega) ?_|refine vA ?_|((first|refine vO ?_ ?_|refine vP ?_ ?_);·omega)|refine vX ?_));all_goals try conv=>whnf
  all_goals try refine vW (show inR _ _ from ⟨by decide,by decide⟩) ?_
  all_goals try (repeat' ((conv=>whnf);refine vX ?_));all_goals try conv=>whnf
  all_goals first|rfl|kernel_rfl|skip
 ·refine fn_dataR hmix k_wittingref05_Frag (by show 1≤21;decide) ?_
  (repeat' ((conv=>whnf);first|refine TestS.decN (by omega) ?_|refine vA ?_|refine vX ?_));all_goals try conv=>whnf
  have e8:fragOf op=0:=by unfold fragOf; (repeat' rw [if_neg (by omega)])
  rw [e8]
  first|rfl|skip
theorem op_le {n:Nd} (h:HdOk n.hd):1≤n.op∧n.op≤21:=of_decide_eq_true h.op
theorem fn_rFrags (f:List Nd):Fn Tryz.prog T f_wittingref05_Frags [.d (dF f)] [] (.d (.int .i64 (uni fragN (cL f):Int))) []:=by
 have hlen:=cL_len f
 have hlt : ∀ n∈cL f,fragN n.hd < 2 ^ 9:=fun n hn=>fragN_lt n.hd
 refine fn_dataR hmix k_wittingref05_Frags (by show 1≤23;decide) ?_
 (repeat' ((conv=>whnf);first|refine vA ?_|refine yN (fn_rCompact _) ⟨⟨rfl,rfl⟩,rfl⟩ ?_));all_goals try conv=>whnf
 refine loop_intro (fun ((k,x):Nat×Int)=>[(3,.d (dF (cL f))),(4,.d (.int .i64 (x))),(5,.d (.int .i64 ((k:Int))))]) (fun ((k,x):Nat×Int)=>k≤(cL f).length∧x=(uni fragN ((cL f).take k):Nat)) (fun ((k,x):Nat×Int)=>(cL f).length - k) ((0,0)) (⟨by simp,rfl⟩) (by (repeat' first|exact trivial|exact rfl|refine And.intro ?_ ?_)) ?_
 rintro ⟨k,x⟩ ⟨hk,hI⟩
 subst hI
 (repeat' ((conv=>whnf);first|refine vA ?_|(refine vF ?_ ?_<;>intro hc<;>try simp only [vL] at hc)|refine vJ fun hg=>?_|(refine vQ ?_ fun x hx=>?_;·omega)|refine vX ?_));all_goals try conv=>whnf
 ·have hh:=cL_hd (List.mem_of_getElem? hx)
  (repeat' ((conv=>whnf);first|(refine vO ?_ ?_;·omega)|refine yD (fn_rFrag _ (op_le hh).2) ⟨⟨rfl,rfl⟩,rfl⟩ rfl ?_));all_goals try conv=>whnf
  refine ⟨(k+1,_),[],[],?_,?_,by (refine ⟨rfl,rfl,rfl,?_,?_⟩;repeat' first|exact trivial|exact rfl|refine And.intro ?_ ?_)⟩
  ·refine ⟨by (omega),?_⟩
   rw [uni_step fragN hx]
   have e:=fragN_cast (x.hd)
   show bitsI .i64 (fun p q=>p|||q) _ (fragOf x.hd.op)=_
   rw [← e]
   exact bits_or (Nat.lt_trans (uni_le fragN f hlt k) (by decide)) (Nat.lt_trans (fragN_lt x.hd) (by decide))
  ·((simp only [vM] at *;omega))
 ·rw [show k=(cL f).length by omega,List.take_length]
theorem fn_rFacts (f:List Nd):Fn Tryz.prog T f_wittingref05_Facts [.d (dF f)] [] (.d (.int .i64 (uni factN (cL f):Int))) []:=by
 have hlen:=cL_len f
 have hlt : ∀ n∈cL f,factN n.hd < 2 ^ 8:=fun n hn=>factN_lt (cL_hd hn)
 refine fn_dataR hmix k_wittingref05_Facts (by show 1≤29;decide) ?_
 (repeat' ((conv=>whnf);first|refine vA ?_|refine yN (fn_rCompact _) ⟨⟨rfl,rfl⟩,rfl⟩ ?_));all_goals try conv=>whnf
 refine loop_intro (fun ((k,x):Nat×Int)=>[(3,.d (dF (cL f))),(4,.d (.int .i64 (x))),(5,.d (.int .i64 ((k:Int))))]) (fun ((k,x):Nat×Int)=>k≤(cL f).length∧x=(uni factN ((cL f).take k):Nat)) (fun ((k,x):Nat×Int)=>(cL f).length - k) ((0,0)) (⟨by simp,rfl⟩) (by (repeat' first|exact trivial|exact rfl|refine And.intro ?_ ?_)) ?_
 rintro ⟨k,x⟩ ⟨hk,hI⟩
 subst hI
 by_cases hkl:k < (cL f).length
 ·have hx:=List.getElem?_eq_getElem hkl
  have hh:=cL_hd (List.mem_of_getElem? hx)
  generalize hn:(cL f)[k]=n at hx hh
  by_cases hf:n.op=3
  ·have hf':useFact n.op=true:=decide_eq_true hf
   obtain ⟨h0,h7⟩:0≤n.i∧n.i≤7:=hh.fact hf'
   obtain ⟨h1,h2⟩:=pow_small h0 h7
   have e:((factN n.hd:Nat):Int)=1 * 2 ^ min n.i.toNat IntKind.i64.bits:=by rw [factN,if_pos (by exact hf')];exact h2
   (repeat' ((conv=>whnf);first|refine vA ?_|(refine vF ?_ ?_<;>intro hc<;>try simp only [vL] at hc)|refine vJ fun hg=>?_|refine vN ‹_› ?_|((first|refine vO ?_ ?_|refine vP ?_ ?_);·omega)|refine vX ?_));all_goals try conv=>whnf
   all_goals try omega
   refine ⟨(k+1,_),[],[],?_,?_,by (refine ⟨rfl,rfl,rfl,?_,?_⟩;repeat' first|exact trivial|exact rfl|refine And.intro ?_ ?_)⟩
   ·refine ⟨by (omega),?_⟩
    rw [uni_step factN hx,← e]
    exact bits_or (Nat.lt_trans (uni_le factN f hlt k) (by decide)) (Nat.lt_trans (factN_lt hh) (by decide))
   ·((simp only [vM] at *;omega))
  ·have e:factN n.hd=0:=by rw [factN,if_neg (by simp [Nd.hd,useFact,hf])]
   (repeat' ((conv=>whnf);first|refine vA ?_|(refine vF ?_ ?_<;>intro hc<;>try simp only [vL] at hc)|refine vJ fun hg=>?_|refine vN ‹_› ?_|((first|refine vO ?_ ?_|refine vP ?_ ?_);·omega)|refine vX ?_));all_goals try conv=>whnf
   all_goals try omega
   refine ⟨(k+1,_),[],[],?_,?_,by (refine ⟨rfl,rfl,rfl,?_,?_⟩;repeat' first|exact trivial|exact rfl|refine And.intro ?_ ?_)⟩
   ·refine ⟨by (omega),?_⟩
    rw [uni_step factN hx,e,Nat.or_zero]
   ·((simp only [vM] at *;omega))
 ·(repeat' ((conv=>whnf);first|refine vA ?_|(refine vF ?_ ?_<;>intro hc<;>try simp only [vL] at hc)|refine vJ fun hg=>?_|refine vN ‹_› ?_|(refine vQ ?_ fun x hx=>?_;·omega)|((first|refine vO ?_ ?_|refine vP ?_ ?_);·omega)|refine vX ?_));all_goals try conv=>whnf
  all_goals try omega
  rw [show k=(cL f).length by omega,List.take_length]
theorem fn_rAgents (f:List Nd):Fn Tryz.prog T f_wittingref05_Agents [.d (dF f)] [] (.d (.int .i64 (uni agentN (cL f):Int))) []:=by
 have hlen:=cL_len f
 have hlt : ∀ n∈cL f,agentN n.hd < 2 ^ 4:=fun n hn=>agentN_lt (cL_hd hn)
 refine fn_dataR hmix k_wittingref05_Agents (by show 1≤36;decide) ?_
 (repeat' ((conv=>whnf);first|refine vA ?_|refine yN (fn_rCompact _) ⟨⟨rfl,rfl⟩,rfl⟩ ?_));all_goals try conv=>whnf
 refine loop_intro (fun ((k,x):Nat×Int)=>[(3,.d (dF (cL f))),(4,.d (.int .i64 (x))),(5,.d (.int .i64 ((k:Int))))]) (fun ((k,x):Nat×Int)=>k≤(cL f).length∧x=(uni agentN ((cL f).take k):Nat)) (fun ((k,x):Nat×Int)=>(cL f).length - k) ((0,0)) (⟨by simp,rfl⟩) (by (repeat' first|exact trivial|exact rfl|refine And.intro ?_ ?_)) ?_
 rintro ⟨k,x⟩ ⟨hk,hI⟩
 subst hI
 by_cases hkl:k < (cL f).length
 ·have hx:=List.getElem?_eq_getElem hkl
  have hh:=cL_hd (List.mem_of_getElem? hx)
  generalize hn:(cL f)[k]=n at hx hh
  have hu:=Nat.lt_trans (uni_le agentN f hlt k) (show 2 ^ 4 < 2 ^ 63 by decide)
  have hgl:=Nat.lt_trans (agentN_lt hh) (show 2 ^ 4 < 2 ^ 63 by decide)
  cases hf:useAgent n.op with
  | true =>
   have hag:=hf▸fn_rAgent (T:=T) n.op
   obtain ⟨h0,h7⟩:0≤n.i∧n.i≤3:=hh.agent hf
   obtain ⟨h1,h2⟩:=pow_small h0 (by omega)
   have e:((agentN n.hd:Nat):Int)=1 * 2 ^ min n.i.toNat IntKind.i64.bits:=by rw [agentN,if_pos (by exact hf)];exact h2
   have hg0:n.g=0:=by
    have h3:useGroup n.op=false:=by simp only [useAgent,useGroup,decide_eq_true_eq,decide_eq_false_iff_not] at hf ⊢;omega
    exact hh.g0 h3
   (repeat' ((conv=>whnf);first|refine vA ?_|refine vG ?_|(refine vF ?_ ?_<;>intro hc<;>try simp only [vL] at hc)|refine vJ fun hg=>?_|refine vN ‹_› ?_|((first|refine vO ?_ ?_|refine vP ?_ ?_);·omega)|refine vX ?_|refine yD hag (by (repeat refine ⟨⟨rfl,rfl⟩,?_⟩);rfl) rfl ?_));all_goals try conv=>whnf
   all_goals try omega
   refine ⟨(k+1,_),[],[],?_,?_,by (refine ⟨rfl,rfl,rfl,?_,?_⟩;repeat' first|exact trivial|exact rfl|refine And.intro ?_ ?_)⟩
   ·refine ⟨by (omega),?_⟩
    rw [uni_step agentN hx,← e,hg0,bits_or hu hgl]
    have:=bits_or (a:=uni agentN ((cL f).take k)|||agentN n.hd) (b:=0) (Nat.or_lt_two_pow hu hgl) (by decide)
    rw [Nat.or_zero] at this
    exact this
   ·((simp only [vM] at *;omega))
  | false =>
   have hag:=hf▸fn_rAgent (T:=T) n.op
   have h0:0≤n.g:=by
    cases hg:useGroup n.op with
    | true=>have:1≤n.g∧n.g≤15:=hh.group hg;omega
    | false=>have:n.g=0:=hh.g0 hg;omega
   have e:((agentN n.hd:Nat):Int)=n.g:=by rw [agentN,if_neg (by simp [Nd.hd,hf])];exact Int.toNat_of_nonneg h0
   (repeat' ((conv=>whnf);first|refine vA ?_|refine vH ?_|(refine vF ?_ ?_<;>intro hc<;>try simp only [vL] at hc)|refine vJ fun hg=>?_|refine vN ‹_› ?_|(refine vO ?_ ?_;·omega)|refine vX ?_|refine yD hag (by (repeat refine ⟨⟨rfl,rfl⟩,?_⟩);rfl) rfl ?_));all_goals try conv=>whnf
   all_goals try omega
   refine ⟨(k+1,_),[],[],?_,?_,by (refine ⟨rfl,rfl,rfl,?_,?_⟩;repeat' first|exact trivial|exact rfl|refine And.intro ?_ ?_)⟩
   ·refine ⟨by (omega),?_⟩
    rw [uni_step agentN hx,← e,bits_or hu hgl]
   ·((simp only [vM] at *;omega))
 ·(repeat' ((conv=>whnf);first|refine vA ?_|(refine vF ?_ ?_<;>intro hc<;>try simp only [vL] at hc)|refine vJ fun hg=>?_|(refine vQ ?_ fun x hx=>?_;·omega)|refine vX ?_));all_goals try conv=>whnf
  all_goals try omega
  rw [show k=(cL f).length by omega,List.take_length]
theorem bit_int {m k:Nat} (hk:k≤64):((m:Int).fdiv (2 ^ min (k:Int).toNat IntKind.i64.bits)).tmod 2=1↔m.testBit k=true:=by
 rw [show min (k:Int).toNat IntKind.i64.bits=k from Nat.min_eq_left hk,shr_nat,Nat.shiftRight_eq_div_pow,Nat.testBit_eq_decide_div_mod_eq,decide_eq_true_eq]
 generalize m / 2 ^ k=a
 rw [Int.tmod_eq_emod_of_nonneg (Int.natCast_nonneg a)]
 omega
theorem below_all {m b:Nat} {n:Int} (hm:m < 2 ^ b) (hb:b≤31):belowL m n=true ↔ ∀ i,i < b→m.testBit i=true→(i:Int) < n:=by
 unfold belowL
 rw [decide_eq_true_eq]
 constructor
 ·rintro (h|h) i hi ht
  ·omega
  ·refine Classical.byContradiction fun hn=>?_
   rw [Nat.testBit_lt_two_pow (Nat.lt_of_lt_of_le h (Nat.pow_le_pow_right (by omega) (by omega)))] at ht
   cases ht
 ·intro h
  by_cases hn:31≤n
  ·exact .inl hn
  ·refine .inr (Nat.lt_pow_two_of_testBit _ fun i hi=>?_)
   by_cases hib:i < b
   ·refine Bool.eq_false_iff.2 fun ht=>?_
    have:=h i hib ht
    omega
   ·exact Nat.testBit_lt_two_pow (Nat.lt_of_lt_of_le hm (Nat.pow_le_pow_right (by omega) (by omega)))
theorem fn_rFits (f:List Nd) (agents facts:Int):Fn Tryz.prog T f_wittingref05_Fits [.d (dF f),.d (.int .i64 agents),.d (.int .i64 facts)] [] (.d (.bool (fitsL f agents facts))) []:=by
 have hA:uni agentN (cL f) < 2 ^ 4:=(uni_lt agentN).2 fun n hn=>agentN_lt (cL_hd hn)
 have hF:uni factN (cL f) < 2 ^ 8:=(uni_lt factN).2 fun n hn=>factN_lt (cL_hd hn)
 refine fn_dataR hmix k_wittingref05_Fits (by show 3≤42;decide) ?_
 (repeat' ((conv=>whnf);first|refine vA ?_|(refine vD ?_ ?_<;>intro hc)|refine vZ ?_|refine yD (fn_rCheck05 _) ⟨⟨rfl,rfl⟩,rfl⟩ rfl ?_));all_goals try conv=>whnf
 ·simp_all [fitsL]
 ·have h0:fErr f=0:=by omega
  refine loop_intro (fun (k:Nat)=>[(0,.d (dF f)),(1,.d (.int .i64 (agents))),(2,.d (.int .i64 (facts))),(7,.d (.int .i64 ((k:Int))))]) (fun (k:Nat)=>k≤4 ∧ ∀ i,i < k→(uni agentN (cL f)).testBit i=true→(i:Int) < agents) (fun (k:Nat)=>4 - k) (0) (⟨by omega,by omega⟩) (by (repeat' first|exact trivial|exact rfl|refine And.intro ?_ ?_)) ?_
  rintro k ⟨hk,hI⟩
  (repeat' ((conv=>whnf);first|refine vA ?_|(refine vF ?_ ?_<;>intro hc<;>try simp only [vL] at hc)|((first|refine vO ?_ ?_|refine vP ?_ ?_);·omega)|refine vZ ?_|refine yD (fn_rAgents _) ⟨⟨rfl,rfl⟩,rfl⟩ rfl ?_));all_goals try conv=>whnf
  ·have hb:=(bit_int (m:=uni agentN (cL f)) (k:=k) (by omega)).1 ‹_›
   refine (Bool.eq_false_iff.2 fun h=>?_).symm
   simp only [fitsL,Bool.and_eq_true] at h
   have:=(below_all hA (by omega)).1 h.1.2 k (by omega) hb
   omega
  ·exact ⟨k+1,[],[],⟨by (omega),fun i hi ht=>by
    by_cases h:i=k
    ·subst h;omega
    ·exact hI i (by omega) ht⟩,by (omega),by (refine ⟨rfl,rfl,rfl,?_,?_⟩;repeat' first|exact trivial|exact rfl|refine And.intro ?_ ?_)⟩
  ·have hb : ¬_:=fun h=>‹¬Int.tmod _ 2=1› ((bit_int (m:=uni agentN (cL f)) (k:=k) (by omega)).2 h)
   exact ⟨k+1,[],[],⟨by (omega),fun i hi ht=>by
    by_cases h:i=k
    ·subst h;exact absurd ht hb
    ·exact hI i (by omega) ht⟩,by (omega),by (refine ⟨rfl,rfl,rfl,?_,?_⟩;repeat' first|exact trivial|exact rfl|refine And.intro ?_ ?_)⟩
  ·have hA1:belowL (uni agentN (cL f)) agents=true:=(below_all hA (by omega)).2 fun i hi=>hI i (by omega)
   refine loop_intro (fun (k:Nat)=>[(0,.d (dF f)),(2,.d (.int .i64 (facts))),(8,.d (.int .i64 ((k:Int))))]) (fun (k:Nat)=>k≤8 ∧ ∀ i,i < k→(uni factN (cL f)).testBit i=true→(i:Int) < facts) (fun (k:Nat)=>8 - k) (0) (⟨by omega,by omega⟩) (by (repeat' first|exact trivial|exact rfl|refine And.intro ?_ ?_)) ?_
   clear hI
   rintro k ⟨hk,hI⟩
   (repeat' ((conv=>whnf);first|refine vA ?_|(refine vF ?_ ?_<;>intro hc<;>try simp only [vL] at hc)|((first|refine vO ?_ ?_|refine vP ?_ ?_);·omega)|refine vZ ?_|refine yD (fn_rFacts _) ⟨⟨rfl,rfl⟩,rfl⟩ rfl ?_));all_goals try conv=>whnf
   ·have hb:=(bit_int (m:=uni factN (cL f)) (k:=k) (by omega)).1 ‹_›
    refine (Bool.eq_false_iff.2 fun h=>?_).symm
    simp only [fitsL,Bool.and_eq_true] at h
    have:=(below_all hF (by omega)).1 h.2 k (by omega) hb
    omega
   ·exact ⟨k+1,[],[],⟨by (omega),fun i hi ht=>by
     by_cases h:i=k
     ·subst h;omega
     ·exact hI i (by omega) ht⟩,by (omega),by (refine ⟨rfl,rfl,rfl,?_,?_⟩;repeat' first|exact trivial|exact rfl|refine And.intro ?_ ?_)⟩
   ·have hb : ¬_:=fun h=>‹¬Int.tmod _ 2=1› ((bit_int (m:=uni factN (cL f)) (k:=k) (by omega)).2 h)
    exact ⟨k+1,[],[],⟨by (omega),fun i hi ht=>by
     by_cases h:i=k
     ·subst h;exact absurd ht hb
     ·exact hI i (by omega) ht⟩,by (omega),by (refine ⟨rfl,rfl,rfl,?_,?_⟩;repeat' first|exact trivial|exact rfl|refine And.intro ?_ ?_)⟩
   ·have hF1:belowL (uni factN (cL f)) facts=true:=(below_all hF (by omega)).2 fun i hi=>hI i (by omega)
    simp [fitsL,hA1,hF1,h0]
end Go.Ab
namespace Go.Ab
open Go Go.Proofs
set_option linter.unusedSimpArgs false
set_option linter.unusedVariables false
set_option maxRecDepth 10000
set_option maxHeartbeats 4000000
variable {T:Nat→Obj→Prop}
theorem fn_beyond (l:List (BitVec 64)) (n:Int) (h:0≤n):Fn Tryz.prog T f_wittingref13_beyond [.d (dU l),.d (.int .i64 n)] [] (.d (.bool (l.any (bad n)))) []:=by
 refine fn_dataR hmix k_wittingref13_beyond (by show 2≤20;decide) ?_
 (repeat' ((conv=>whnf);refine vA ?_));all_goals try conv=>whnf
 refine loop_intro (fun (k:Nat)=>[(0,.d (dU l)),(1,.d (.int .i64 (n))),(5,.d (.int .i64 ((k:Int))))]) (fun (k:Nat)=>k≤l.length∧l.any (bad n)=(l.drop k).any (bad n)) (fun (k:Nat)=>l.length - k) (0) (⟨by simp,rfl⟩) (by (repeat' first|exact trivial|exact rfl|refine And.intro ?_ ?_)) ?_
 rintro k ⟨hk,hI⟩
 (repeat' ((conv=>whnf);first|refine vA ?_|((first|refine vD ?_ ?_|refine vF ?_ ?_)<;>intro hc<;>try simp only [vL] at hc)|refine vJ fun hg=>?_|(refine vQ ?_ fun x hx=>?_;·omega)|(refine vO ?_ ?_;·omega)|(refine vU ?_ ?_;·kernel_rfl)|refine vZ ?_|refine yD (fn_All13 n h) ⟨⟨rfl,rfl⟩,rfl⟩ rfl ?_));all_goals try conv=>whnf
 ·rw [hI,drop_cons hx,List.any_cons,show bad n x=true from decide_eq_true ‹_›];rfl
 ·exact ⟨k+1,[],[],⟨by (omega),by rw [hI,drop_cons hx,List.any_cons,show bad n x=false from decide_eq_false (by simpa using ‹x &&& ~~~allL n=0#64›)];rfl⟩,by (omega),by (refine ⟨rfl,rfl,rfl,?_,?_⟩;repeat' first|exact trivial|exact rfl|refine And.intro ?_ ?_)⟩
 ·rw [hI,List.drop_eq_nil_of_le (by omega)];rfl
def kCheckL (m:KM):Int :=
 if m.W < 1∨64 < m.W then 2 else if 4 < m.rel.length∨8 < m.val.length then 8 else if m.rel.any (fun r=>decide ((r.length:Int)≠m.W)) then 3 else if m.val.any (bad m.W) then 2 else if m.rel.any (fun r=>r.any (bad m.W)) then 2 else 0
structure GoodM (m:KM):Prop where
 w1:1≤m.W
 w2:m.W≤64
 n4:m.rel.length≤4
 v8:m.val.length≤8
 len : ∀ r∈m.rel,(r.length:Int)=m.W
 val : ∀ s∈m.val,bad m.W s=false
 rel : ∀ r∈m.rel,∀ s∈r,bad m.W s=false
theorem kCheck_good {m:KM} (h:kCheckL m=0):GoodM m:=by
 unfold kCheckL at h
 split at h
 ·cases h
 ·split at h
  ·cases h
  ·split at h
   ·cases h
   ·split at h
    ·cases h
    ·split at h
     ·cases h
     ·rename_i h1 h2 h3 h4 h5
      refine ⟨by omega,by omega,by omega,by omega,fun r hr=>?_,fun s hs=>?_,fun r hr s hs=>?_⟩
      ·simp only [List.any_eq_true,not_exists,not_and] at h3;simpa using h3 r hr
      ·simp only [List.any_eq_true,not_exists,not_and] at h4;simpa using h4 s hs
      ·simp only [List.any_eq_true,not_exists,not_and] at h5;simpa using h5 r hr s hs
theorem fn_kCheck (m:KM):Fn Tryz.prog T f_wittingref13_Check [.d (dKM m)] [] (.d (.int .i64 (kCheckL m))) []:=by
 refine fn_dataR hmix k_wittingref13_Check (by show 1≤59;decide) ?_
 (repeat' ((conv=>whnf);first|refine vA ?_|(refine vF ?_ ?_<;>intro hc<;>try simp only [vL] at hc)|refine vJ fun hg=>?_|refine vX ?_));all_goals try conv=>whnf
 ·rw [kCheckL,if_pos (by omega)]
 ·rw [kCheckL,if_pos (by omega)]
 ·rw [kCheckL,if_neg (by omega),if_pos (by omega)]
 ·rw [kCheckL,if_neg (by omega),if_pos (by omega)]
 ·have e0:kCheckL m=if m.rel.any (fun r=>decide ((r.length:Int)≠m.W)) then 3 else if m.val.any (bad m.W) then 2 else if m.rel.any (fun r=>r.any (bad m.W)) then 2 else 0:=by rw [kCheckL,if_neg (by omega),if_neg (by omega)]
  refine loop_mem (fun (k:Nat)=>[(1,.ptr 0 0),(3,.d (.int .i64 ((k:Int))))]) (fun (k:Nat)=>[(0,some (boxKM m))]) 1 (fun (k:Nat)=>k≤m.rel.length∧m.rel.any (fun r=>decide ((r.length:Int)≠m.W))=(m.rel.drop k).any (fun r=>decide ((r.length:Int)≠m.W))) (fun (k:Nat)=>m.rel.length - k) (0) [(0,0)] [] (⟨by simp,rfl⟩) (by (refine ⟨rfl,rfl,rfl,?_,?_⟩;repeat' first|exact trivial|exact rfl|refine And.intro ?_ ?_|refine ⟨_,rfl,?_⟩|decide)) ?_
  rintro k ⟨hk,hI⟩
  (repeat' ((conv=>whnf);first|refine vA ?_|((first|refine vD ?_ ?_|refine vF ?_ ?_)<;>intro hc<;>try simp only [vL] at hc)|refine vJ fun hg=>?_|(refine vQ ?_ fun x hx=>?_;·omega)|(refine vO ?_ ?_;·omega)|(refine vU ?_ ?_;·kernel_rfl)|refine vX ?_));all_goals try conv=>whnf
  ·rw [e0,if_pos (by rw [hI,drop_cons hx,List.any_cons,decide_eq_true (by simpa using ‹_›)];rfl)]
  ·exact ⟨k+1,[(0,0)],[],⟨by (omega),by rw [hI,drop_cons hx,List.any_cons,decide_eq_false (by simpa using ‹_›)];rfl⟩,by (omega),by (refine ⟨rfl,rfl,rfl,?_,?_⟩;repeat' first|exact trivial|exact rfl|refine And.intro ?_ ?_|refine ⟨_,rfl,?_⟩|decide)⟩
  ·have h1:m.rel.any (fun r=>decide ((r.length:Int)≠m.W))=false:=by rw [hI,List.drop_eq_nil_of_le (by omega)];rfl
   rw [h1,if_neg (by decide)] at e0
   (repeat' ((conv=>whnf);first|refine vA ?_|(refine vI ?_ ?_<;>intro hc)|refine vX ?_|refine yD (fn_beyond _ m.W (by omega)) ⟨⟨rfl,rfl⟩,⟨rfl,rfl⟩,rfl⟩ rfl ?_));all_goals try conv=>whnf
   ·rw [e0,if_pos ‹_›]
   ·rw [show m.val.any (bad m.W)=false from ‹_›,if_neg (by decide)] at e0
    refine loop_mem (fun (k:Nat)=>[(1,.ptr 0 0),(4,.d (.int .i64 ((k:Int))))]) (fun (k:Nat)=>[(0,some (boxKM m))]) 1 (fun (k:Nat)=>k≤m.rel.length∧m.rel.any (fun r=>r.any (bad m.W))=(m.rel.drop k).any (fun r=>r.any (bad m.W))) (fun (k:Nat)=>m.rel.length - k) (0) [(0,0)] [] (⟨by simp,rfl⟩) (by (refine ⟨rfl,rfl,rfl,?_,?_⟩;repeat' first|exact trivial|exact rfl|refine And.intro ?_ ?_|refine ⟨_,rfl,?_⟩|decide)) ?_
    clear hI hk
    rintro k ⟨hk,hI⟩
    (repeat' ((conv=>whnf);first|refine vA ?_|((first|refine vF ?_ ?_|refine vI ?_ ?_)<;>intro hc<;>try simp only [vL] at hc)|refine vJ fun hg=>?_|(refine vQ ?_ fun x hx=>?_;·omega)|(refine vO ?_ ?_;·omega)|(refine vU ?_ ?_;·kernel_rfl)|refine vX ?_|refine yD (fn_beyond _ m.W (by omega)) ⟨⟨rfl,rfl⟩,⟨rfl,rfl⟩,rfl⟩ rfl ?_));all_goals try conv=>whnf
    ·rw [e0,if_pos (by rw [hI,drop_cons hx,List.any_cons,show x.any (bad m.W)=true from ‹_›];rfl)]
    ·exact ⟨k+1,[(0,0)],[],⟨by (omega),by rw [hI,drop_cons hx,List.any_cons,show x.any (bad m.W)=false from ‹_›];rfl⟩,by (omega),by (refine ⟨rfl,rfl,rfl,?_,?_⟩;repeat' first|exact trivial|exact rfl|refine And.intro ?_ ?_|refine ⟨_,rfl,?_⟩|decide)⟩
    ·rw [e0,if_neg]
     rw [hI,List.drop_eq_nil_of_le (by omega)];simp
def relAt (m:KM) (a w:Nat):BitVec 64:=(m.rel.getD a []).getD w 0#64
theorem relAt_of {m:KM} {a w:Nat} {r:List (BitVec 64)} {x:BitVec 64} (h:m.rel[a]? = some r) (h':r[w]? = some x):relAt m a w=x:=by rw [relAt,getD_of h,getD_of h']
def grpK (m:KM) (g:Nat) (meet:Bool) (w k:Nat):BitVec 64:=(List.range k).foldl (fun s a=>if g.testBit a=true then (if meet=true then s&&&relAt m a w else s|||relAt m a w) else s) (if meet=true then allL m.W else 0#64)
theorem grpK_succ (m:KM) (g:Nat) (meet:Bool) (w k:Nat):grpK m g meet w (k+1)=if g.testBit k=true then (if meet=true then grpK m g meet w k&&&relAt m k w else grpK m g meet w k|||relAt m k w) else grpK m g meet w k:=by
 unfold grpK;rw [List.range_succ,List.foldl_append];rfl
def grpL (m:KM) (g:Nat) (meet:Bool):List (BitVec 64):=if kCheckL m≠0∨g < 1∨2 ^ m.rel.length≤g then [] else (List.range m.W.toNat).map fun w=>grpK m g meet w m.rel.length
theorem fn_rgroupG (m:KM) (g:Nat) (hg:g < 2 ^ 63):Fn Tryz.prog T f_wittingref13_group [.d (dKM m),.d (.int .i64 (g:Int)),.d (.bool false)] [] (.d (dU (grpL m g false))) []:=by
 refine fn_dataR hmix k_wittingref13_group (by show 3≤85;decide) ?_
 by_cases hc:kCheckL m=0
 ·have hgd:=kCheck_good hc
  have n4:=hgd.n4
  have w1:=hgd.w1
  have w2:=hgd.w2
  obtain ⟨p1,p2⟩:=pow_small (i:=(m.rel.length:Int)) (by omega) (by omega)
  have p2:((2 ^ m.rel.length:Nat):Int)=(1:Int) * 2 ^ (min (m.rel.length:Int).toNat IntKind.i64.bits):=p2
  have hcf:=fn_kCheck (T:=T) m
  rw [hc] at hcf
  (repeat' ((conv=>whnf);first|refine TestS.no (by decide) ?_|refine vA ?_|(refine vF ?_ ?_<;>intro hc<;>try simp only [vL] at hc)|refine vJ fun hg=>?_|((first|refine vO ?_ ?_|refine vP ?_ ?_);·first|omega|(simp only [vM] at *;omega))|refine yD hcf ⟨⟨rfl,rfl⟩,rfl⟩ rfl ?_));all_goals try conv=>whnf
  ·rw [grpL,if_pos (.inr (.inl (by omega)))];rfl
  ·rw [grpL,if_pos (.inr (.inr (by have:=‹_≤(g:Int)›;rw [← p2] at this;omega)))];rfl
  ·have e0:grpL m g false=(List.range m.W.toNat).map fun w=>grpK m g false w m.rel.length:=by
    have:=‹(g:Int) < _›
    rw [← p2] at this
    rw [grpL,if_neg (by omega)]
   rw [e0]
   refine loop_mem (fun ((k,zs):Nat×List D)=>[(1,.d (.int .i64 ((g:Int)))),(2,.d (.bool (false))),(3,.ptr 0 0),(7,.own 1),(8,.d (.int .i64 ((k:Int))))]) (fun ((k,zs):Nat×List D)=>[(0,some (boxKM m)),(1,some (.row 1 zs))]) 2 (fun ((k,zs):Nat×List D)=>k≤m.W.toNat∧zs=((List.range k).map fun w=>grpK m g false w m.rel.length).map D.u64) (fun ((k,zs):Nat×List D)=>m.W.toNat - k) ((0,[])) [(0,0)]   [1] (⟨by simp,rfl⟩) (by (refine ⟨rfl,rfl,rfl,?_,?_⟩;repeat' first|exact trivial|exact rfl|exact ⟨_,rfl⟩|exact .inl rfl|refine And.intro ?_ ?_|refine ⟨_,rfl,?_⟩|decide)) ?_
   rintro ⟨k,zs⟩ ⟨hk,hI⟩
   have hzl:zs.length≤64:=by rw [hI];simp;omega
   have h64 : ∀ a (r:List (BitVec 64)),m.rel[a]? = some r→r.length=m.W.toNat:=fun a r h=>by have:=hgd.len r (List.mem_of_getElem? h);omega
   (repeat' ((conv=>whnf);first|refine vA ?_|refine vH ?_|(refine vF ?_ ?_<;>intro hc<;>try simp only [vL] at hc)));all_goals try conv=>whnf
   ·refine loop_mem (fun ((a,s):Nat×BitVec 64)=>[(1,.d (.int .i64 ((g:Int)))),(2,.d (.bool (false))),(3,.ptr 0 0),(7,.own 1),(8,.d (.int .i64 ((k:Int)))),(9,.d (.u64 (s))),(10,.d (.int .i64 ((a:Int))))]) (fun ((a,s):Nat×BitVec 64)=>[(0,some (boxKM m)),(1,some (.row 1 zs))]) 2 (fun ((a,s):Nat×BitVec 64)=>a≤m.rel.length∧s=grpK m g false k a) (fun ((a,s):Nat×BitVec 64)=>m.rel.length - a) ((0,0#64)) [(0,0),(1,1)] [] (⟨by simp,rfl⟩) (by (refine ⟨rfl,rfl,rfl,?_,?_⟩;repeat' first|exact trivial|exact rfl|exact .inl rfl|refine And.intro ?_ ?_|refine ⟨_,rfl,?_⟩|decide)) ?_
    rintro ⟨a,s⟩ ⟨ha,hS⟩
    by_cases hal:a < m.rel.length
    ·obtain ⟨r,hr⟩ : ∃ r,m.rel[a]? = some r:=⟨_,List.getElem?_eq_getElem hal⟩
     obtain ⟨x,hx0⟩ : ∃ x,r[k]? = some x:=⟨_,List.getElem?_eq_getElem (by have:=h64 a r hr;omega)⟩
     (repeat' ((conv=>whnf);first|refine vA ?_|refine vE ?_|refine vH ?_|(refine vF ?_ ?_<;>intro hc<;>try simp only [vL] at hc)|refine vJ fun hg=>?_|refine vN ‹_› ?_|((first|refine vO ?_ ?_|refine vP ?_ ?_);·omega)|fail));all_goals try conv=>whnf
     all_goals try (exact absurd ‹Int.tmod _ 2=1› ‹¬Int.tmod _ 2=1›)
     ·refine ⟨(a+1,_),[(0,0),(1,1)],[],?_,?_,by (refine ⟨rfl,rfl,rfl,?_,?_⟩;repeat' first|exact trivial|exact rfl|exact .inl rfl|refine And.intro ?_ ?_|refine ⟨_,rfl,?_⟩|decide)⟩
      ·exact ⟨by (omega),by rw [grpK_succ,if_pos ((bit_int (m:=g) (k:=a) (by omega)).1 ‹_›),hS,relAt_of hr hx0];rfl⟩
      ·((simp only [vM] at *;omega))
     ·exact ⟨(a+1,s),[(0,0),(1,1)],[],⟨by (omega),by rw [grpK_succ,if_neg (fun h=>‹¬Int.tmod _ 2=1› ((bit_int (m:=g) (k:=a) (by omega)).2 h)),hS]⟩,by ((simp only [vM] at *;omega)),by (refine ⟨rfl,rfl,rfl,?_,?_⟩;repeat' first|exact trivial|exact rfl|exact .inl rfl|refine And.intro ?_ ?_|refine ⟨_,rfl,?_⟩|decide)⟩
     all_goals omega
    ·(repeat' ((conv=>whnf);first|refine vA ?_|refine vE ?_|refine vH ?_|(refine vF ?_ ?_<;>intro hc<;>try simp only [vL] at hc)|refine vJ fun hg=>?_|(refine vQ ?_ fun x hx=>?_;·omega)|((first|refine vO ?_ ?_|refine vP ?_ ?_);·first|omega|(simp only [vM] at *;omega))|fail));all_goals try conv=>whnf
     ·omega
     all_goals try omega
     have ea:a=m.rel.length:=by omega
     subst ea
     refine ⟨(k+1,_),[(0,0),(1,3)],[],?_,?_,by (refine ⟨rfl,rfl,rfl,?_,?_⟩;repeat' first|exact trivial|exact rfl|exact .inl rfl|refine And.intro ?_ ?_|refine ⟨_,rfl,?_⟩|decide)⟩
     ·exact ⟨by (omega),by rw [List.range_succ,List.map_append,List.map_append,hI,hS];rfl⟩
     ·((simp only [vM] at *;omega))
   ·rw [hI,show k=m.W.toNat by omega];rfl
 ·have hcf:=fn_kCheck (T:=T) m
  (repeat' ((conv=>whnf);first|refine vA ?_|((first|refine vD ?_ ?_|refine vF ?_ ?_)<;>intro hc<;>try simp only [vL] at hc)|refine vJ fun hg=>?_|((first|refine vO ?_ ?_|refine vP ?_ ?_);·omega)|refine yD hcf ⟨⟨rfl,rfl⟩,rfl⟩ rfl ?_));all_goals try conv=>whnf
  ·rw [grpL,if_pos (.inl hc)];rfl
  all_goals omega
end Go.Ab
namespace Go.Ab
open Go Go.Proofs
set_option linter.unusedSimpArgs false
set_option linter.unusedVariables false
set_option maxRecDepth 10000
set_option maxHeartbeats 4000000
variable {T:Nat→Obj→Prop}
theorem fn_rGroup13 (m:KM) (g:Nat) (hg:g < 2 ^ 63):Fn Tryz.prog T f_wittingref13_Group [.d (dKM m),.d (.int .i64 (g:Int))] [] (.d (dU (grpL m g false))) []:=by
 have c:=fn_rgroupG (T:=T) m g hg
 refine fn_dataR hmix k_wittingref13_Group (by show 2≤8;decide) ?_
 (repeat' ((conv=>whnf);first|refine vA ?_|refine vB fun b hb=>?_|refine vC (fun hl=>?_) fun i kv vv hi=>?_|refine vE ?_|refine vG ?_|refine vH ?_|((first|refine vD ?_ ?_|refine vF ?_ ?_|refine vI ?_ ?_)<;>intro hc<;>try simp only [vL] at hc)|refine vJ fun hg=>?_|refine vK fun hg=>?_|refine vT ?_|refine vN ‹_› ?_|(refine vQ ?_ fun x hx=>?_;·first|omega|(simp only [vM] at *;omega))|((first|refine vO ?_ ?_|refine vR ?_ ‹_› ?_|refine vS ?_ fun x hx=>?_|refine vP ?_ ?_);·first|omega|(simp only [vM] at *;omega))|refine vW ⟨by omega,by omega⟩ ?_|(refine vU ?_ ?_;·kernel_rfl)|refine vX ?_|refine vY ?_|refine vZ ?_|refine yN c ⟨⟨rfl,rfl⟩,⟨rfl,rfl⟩,⟨rfl,rfl⟩,rfl⟩ ?_|refine FindS.mk _ ‹_› ?_|refine vP (show (_:BitVec 64)≠_ by decide) ?_));all_goals try conv=>whnf
 all_goals first|rfl|skip
theorem bad_bit {n:Int} (h1:1≤n) (h2:n≤64) {s:BitVec 64} (h:bad n s=false) {i:Nat} (hi:s.getLsbD i=true):i < n.toNat:=by
 have h0:s &&& ~~~allL n=0#64:=by simpa [bad] using h
 have h3:=congrArg (fun x:BitVec 64=>x.getLsbD i) h0
 simp only [BitVec.getLsbD_and,BitVec.getLsbD_not,hi,Bool.true_and,BitVec.getLsbD_zero,Bool.and_eq_false_iff,decide_eq_false_iff_not,Bool.not_eq_false'] at h3
 rcases h3 with h3|h3
 ·exact absurd (BitVec.lt_of_getLsbD hi) h3
 ·unfold allL at h3
  split at h3
  ·have:=BitVec.lt_of_getLsbD hi;omega
  ·rw [show (1#64 <<< n.toNat) - 1#64=setTo (fun _=>true) n.toNat by
    refine u_ext fun j=>?_
    rw [set_bit (by omega),← BitVec.ofNat_eq_ofNat]
    have:(1#64 <<< n.toNat - 1#64).getLsbD j=decide (j < n.toNat):=by
     rw [show (1#64 <<< n.toNat - 1#64)=BitVec.ofNat 64 (2 ^ n.toNat - 1) by
      apply BitVec.eq_of_toNat_eq
      have hp:2 ^ n.toNat < 2 ^ 64:=Nat.pow_lt_pow_right (by omega) (by omega)
      have hq:=Nat.two_pow_pos n.toNat
      simp [BitVec.toNat_sub,BitVec.toNat_shiftLeft,Nat.shiftLeft_eq]
      omega]
     rw [BitVec.getLsbD_ofNat,Nat.testBit_two_pow_sub_one]
     by_cases hj:j < n.toNat
     ·simp [hj];omega
     ·simp [hj]
    simp [this]] at h3
   exact ((set_bit (by omega)).1 h3).1
theorem relAt_bit {m:KM} (hm:GoodM m) {a w v:Nat} (h:(relAt m a w).getLsbD v=true):v < m.W.toNat:=by
 unfold relAt at h
 cases hr:m.rel[a]? with
 | none=>simp [List.getD,hr] at h
 | some r =>
  rw [getD_of hr] at h
  cases hx:r[w]? with
  | none=>simp [List.getD,hx] at h
  | some x =>
   rw [getD_of hx] at h
   exact bad_bit hm.w1 hm.w2 (hm.rel r (List.mem_of_getElem? hr) x (List.mem_of_getElem? hx)) h
theorem grpK_bit {m:KM} {g w v:Nat} : ∀ k,(grpK m g false w k).getLsbD v=true ↔ ∃ a,a < k∧g.testBit a=true∧(relAt m a w).getLsbD v=true
 | 0=>by simp [grpK]
 | k+1=>by
  rw [grpK_succ]
  by_cases hg:g.testBit k=true
  ·rw [if_pos hg,if_neg (by decide),BitVec.getLsbD_or,Bool.or_eq_true,grpK_bit k]
   constructor
   ·rintro (⟨a,h1,h2⟩|h)
    ·exact ⟨a,by omega,h2⟩
    ·exact ⟨k,by omega,hg,h⟩
   ·rintro ⟨a,h1,h2,h3⟩
    by_cases e:a=k
    ·subst e;exact .inr h3
    ·exact .inl ⟨a,by omega,h2,h3⟩
  ·rw [if_neg hg,grpK_bit k]
   constructor
   ·rintro ⟨a,h1,h2⟩;exact ⟨a,by omega,h2⟩
   ·rintro ⟨a,h1,h2,h3⟩
    by_cases e:a=k
    ·subst e;exact absurd h2 hg
    ·exact ⟨a,by omega,h2,h3⟩
theorem grpL_eq {m:KM} (hc:kCheckL m=0) {g:Nat} {meet:Bool} (h1:1≤g) (h2:g < 2 ^ m.rel.length):grpL m g meet=(List.range m.W.toNat).map fun w=>grpK m g meet w m.rel.length:=by
 rw [grpL,if_neg (by omega)]
theorem grp_at {m:KM} (hc:kCheckL m=0) {g:Nat} {meet:Bool} (h1:1≤g) (h2:g < 2 ^ m.rel.length) {w:Nat} (hw:w < m.W.toNat):(grpL m g meet).getD w 0#64=grpK m g meet w m.rel.length:=by
 rw [grpL_eq hc h1 h2]
 exact getD_of (by simp [hw])
noncomputable def oneM (m:KM) (h:Hd) (x y:BitVec 64):BitVec 64 :=
 if h.op=3 then m.val.getD h.i.toNat 0#64 else if h.op≤8 then boolL h.op x y (allL m.W) else if h.op=9 then boxL (m.rel.getD h.i.toNat []) m.W.toNat x else if h.op=10 then allL m.W &&& ~~~boxL (m.rel.getD h.i.toNat []) m.W.toNat (allL m.W &&& ~~~x) else
 if h.op=11 then boxL (grpL m h.g.toNat false) m.W.toNat x else comL (grpL m h.g.toNat false) m.W.toNat x y
theorem fn_rOne (m:KM) (hc:kCheckL m=0) (n:Nd) (x y:BitVec 64) (h3:n.op=3→0≤n.i∧n.i < m.val.length) (h9:n.op=9∨n.op=10→0≤n.i∧n.i < m.rel.length) (h11:11≤n.op→n.op≠12∧1≤n.g∧n.g.toNat < 2 ^ m.rel.length) :
  Fn Tryz.prog T f_wittingref17_One [.d (dKM m),.d (dNd n),.d (.u64 x),.d (.u64 y)] [] (.d (.u64 (oneM m n.hd x y))) []:=by
 have hgd:=kCheck_good hc
 have w1:=hgd.w1
 have w2:=hgd.w2
 have hlen : ∀ r,m.rel[n.i.toNat]? = some r→(r.length:Int)=m.W:=fun r h=>hgd.len r (List.mem_of_getElem? h)
 have hg63:11≤n.op→n.g.toNat < 2 ^ 63∧((n.g.toNat:Nat):Int)=n.g∧((grpL m n.g.toNat false).length:Int)=m.W∧StepsIn (grpL m n.g.toNat false) m.W.toNat:=fun h=>by
  obtain ⟨a1,a2,a3⟩:=h11 h
  have n4:=hgd.n4
  have:2 ^ m.rel.length≤2 ^ 4:=Nat.pow_le_pow_right (by omega) n4
  refine ⟨by omega,by omega,by rw [grpL_eq hc (by omega) a3];simp;omega,fun v u hv hu=>?_⟩
  rw [grp_at hc (by omega) a3 hv,grpK_bit] at hu
  obtain ⟨a,-,-,hu⟩:=hu
  exact relAt_bit hgd hu
 refine fn_dataR hmix k_wittingref17_One (by show 4≤92;decide) ?_
 by_cases hop:11≤n.op
 ·obtain ⟨b1,b2,b3,b4⟩:=hg63 hop
  obtain ⟨a1,a2,a3⟩:=h11 hop
  have cg:=fn_rGroup13 (T:=T) m n.g.toNat b1
  rw [b2] at cg
  have cb:=fn_rBox (T:=T) (grpL m n.g.toNat false) m.W x (by omega) (by omega)
  have cc:=fn_rcommon (T:=T) (grpL m n.g.toNat false) m.W x y (by omega) (by omega) b4
  (repeat' ((conv=>whnf);first|refine TestS.decN (by omega) ?_|refine TestS.decY (by omega) ?_|refine vA ?_|refine vB fun b hb=>?_|refine vC (fun hl=>?_) fun i kv vv hi=>?_|refine vE ?_|refine vG ?_|refine vH ?_|((first|refine vD ?_ ?_|refine vF ?_ ?_|refine vI ?_ ?_)<;>intro hc<;>try simp only [vL] at hc)|refine vJ fun hg=>?_|refine vK fun hg=>?_|refine vT ?_|refine vN ‹_› ?_|(refine vQ ?_ fun x hx=>?_;·first|omega|(simp only [vM] at *;omega))|((first|refine vO ?_ ?_|refine vR ?_ ‹_› ?_|refine vS ?_ fun x hx=>?_|refine vP ?_ ?_);·first|omega|(simp only [vM] at *;omega))|refine vW ⟨by omega,by omega⟩ ?_|(refine vU ?_ ?_;·kernel_rfl)|refine vX ?_|refine vY ?_|refine vZ ?_|refine yD (fn_All13 m.W (by omega)) ⟨⟨rfl,rfl⟩,rfl⟩ rfl ?_|refine yN cg ⟨⟨rfl,rfl⟩,⟨rfl,rfl⟩,rfl⟩ ?_|refine yD cb ⟨⟨rfl,rfl⟩,⟨rfl,rfl⟩,⟨rfl,rfl⟩,rfl⟩ rfl ?_|refine yD cc (by (repeat refine ⟨⟨rfl,rfl⟩,?_⟩);rfl) rfl ?_|refine FindS.mk _ ‹_› ?_|refine vP (show (_:BitVec 64)≠_ by decide) ?_));all_goals try conv=>whnf
  ·rw [oneM,if_neg (by show ¬n.op=3;omega),if_neg (by show ¬n.op≤8;omega),if_neg (by show ¬n.op=9;omega),if_neg (by show ¬n.op=10;omega),if_pos (by show n.op=11;omega)];rfl
  ·rw [oneM,if_neg (by show ¬n.op=3;omega),if_neg (by show ¬n.op≤8;omega),if_neg (by show ¬n.op=9;omega),if_neg (by show ¬n.op=10;omega),if_neg (by show ¬n.op=11;omega)];rfl
 ·by_cases hop':n.op=9∨n.op=10
  ·obtain ⟨i0,i1⟩:=h9 hop'
   obtain ⟨r,hr⟩ : ∃ r,m.rel[n.i.toNat]? = some r:=⟨_,List.getElem?_eq_getElem (by omega)⟩
   have hl:=hlen r hr
   have hrd:m.rel.getD n.i.toNat []=r:=getD_of hr
   have cb:=fn_rBox (T:=T) r m.W x (by omega) (by omega)
   have cb2:=fn_rBox (T:=T) r m.W (allL m.W &&& ~~~x) (by omega) (by omega)
   by_cases h9':n.op=9
   ·(repeat' ((conv=>whnf);first|refine TestS.decN (by omega) ?_|refine TestS.decY (by omega) ?_|refine vA ?_|refine vB fun b hb=>?_|refine vC (fun hl=>?_) fun i kv vv hi=>?_|refine vE ?_|refine vG ?_|refine vH ?_|((first|refine vD ?_ ?_|refine vF ?_ ?_|refine vI ?_ ?_)<;>intro hc<;>try simp only [vL] at hc)|refine vJ fun hg=>?_|refine vK fun hg=>?_|refine vT ?_|refine vN ‹_› ?_|(refine vQ ?_ fun x hx=>?_;·first|omega|(simp only [vM] at *;omega))|((first|refine vO ?_ ?_|refine vR ?_ ‹_› ?_|refine vS ?_ fun x hx=>?_|refine vP ?_ ?_);·first|omega|(simp only [vM] at *;omega))|refine vW ⟨by omega,by omega⟩ ?_|(refine vU ?_ ?_;·kernel_rfl)|refine vX ?_|refine vY ?_|refine vZ ?_|refine yD (fn_All13 m.W (by omega)) ⟨⟨rfl,rfl⟩,rfl⟩ rfl ?_|refine yD cb ⟨⟨rfl,rfl⟩,⟨rfl,rfl⟩,⟨rfl,rfl⟩,rfl⟩ rfl ?_|refine FindS.mk _ ‹_› ?_|refine vP (show (_:BitVec 64)≠_ by decide) ?_));all_goals try conv=>whnf
    rw [oneM,if_neg (show ¬n.hd.op=3 by show ¬n.op=3;omega),if_neg (show ¬n.hd.op≤8 by show ¬n.op≤8;omega),if_pos (show n.hd.op=9 from h9')]
    exact congrArg (fun r=>boxL r m.W.toNat x) hrd.symm
   ·(repeat' ((conv=>whnf);first|refine TestS.decN (by omega) ?_|refine TestS.decY (by omega) ?_|refine vA ?_|refine vB fun b hb=>?_|refine vC (fun hl=>?_) fun i kv vv hi=>?_|refine vE ?_|refine vG ?_|refine vH ?_|((first|refine vD ?_ ?_|refine vF ?_ ?_|refine vI ?_ ?_)<;>intro hc<;>try simp only [vL] at hc)|refine vJ fun hg=>?_|refine vK fun hg=>?_|refine vT ?_|refine vN ‹_› ?_|(refine vQ ?_ fun x hx=>?_;·first|omega|(simp only [vM] at *;omega))|((first|refine vO ?_ ?_|refine vR ?_ ‹_› ?_|refine vS ?_ fun x hx=>?_|refine vP ?_ ?_);·first|omega|(simp only [vM] at *;omega))|refine vW ⟨by omega,by omega⟩ ?_|(refine vU ?_ ?_;·kernel_rfl)|refine vX ?_|refine vY ?_|refine vZ ?_|refine yD (fn_All13 m.W (by omega)) ⟨⟨rfl,rfl⟩,rfl⟩ rfl ?_|refine yD cb2 ⟨⟨rfl,rfl⟩,⟨rfl,rfl⟩,⟨rfl,rfl⟩,rfl⟩ rfl ?_|refine FindS.mk _ ‹_› ?_|refine vP (show (_:BitVec 64)≠_ by decide) ?_));all_goals try conv=>whnf
    rw [oneM,if_neg (show ¬n.hd.op=3 by show ¬n.op=3;omega),if_neg (show ¬n.hd.op≤8 by show ¬n.op≤8;omega),if_neg (show ¬n.hd.op=9 from h9'),if_pos (show n.hd.op=10 by show n.op=10;omega)]
    exact congrArg (fun r=>allL m.W &&& ~~~boxL r m.W.toNat (allL m.W &&& ~~~x)) hrd.symm
  ·(repeat' ((conv=>whnf);first|refine vA ?_|refine vB fun b hb=>?_|refine vC (fun hl=>?_) fun i kv vv hi=>?_|refine vE ?_|refine vG ?_|refine vH ?_|((first|refine vD ?_ ?_|refine vF ?_ ?_|refine vI ?_ ?_)<;>intro hc<;>try simp only [vL] at hc)|refine vJ fun hg=>?_|refine vK fun hg=>?_|refine vT ?_|refine vN ‹_› ?_|(refine vQ ?_ fun x hx=>?_;·first|omega|(simp only [vM] at *;omega))|((first|refine vO ?_ ?_|refine vR ?_ ‹_› ?_|refine vS ?_ fun x hx=>?_|refine vP ?_ ?_);·first|omega|(simp only [vM] at *;omega))|refine vW ⟨by omega,by omega⟩ ?_|(refine vU ?_ ?_;·kernel_rfl)|refine vX ?_|refine vY ?_|refine vZ ?_|refine yD (fn_All13 m.W (by omega)) ⟨⟨rfl,rfl⟩,rfl⟩ rfl ?_|refine yD (fn_rBoolean _ _ _ _) (by (repeat refine ⟨⟨rfl,rfl⟩,?_⟩);rfl) rfl ?_|refine FindS.mk _ ‹_› ?_|refine vP (show (_:BitVec 64)≠_ by decide) ?_));all_goals try conv=>whnf
   all_goals try omega
   ·rw [oneM,if_pos (show n.hd.op=3 from ‹n.op=3›)]
    exact (getD_of hx).symm
   ·rw [oneM,if_neg (show ¬n.hd.op=3 from ‹¬n.op=3›),if_pos (show n.hd.op≤8 from ‹_›)];rfl
end Go.Ab
namespace Go.Ab
open Go Go.Proofs
set_option linter.unusedSimpArgs false
set_option linter.unusedVariables false
set_option maxRecDepth 10000
set_option maxHeartbeats 4000000
variable {T:Nat→Obj→Prop}
def saferL (p:PM) (a w:Nat):BitVec 64:=setTo (fun v=>decide (at0 (rowAt p.cell a) v=at0 (rowAt p.cell a) w∧at0 (rowAt p.rank a) v≤at0 (rowAt p.rank a) w)) p.W.toNat
theorem fn_safer34 (p:PM) (hp:IntsOk p.rank) (a w:Nat) (hat:At p a w):Fn Tryz.prog T f_wittingref34_safer [.d (dPM p),.d (.int .i64 (a:Int)),.d (.int .i64 (w:Int))] [] (.d (.u64 (saferL p a w))) []:=by
 obtain ⟨hrow,hrank,hlen,hlen',h64,ha,-⟩:=hat.rows
 have hw1:=hat.w1
 rw [Int.toNat_natCast] at hrow hrank hlen hlen'
 refine fn_dataR hmix k_wittingref34_safer (by show 3≤56;decide) ?_
 (repeat' ((conv=>whnf);refine vA ?_));all_goals try conv=>whnf
 refine loop_mem (fun ((k,o):Nat×BitVec 64)=>[(1,.d (.int .i64 ((a:Int)))),(2,.d (.int .i64 ((w:Int)))),(3,.ptr 0 0),(7,.d (.u64 (o))),(8,.d (.int .i64 ((k:Int))))]) (fun ((k,o):Nat×BitVec 64)=>[(0,some (boxPM p))]) 1 (fun ((k,o):Nat×BitVec 64)=>k≤p.W.toNat∧o=setTo (fun v=>decide (at0 (rowAt p.cell a) v=at0 (rowAt p.cell a) w∧at0 (rowAt p.rank a) v≤at0 (rowAt p.rank a) w)) k) (fun ((k,o):Nat×BitVec 64)=>p.W.toNat - k) ((0,0#64)) [(0,0)] [] (⟨by simp,rfl⟩) (by (refine ⟨rfl,rfl,rfl,?_,?_⟩;repeat' first|exact trivial|exact rfl|refine And.intro ?_ ?_|refine ⟨_,rfl,?_⟩|decide)) ?_
 rintro ⟨k,o⟩ ⟨hk,hI⟩
 by_cases hkW:(k:Int) < p.W
 ·obtain ⟨x1,e1⟩ : ∃ x,(rowAt p.cell a)[k]? = some x:=⟨_,List.getElem?_eq_getElem (by omega)⟩
  obtain ⟨x2,e2⟩ : ∃ x,(rowAt p.cell a)[w]? = some x:=⟨_,List.getElem?_eq_getElem (by omega)⟩
  obtain ⟨x3,e3⟩ : ∃ x,(rowAt p.rank a)[k]? = some x:=⟨_,List.getElem?_eq_getElem (by omega)⟩
  obtain ⟨x4,e4⟩ : ∃ x,(rowAt p.rank a)[w]? = some x:=⟨_,List.getElem?_eq_getElem (by omega)⟩
  have f1:=at0_of e1
  have f2:=at0_of e2
  have f3:=at0_of e3
  have f4:=at0_of e4
  (repeat' ((conv=>whnf);first|refine vA ?_|(refine vF ?_ ?_<;>intro hc<;>try simp only [vL] at hc)|refine vN ‹_› ?_|((first|refine vO ?_ ?_|refine vP ?_ ?_);·omega)|(refine vU ?_ ?_;·kernel_rfl)|refine vY ?_));all_goals try conv=>whnf
  ·refine ⟨(k+1,_),[(0,0)],[],?_,?_,by (refine ⟨rfl,rfl,rfl,?_,?_⟩;repeat' first|exact trivial|exact rfl|refine And.intro ?_ ?_|refine ⟨_,rfl,?_⟩|decide)⟩
   ·exact ⟨by (omega),by rw [setTo,if_pos (decide_eq_true ⟨by omega,by omega⟩),hI];rfl⟩
   ·((simp only [vM] at *;omega))
  ·exact ⟨(k+1,o),[(0,0)],[],⟨by (omega),by rw [setTo,if_neg (by rw [decide_eq_true_eq];omega),hI]⟩,by ((simp only [vM] at *;omega)),by (refine ⟨rfl,rfl,rfl,?_,?_⟩;repeat' first|exact trivial|exact rfl|refine And.intro ?_ ?_|refine ⟨_,rfl,?_⟩|decide)⟩
  ·exact ⟨(k+1,o),[(0,0)],[],⟨by (omega),by rw [setTo,if_neg (by rw [decide_eq_true_eq];omega),hI]⟩,by ((simp only [vM] at *;omega)),by (refine ⟨rfl,rfl,rfl,?_,?_⟩;repeat' first|exact trivial|exact rfl|refine And.intro ?_ ?_|refine ⟨_,rfl,?_⟩|decide)⟩
  all_goals omega
 ·(repeat' ((conv=>whnf);first|refine TestS.decN (by omega) ?_|refine vA ?_|refine vY ?_));all_goals try conv=>whnf
  rw [hI,show k=p.W.toNat by omega];rfl
theorem fn_safely34 (p:PM) (hp:IntsOk p.rank) (hc0:checkL p=0) (a:Nat) (ha:a < p.cell.length) (s:BitVec 64):Fn Tryz.prog T f_wittingref34_safely [.d (dPM p),.d (.int .i64 (a:Int)),.d (.u64 s)] [] (.d (.u64 (safelyL p a s))) []:=by
 have hgd:=checkL_good hc0
 have h2:=hgd.w2
 have e:safelyL p a s=setTo (fun w=>decide (saferL p a w &&& ~~~s=0#64)) p.W.toNat:=by
  refine u_ext fun w=>?_
  rw [safely_bit hc0 ha,set_is (W64 hc0)]
  refine and_congr_right fun hw=>?_
  rw [sub_iff]
  unfold saferL
  constructor
  ·intro h v hv
   rw [set_is (W64 hc0)] at hv
   exact h v ⟨hv.1,hv.2.1⟩ hv.2.2
  ·intro h v hv hr
   exact h v ((set_is (W64 hc0)).2 ⟨hv.1,hv.2,hr⟩)
 rw [e]
 refine fn_dataR hmix k_wittingref34_safely (by show 3≤27;decide) ?_
 (repeat' ((conv=>whnf);refine vA ?_));all_goals try conv=>whnf
 refine loop_mem (fun ((k,o):Nat×BitVec 64)=>[(1,.d (.int .i64 ((a:Int)))),(2,.d (.u64 (s))),(3,.ptr 0 0),(7,.d (.u64 (o))),(8,.d (.int .i64 ((k:Int))))]) (fun ((k,o):Nat×BitVec 64)=>[(0,some (boxPM p))]) 1 (fun ((k,o):Nat×BitVec 64)=>k≤p.W.toNat∧o=setTo (fun w=>decide (saferL p a w &&& ~~~s=0#64)) k) (fun ((k,o):Nat×BitVec 64)=>p.W.toNat - k) ((0,0#64)) [(0,0)] [] (⟨by simp,rfl⟩) (by (refine ⟨rfl,rfl,rfl,?_,?_⟩;repeat' first|exact trivial|exact rfl|refine And.intro ?_ ?_|refine ⟨_,rfl,?_⟩|decide)) ?_
 rintro ⟨k,o⟩ ⟨hk,hI⟩
 by_cases hkW:k < p.W.toNat
 ·have hat:At p a k:=⟨hc0,by omega,by omega,by omega,by omega⟩
  (repeat' ((conv=>whnf);first|refine vA ?_|(refine vF ?_ ?_<;>intro hc<;>try simp only [vL] at hc)|((first|refine vO ?_ ?_|refine vP ?_ ?_);·omega)|refine vY ?_|refine yD (fn_safer34 p hp a k hat) ⟨⟨rfl,rfl⟩,⟨rfl,rfl⟩,⟨rfl,rfl⟩,rfl⟩ rfl ?_));all_goals try conv=>whnf
  ·refine ⟨(k+1,_),[(0,0)],[],?_,?_,by (refine ⟨rfl,rfl,rfl,?_,?_⟩;repeat' first|exact trivial|exact rfl|refine And.intro ?_ ?_|refine ⟨_,rfl,?_⟩|decide)⟩
   ·exact ⟨by (omega),by rw [setTo,if_pos (decide_eq_true ‹_›),hI];rfl⟩
   ·((simp only [vM] at *;omega))
  ·exact ⟨(k+1,o),[(0,0)],[],⟨by (omega),by rw [setTo,if_neg (by simpa using ‹¬_›),hI]⟩,by ((simp only [vM] at *;omega)),by (refine ⟨rfl,rfl,rfl,?_,?_⟩;repeat' first|exact trivial|exact rfl|refine And.intro ?_ ?_|refine ⟨_,rfl,?_⟩|decide)⟩
  all_goals omega
 ·(repeat' ((conv=>whnf);first|refine TestS.decN (by omega) ?_|refine vA ?_|refine vY ?_));all_goals try conv=>whnf
  rw [hI,show k=p.W.toNat by omega]
def knowRow (p:PM) (a:Nat):List (BitVec 64):=(List.range p.W.toNat).map fun (w:Nat)=>cellL p a w
def knowlL (p:PM):KM:=⟨p.W,p.val,(List.range p.cell.length).map (knowRow p)⟩
theorem fn_knowl34 (p:PM) (hp:IntsOk p.rank) (hc0:checkL p=0):Fn Tryz.prog T f_wittingref34_knowledge [.d (dPM p)] [] (.d (dKM (knowlL p))) []:=by
 have hgd:=checkL_good hc0
 have h1:=hgd.w1
 have h2:=hgd.w2
 have n4:=hgd.n4
 have v8:=hgd.v8
 refine fn_dataR hmix k_wittingref34_knowledge (by show 1≤55;decide) ?_
 (repeat' ((conv=>whnf);refine vA ?_));all_goals try conv=>whnf
 refine loop_mem (fun ((k,zs):Nat×List D)=>[(1,.ptr 0 0),(2,.ptr 1 0),(3,.ptr 2 0),(4,.d (.int .i64 ((k:Int))))]) (fun ((k,zs):Nat×List D)=>[(0,some (boxPM p)),(1,some (.box [.d (.int .i64 0),.nils 1,.nils 1])),(2,some (.box [.d (.int .i64 p.W),.own 3,.nils 1])),(3,some (.row 1 zs))]) 4 (fun ((k,zs):Nat×List D)=>k≤p.val.length∧zs=(p.val.take k).map D.u64) (fun ((k,zs):Nat×List D)=>p.val.length - k) ((0,[])) [(0,0),(1,1),(2,2)]   [3] (⟨by simp,rfl⟩) (by (refine ⟨rfl,rfl,rfl,?_,?_⟩;repeat' first|exact trivial|exact rfl|exact ⟨_,rfl⟩|refine And.intro ?_ ?_|refine ⟨_,rfl,?_⟩|decide)) ?_
 rintro ⟨k,zs⟩ ⟨hk,hI⟩
 have hzl:zs.length≤8:=by rw [hI];simp;omega
 (repeat' ((conv=>whnf);first|refine vA ?_|(refine vF ?_ ?_<;>intro hc<;>try simp only [vL] at hc)|refine vJ fun hg=>?_|(refine vQ ?_ fun x hx=>?_;·omega)|((first|refine vO ?_ ?_|refine vP ?_ ?_);·first|omega|(simp only [vM] at *;omega))|(refine vU ?_ ?_;·kernel_rfl)|fail));all_goals try conv=>whnf
 ·refine ⟨(k+1,_),[(0,0),(1,1),(2,2),(3,5)],[],?_,?_,by (refine ⟨rfl,rfl,rfl,?_,?_⟩;repeat' first|exact trivial|exact rfl|refine And.intro ?_ ?_|refine ⟨_,rfl,?_⟩|decide)⟩
  ·exact ⟨by (omega),by rw [List.take_add_one,List.map_append,hI,hx];rfl⟩
  ·((simp only [vM] at *;omega))
 ·rw [show k=p.val.length by omega,List.take_length] at hI
  subst hI
  refine loop_mem (fun ((a,rs):Nat×List D)=>[(1,.ptr 0 0),(2,.ptr 1 0),(3,.ptr 2 0),(5,.d (.int .i64 ((a:Int))))]) (fun ((a,rs):Nat×List D)=>[(0,some (boxPM p)),(1,some (.box [.d (.int .i64 0),.nils 1,.nils 1])),(2,some (.box [.d (.int .i64 p.W),.own 3,.own 4])),(3,some (.row 1 (p.val.map D.u64))),(4,some (.row 1 rs))]) 5 (fun ((a,rs):Nat×List D)=>a≤p.cell.length∧rs=((List.range a).map (knowRow p)).map dU) (fun ((a,rs):Nat×List D)=>p.cell.length - a) ((0,[])) [(0,0),(1,1),(2,2),(3,3)]   [4] (⟨by simp,rfl⟩) (by (refine ⟨rfl,rfl,rfl,?_,?_⟩;repeat' first|exact trivial|exact rfl|exact ⟨_,rfl⟩|refine And.intro ?_ ?_|refine ⟨_,rfl,?_⟩|decide)) ?_
  rintro ⟨a,rs⟩ ⟨ha,hR⟩
  have hrl:rs.length≤8:=by rw [hR];simp;omega
  (repeat' ((conv=>whnf);first|refine vA ?_|(refine vF ?_ ?_<;>intro hc<;>try simp only [vL] at hc)|refine vJ fun hg=>?_));all_goals try conv=>whnf
  ·refine loop_mem (fun ((w,zs):Nat×List D)=>[(1,.ptr 0 0),(2,.ptr 1 0),(3,.ptr 2 0),(5,.d (.int .i64 ((a:Int)))),(6,.own 5),(7,.d (.int .i64 ((w:Int))))]) (fun ((w,zs):Nat×List D)=>[(0,some (boxPM p)),(1,some (.box [.d (.int .i64 0),.nils 1,.nils 1])),(2,some (.box [.d (.int .i64 p.W),.own 3,.own 4])),(3,some (.row 1 (p.val.map D.u64))),(4,some (.row 1 rs)),(5,some (.row 1 zs))]) 6 (fun ((w,zs):Nat×List D)=>w≤p.W.toNat∧zs=((List.range w).map fun (w:Nat)=>cellL p a w).map D.u64) (fun ((w,zs):Nat×List D)=>p.W.toNat - w) ((0,[])) [(0,0),(1,1),(2,2),(3,3),(4,4)]   [5] (⟨by simp,rfl⟩) (by (refine ⟨rfl,rfl,rfl,?_,?_⟩;repeat' first|exact trivial|exact rfl|exact ⟨_,rfl⟩|refine And.intro ?_ ?_|refine ⟨_,rfl,?_⟩|decide)) ?_
   rintro ⟨w,zs⟩ ⟨hw,hZ⟩
   have hzw:zs.length≤64:=by rw [hZ];simp;omega
   by_cases hwW:w < p.W.toNat
   ·have hat:At p a w:=⟨hc0,by omega,by omega,by omega,by omega⟩
    (repeat' ((conv=>whnf);first|refine TestS.decY (by omega) ?_|refine vA ?_|((first|refine vO ?_ ?_|refine vP ?_ ?_);·first|omega|(simp only [vM] at *;omega))|refine yD (fn_Cell34 p hp a w hat) ⟨⟨rfl,rfl⟩,⟨rfl,rfl⟩,⟨rfl,rfl⟩,rfl⟩ rfl ?_));all_goals try conv=>whnf
    refine ⟨(w+1,_),[(0,0),(1,1),(2,2),(3,3),(4,4),(5,7)],[],?_,?_,by (refine ⟨rfl,rfl,rfl,?_,?_⟩;repeat' first|exact trivial|exact rfl|refine And.intro ?_ ?_|refine ⟨_,rfl,?_⟩|decide)⟩
    ·exact ⟨by (omega),by rw [List.range_succ,List.map_append,List.map_append,hZ];rfl⟩
    ·((simp only [vM] at *;omega))
   ·(repeat' ((conv=>whnf);first|refine TestS.decN (by omega) ?_|refine vA ?_|refine vT ?_|((first|refine vO ?_ ?_|refine vP ?_ ?_);·first|omega|(simp only [vM] at *;omega))|fail));all_goals try conv=>whnf
    have ew:w=p.W.toNat:=by omega
    subst ew
    refine ⟨(a+1,_),[(0,0),(1,1),(2,2),(3,3),(4,7)],[],?_,?_,by (refine ⟨rfl,rfl,rfl,?_,?_⟩;repeat' first|exact trivial|exact rfl|refine And.intro ?_ ?_|refine ⟨_,rfl,?_⟩|decide)⟩
    ·exact ⟨by (omega),by rw [List.range_succ,List.map_append,List.map_append,hR,hZ];rfl⟩
    ·((simp only [vM] at *;omega))
  ·have ea:a=p.cell.length:=by omega
   subst ea
   subst hR
   rfl
end Go.Ab
namespace Go.Ab
open Go Go.Proofs
set_option linter.unusedSimpArgs false
set_option linter.unusedVariables false
set_option maxRecDepth 10000
set_option maxHeartbeats 4000000
variable {T:Nat→Obj→Prop}
section
variable {p:PM} (hc0:checkL p=0)
include hc0
theorem bad_of {s:BitVec 64} (h : ∀ i,s.getLsbD i=true→i < p.W.toNat):bad p.W s=false:=by
 have:s &&& ~~~allL p.W=0#64:=sub_iff.2 fun i hi=>(all_bit hc0).2 (h i hi)
 simp [bad,this]
theorem knowRow_at {a w:Nat} (hw:w < p.W.toNat):(knowRow p a).getD w 0#64=cellL p a w:=getD_of (by simp [knowRow,hw])
theorem know_rel {a w:Nat} (ha:a < p.cell.length) (hw:w < p.W.toNat):relAt (knowlL p) a w=cellL p a w:=by
 rw [relAt,show (knowlL p).rel.getD a []=knowRow p a from getD_of (by simp [knowlL,ha]),knowRow_at hc0 hw]
theorem know_good:kCheckL (knowlL p)=0:=by
 have hg:=checkL_good hc0
 have h1:=hg.w1
 have h2:=hg.w2
 have e1:(knowlL p).rel.any (fun r=>decide ((r.length:Int)≠(knowlL p).W))=false:=by
  rw [List.any_eq_false]
  intro r hr
  obtain ⟨a,-,rfl⟩:=List.mem_map.1 hr
  simp [knowRow,knowlL];omega
 have e2:(knowlL p).val.any (bad (knowlL p).W)=false:=by
  rw [List.any_eq_false]
  intro s hs
  show ¬bad p.W s=true
  rw [hg.val s hs];simp
 have e3:(knowlL p).rel.any (fun r=>r.any (bad (knowlL p).W))=false:=by
  rw [List.any_eq_false]
  intro r hr
  obtain ⟨a,ha,rfl⟩:=List.mem_map.1 hr
  rw [Bool.not_eq_true,List.any_eq_false]
  intro s hs
  obtain ⟨w,hw,rfl⟩:=List.mem_map.1 hs
  rw [List.mem_range] at ha hw
  rw [Bool.not_eq_true]
  exact bad_of hc0 fun i hi=>((cell_bit hc0 ha hw).1 hi).1
 have n4:=hg.n4
 have v8:=hg.v8
 rw [kCheckL,if_neg (by show ¬(p.W < 1∨64 < p.W);omega),if_neg (by show ¬(4 < ((List.range p.cell.length).map (knowRow p)).length∨8 < p.val.length);simp;omega),e1,e2,e3]
 rfl
theorem box_know {a:Nat} (ha:a < p.cell.length) (s:BitVec 64):boxL ((knowlL p).rel.getD a []) p.W.toNat s=knowsL p a s:=by
 rw [show (knowlL p).rel.getD a []=knowRow p a from getD_of (by simp [knowlL,ha])]
 refine u_ext fun w=>?_
 unfold boxL knowsL
 rw [set_is (W64 hc0),set_is (W64 hc0)]
 refine and_congr_right fun hw=>?_
 rw [knowRow_at hc0 hw]
theorem grp_know {g w v:Nat} (h1:1≤g) (h2:g < 2 ^ p.cell.length) (hw:w < p.W.toNat):((grpL (knowlL p) g false).getD w 0#64).getLsbD v=true↔Suc p g w v:=by
 have el:(knowlL p).rel.length=p.cell.length:=by simp [knowlL]
 rw [grp_at (know_good hc0) h1 (by rw [el];exact h2) hw,grpK_bit,el]
 constructor
 ·rintro ⟨a,ha,hga,hv⟩
  rw [know_rel hc0 ha hw] at hv
  exact ⟨hw,a,ha,hga,(cell_bit hc0 ha hw).1 hv⟩
 ·rintro ⟨-,a,ha,hga,hv⟩
  exact ⟨a,ha,hga,by rw [know_rel hc0 ha hw];exact (cell_bit hc0 ha hw).2 hv⟩
theorem box_every {g:Nat} (h1:1≤g) (h2:g < 2 ^ p.cell.length) (s:BitVec 64):boxL (grpL (knowlL p) g false) p.W.toNat s=everyL p g s:=by
 refine u_ext fun w=>?_
 unfold boxL
 rw [set_is (W64 hc0),every_bit hc0]
 refine and_congr_right fun hw=>?_
 rw [sub_iff]
 exact forall_congr' fun v=>by rw [grp_know hc0 h1 h2 hw]
theorem com_common {g:Nat} (h1:1≤g) (h2:g < 2 ^ p.cell.length) (c s:BitVec 64):comL (grpL (knowlL p) g false) p.W.toNat c s=commonL p g c s:=by
 have hs : ∀ v u,StepR (grpL (knowlL p) g false) p.W.toNat c v u↔Suc p g v u∧c.getLsbD u=true:=fun v u=>by
  unfold StepR
  rw [BitVec.getLsbD_and,Bool.and_eq_true]
  constructor
  ·rintro ⟨hv,h,hc⟩;exact ⟨(grp_know hc0 h1 h2 hv).1 h,hc⟩
  ·rintro ⟨h,hc⟩;exact ⟨h.1,(grp_know hc0 h1 h2 h.1).2 h,hc⟩
 have hB:StepsIn (grpL (knowlL p) g false) p.W.toNat:=fun v u hv hu=>((grp_know hc0 h1 h2 hv).1 hu).lt
 refine u_ext fun w=>?_
 unfold comL
 rw [set_is (W64 hc0),common_bit hc0]
 refine and_congr_right fun hw=>?_
 rw [sub_iff]
 refine forall_congr' fun v=>?_
 rw [paths_bit (W64 hc0) hB]
 refine imp_congr ⟨fun h=>?_,fun h=>?_⟩ Iff.rfl
 ·induction h with
  | base h=>exact .base ((hs _ _).1 h).1 ((hs _ _).1 h).2
  | step _ h ih=>exact .step ih ((hs _ _).1 h).1 ((hs _ _).1 h).2
 ·induction h with
  | base h hc=>exact .base ((hs _ _).2 ⟨h,hc⟩)
  | step _ h hc ih=>exact .step ih ((hs _ _).2 ⟨h,hc⟩)
theorem one_val {n:Hd} {x y:BitVec 64} (hop:1≤n.op∧n.op≤13∧n.op≠12) (h9:n.op=9∨n.op=10→0≤n.i∧n.i < p.cell.length) (h11:11≤n.op→1≤n.g∧n.g.toNat < 2 ^ p.cell.length):oneM (knowlL p) n x y=valL p n x y:=by
 obtain ⟨o1,o2,o3⟩:=hop
 have hcase:n.op=1∨n.op=2∨n.op=3∨n.op=4∨n.op=5∨n.op=6∨n.op=7∨n.op=8∨n.op=9∨n.op=10∨n.op=11∨n.op=13:=by omega
 have hb:n.op=9∨n.op=10 → ∀ s,boxL ((knowlL p).rel.getD n.i.toNat []) (knowlL p).W.toNat s=knowsL p n.i s:=fun h s=>by
  obtain ⟨i0,i1⟩:=h9 h
  have:=box_know hc0 (a:=n.i.toNat) (by omega) s
  rwa [show ((n.i.toNat:Nat):Int)=n.i by omega] at this
 unfold oneM valL boolL
 rcases hcase with h|h|h|h|h|h|h|h|h|h|h|h
 all_goals simp only [h]
 all_goals first|rfl|skip
 ·exact hb (.inl h) x
 ·show allL p.W &&& ~~~_=_
  rw [hb (.inr h)];rfl
 ·obtain ⟨g1,g2⟩:=h11 (by omega)
  exact box_every hc0 (by omega) g2 x
 ·obtain ⟨g1,g2⟩:=h11 (by omega)
  exact com_common hc0 (by omega) g2 x y
end
end Go.Ab
namespace Go.Ab
open Go Go.Proofs
set_option linter.unusedSimpArgs false
set_option linter.unusedVariables false
set_option maxRecDepth 10000
set_option maxHeartbeats 4000000
set_option maxHeartbeats 40000000
variable {T:Nat→Obj→Prop}
theorem valL_used (p:PM) (n:Nd) (a b:BitVec 64):valL p n.hd (cond (useX n.op) a 0#64) (cond (useY n.op) b 0#64)=valL p n.hd a b:=by
 have hu:=uses_valL p
 have h1:valL p n.hd (cond (useX n.op) a 0#64) (cond (useY n.op) b 0#64)=valL p n.hd a (cond (useY n.op) b 0#64):=by
  cases h:useX n.op with
  | true=>rfl
  | false=>exact hu.x n.hd _ _ _ h
 rw [h1]
 cases h:useY n.op with
 | true=>rfl
 | false=>exact hu.y n.hd _ _ _ h
theorem op_allowed {f:List Nd} (h:bitsI .i64 (fun p q=>p &&& ~~~q) (uni fragN (cL f):Int) 59=0) {n:Nd} (hn:n∈cL f):1≤n.op∧n.op≤15∧n.op≠12:=by
 have hlt:uni fragN (cL f) < 2 ^ 63:=Nat.lt_trans ((uni_lt fragN).2 fun n _=>fragN_lt n.hd) (by decide)
 have h1:=(bits_andNot hlt (b:=59) (by decide)).1 h
 have h2 : ∀ i,(fragN n.hd).testBit i=true→(59:Nat).testBit i=true:=fun i hi=>h1 i (by rw [uni_bit];exact List.any_eq_true.2 ⟨n,hn,hi⟩)
 have ho:=op_le (cL_hd hn)
 have key : ∀ (o:Int) (i:Nat),n.op=o→((fragOf o).toNat).testBit i=true→(59:Nat).testBit i=true:=fun o i e hi=>h2 i (by rw [fragN];show ((fragOf n.op).toNat).testBit i=true;rw [e];exact hi)
 refine ⟨ho.1,?_,fun e=>absurd (key 12 2 e (by decide)) (by decide)⟩
 refine Classical.byContradiction fun hn=>?_
 have:n.op=16∨n.op=17∨n.op=18∨n.op=19∨n.op=20∨n.op=21:=by omega
 rcases this with e|e|e|e|e|e
 ·exact absurd (key 16 6 e (by decide)) (by decide)
 ·exact absurd (key 17 7 e (by decide)) (by decide)
 all_goals exact absurd (key _ 8 e (by decide)) (by decide)
theorem fn_Holds34 (p:PM) (hp:IntsOk p.rank) (f:List Nd):Fn Tryz.prog T f_wittingref34_Holds [.d (dPM p),.d (dF f)] [] (.d (dUE (holdsL p f))) []:=by
 have hlen:=cL_len f
 have hok:=cL_okay f
 refine fn_dataR hmix k_wittingref34_Holds (by show 2≤126;decide) ?_
 (repeat' ((conv=>whnf);first|refine vA ?_|refine vE ?_|((first|refine vD ?_ ?_|refine vI ?_ ?_)<;>intro hc<;>try simp only [vL] at hc)|refine vJ fun hg=>?_|refine yD (fn_ref33_Check _ hp) ⟨⟨rfl,rfl⟩,rfl⟩ rfl ?_|refine yD (fn_rCheck05 _) ⟨⟨rfl,rfl⟩,rfl⟩ rfl ?_|refine yD (fn_rFrags _) ⟨⟨rfl,rfl⟩,rfl⟩ rfl ?_|refine yD (fn_rFits _ _ _) ⟨⟨rfl,rfl⟩,⟨rfl,rfl⟩,⟨rfl,rfl⟩,rfl⟩ rfl ?_));all_goals try conv=>whnf
 ·have e:holdsL p f=(0#64,checkL p):=if_pos ‹_›
  rw [e];rfl
 ·have e:holdsL p f=(0#64,fErr f):=by rw [holdsL,if_neg (by omega),if_pos ‹_›]
  rw [e];rfl
 ·have e:holdsL p f=(0#64,10):=by rw [holdsL,if_neg (by omega),if_neg (by omega),if_pos ‹_›]
  rw [e];rfl
 ·have hc0:=‹checkL p=0›
  have hf0:=‹fErr f=0›
  have hgd:=checkL_good hc0
  have hfit:=‹fitsL f _ _=true›
  have e:holdsL p f=((sets (valL p) 0#64 (cL f) []).getD ((cL f).length - 1) 0#64,0):=by rw [holdsL,if_neg (by omega),if_neg (by omega),if_neg (by omega),if_neg (by simp [hfit])]
  have hpos:=(cL_canon hf0).1.pos
  have hal : ∀ n,n∈cL f→1≤n.op∧n.op≤15∧n.op≠12:=fun n hn=>op_allowed ‹_› hn
  rw [e]
  (repeat' ((conv=>whnf);first|refine vA ?_|refine yN (fn_knowl34 p hp hc0) ⟨⟨rfl,rfl⟩,rfl⟩ ?_|refine yN (fn_rCompact _) ⟨⟨rfl,rfl⟩,rfl⟩ ?_));all_goals try conv=>whnf
  refine loop_mem (fun ((k,zs):Nat×List D)=>[(2,.ptr 0 0),(7,.ptr 1 0),(8,.d (dF (cL f))),(9,.own 2),(10,.d (.int .i64 ((k:Int))))]) (fun ((k,zs):Nat×List D)=>[(0,some (boxPM p)),(1,some (boxKM (knowlL p))),(2,some (.row 1 zs))]) 3 (fun ((k,zs):Nat×List D)=>k≤(cL f).length∧zs=(sets (valL p) 0#64 ((cL f).take k) []).map D.u64) (fun ((k,zs):Nat×List D)=>(cL f).length - k) ((0,[])) [(0,0),(1,1)]   [2] (⟨by simp,rfl⟩) (by (refine ⟨rfl,rfl,rfl,?_,?_⟩;repeat' first|exact trivial|exact rfl|exact ⟨_,rfl⟩|refine And.intro ?_ ?_|refine ⟨_,rfl,?_⟩|decide)) ?_
  rintro ⟨k,zs⟩ ⟨hk,hI⟩
  subst hI
  have hl:(sets (valL p) 0#64 ((cL f).take k) []).length=k:=by rw [sets_len];simp;omega
  by_cases hkl:k < (cL f).length
  ·obtain ⟨n,hn⟩ : ∃ n,(cL f)[k]? = some n:=⟨(cL f)[k],by simp [hkl]⟩
   have hnm:=List.mem_of_getElem? hn
   obtain ⟨f1,f2,f3⟩:=fits_n hgd.n4 hgd.v8 hfit hnm
   have hh:=cL_hd hnm
   obtain ⟨o1,o2,o3⟩:=hal n hnm
   have hok1:=hok k n hn
   obtain ⟨-,x1,-,y1,-⟩:=nErr_ok hok1
   have hst0:sets (valL p) 0#64 ((cL f).take (k+1)) []=sets (valL p) 0#64 ((cL f).take k) []++[valL p n.hd (cond (useX n.op) ((sets (valL p) 0#64 ((cL f).take k) []).getD n.x.toNat 0#64) 0#64) (cond (useY n.op) ((sets (valL p) 0#64 ((cL f).take k) []).getD n.y.toNat 0#64) 0#64)]:=by
    rw [valL_used,List.take_add_one,hn];exact sets_snoc _ _ _ _ _
   generalize sets (valL p) 0#64 ((cL f).take k) []=S at hst0 hl
   have hSl:(S.map D.u64).length≤200:=by simp;omega
   have cO : ∀ x y,n.op≤13→Fn Tryz.prog T f_wittingref17_One [.d (dKM (knowlL p)),.d (dNd n),.d (.u64 x),.d (.u64 y)] [] (.d (.u64 (valL p n.hd x y))) []:=fun x y h13=>by
    have el:(knowlL p).rel.length=p.cell.length:=by simp [knowlL]
    have h9:n.op=9∨n.op=10→0≤n.i∧n.i < p.cell.length:=fun h=>f2 (decide_eq_true (by omega))
    have h11:11≤n.op→1≤n.g∧n.g.toNat < 2 ^ p.cell.length:=fun h=>by
     have hug:useGroup n.op=true:=decide_eq_true (by omega)
     have:=hh.group hug
     exact ⟨this.1,f3 hug⟩
    rw [← one_val hc0 (n:=n.hd) ⟨o1,h13,o3⟩ h9 h11]
    exact fn_rOne (knowlL p) (know_good hc0) n x y f1 (by rw [el];exact h9) (fun h=>⟨o3,by rw [el];exact h11 h⟩)
   cases hx:useX n.op with
   | false =>
    have hy:useY n.op=false:=by
     cases hy:useY n.op with
     | true=>rw [useX_of_useY hy] at hx;cases hx
     | false=>rfl
    have hux:=hx▸fn_rUsesX (T:=T) n.op
    have huy:=hy▸fn_rUsesY (T:=T) n.op
    have h13:n.op≤13:=by have : ¬(4≤n.op∧n.op≤21):=of_decide_eq_false hx;omega
    have hst:=hst0
    rw [hx,hy] at hst
    have cO:=cO 0#64 0#64 h13
    (repeat' ((conv=>whnf);first|refine TestS.decN (by omega) ?_|refine vA ?_|refine vH ?_|(refine vF ?_ ?_<;>intro hc<;>try simp only [vL] at hc)|refine vJ fun hg=>?_|refine vN ‹_› ?_|(refine vQ ?_ fun x hx=>?_;·omega)|((first|refine vO ?_ ?_|refine vP ?_ ?_);·first|omega|(simp only [vM] at *;omega))|(refine vU ?_ ?_;·kernel_rfl)|refine yD hux (by (repeat refine ⟨⟨rfl,rfl⟩,?_⟩);rfl) rfl ?_|refine yD huy (by (repeat refine ⟨⟨rfl,rfl⟩,?_⟩);rfl) rfl ?_|refine yD cO (by (repeat refine ⟨⟨rfl,rfl⟩,?_⟩);rfl) rfl ?_));all_goals try conv=>whnf
    all_goals try omega
    refine ⟨(k+1,_),[(0,0),(1,1),(2,4)],[],?_,?_,by (refine ⟨rfl,rfl,rfl,?_,?_⟩;repeat' first|exact trivial|exact rfl|refine And.intro ?_ ?_|refine ⟨_,rfl,?_⟩|decide)⟩
    ·exact ⟨hkl,by rw [hst,List.map_append];rfl⟩
    ·((simp only [vM] at *;omega))
   | true =>
    have hux:=hx▸fn_rUsesX (T:=T) n.op
    obtain ⟨x2,x3⟩:=x1 hx
    obtain ⟨a,ha⟩ : ∃ a,S[n.x.toNat]? = some a:=⟨_,List.getElem?_eq_getElem (by omega)⟩
    cases hy:useY n.op with
    | false =>
     have huy:=hy▸fn_rUsesY (T:=T) n.op
     have hst:=hst0
     rw [hx,hy,getD_of ha] at hst
     have h14:n.op≠14:=fun h=>by rw [useY,h] at hy;revert hy;decide
     by_cases h15:n.op=15
     ·obtain ⟨i0,i1⟩:=f2 (decide_eq_true (by omega))
      have cS:=fn_safely34 (T:=T) p hp hc0 n.i.toNat (by omega) a
      rw [show ((n.i.toNat:Nat):Int)=n.i by omega,show safelyL p n.i a=valL p n.hd a 0#64 by unfold valL;simp only [show n.hd.op=15 from h15];rfl] at cS
      (repeat' ((conv=>whnf);first|refine TestS.decN (by omega) ?_|refine TestS.decY (by omega) ?_|refine vA ?_|refine vG ?_|refine vH ?_|(refine vF ?_ ?_<;>intro hc<;>try simp only [vL] at hc)|refine vJ fun hg=>?_|refine vN ‹_› ?_|(refine vQ ?_ fun x hx=>?_;·omega)|((first|refine vO ?_ ?_|refine vP ?_ ?_);·first|omega|(simp only [vM] at *;omega))|(refine vU ?_ ?_;·kernel_rfl)|refine yD hux (by (repeat refine ⟨⟨rfl,rfl⟩,?_⟩);rfl) rfl ?_|refine yD huy (by (repeat refine ⟨⟨rfl,rfl⟩,?_⟩);rfl) rfl ?_|refine yD cS ⟨⟨rfl,rfl⟩,⟨rfl,rfl⟩,⟨rfl,rfl⟩,rfl⟩ rfl ?_));all_goals try conv=>whnf
      all_goals try omega
      refine ⟨(k+1,_),[(0,0),(1,1),(2,4)],[],?_,?_,by (refine ⟨rfl,rfl,rfl,?_,?_⟩;repeat' first|exact trivial|exact rfl|refine And.intro ?_ ?_|refine ⟨_,rfl,?_⟩|decide)⟩
      ·exact ⟨hkl,by rw [hst,List.map_append];rfl⟩
      ·((simp only [vM] at *;omega))
     ·have cO:=cO a 0#64 (by omega)
      (repeat' ((conv=>whnf);first|refine TestS.decN (by omega) ?_|refine vA ?_|refine vG ?_|refine vH ?_|(refine vF ?_ ?_<;>intro hc<;>try simp only [vL] at hc)|refine vJ fun hg=>?_|refine vN ‹_› ?_|(refine vQ ?_ fun x hx=>?_;·omega)|((first|refine vO ?_ ?_|refine vP ?_ ?_);·first|omega|(simp only [vM] at *;omega))|(refine vU ?_ ?_;·kernel_rfl)|refine yD hux (by (repeat refine ⟨⟨rfl,rfl⟩,?_⟩);rfl) rfl ?_|refine yD huy (by (repeat refine ⟨⟨rfl,rfl⟩,?_⟩);rfl) rfl ?_|refine yD cO (by (repeat refine ⟨⟨rfl,rfl⟩,?_⟩);rfl) rfl ?_));all_goals try conv=>whnf
      all_goals try omega
      refine ⟨(k+1,_),[(0,0),(1,1),(2,4)],[],?_,?_,by (refine ⟨rfl,rfl,rfl,?_,?_⟩;repeat' first|exact trivial|exact rfl|refine And.intro ?_ ?_|refine ⟨_,rfl,?_⟩|decide)⟩
      ·exact ⟨hkl,by rw [hst,List.map_append];rfl⟩
      ·((simp only [vM] at *;omega))
    | true =>
     have huy:=hy▸fn_rUsesY (T:=T) n.op
     obtain ⟨y2,y3⟩:=y1 hy
     obtain ⟨b,hb⟩ : ∃ b,S[n.y.toNat]? = some b:=⟨_,List.getElem?_eq_getElem (by omega)⟩
     have hst:=hst0
     rw [hx,hy,getD_of ha,getD_of hb] at hst
     have h15:n.op≠15:=fun h=>by rw [useY,h] at hy;revert hy;decide
     by_cases h14:n.op=14
     ·obtain ⟨i0,i1⟩:=f2 (decide_eq_true (by omega))
      have cB:=fn_believes34 (T:=T) p hp hc0 n.i i0 i1 a b
      rw [show believesL p n.i a b=valL p n.hd a b by unfold valL;simp only [show n.hd.op=14 from h14];rfl] at cB
      (repeat' ((conv=>whnf);first|refine TestS.decY (by omega) ?_|refine vA ?_|refine vG ?_|(refine vF ?_ ?_<;>intro hc<;>try simp only [vL] at hc)|refine vJ fun hg=>?_|refine vN ‹_› ?_|(refine vQ ?_ fun x hx=>?_;·omega)|((first|refine vO ?_ ?_|refine vP ?_ ?_);·first|omega|(simp only [vM] at *;omega))|(refine vU ?_ ?_;·kernel_rfl)|refine yD hux (by (repeat refine ⟨⟨rfl,rfl⟩,?_⟩);rfl) rfl ?_|refine yD huy (by (repeat refine ⟨⟨rfl,rfl⟩,?_⟩);rfl) rfl ?_|refine yD cB (by (repeat refine ⟨⟨rfl,rfl⟩,?_⟩);rfl) rfl ?_));all_goals try conv=>whnf
      all_goals try omega
      refine ⟨(k+1,_),[(0,0),(1,1),(2,4)],[],?_,?_,by (refine ⟨rfl,rfl,rfl,?_,?_⟩;repeat' first|exact trivial|exact rfl|refine And.intro ?_ ?_|refine ⟨_,rfl,?_⟩|decide)⟩
      ·exact ⟨hkl,by rw [hst,List.map_append];rfl⟩
      ·((simp only [vM] at *;omega))
     ·have cO:=cO a b (by omega)
      (repeat' ((conv=>whnf);first|refine TestS.decN (by omega) ?_|refine vA ?_|refine vG ?_|(refine vF ?_ ?_<;>intro hc<;>try simp only [vL] at hc)|refine vJ fun hg=>?_|refine vN ‹_› ?_|(refine vQ ?_ fun x hx=>?_;·omega)|((first|refine vO ?_ ?_|refine vP ?_ ?_);·first|omega|(simp only [vM] at *;omega))|(refine vU ?_ ?_;·kernel_rfl)|refine yD hux (by (repeat refine ⟨⟨rfl,rfl⟩,?_⟩);rfl) rfl ?_|refine yD huy (by (repeat refine ⟨⟨rfl,rfl⟩,?_⟩);rfl) rfl ?_|refine yD cO (by (repeat refine ⟨⟨rfl,rfl⟩,?_⟩);rfl) rfl ?_));all_goals try conv=>whnf
      all_goals try omega
      refine ⟨(k+1,_),[(0,0),(1,1),(2,4)],[],?_,?_,by (refine ⟨rfl,rfl,rfl,?_,?_⟩;repeat' first|exact trivial|exact rfl|refine And.intro ?_ ?_|refine ⟨_,rfl,?_⟩|decide)⟩
      ·exact ⟨hkl,by rw [hst,List.map_append];rfl⟩
      ·((simp only [vM] at *;omega))
  ·have ek:k=(cL f).length:=by omega
   subst ek
   rw [List.take_length] at hl ⊢
   (repeat' ((conv=>whnf);first|refine vA ?_|(refine vF ?_ ?_<;>intro hc<;>try simp only [vL] at hc)|refine vJ fun hg=>?_|(refine vQ ?_ fun x hx=>?_;·first|omega|(simp only [vM] at *;omega))|((first|refine vO ?_ ?_|refine vP ?_ ?_);·(simp only [vM] at *;omega))|fail));all_goals try conv=>whnf
   all_goals try omega
   rw [show ((((sets (valL p) 0#64 (cL f) []).map D.u64).length:Int) - 1).toNat=(cL f).length - 1 by rw [List.length_map];omega] at hx
   rw [getD_of hx];rfl
 ·have e:holdsL p f=(0#64,2):=by rw [holdsL,if_neg (by omega),if_neg (by omega),if_neg (by omega),if_pos ‹_›]
  rw [e];rfl
end Go.Ab
namespace Go.Ab
open Go Go.Proofs
set_option linter.unusedSimpArgs false
set_option linter.unusedVariables false
set_option maxRecDepth 10000
set_option maxHeartbeats 4000000
variable {T:Nat→Obj→Prop}
theorem fn_At34 (p:PM) (hp:IntsOk p.rank) (w:Int) (f:List Nd):Fn Tryz.prog T f_wittingref34_At [.d (dPM p),.d (.int .i64 w),.d (dF f)] [] (.d (dBE (atL p w f))) []:=by
 refine fn_dataR hmix k_wittingref34_At (by show 3≤30;decide) ?_
 (repeat' ((conv=>whnf);first|refine vA ?_|((first|refine vD ?_ ?_|refine vF ?_ ?_)<;>intro hc<;>try simp only [vL] at hc)|refine yN (fn_Holds34 p hp f) ⟨⟨rfl,rfl⟩,⟨rfl,rfl⟩,rfl⟩ ?_));all_goals try conv=>whnf
 ·have e:atL p w f=(false,(holdsL p f).2):=if_pos ‹_›
  rw [e];rfl
 ·have e:atL p w f=(false,2):=by rw [atL,if_neg (by omega),if_pos (.inl ‹_›)]
  rw [e];rfl
 ·have e:atL p w f=(false,2):=by rw [atL,if_neg (by omega),if_pos (.inr ‹_›)]
  rw [e];rfl
 ·have e:atL p w f=((holdsL p f).1.getLsbD w.toNat,0):=by rw [atL,if_neg (by omega),if_neg (by omega)]
  have c:=fn_has (T:=T) (holdsL p f).1 w.toNat
  rw [show ((w.toNat:Nat):Int)=w by omega] at c
  (repeat' ((conv=>whnf);refine yD c ⟨⟨rfl,rfl⟩,⟨rfl,rfl⟩,rfl⟩ rfl ?_));all_goals try conv=>whnf
  rw [e];rfl
end Go.Ab
