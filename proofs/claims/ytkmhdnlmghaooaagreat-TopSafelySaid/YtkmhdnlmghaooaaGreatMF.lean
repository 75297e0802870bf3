/- A part of the proofs of this seat: functions and their contracts. -/
import Derived.Test.YtkmhdnlmghaooaaGreatME
import Derived.Sort.LotD4
set_option linter.unusedVariables false
set_option linter.unusedSimpArgs false
set_option linter.unusedSectionVars false
namespace Go.Ab
open Go Go.Proofs
set_option maxRecDepth 10000
set_option maxHeartbeats 4000000
variable {T:Nat→Obj→Prop}
abbrev cNd (x:Nd):List V:=[.d (.int .i64 x.op),.d (.int .i64 x.i),.d (.int .i64 x.e),.d (.int .i64 x.g),.d (.int .i64 x.x),.d (.int .i64 x.y)]
theorem zvV {α:Type} {l:List α} {j:Nat} {n:α} (h:l[j]? = some n):l.take (j+1)=l.take j++[n]:=by rw [List.take_add_one,h];rfl
theorem zz3 {f c:List Nd} {j:Nat} {n:Nd} (h:c[j]? = some n):(f++(c.take (j+1)).map (zaz f.length)).map dNd=(f++(c.take j).map (zaz f.length)).map dNd++[dNd (zaz f.length n)]:=by
 rw [zvV h];simp
set_option maxHeartbeats 40000000 in
theorem zhA (x0:Nd) (os:List (List Nd)) (hos:os.length≤2):Fn Tryz.prog T zhY [.d (dNd x0),.d (.arr 1 (os.map dF))] [] (.d (dF (z8 x0 os))) []:=by
 refine zb zn zoZ (by show 2≤85;decide) ?_
 (repeat' ((conv=>whnf);first|refine vA ?_|refine vB fun b hb=>?_|refine vC (fun hl=>?_) fun i kv vv hi=>?_|refine vE ?_|refine vG ?_|refine vH ?_|((first|refine vD ?_ ?_|refine vF ?_ ?_|refine vI ?_ ?_)<;>intro hc<;>try simp only [vL] at hc)|refine vJ fun hg=>?_|refine vK fun hg=>?_|refine vT ?_|refine vN ‹_› ?_|(refine vQ ?_ fun x hx=>?_;·first|omega|(simp only [vM] at *;omega))|((first|refine vO ?_ ?_|refine vR ?_ ‹_› ?_|refine vS ?_ fun x hx=>?_|refine vP ?_ ?_);·first|omega|(simp only [vM] at *;omega))|refine vW ⟨by omega,by omega⟩ ?_|(refine vU ?_ ?_;·kernel_rfl)|refine vX ?_|refine vY ?_|refine vZ ?_|refine zaa.mk _ ‹_› ?_|refine vP (show (_:BitVec 64)≠_ by decide) ?_));all_goals try conv=>whnf
 refine zt (fun ((k,x',f):Nat×Nd×List Nd)=>[(2,.ptr 0 0),(5,.own 1),(14,.d (.arr 1 (os.map dF))),(15,.d (.int .i64 ((os.map dF).length:Int))),(16,.d (.int .i64 ((k:Int))))]) (fun ((k,x',f):Nat×Nd×List Nd)=>[(0,some (.box (cNd x'))),(1,some (.row 6 (f.map dNd)))]) 2 (fun ((k,x',f):Nat×Nd×List Nd)=>k≤os.length∧zd5 k f x' (os.drop k)=zd5 0 [] x0 os∧zan f∧f.length≤200 * k) (fun ((k,x',f):Nat×Nd×List Nd)=>os.length - k) ((0,x0,[])) [(0,0)]   [1] (⟨by simp,rfl,zcf,by simp⟩) (by (refine ⟨rfl,rfl,rfl,?_,?_⟩;repeat' first|exact trivial|exact rfl|exact ⟨_,rfl⟩|exact .inl rfl|exact .inr (.inl ⟨rfl,rfl⟩)|exact .inr (.inr ⟨rfl,rfl⟩)|refine And.intro ?_ ?_|refine ⟨_,rfl,?_⟩|decide|exact of_decide_eq_true rfl)) ?_
 rintro ⟨k,x',f⟩ ⟨hk,hI,hf,hfl⟩
 (repeat' ((conv=>whnf);first|refine vA ?_|refine vB fun b hb=>?_|refine vC (fun hl=>?_) fun i kv vv hi=>?_|refine vE ?_|refine vG ?_|refine vH ?_|((first|refine vD ?_ ?_|refine vF ?_ ?_|refine vI ?_ ?_)<;>intro hc<;>try simp only [vL] at hc)|refine vJ fun hg=>?_|refine vK fun hg=>?_|refine vT ?_|refine vN ‹_› ?_|(refine vQ ?_ fun x hx=>?_;·first|omega|(simp only [vM] at *;omega))|((first|refine vO ?_ ?_|refine vR ?_ ‹_› ?_|refine vS ?_ fun x hx=>?_|refine vP ?_ ?_);·first|omega|(simp only [vM] at *;omega))|refine vW ⟨by omega,by omega⟩ ?_|(refine vU ?_ ?_;·kernel_rfl)|refine vX ?_|refine vY ?_|refine vZ ?_|refine yD (zgc _) ⟨⟨rfl,rfl⟩,rfl⟩ rfl ?_|refine yN (zio _) ⟨⟨rfl,rfl⟩,rfl⟩ ?_|refine zaa.mk _ ‹_› ?_|refine vP (show (_:BitVec 64)≠_ by decide) ?_));all_goals try conv=>whnf
 ·have hne:=‹zbi _≠0›
  rw [zbw hx,zd5,if_pos hne] at hI
  have e:z8 x0 os=[]:=by rw [z8,← hI]
  rw [e];rfl
 ·have h0:=‹zbi _=0›
  revert hx h0
  generalize x=o
  intro hx h0
  have hkl:k < os.length:=(List.getElem?_eq_some_iff.1 hx).1
  rw [zbw hx,zd5,if_neg (not_not_intro h0)] at hI
  have hco:=zpv o
  have hcl:=zso o
  have hfn:f.length≤200:=by omega
  refine zt (fun ((j,ys):Nat×List D)=>[(2,.ptr 0 0),(5,.own 1),(6,.d (.int .i64 ((k:Int)))),(8,.d (.int .i64 ((((f.map dNd).length:Nat):Int)))),(14,.d (.arr 1 (os.map dF))),(15,.d (.int .i64 ((os.map dF).length:Int))),(16,.d (.int .i64 ((k:Int)))),(27,.d (dF (cL o))),(28,.d (.int .i64 (((cL o).map dNd).length:Int))),(29,.d (.int .i64 ((j:Int))))]) (fun ((j,ys):Nat×List D)=>[(0,some (.box (cNd x'))),(1,some (.row 6 ys))]) 2 (fun ((j,ys):Nat×List D)=>j≤(cL o).length∧ys=(f++((cL o).take j).map (zaz f.length)).map dNd) (fun ((j,ys):Nat×List D)=>(cL o).length - j) ((0,f.map dNd)) [(0,0),(1,1)] [] (⟨by simp,by simp⟩) (by (refine ⟨rfl,rfl,rfl,?_,?_⟩;repeat' first|exact trivial|exact rfl|exact ⟨_,rfl⟩|exact .inl rfl|exact .inr (.inl ⟨rfl,rfl⟩)|exact .inr (.inr ⟨rfl,rfl⟩)|refine And.intro ?_ ?_|refine ⟨_,rfl,?_⟩|decide|exact of_decide_eq_true rfl)) ?_
  rintro ⟨j,_⟩ ⟨hj,rfl⟩
  by_cases hjl:j < (cL o).length
  ·obtain ⟨n,hn⟩ : ∃ n,(cL o)[j]? = some n:=⟨(cL o)[j],by simp [hjl]⟩
   have hst:=zz3 (f:=f) hn
   have hl:(f++((cL o).take j).map (zaz f.length)).length=f.length+j:=by simp;omega
   obtain ⟨-,nx,-,ny,-⟩:=zaC.1 (hco j n hn)
   cases hux:z7 n.op with
   | false =>
    have huy:zQ n.op=false:=by
     cases hy:zQ n.op with
     | true=>rw [zar hy] at hux;cases hux
     | false=>rfl
    have hu:=zej (T:=T) hux huy
    have es:zaz f.length n=n:=by simp [zaz,hux,huy]
    rw [es] at hst
    (repeat' ((conv=>whnf);first|refine vA ?_|refine vB fun b hb=>?_|refine vC (fun hl=>?_) fun i kv vv hi=>?_|refine vE ?_|refine vG ?_|refine vH ?_|((first|refine vD ?_ ?_|refine vF ?_ ?_|refine vI ?_ ?_)<;>intro hc<;>try simp only [vL] at hc)|refine vJ fun hg=>?_|refine vK fun hg=>?_|refine vT ?_|refine vN ‹_› ?_|(refine vQ ?_ fun x hx=>?_;·first|omega|(simp only [vM] at *;omega))|((first|refine vO ?_ ?_|refine vR ?_ ‹_› ?_|refine vS ?_ fun x hx=>?_|refine vP ?_ ?_);·first|omega|(simp only [vM] at *;omega))|refine vW ⟨by omega,by omega⟩ ?_|(refine vU ?_ ?_;·kernel_rfl)|refine vX ?_|refine vY ?_|refine vZ ?_|refine yD hu (by (repeat refine ⟨⟨rfl,rfl⟩,?_⟩);rfl) rfl ?_|refine yN hu (by (repeat refine ⟨⟨rfl,rfl⟩,?_⟩);rfl) ?_|refine zaa.mk _ ‹_› ?_|refine vP (show (_:BitVec 64)≠_ by decide) ?_));all_goals try conv=>whnf
    ·refine ⟨(j+1,_),[(0,0),(1,5)],[],?_,?_,by (refine ⟨rfl,rfl,rfl,?_,?_⟩;repeat' first|exact trivial|exact rfl|exact ⟨_,rfl⟩|exact .inl rfl|exact .inr (.inl ⟨rfl,rfl⟩)|exact .inr (.inr ⟨rfl,rfl⟩)|refine And.intro ?_ ?_|refine ⟨_,rfl,?_⟩|decide|exact of_decide_eq_true rfl)⟩
     ·exact ⟨hjl,hst.symm⟩
     ·(first|omega|(simp only [vM] at *;omega))
    all_goals omega
   | true =>
    have nx:=nx hux
    cases huy:zQ n.op with
    | false =>
     have hu:=zej (T:=T) hux huy
     have es:zaz f.length n=⟨n.op,n.i,n.e,n.g,n.x+(((f.map dNd).length:Nat):Int),n.y⟩:=by simp [zaz,hux,huy]
     rw [es] at hst
     (repeat' ((conv=>whnf);first|refine vA ?_|refine vB fun b hb=>?_|refine vC (fun hl=>?_) fun i kv vv hi=>?_|refine vE ?_|refine vG ?_|refine vH ?_|((first|refine vD ?_ ?_|refine vF ?_ ?_|refine vI ?_ ?_)<;>intro hc<;>try simp only [vL] at hc)|refine vJ fun hg=>?_|refine vK fun hg=>?_|refine vT ?_|refine vN ‹_› ?_|(refine vQ ?_ fun x hx=>?_;·first|omega|(simp only [vM] at *;omega))|((first|refine vO ?_ ?_|refine vR ?_ ‹_› ?_|refine vS ?_ fun x hx=>?_|refine vP ?_ ?_);·first|omega|(simp only [vM] at *;omega))|refine vW ⟨by omega,by omega⟩ ?_|(refine vU ?_ ?_;·kernel_rfl)|refine vX ?_|refine vY ?_|refine vZ ?_|refine yD hu (by (repeat refine ⟨⟨rfl,rfl⟩,?_⟩);rfl) rfl ?_|refine yN hu (by (repeat refine ⟨⟨rfl,rfl⟩,?_⟩);rfl) ?_|refine zaa.mk _ ‹_› ?_|refine vP (show (_:BitVec 64)≠_ by decide) ?_));all_goals try conv=>whnf
     ·refine ⟨(j+1,_),[(0,0),(1,5)],[],?_,?_,by (refine ⟨rfl,rfl,rfl,?_,?_⟩;repeat' first|exact trivial|exact rfl|exact ⟨_,rfl⟩|exact .inl rfl|exact .inr (.inl ⟨rfl,rfl⟩)|exact .inr (.inr ⟨rfl,rfl⟩)|refine And.intro ?_ ?_|refine ⟨_,rfl,?_⟩|decide|exact of_decide_eq_true rfl)⟩
      ·exact ⟨hjl,hst.symm⟩
      ·(first|omega|(simp only [vM] at *;omega))
     all_goals omega
    | true =>
     have ny:=ny huy
     have hu:=zej (T:=T) hux huy
     have es:zaz f.length n=⟨n.op,n.i,n.e,n.g,n.x+(((f.map dNd).length:Nat):Int),n.y+(((f.map dNd).length:Nat):Int)⟩:=by simp [zaz,hux,huy]
     rw [es] at hst
     (repeat' ((conv=>whnf);first|refine vA ?_|refine vB fun b hb=>?_|refine vC (fun hl=>?_) fun i kv vv hi=>?_|refine vE ?_|refine vG ?_|refine vH ?_|((first|refine vD ?_ ?_|refine vF ?_ ?_|refine vI ?_ ?_)<;>intro hc<;>try simp only [vL] at hc)|refine vJ fun hg=>?_|refine vK fun hg=>?_|refine vT ?_|refine vN ‹_› ?_|(refine vQ ?_ fun x hx=>?_;·first|omega|(simp only [vM] at *;omega))|((first|refine vO ?_ ?_|refine vR ?_ ‹_› ?_|refine vS ?_ fun x hx=>?_|refine vP ?_ ?_);·first|omega|(simp only [vM] at *;omega))|refine vW ⟨by omega,by omega⟩ ?_|(refine vU ?_ ?_;·kernel_rfl)|refine vX ?_|refine vY ?_|refine vZ ?_|refine yD hu (by (repeat refine ⟨⟨rfl,rfl⟩,?_⟩);rfl) rfl ?_|refine yN hu (by (repeat refine ⟨⟨rfl,rfl⟩,?_⟩);rfl) ?_|refine zaa.mk _ ‹_› ?_|refine vP (show (_:BitVec 64)≠_ by decide) ?_));all_goals try conv=>whnf
     ·refine ⟨(j+1,_),[(0,0),(1,5)],[],?_,?_,by (refine ⟨rfl,rfl,rfl,?_,?_⟩;repeat' first|exact trivial|exact rfl|exact ⟨_,rfl⟩|exact .inl rfl|exact .inr (.inl ⟨rfl,rfl⟩)|exact .inr (.inr ⟨rfl,rfl⟩)|refine And.intro ?_ ?_|refine ⟨_,rfl,?_⟩|decide|exact of_decide_eq_true rfl)⟩
      ·exact ⟨hjl,hst.symm⟩
      ·(first|omega|(simp only [vM] at *;omega))
     all_goals omega
  ·have ej:j=(cL o).length:=by omega
   subst ej
   rw [List.take_length]
   have hl2:(zae f (cL o)).length=f.length+(cL o).length:=by simp [zae]
   have hok2:=zf2 hf hco
   have elen:((((zae f (cL o)).map dNd).length:Nat):Int) - 1=((zae f (cL o)).length:Int) - 1:=by rw [List.length_map]
   rw [← elen] at hI
   (repeat' ((conv=>whnf);first|refine vA ?_|refine vB fun b hb=>?_|refine vC (fun hl=>?_) fun i kv vv hi=>?_|refine vE ?_|refine vG ?_|refine vH ?_|((first|refine vD ?_ ?_|refine vF ?_ ?_|refine vI ?_ ?_)<;>intro hc<;>try simp only [vL] at hc)|refine vJ fun hg=>?_|refine vK fun hg=>?_|refine vT ?_|refine vN ‹_› ?_|(refine vQ ?_ fun x hx=>?_;·first|omega|(simp only [vM] at *;omega))|((first|refine vO ?_ ?_|refine vR ?_ ‹_› ?_|refine vS ?_ fun x hx=>?_|refine vP ?_ ?_);·first|omega|(simp only [vM] at *;omega))|refine vW ⟨by omega,by omega⟩ ?_|(refine vU ?_ ?_;·kernel_rfl)|refine vX ?_|refine vY ?_|refine vZ ?_|refine zaa.mk _ ‹_› ?_|refine vP (show (_:BitVec 64)≠_ by decide) ?_));all_goals try conv=>whnf
   ·omega
   ·have e0:k=0:=by omega
    rw [if_pos e0] at hI
    exact ⟨(k+1,{ x' with x:=(((zae f (cL o)).map dNd).length:Int) - 1 },zae f (cL o)),[(0,0),(1,1)],[],⟨hkl,hI,hok2,by omega⟩,by (first|omega|(simp only [vM] at *;omega)),by (refine ⟨rfl,rfl,rfl,?_,?_⟩;repeat' first|exact trivial|exact rfl|exact ⟨_,rfl⟩|exact .inl rfl|exact .inr (.inl ⟨rfl,rfl⟩)|exact .inr (.inr ⟨rfl,rfl⟩)|refine And.intro ?_ ?_|refine ⟨_,rfl,?_⟩|decide|exact of_decide_eq_true rfl)⟩
   ·have e0 : ¬k=0:=by omega
    rw [if_neg e0] at hI
    exact ⟨(k+1,{ x' with y:=(((zae f (cL o)).map dNd).length:Int) - 1 },zae f (cL o)),[(0,0),(1,1)],[],⟨hkl,hI,hok2,by omega⟩,by (first|omega|(simp only [vM] at *;omega)),by (refine ⟨rfl,rfl,rfl,?_,?_⟩;repeat' first|exact trivial|exact rfl|exact ⟨_,rfl⟩|exact .inl rfl|exact .inr (.inl ⟨rfl,rfl⟩)|exact .inr (.inr ⟨rfl,rfl⟩)|refine And.intro ?_ ?_|refine ⟨_,rfl,?_⟩|decide|exact of_decide_eq_true rfl)⟩
 ·have ek:k=os.length:=by omega
  subst ek
  rw [List.drop_eq_nil_of_le (Nat.le_refl _),zd5] at hI
  have eB:z8 x0 os=zca x' f:=by rw [z8,← hI]
  rw [eB]
  have hE:=zlf (T:=T) x' ((((f.map dNd).length:Nat):Int))
  (repeat' ((conv=>whnf);first|refine vA ?_|refine vB fun b hb=>?_|refine vC (fun hl=>?_) fun i kv vv hi=>?_|refine vE ?_|refine vG ?_|refine vH ?_|((first|refine vD ?_ ?_|refine vF ?_ ?_|refine vI ?_ ?_)<;>intro hc<;>try simp only [vL] at hc)|refine vJ fun hg=>?_|refine vK fun hg=>?_|refine vT ?_|refine vN ‹_› ?_|(refine vQ ?_ fun x hx=>?_;·first|omega|(simp only [vM] at *;omega))|((first|refine vO ?_ ?_|refine vR ?_ ‹_› ?_|refine vS ?_ fun x hx=>?_|refine vP ?_ ?_);·first|omega|(simp only [vM] at *;omega))|refine vW ⟨by omega,by omega⟩ ?_|(refine vU ?_ ?_;·kernel_rfl)|refine vX ?_|refine vY ?_|refine vZ ?_|refine yD hE ⟨⟨rfl,rfl⟩,⟨rfl,rfl⟩,rfl⟩ rfl ?_|refine zaa.mk _ ‹_› ?_|refine vP (show (_:BitVec 64)≠_ by decide) ?_));all_goals try conv=>whnf
  ·have e2:zca x' f=[]:=if_pos ‹_›
   rw [e2];rfl
  ·have hn:=‹zbM x' _=0›
   have hok:zan (f++[x']):=by
    intro k n hk
    rw [List.getElem?_append] at hk
    split at hk
    ·exact hf k n hk
    ·rename_i h1
     have:k=f.length:=by have:=(List.getElem?_eq_some_iff.1 hk).1;simp at this;omega
     subst this
     simp at hk;subst hk;exact hn
   have cB:=zoL (T:=T) hok (by simp;omega) (k:=f.length) (i:=(((f.map dNd).length:Nat):Int)) (by rw [List.length_map]) (by simp)
   rw [show dF (f++[x']) = .arr 6 (f.map dNd++[dNd x']) by simp] at cB
   refine zw.dataN (cB) (by (repeat refine ⟨⟨rfl,rfl⟩,?_⟩);rfl) ?_
   (repeat' ((conv=>whnf);first|refine vA ?_|refine vB fun b hb=>?_|refine vC (fun hl=>?_) fun i kv vv hi=>?_|refine vE ?_|refine vG ?_|refine vH ?_|((first|refine vD ?_ ?_|refine vF ?_ ?_|refine vI ?_ ?_)<;>intro hc<;>try simp only [vL] at hc)|refine vJ fun hg=>?_|refine vK fun hg=>?_|refine vT ?_|refine vN ‹_› ?_|(refine vQ ?_ fun x hx=>?_;·first|omega|(simp only [vM] at *;omega))|((first|refine vO ?_ ?_|refine vR ?_ ‹_› ?_|refine vS ?_ fun x hx=>?_|refine vP ?_ ?_);·first|omega|(simp only [vM] at *;omega))|refine vW ⟨by omega,by omega⟩ ?_|(refine vU ?_ ?_;·kernel_rfl)|refine vX ?_|refine vY ?_|refine vZ ?_|refine zaa.mk _ ‹_› ?_|refine vP (show (_:BitVec 64)≠_ by decide) ?_));all_goals try conv=>whnf
   ·have e2:zca x' f=[]:=by rw [zca,if_neg (by omega),if_pos (by omega)]
    rw [e2];rfl
   ·have e2:zca x' f=zbp (f++[x']) f.length:=by rw [zca,if_neg (by omega),if_neg (by omega)]
    rw [e2];rfl
end Go.Ab
namespace Go.Ab
open Go Go.Proofs
set_option maxRecDepth 10000
set_option maxHeartbeats 4000000
variable {T:Nat→Obj→Prop}
theorem zBq (a:Int) (f:List Nd):Fn Tryz.prog T ziP [.d (.int .i64 a),.d (dF f)] [] (.d (dF (z8 ⟨9,a,0,0,0,0⟩ [f]))) []:=by
 refine zb zn zp0 (by show 2≤10;decide) ?_
 (repeat' ((conv=>whnf);first|refine vA ?_|refine vB fun b hb=>?_|refine vC (fun hl=>?_) fun i kv vv hi=>?_|refine vE ?_|refine vG ?_|refine vH ?_|((first|refine vD ?_ ?_|refine vF ?_ ?_|refine vI ?_ ?_)<;>intro hc<;>try simp only [vL] at hc)|refine vJ fun hg=>?_|refine vK fun hg=>?_|refine vT ?_|refine vN ‹_› ?_|(refine vQ ?_ fun x hx=>?_;·first|omega|(simp only [vM] at *;omega))|((first|refine vO ?_ ?_|refine vR ?_ ‹_› ?_|refine vS ?_ fun x hx=>?_|refine vP ?_ ?_);·first|omega|(simp only [vM] at *;omega))|refine vW ⟨by omega,by omega⟩ ?_|(refine vU ?_ ?_;·kernel_rfl)|refine vX ?_|refine vY ?_|refine vZ ?_|refine zaa.mk _ ‹_› ?_|refine vP (show (_:BitVec 64)≠_ by decide) ?_));all_goals try conv=>whnf
 refine zw.dataN (zhA ⟨9,a,0,0,0,0⟩ [f] (by simp)) (by (repeat refine ⟨⟨rfl,rfl⟩,?_⟩);rfl) ?_
 (repeat' ((conv=>whnf);first|refine vA ?_|refine vB fun b hb=>?_|refine vC (fun hl=>?_) fun i kv vv hi=>?_|refine vE ?_|refine vG ?_|refine vH ?_|((first|refine vD ?_ ?_|refine vF ?_ ?_|refine vI ?_ ?_)<;>intro hc<;>try simp only [vL] at hc)|refine vJ fun hg=>?_|refine vK fun hg=>?_|refine vT ?_|refine vN ‹_› ?_|(refine vQ ?_ fun x hx=>?_;·first|omega|(simp only [vM] at *;omega))|((first|refine vO ?_ ?_|refine vR ?_ ‹_› ?_|refine vS ?_ fun x hx=>?_|refine vP ?_ ?_);·first|omega|(simp only [vM] at *;omega))|refine vW ⟨by omega,by omega⟩ ?_|(refine vU ?_ ?_;·kernel_rfl)|refine vX ?_|refine vY ?_|refine vZ ?_|refine zaa.mk _ ‹_› ?_|refine vP (show (_:BitVec 64)≠_ by decide) ?_));all_goals try conv=>whnf
 rfl
theorem zBr (a:Int) (f:List Nd):Fn Tryz.prog T ziQ [.d (.int .i64 a),.d (dF f)] [] (.d (dF (z8 ⟨10,a,0,0,0,0⟩ [f]))) []:=by
 refine zb zn zp1 (by show 2≤10;decide) ?_
 (repeat' ((conv=>whnf);first|refine vA ?_|refine vB fun b hb=>?_|refine vC (fun hl=>?_) fun i kv vv hi=>?_|refine vE ?_|refine vG ?_|refine vH ?_|((first|refine vD ?_ ?_|refine vF ?_ ?_|refine vI ?_ ?_)<;>intro hc<;>try simp only [vL] at hc)|refine vJ fun hg=>?_|refine vK fun hg=>?_|refine vT ?_|refine vN ‹_› ?_|(refine vQ ?_ fun x hx=>?_;·first|omega|(simp only [vM] at *;omega))|((first|refine vO ?_ ?_|refine vR ?_ ‹_› ?_|refine vS ?_ fun x hx=>?_|refine vP ?_ ?_);·first|omega|(simp only [vM] at *;omega))|refine vW ⟨by omega,by omega⟩ ?_|(refine vU ?_ ?_;·kernel_rfl)|refine vX ?_|refine vY ?_|refine vZ ?_|refine zaa.mk _ ‹_› ?_|refine vP (show (_:BitVec 64)≠_ by decide) ?_));all_goals try conv=>whnf
 refine zw.dataN (zhA ⟨10,a,0,0,0,0⟩ [f] (by simp)) (by (repeat refine ⟨⟨rfl,rfl⟩,?_⟩);rfl) ?_
 (repeat' ((conv=>whnf);first|refine vA ?_|refine vB fun b hb=>?_|refine vC (fun hl=>?_) fun i kv vv hi=>?_|refine vE ?_|refine vG ?_|refine vH ?_|((first|refine vD ?_ ?_|refine vF ?_ ?_|refine vI ?_ ?_)<;>intro hc<;>try simp only [vL] at hc)|refine vJ fun hg=>?_|refine vK fun hg=>?_|refine vT ?_|refine vN ‹_› ?_|(refine vQ ?_ fun x hx=>?_;·first|omega|(simp only [vM] at *;omega))|((first|refine vO ?_ ?_|refine vR ?_ ‹_› ?_|refine vS ?_ fun x hx=>?_|refine vP ?_ ?_);·first|omega|(simp only [vM] at *;omega))|refine vW ⟨by omega,by omega⟩ ?_|(refine vU ?_ ?_;·kernel_rfl)|refine vX ?_|refine vY ?_|refine vZ ?_|refine zaa.mk _ ‹_› ?_|refine vP (show (_:BitVec 64)≠_ by decide) ?_));all_goals try conv=>whnf
 rfl
theorem zBs (a:Int) (f:List Nd):Fn Tryz.prog T ziR [.d (.int .i64 a),.d (dF f)] [] (.d (dF (z8 ⟨15,a,0,0,0,0⟩ [f]))) []:=by
 refine zb zn zp2 (by show 2≤10;decide) ?_
 (repeat' ((conv=>whnf);first|refine vA ?_|refine vB fun b hb=>?_|refine vC (fun hl=>?_) fun i kv vv hi=>?_|refine vE ?_|refine vG ?_|refine vH ?_|((first|refine vD ?_ ?_|refine vF ?_ ?_|refine vI ?_ ?_)<;>intro hc<;>try simp only [vL] at hc)|refine vJ fun hg=>?_|refine vK fun hg=>?_|refine vT ?_|refine vN ‹_› ?_|(refine vQ ?_ fun x hx=>?_;·first|omega|(simp only [vM] at *;omega))|((first|refine vO ?_ ?_|refine vR ?_ ‹_› ?_|refine vS ?_ fun x hx=>?_|refine vP ?_ ?_);·first|omega|(simp only [vM] at *;omega))|refine vW ⟨by omega,by omega⟩ ?_|(refine vU ?_ ?_;·kernel_rfl)|refine vX ?_|refine vY ?_|refine vZ ?_|refine zaa.mk _ ‹_› ?_|refine vP (show (_:BitVec 64)≠_ by decide) ?_));all_goals try conv=>whnf
 refine zw.dataN (zhA ⟨15,a,0,0,0,0⟩ [f] (by simp)) (by (repeat refine ⟨⟨rfl,rfl⟩,?_⟩);rfl) ?_
 (repeat' ((conv=>whnf);first|refine vA ?_|refine vB fun b hb=>?_|refine vC (fun hl=>?_) fun i kv vv hi=>?_|refine vE ?_|refine vG ?_|refine vH ?_|((first|refine vD ?_ ?_|refine vF ?_ ?_|refine vI ?_ ?_)<;>intro hc<;>try simp only [vL] at hc)|refine vJ fun hg=>?_|refine vK fun hg=>?_|refine vT ?_|refine vN ‹_› ?_|(refine vQ ?_ fun x hx=>?_;·first|omega|(simp only [vM] at *;omega))|((first|refine vO ?_ ?_|refine vR ?_ ‹_› ?_|refine vS ?_ fun x hx=>?_|refine vP ?_ ?_);·first|omega|(simp only [vM] at *;omega))|refine vW ⟨by omega,by omega⟩ ?_|(refine vU ?_ ?_;·kernel_rfl)|refine vX ?_|refine vY ?_|refine vZ ?_|refine zaa.mk _ ‹_› ?_|refine vP (show (_:BitVec 64)≠_ by decide) ?_));all_goals try conv=>whnf
 rfl
theorem zA6 (a:Int) (f:List Nd) (g:List Nd):Fn Tryz.prog T zhy [.d (.int .i64 a),.d (dF f),.d (dF g)] [] (.d (dF (z8 ⟨14,a,0,0,0,0⟩ [f,g]))) []:=by
 refine zb zn znJ (by show 3≤13;decide) ?_
 (repeat' ((conv=>whnf);first|refine vA ?_|refine vB fun b hb=>?_|refine vC (fun hl=>?_) fun i kv vv hi=>?_|refine vE ?_|refine vG ?_|refine vH ?_|((first|refine vD ?_ ?_|refine vF ?_ ?_|refine vI ?_ ?_)<;>intro hc<;>try simp only [vL] at hc)|refine vJ fun hg=>?_|refine vK fun hg=>?_|refine vT ?_|refine vN ‹_› ?_|(refine vQ ?_ fun x hx=>?_;·first|omega|(simp only [vM] at *;omega))|((first|refine vO ?_ ?_|refine vR ?_ ‹_› ?_|refine vS ?_ fun x hx=>?_|refine vP ?_ ?_);·first|omega|(simp only [vM] at *;omega))|refine vW ⟨by omega,by omega⟩ ?_|(refine vU ?_ ?_;·kernel_rfl)|refine vX ?_|refine vY ?_|refine vZ ?_|refine zaa.mk _ ‹_› ?_|refine vP (show (_:BitVec 64)≠_ by decide) ?_));all_goals try conv=>whnf
 refine zw.dataN (zhA ⟨14,a,0,0,0,0⟩ [f,g] (by simp)) (by (repeat refine ⟨⟨rfl,rfl⟩,?_⟩);rfl) ?_
 (repeat' ((conv=>whnf);first|refine vA ?_|refine vB fun b hb=>?_|refine vC (fun hl=>?_) fun i kv vv hi=>?_|refine vE ?_|refine vG ?_|refine vH ?_|((first|refine vD ?_ ?_|refine vF ?_ ?_|refine vI ?_ ?_)<;>intro hc<;>try simp only [vL] at hc)|refine vJ fun hg=>?_|refine vK fun hg=>?_|refine vT ?_|refine vN ‹_› ?_|(refine vQ ?_ fun x hx=>?_;·first|omega|(simp only [vM] at *;omega))|((first|refine vO ?_ ?_|refine vR ?_ ‹_› ?_|refine vS ?_ fun x hx=>?_|refine vP ?_ ?_);·first|omega|(simp only [vM] at *;omega))|refine vW ⟨by omega,by omega⟩ ?_|(refine vU ?_ ?_;·kernel_rfl)|refine vX ?_|refine vY ?_|refine vZ ?_|refine zaa.mk _ ‹_› ?_|refine vP (show (_:BitVec 64)≠_ by decide) ?_));all_goals try conv=>whnf
 rfl
theorem zBt  : Fn Tryz.prog T ziS [] [] (.d (dF (z8 ⟨1,0,0,0,0,0⟩ []))) []:=by
 refine zb zn zp3 (by show 0≤3;decide) ?_
 (repeat' ((conv=>whnf);first|refine vA ?_|refine vB fun b hb=>?_|refine vC (fun hl=>?_) fun i kv vv hi=>?_|refine vE ?_|refine vG ?_|refine vH ?_|((first|refine vD ?_ ?_|refine vF ?_ ?_|refine vI ?_ ?_)<;>intro hc<;>try simp only [vL] at hc)|refine vJ fun hg=>?_|refine vK fun hg=>?_|refine vT ?_|refine vN ‹_› ?_|(refine vQ ?_ fun x hx=>?_;·first|omega|(simp only [vM] at *;omega))|((first|refine vO ?_ ?_|refine vR ?_ ‹_› ?_|refine vS ?_ fun x hx=>?_|refine vP ?_ ?_);·first|omega|(simp only [vM] at *;omega))|refine vW ⟨by omega,by omega⟩ ?_|(refine vU ?_ ?_;·kernel_rfl)|refine vX ?_|refine vY ?_|refine vZ ?_|refine zaa.mk _ ‹_› ?_|refine vP (show (_:BitVec 64)≠_ by decide) ?_));all_goals try conv=>whnf
 refine zw.dataN (zhA ⟨1,0,0,0,0,0⟩ [] (by simp)) (by (repeat refine ⟨⟨rfl,rfl⟩,?_⟩);rfl) ?_
 (repeat' ((conv=>whnf);first|refine vA ?_|refine vB fun b hb=>?_|refine vC (fun hl=>?_) fun i kv vv hi=>?_|refine vE ?_|refine vG ?_|refine vH ?_|((first|refine vD ?_ ?_|refine vF ?_ ?_|refine vI ?_ ?_)<;>intro hc<;>try simp only [vL] at hc)|refine vJ fun hg=>?_|refine vK fun hg=>?_|refine vT ?_|refine vN ‹_› ?_|(refine vQ ?_ fun x hx=>?_;·first|omega|(simp only [vM] at *;omega))|((first|refine vO ?_ ?_|refine vR ?_ ‹_› ?_|refine vS ?_ fun x hx=>?_|refine vP ?_ ?_);·first|omega|(simp only [vM] at *;omega))|refine vW ⟨by omega,by omega⟩ ?_|(refine vU ?_ ?_;·kernel_rfl)|refine vX ?_|refine vY ?_|refine vZ ?_|refine zaa.mk _ ‹_› ?_|refine vP (show (_:BitVec 64)≠_ by decide) ?_));all_goals try conv=>whnf
 rfl
end Go.Ab
namespace Go.Ab
open Go Go.Proofs
set_option maxRecDepth 10000
set_option maxHeartbeats 4000000
variable {T : Nat → Obj → Prop}
abbrev eC {α : Type} (v : α → Int) (x : α) : D := .int .i64 (v x)
def ltC {α : Type} (c : α → α → Int) (x y : α) : Bool := decide (c x y < 0)
abbrev zat {τ : Type} (vf : τ → Int) (d : Array τ) : Ob := .row 1 (d.toList.map (eC vf))
variable {τ : Type} [Inhabited τ] {vf : τ → Int} {cf : τ → τ → Int} {fid : Nat} {y1 y2 y3 : D} (hcf : ∀ x y : τ, Fn Tryz.prog T fid [.d (.int .i64 (vf x)), .d (.int .i64 (vf y)), .d y1, .d y2, .d y3] [] (.d (.int .i64 (cf x y))) []) (hO : Sort.SWO (ltC cf))
include hcf hO
theorem zvm (d : Array (τ)) (a b : Nat) (hb : b ≤ d.size) (hs : d.size ≤ 1073741824) (ha : a ≤ b) :
    Fn Tryz.prog T zaR [.own 0, .d (.int .i64 (a : Int)), .d (.int .i64 (b : Int)), .d (.fn fid [y1, y2, y3])] [zat vf d] (.tup []) [some (zat vf (Sort.insertionSort (ltC cf) d a b))] := by
  refine zJ zn zex (by show 4 ≤ 53; decide) _ (fun e env mem n h => h) ?_
  (repeat' ((conv=>whnf);first|refine vT ?_|(refine vO ?_ ?_;·omega)|fail));all_goals try conv=>whnf
  refine zt (fun ((ii, xs) : Int × List D) => [(0, .own 0), (1, .d (.int .i64 ((a : Int)))), (2, .d (.int .i64 ((b : Int)))), (8, .d (.int .i64 (ii))), (3, .d (.fn fid [y1, y2, y3])), (za, .own 0)]) (fun ((ii, xs) : Int × List D) => [(0, some (.row 1 xs))]) 1 (fun ((ii, xs) : Int × List D) => ∃ (i : Nat) (e : Array (τ)), ii = i ∧ xs = e.toList.map (eC vf) ∧ a < i ∧ i ≤ b + 1 ∧ e.size = d.size ∧ Sort.insOuter (ltC cf) a b i e = Sort.insertionSort (ltC cf) d a b) (fun ((ii, xs) : Int × List D) => (b - ii).toNat) (((a : Int) + 1, d.toList.map (eC vf))) [(0, 0)] [] (⟨a + 1, d, by omega, rfl, by omega, by omega, rfl, rfl⟩) (by (refine ⟨rfl,rfl,rfl,?_,?_⟩;repeat' first|exact trivial|exact rfl|refine And.intro ?_ ?_|refine ⟨_,rfl,?_⟩|decide)) ?_
  rintro ⟨_, _⟩ ⟨i, e, rfl, rfl, hi, hi2, he, hI⟩
  (repeat' ((conv=>whnf);first|refine vA ?_|(refine vF ?_ ?_<;>intro hc<;>try simp only [vL] at hc)|refine vT ?_));all_goals try conv=>whnf
  · refine zt (fun ((jj, xs) : Int × List D) => [(0, .own 0), (1, .d (.int .i64 ((a : Int)))), (2, .d (.int .i64 ((b : Int)))), (8, .d (.int .i64 ((i : Int)))), (9, .d (.int .i64 (jj))), (3, .d (.fn fid [y1, y2, y3])), (za, .own 0)]) (fun ((jj, xs) : Int × List D) => [(0, some (.row 1 xs))]) 1 (fun ((jj, xs) : Int × List D) => ∃ (j : Nat) (g : Array (τ)), jj = j ∧ xs = g.toList.map (eC vf) ∧ j ≤ i ∧ g.size = d.size ∧ Sort.insInner (ltC cf) a j g = Sort.insInner (ltC cf) a i e) (fun ((jj, xs) : Int × List D) => jj.toNat) (((i : Int), e.toList.map (eC vf))) [(0, 0)] [] (⟨i, e, rfl, rfl, by omega, he, rfl⟩) (by (refine ⟨rfl,rfl,rfl,?_,?_⟩;repeat' first|exact trivial|exact rfl|refine And.intro ?_ ?_|refine ⟨_,rfl,?_⟩|decide)) ?_
    rintro ⟨_, _⟩ ⟨j, g, rfl, rfl, hj, hg, hJ⟩
    have hgl : g.toList.length = d.size := by rw [Array.length_toList]; exact hg
    have stop : ¬(a < j ∧ (ltC cf) g[j]! g[j - 1]! = true) → Sort.insOuter (ltC cf) a b (i + 1) g = Sort.insertionSort (ltC cf) d a b := fun h => by
      rw [← hI, Sort.insOuter.eq_def (ltC cf) a b i, if_pos (by omega), ← hJ, zrG h]
    (repeat' ((conv=>whnf);first|refine vA ?_|(refine vF ?_ ?_<;>intro hc<;>try simp only [vL] at hc)|refine vT ?_|refine vN ‹_› ?_|(refine vQ ?_ fun x hx=>?_;·omega)|((first|refine vO ?_ ?_|refine vP ?_ ?_);·first|omega|(simp only [vM] at *;omega))|(refine vU ?_ ?_;·kernel_rfl)|refine yD (hcf _ _) (by (repeat refine ⟨⟨rfl,rfl⟩,?_⟩);rfl) rfl ?_));all_goals try conv=>whnf
    · have e1 : ((j : Int) - 1).toNat = j - 1 := by omega
      have hx1 : g.toList[j]? = some _ := ‹g.toList[(j : Int).toNat]? = some _›
      have hx2 : g.toList[j - 1]? = some x := by rw [← e1]; exact hx
      refine ⟨(_, _), [(0, 0)], [], ?_, ?_, by (refine ⟨rfl,rfl,rfl,?_,?_⟩;repeat' first|exact trivial|exact rfl|refine And.intro ?_ ?_|refine ⟨_,rfl,?_⟩|decide)⟩
      · refine ⟨j - 1, Sort.swp g j (j - 1), by omega, ?_, by omega, by rw [swp_size, hg], ?_⟩
        · rw [e1]; exact zqw hx1 hx2
        · exact (zrF (d := g) (j := j) (by omega) (by rw [(za9 hx1).1, (za9 hx2).1]; exact decide_eq_true hc)).symm.trans hJ
      · ((simp only [vM] at *;omega))
    · have e1 : ((j : Int) - 1).toNat = j - 1 := by omega
      have hx1 : g.toList[j]? = some _ := ‹g.toList[(j : Int).toNat]? = some _›
      have hx2 : g.toList[j - 1]? = some x := by rw [← e1]; exact hx
      refine ⟨(_, _), [(0, 0)], [], ?_, ?_, by (refine ⟨rfl,rfl,rfl,?_,?_⟩;repeat' first|exact trivial|exact rfl|refine And.intro ?_ ?_|refine ⟨_,rfl,?_⟩|decide)⟩
      · exact ⟨i + 1, g, by omega, rfl, by omega, by omega, hg, stop fun h => by
          rw [(za9 hx1).1, (za9 hx2).1] at h
          have := of_decide_eq_true h.2; omega⟩
      · ((simp only [vM] at *;omega))
    · refine ⟨(_, _), [(0, 0)], [], ?_, ?_, by (refine ⟨rfl,rfl,rfl,?_,?_⟩;repeat' first|exact trivial|exact rfl|refine And.intro ?_ ?_|refine ⟨_,rfl,?_⟩|decide)⟩
      · exact ⟨i + 1, g, by omega, rfl, by omega, by omega, hg, stop fun h => by omega⟩
      · ((simp only [vM] at *;omega))
  · have e0 : Sort.insertionSort (ltC cf) d a b = e := by
      rw [← hI, Sort.insOuter, if_neg (by omega)]
    rw [e0]
    refine ⟨trivial, _, [(0, 0)], [], rfl, .inl (by (repeat' first|exact rfl|refine ⟨_,rfl,?_⟩)), ⟨by rfl, by rfl, by rfl, trivial, by (repeat' first|exact trivial|exact rfl|refine And.intro ?_ ?_|refine ⟨_,rfl,?_⟩|exact of_decide_eq_true rfl)⟩, by (repeat' first|exact trivial|exact rfl|refine And.intro ?_ ?_)⟩
theorem zt8 (d : Array τ) (root hi first : Nat) (hb : first + hi ≤ d.size) (hs : d.size ≤ 1073741824) (hr : root ≤ d.size) :
    Fn Tryz.prog T zby [.own 0, .d (.int .i64 (root : Int)), .d (.int .i64 (hi : Int)), .d (.int .i64 (first : Int)), .d (.fn fid [y1, y2, y3])] [zat vf d] (.tup []) [some (zat vf (Sort.siftDown (ltC cf) hi first root d))] := by
  refine zJ zn zfv (by show 5 ≤ 82; decide) _ (fun e env mem n h => h) ?_
  (repeat' ((conv=>whnf);refine vT ?_));all_goals try conv=>whnf
  refine zt (fun ((ii, xs) : Int × List D) => [(0, .own 0), (2, .d (.int .i64 ((hi : Int)))), (3, .d (.int .i64 ((first : Int)))), (10, .d (.int .i64 (ii))), (4, .d (.fn fid [y1, y2, y3])), (za, .own 0)]) (fun ((ii, xs) : Int × List D) => [(0, some (.row 1 xs))]) 1 (fun ((ii, xs) : Int × List D) => ∃ (i : Nat) (e : Array τ), ii = i ∧ xs = e.toList.map (eC vf) ∧ i ≤ d.size ∧ e.size = d.size ∧ Sort.siftDown (ltC cf) hi first i e = Sort.siftDown (ltC cf) hi first root d) (fun ((ii, xs) : Int × List D) => (hi - ii).toNat) (((root : Int), d.toList.map (eC vf))) [(0, 0)] [] (⟨root, d, rfl, rfl, hr, rfl, rfl⟩) (by (refine ⟨rfl,rfl,rfl,?_,?_⟩;repeat' first|exact trivial|exact rfl|refine And.intro ?_ ?_|refine ⟨_,rfl,?_⟩|decide)) ?_
  rintro ⟨_, _⟩ ⟨i, e, rfl, rfl, hi0, he, hI⟩
  have hel : e.toList.length = d.size := by rw [Array.length_toList]; exact he
  have stop : 2 * i + 1 ≥ hi → Sort.siftDown (ltC cf) hi first root d = e := fun h => by rw [← hI, zlM h]
  have stop2 : ∀ k, ¬2 * i + 1 ≥ hi → ze1 (ltC cf) hi first i e = k → (ltC cf) e[first + i]! e[first + k]! = false → Sort.siftDown (ltC cf) hi first root d = e := fun k h hk hf => by rw [← hI, zqt h, hk, hf]; rfl
  have next : ∀ k, ¬2 * i + 1 ≥ hi → ze1 (ltC cf) hi first i e = k → (ltC cf) e[first + i]! e[first + k]! = true → Sort.siftDown (ltC cf) hi first k (Sort.swp e (first + i) (first + k)) = Sort.siftDown (ltC cf) hi first root d := fun k h hk hf => by rw [← hI, zqt h, hk, hf, if_pos rfl]
  (repeat' ((conv=>whnf);first|refine vA ?_|refine vE ?_|(refine vF ?_ ?_<;>intro hc<;>try simp only [vL] at hc)|refine vT ?_|refine vN ‹_› ?_|(refine vQ ?_ fun x hx=>?_;·omega)|((first|refine vO ?_ ?_|refine vP ?_ ?_);·first|omega|(simp only [vM] at *;omega))|(refine vU ?_ ?_;·kernel_rfl)|refine yD (hcf _ _) (by (repeat refine ⟨⟨rfl,rfl⟩,?_⟩);rfl) rfl ?_));all_goals try conv=>whnf
  · rw [stop (by omega)]; refine ⟨trivial, _, [(0, 0)], [], rfl, .inl (by (repeat' first|exact rfl|refine ⟨_,rfl,?_⟩)), ⟨by rfl, by rfl, by rfl, trivial, by (repeat' first|exact trivial|exact rfl|refine And.intro ?_ ?_|refine ⟨_,rfl,?_⟩|exact of_decide_eq_true rfl)⟩, by (repeat' first|exact trivial|exact rfl|refine And.intro ?_ ?_)⟩
  iterate 4
    · have h1 := zz (first + (2 * i + 1)) ‹e.toList[((first : Int) + (2 * (i : Int) + 1)).toNat]? = some _› (by omega)
      have h2 := zz (first + (2 * i + 1) + 1) ‹e.toList[((first : Int) + (2 * (i : Int) + 1) + 1).toNat]? = some _› (by omega)
      have h2' : e.toList[first + (2 * i + 2)]? = some _ := h2
      have h3 := zz (first + i) ‹e.toList[((first : Int) + (i : Int)).toNat]? = some _› (by omega)
      first
      | (rw [stop2 (2 * i + 2) (by omega) (if_pos ⟨by omega, (zaj h1 h2).trans (decide_eq_true (by omega))⟩) ((zaj h3 h2').trans (decide_eq_false (by omega)))]; refine ⟨trivial, _, [(0, 0)], [], rfl, .inl (by (repeat' first|exact rfl|refine ⟨_,rfl,?_⟩)), ⟨by rfl, by rfl, by rfl, trivial, by (repeat' first|exact trivial|exact rfl|refine And.intro ?_ ?_|refine ⟨_,rfl,?_⟩|exact of_decide_eq_true rfl)⟩, by (repeat' first|exact trivial|exact rfl|refine And.intro ?_ ?_)⟩; done)
      | (rw [stop2 (2 * i + 1) (by omega) (if_neg fun h => absurd ((zaj h1 h2).symm.trans h.2) (by rw [show (ltC cf) _ _ = false from decide_eq_false (by omega)]; exact Bool.false_ne_true)) ((zaj h3 h1).trans (decide_eq_false (by omega)))]; refine ⟨trivial, _, [(0, 0)], [], rfl, .inl (by (repeat' first|exact rfl|refine ⟨_,rfl,?_⟩)), ⟨by rfl, by rfl, by rfl, trivial, by (repeat' first|exact trivial|exact rfl|refine And.intro ?_ ?_|refine ⟨_,rfl,?_⟩|exact of_decide_eq_true rfl)⟩, by (repeat' first|exact trivial|exact rfl|refine And.intro ?_ ?_)⟩; done)
      | (refine ⟨(_, _), [(0, 0)], [], ?_, ?_, by (refine ⟨rfl,rfl,rfl,?_,?_⟩;repeat' first|exact trivial|exact rfl|refine And.intro ?_ ?_|refine ⟨_,rfl,?_⟩|decide)⟩
         · exact ⟨2 * i + 2, Sort.swp e (first + i) (first + (2 * i + 2)), by omega, zaB _ _ hx ‹_› (by omega) (by omega), by omega, by rw [swp_size, he], next _ (by omega) (if_pos ⟨by omega, (zaj h1 h2).trans (decide_eq_true (by omega))⟩) ((zaj h3 h2').trans (decide_eq_true (by omega)))⟩
         · ((simp only [vM] at *;omega)))
      | (refine ⟨(_, _), [(0, 0)], [], ?_, ?_, by (refine ⟨rfl,rfl,rfl,?_,?_⟩;repeat' first|exact trivial|exact rfl|refine And.intro ?_ ?_|refine ⟨_,rfl,?_⟩|decide)⟩
         · exact ⟨2 * i + 1, Sort.swp e (first + i) (first + (2 * i + 1)), by omega, zaB _ _ hx ‹_› (by omega) (by omega), by omega, by rw [swp_size, he], next _ (by omega) (if_neg fun h => absurd ((zaj h1 h2).symm.trans h.2) (by rw [show (ltC cf) _ _ = false from decide_eq_false (by omega)]; exact Bool.false_ne_true)) ((zaj h3 h1).trans (decide_eq_true (by omega)))⟩
         · ((simp only [vM] at *;omega)))
  iterate 2
    · have h1 := zz (first + (2 * i + 1)) ‹e.toList[((first : Int) + (2 * (i : Int) + 1)).toNat]? = some _› (by omega)
      have h3 := zz (first + i) ‹e.toList[((first : Int) + (i : Int)).toNat]? = some _› (by omega)
      first
      | (rw [stop2 (2 * i + 1) (by omega) (if_neg fun h => by omega) ((zaj h3 h1).trans (decide_eq_false (by omega)))]; refine ⟨trivial, _, [(0, 0)], [], rfl, .inl (by (repeat' first|exact rfl|refine ⟨_,rfl,?_⟩)), ⟨by rfl, by rfl, by rfl, trivial, by (repeat' first|exact trivial|exact rfl|refine And.intro ?_ ?_|refine ⟨_,rfl,?_⟩|exact of_decide_eq_true rfl)⟩, by (repeat' first|exact trivial|exact rfl|refine And.intro ?_ ?_)⟩; done)
      | (refine ⟨(_, _), [(0, 0)], [], ?_, ?_, by (refine ⟨rfl,rfl,rfl,?_,?_⟩;repeat' first|exact trivial|exact rfl|refine And.intro ?_ ?_|refine ⟨_,rfl,?_⟩|decide)⟩
         · exact ⟨2 * i + 1, Sort.swp e (first + i) (first + (2 * i + 1)), by omega, zaB _ _ ‹e.toList[((first : Int) + (i : Int)).toNat]? = some _› ‹e.toList[((first : Int) + (2 * (i : Int) + 1)).toNat]? = some _› (by omega) (by omega), by omega, by rw [swp_size, he], next _ (by omega) (if_neg fun h => by omega) ((zaj h3 h1).trans (decide_eq_true (by omega)))⟩
         · ((simp only [vM] at *;omega)))
theorem zlg {xs : List D} (d : Array τ) (ex : xs = d.toList.map (eC vf)) {root hi first : Nat} {ri hii fi : Int} (er : ri = root) (eh : hii = hi) (ef : fi = first) (hb : first + hi ≤ d.size) (hs : d.size ≤ 1073741824) (hr : root ≤ d.size) :
    Fn Tryz.prog T zby [.own 0, .d (.int .i64 ri), .d (.int .i64 hii), .d (.int .i64 fi), .d (.fn fid [y1, y2, y3])] [.row 1 xs] (.tup []) [some (zat vf (Sort.siftDown (ltC cf) hi first root d))] := by
  subst er; subst eh; subst ef; subst ex; exact zt8 hcf hO d root hi first hb hs hr
theorem zt4 (d : Array τ) {a b : Nat} {ai bi : Int} (ea : ai = a) (eb : bi = b) (hb : b ≤ d.size) (hs : d.size ≤ 1073741824) (ha : a ≤ b) :
    Fn Tryz.prog T zaR [.own 0, .d (.int .i64 ai), .d (.int .i64 bi), .d (.fn fid [y1, y2, y3])] [zat vf d] (.tup []) [some (zat vf (Sort.insertionSort (ltC cf) d a b))] := by
  subst ea; subst eb; exact zvm hcf hO d a b hb hs ha
end Go.Ab
namespace Go.Ab
open Go Go.Proofs
set_option maxRecDepth 10000
set_option maxHeartbeats 4000000
variable {T:Nat→Obj→Prop}
variable {τ:Type} [Inhabited τ] {vf:τ→Int} {cf:τ→τ→Int} {fid:Nat} {y1 y2 y3:D} (hcf : ∀ x y:τ,Fn Tryz.prog T fid [.d (.int .i64 (vf x)),.d (.int .i64 (vf y)),.d y1,.d y2,.d y3] [] (.d (.int .i64 (cf x y))) []) (hO:Sort.SWO (ltC cf))
include hcf hO
abbrev zg2 (s:Nat):Ob := .box [.d (.int .i64 (s:Int))]
theorem zgv (d:Array τ) {a b s:Nat} {ai bi:Int} (ea:ai=a) (eb:bi=b) (ha:a < d.size) (hb:b < d.size) (hs:s≤1000) :
  Fn Tryz.prog T zc9 [.own 0,.d (.int .i64 ai),.d (.int .i64 bi),.ptr 1 0,.d (.fn fid [y1,y2,y3])] [zat vf d,zg2 s] (.tup [.d (.int .i64 ((Sort.order2 (ltC cf) d a b s).1:Int)),.d (.int .i64 ((Sort.order2 (ltC cf) d a b s).2.1:Int))])
   [some (zat vf d),some (zg2 (Sort.order2 (ltC cf) d a b s).2.2)]:=by
 subst ea;subst eb
 have hl:d.toList.length=d.size:=Array.length_toList
 refine zJ zn zgk (by show 5≤32;decide) _ (fun e env mem n h=>h) ?_
 (repeat' ((conv=>whnf);first|refine vA ?_|(refine vF ?_ ?_<;>intro hc<;>try simp only [vL] at hc)|refine vT ?_|(refine vQ ?_ fun x hx=>?_;·omega)|((first|refine vO ?_ ?_|refine vP ?_ ?_);·first|omega|(simp only [vM] at *;omega))|(refine vU ?_ ?_;·kernel_rfl)|refine yD (hcf _ _) (by (repeat refine ⟨⟨rfl,rfl⟩,?_⟩);rfl) rfl ?_));all_goals try conv=>whnf
 ·have h1:d.toList[b]? = some _:=‹d.toList[(b:Int).toNat]? = some _›
  have h2:d.toList[a]? = some _:=‹d.toList[(a:Int).toNat]? = some _›
  rw [show Sort.order2 (ltC cf) d a b s=(b,a,s+1) by rw [Sort.order2,if_pos ((zaj h1 h2).trans (decide_eq_true (by omega)))]]
  refine ⟨trivial,_,[(0,0),(1,1)],[],rfl,.inl (by (repeat' first|exact rfl|refine And.intro ?_ ?_|refine ⟨_,rfl,?_⟩)),⟨by rfl,by rfl,by rfl,trivial,by (repeat' first|exact trivial|exact rfl|refine And.intro ?_ ?_|refine ⟨_,rfl,?_⟩|exact of_decide_eq_true rfl)⟩,by (repeat' first|exact trivial|exact rfl|refine And.intro ?_ ?_|refine ⟨_,rfl,?_⟩)⟩
 ·have h1:d.toList[b]? = some _:=‹d.toList[(b:Int).toNat]? = some _›
  have h2:d.toList[a]? = some _:=‹d.toList[(a:Int).toNat]? = some _›
  rw [show Sort.order2 (ltC cf) d a b s=(a,b,s) by rw [Sort.order2,if_neg (by rw [zaj (lt:=(ltC cf)) h1 h2];exact Bool.eq_false_iff.1 (decide_eq_false (by omega)))]]
  refine ⟨trivial,_,[(0,0),(1,1)],[],rfl,.inl (by (repeat' first|exact rfl|refine And.intro ?_ ?_|refine ⟨_,rfl,?_⟩)),⟨by rfl,by rfl,by rfl,trivial,by (repeat' first|exact trivial|exact rfl|refine And.intro ?_ ?_|refine ⟨_,rfl,?_⟩|exact of_decide_eq_true rfl)⟩,by (repeat' first|exact trivial|exact rfl|refine And.intro ?_ ?_|refine ⟨_,rfl,?_⟩)⟩
theorem zkt (d:Array τ) {a b s m:Nat} (ha:a < m) (hb:b < m):(Sort.order2 (ltC cf) d a b s).1 < m∧(Sort.order2 (ltC cf) d a b s).2.1 < m∧(Sort.order2 (ltC cf) d a b s).2.2≤s+1:=by
 unfold Sort.order2
 split
 ·exact ⟨hb,ha,Nat.le_refl _⟩
 ·exact ⟨ha,hb,Nat.le_succ _⟩
theorem zgu (d:Array τ) {a b c s:Nat} {ai bi ci:Int} (ea:ai=a) (eb:bi=b) (ec:ci=c) (ha:a < d.size) (hb:b < d.size) (hc:c < d.size) (hs:s≤100) :
  Fn Tryz.prog T zc8 [.own 0,.d (.int .i64 ai),.d (.int .i64 bi),.d (.int .i64 ci),.ptr 1 0,.d (.fn fid [y1,y2,y3])] [zat vf d,zg2 s] (.d (.int .i64 ((Sort.median (ltC cf) d a b c s).1:Int)))
   [some (zat vf d),some (zg2 (Sort.median (ltC cf) d a b c s).2)]:=by
 refine zJ zn zgj (by show 6≤41;decide) _ (fun e env mem n h=>h) ?_
 have g1:=zkt hcf hO d (s:=s) ha hb
 have g2:=zkt hcf hO d (s:=(Sort.order2 (ltC cf) d a b s).2.2) g1.2.1 hc
 (repeat' ((conv=>whnf);refine vT ?_));all_goals try conv=>whnf
 refine zw.objs [0,1] (zgv hcf hO d (s:=s) ea eb ha hb (by omega)) (by (repeat' first|exact rfl|refine And.intro ?_ ?_|refine ⟨_,rfl,?_⟩)) (by (repeat' first|exact rfl|refine And.intro ?_ ?_|refine ⟨_,rfl,?_⟩)) (by rfl) (by rfl) (by simp) ?_
 (repeat' ((conv=>whnf);refine vT ?_));all_goals try conv=>whnf
 refine zw.objs [0,1] (zgv hcf hO d (s:=(Sort.order2 (ltC cf) d a b s).2.2) rfl ec g1.2.1 hc (by omega)) (by (repeat' first|exact rfl|refine And.intro ?_ ?_|refine ⟨_,rfl,?_⟩)) (by (repeat' first|exact rfl|refine And.intro ?_ ?_|refine ⟨_,rfl,?_⟩)) (by rfl) (by rfl) (by simp) ?_
 (repeat' ((conv=>whnf);refine vT ?_));all_goals try conv=>whnf
 refine zw.objs [0,1] (zgv hcf hO d (s:=(Sort.order2 (ltC cf) d (Sort.order2 (ltC cf) d a b s).2.1 c (Sort.order2 (ltC cf) d a b s).2.2).2.2) rfl rfl g1.1 g2.1 (by omega)) (by (repeat' first|exact rfl|refine And.intro ?_ ?_|refine ⟨_,rfl,?_⟩)) (by (repeat' first|exact rfl|refine And.intro ?_ ?_|refine ⟨_,rfl,?_⟩)) (by rfl) (by rfl) (by simp) ?_
 (repeat' ((conv=>whnf);refine vT ?_));all_goals try conv=>whnf
 refine ⟨trivial,_,[(0,0),(1,1)],[],rfl,.inl (by (repeat' exact rfl)),⟨by rfl,by rfl,by rfl,trivial,by (repeat' first|exact trivial|exact rfl|refine And.intro ?_ ?_|refine ⟨_,rfl,?_⟩|exact of_decide_eq_true rfl)⟩,by (repeat' first|exact trivial|exact rfl|refine And.intro ?_ ?_|refine ⟨_,rfl,?_⟩)⟩
theorem zgt (d:Array τ) {a s:Nat} {ai:Int} (ea:ai=a) (ha:a+1 < d.size) (h0:0 < a) (hs:s≤100) (hz:d.size≤1073741824) :
  Fn Tryz.prog T zbR [.own 0,.d (.int .i64 ai),.ptr 1 0,.d (.fn fid [y1,y2,y3])] [zat vf d,zg2 s] (.d (.int .i64 ((Sort.medianAdjacent (ltC cf) d a s).1:Int)))
   [some (zat vf d),some (zg2 (Sort.medianAdjacent (ltC cf) d a s).2)]:=by
 refine zJ zn zec (by show 4≤18;decide) _ (fun e env mem n h=>h) ?_
 (repeat' ((conv=>whnf);first|refine vT ?_|(refine vO ?_ ?_;·omega)|fail));all_goals try conv=>whnf
 refine zw.objs [0,1] (zgu hcf hO d (s:=s) (a:=a - 1) (b:=a) (c:=a+1) (ai:=ai - 1) (bi:=ai) (ci:=ai+1) (by omega) (by omega) (by omega) (by omega) (by omega) (by omega) hs) (by (repeat' first|exact rfl|refine And.intro ?_ ?_|refine ⟨_,rfl,?_⟩)) (by (repeat' first|exact rfl|refine And.intro ?_ ?_|refine ⟨_,rfl,?_⟩)) (by rfl) (by rfl) (by simp) ?_
 (repeat' ((conv=>whnf);refine vT ?_));all_goals try conv=>whnf
 refine ⟨trivial,_,[(0,0),(1,1)],[],rfl,.inl (by (repeat' exact rfl)),⟨by rfl,by rfl,by rfl,trivial,by (repeat' first|exact trivial|exact rfl|refine And.intro ?_ ?_|refine ⟨_,rfl,?_⟩|exact of_decide_eq_true rfl)⟩,by (repeat' first|exact trivial|exact rfl|refine And.intro ?_ ?_|refine ⟨_,rfl,?_⟩)⟩
theorem zvs (d:Array τ) {a b:Nat} {ai bi:Int} (ea:ai=a) (eb:bi=b) (hab:a < b) (hb:b≤d.size) (hs:d.size≤1073741824) :
  Fn Tryz.prog T zb6 [.own 0,.d (.int .i64 ai),.d (.int .i64 bi),.d (.fn fid [y1,y2,y3])] [zat vf d] (.tup []) [some (zat vf (Sort.reverseRange d a b))]:=by
 subst ea;subst eb
 refine zJ zn zeE (by show 4≤34;decide) _ (fun e env mem n h=>h) ?_
 (repeat' ((conv=>whnf);first|refine vT ?_|(refine vO ?_ ?_;·omega)|fail));all_goals try conv=>whnf
 refine zt (fun ((ii,jj,xs):Int×Int×List D)=>[(0,.own 0),(8,.d (.int .i64 (ii))),(9,.d (.int .i64 (jj))),(3,.d (.fn fid [y1,y2,y3])),(za,.own 0)]) (fun ((ii,jj,xs):Int×Int×List D)=>[(0,some (.row 1 xs))]) 1 (fun ((ii,jj,xs):Int×Int×List D) => ∃ (i j:Nat) (e:Array τ),ii=i∧jj=j∧xs=e.toList.map (eC vf)∧i≤d.size∧j < d.size∧e.size=d.size∧Sort.reverseLoop i j e=Sort.reverseRange d a b) (fun ((ii,jj,xs):Int×Int×List D)=>(jj - ii).toNat) (((a:Int),(b:Int) - 1,d.toList.map (eC vf))) [(0,0)] [] (⟨a,b - 1,d,rfl,by omega,rfl,by omega,by omega,rfl,rfl⟩) (by (refine ⟨rfl,rfl,rfl,?_,?_⟩;repeat' first|exact trivial|exact rfl|refine And.intro ?_ ?_|refine ⟨_,rfl,?_⟩|decide)) ?_
 rintro ⟨_,_,_⟩ ⟨i,j,e,rfl,rfl,rfl,hi,hj,he,hI⟩
 have hel:e.toList.length=d.size:=by rw [Array.length_toList];exact he
 (repeat' ((conv=>whnf);first|refine vA ?_|(refine vF ?_ ?_<;>intro hc<;>try simp only [vL] at hc)|refine vT ?_|(refine vQ ?_ fun x hx=>?_;·omega)|((first|refine vO ?_ ?_|refine vP ?_ ?_);·first|omega|(simp only [vM] at *;omega))|(refine vU ?_ ?_;·kernel_rfl)|fail));all_goals try conv=>whnf
 ·have h1:e.toList[i]? = some _:=‹e.toList[(i:Int).toNat]? = some _›
  have h2:e.toList[j]? = some _:=‹e.toList[(j:Int).toNat]? = some _›
  refine ⟨(_,_,_),[(0,0)],[],?_,?_,by (refine ⟨rfl,rfl,rfl,?_,?_⟩;repeat' first|exact trivial|exact rfl|refine And.intro ?_ ?_|refine ⟨_,rfl,?_⟩|decide)⟩
  ·exact ⟨i+1,j - 1,Sort.swp e i j,by omega,by omega,zqw h1 h2,by omega,by omega,by rw [swp_size,he],(zyG (i:=i) (j:=j) (d:=e) (by omega)).symm.trans hI⟩
  ·((simp only [vM] at *;omega))
 ·rw [show Sort.reverseRange d a b=e by rw [← hI,zyH (by omega)]]
  refine ⟨trivial,_,[(0,0)],[],rfl,.inl (by (repeat' first|exact rfl|refine ⟨_,rfl,?_⟩)),⟨by rfl,by rfl,by rfl,trivial,by (repeat' first|exact trivial|exact rfl|refine And.intro ?_ ?_|refine ⟨_,rfl,?_⟩|exact of_decide_eq_true rfl)⟩,by (repeat' first|exact trivial|exact rfl|refine And.intro ?_ ?_)⟩
theorem zt3 (d:Array τ) {a b:Nat} {ai bi:Int} (ea:ai=a) (eb:bi=b) (hab:a < b) (hb:b≤d.size) (hs:d.size≤1073741824) :
  Fn Tryz.prog T zcQ [.own 0,.d (.int .i64 ai),.d (.int .i64 bi),.d (.fn fid [y1,y2,y3])] [zat vf d] (.tup []) [some (zat vf (Sort.heapSort (ltC cf) d a b))]:=by
 subst ea;subst eb
 have hq:((b:Int) - (a:Int) - 1).tdiv 2=((b - a - 1) / 2:Nat):=by rw [Int.tdiv_eq_ediv_of_nonneg (by omega)];omega
 refine zJ zn zfu (by show 4≤60;decide) _ (fun e env mem n h=>h) ?_
 (repeat' ((conv=>whnf);first|refine vA ?_|refine vT ?_|((first|refine vO ?_ ?_|refine vP ?_ ?_);·omega)|fail));all_goals try conv=>whnf
 refine zt (fun ((ii,xs):Int×List D)=>[(0,.own 0),(8,.d (.int .i64 ((a:Int)))),(9,.d (.int .i64 (0))),(10,.d (.int .i64 (((b:Int) - (a:Int))))),(11,.d (.int .i64 (ii))),(3,.d (.fn fid [y1,y2,y3])),(za,.own 0)]) (fun ((ii,xs):Int×List D)=>[(0,some (.row 1 xs))]) 1 (fun ((ii,xs):Int×List D) => ∃ (k:Nat) (e:Array τ),ii=(k:Int) - 1∧xs=e.toList.map (eC vf)∧k≤(b - a - 1) / 2+1∧e.size=d.size∧Sort.heapBuild (ltC cf) (b - a) a k e=Sort.heapBuild (ltC cf) (b - a) a ((b - a - 1) / 2+1) d) (fun ((ii,xs):Int×List D)=>(ii+1).toNat) ((((b:Int) - (a:Int) - 1).tdiv 2,d.toList.map (eC vf))) [(0,0)] [] (⟨(b - a - 1) / 2+1,d,by omega,rfl,by omega,rfl,rfl⟩) (by (refine ⟨rfl,rfl,rfl,?_,?_⟩;repeat' first|exact trivial|exact rfl|refine And.intro ?_ ?_|refine ⟨_,rfl,?_⟩|decide)) ?_
 rintro ⟨_,_⟩ ⟨k,e,rfl,rfl,hk,he,hI⟩
 (repeat' ((conv=>whnf);first|refine vA ?_|(refine vF ?_ ?_<;>intro hc<;>try simp only [vL] at hc)|refine vT ?_|(refine vO ?_ ?_;·omega)|fail));all_goals try conv=>whnf
 ·obtain ⟨k,rfl⟩ : ∃ m,k=m+1:=⟨k - 1,by omega⟩
  refine zw.objs [0] (zlg hcf hO e rfl (root:=k) (hi:=b - a) (first:=a) (ri:=((k+1:Nat):Int) - 1) (hii:=(b:Int) - (a:Int)) (fi:=(a:Int)) (by omega) (by omega) rfl (by omega) (by omega) (by omega)) (by (repeat' first|exact rfl|refine And.intro ?_ ?_|refine ⟨_,rfl,?_⟩)) (by (repeat' first|exact rfl|refine And.intro ?_ ?_)) (by rfl) (by rfl) (by simp) ?_
  (repeat' ((conv=>whnf);first|refine vT ?_|(refine vO ?_ ?_;·omega)|fail));all_goals try conv=>whnf
  refine ⟨(_,_),[(0,0)],[],?_,?_,by (refine ⟨rfl,rfl,rfl,?_,?_⟩;repeat' first|exact trivial|exact rfl|refine And.intro ?_ ?_|refine ⟨_,rfl,?_⟩|decide)⟩
  ·exact ⟨k,Sort.siftDown (ltC cf) (b - a) a k e,by omega,rfl,by omega,by rw [siftDown_size,he],by rw [← hI];rfl⟩
  ·((simp only [vM] at *;omega))
 ·have hk0:k=0:=by omega
  subst hk0
  have hI':e=Sort.heapBuild (ltC cf) (b - a) a ((b - a - 1) / 2+1) d:=hI
  refine zt (fun ((ii,xs):Int×List D)=>[(0,.own 0),(8,.d (.int .i64 ((a:Int)))),(9,.d (.int .i64 (0))),(12,.d (.int .i64 (ii))),(3,.d (.fn fid [y1,y2,y3])),(za,.own 0)]) (fun ((ii,xs):Int×List D)=>[(0,some (.row 1 xs))]) 1 (fun ((ii,xs):Int×List D) => ∃ (k:Nat) (g:Array τ),ii=(k:Int) - 1∧xs=g.toList.map (eC vf)∧k≤b - a∧g.size=d.size∧Sort.heapPop (ltC cf) a k g=Sort.heapSort (ltC cf) d a b) (fun ((ii,xs):Int×List D)=>(ii+1).toNat) (((b:Int) - (a:Int) - 1,e.toList.map (eC vf))) [(0,0)] [] (⟨b - a,e,by omega,rfl,by omega,he,by rw [Sort.heapSort,← hI']⟩) (by (refine ⟨rfl,rfl,rfl,?_,?_⟩;repeat' first|exact trivial|exact rfl|refine And.intro ?_ ?_|refine ⟨_,rfl,?_⟩|decide)) ?_
  rintro ⟨_,_⟩ ⟨k,g,rfl,rfl,hk,hg,hJ⟩
  have hgl:g.toList.length=d.size:=by rw [Array.length_toList];exact hg
  (repeat' ((conv=>whnf);first|refine vA ?_|(refine vF ?_ ?_<;>intro hc<;>try simp only [vL] at hc)|refine vT ?_|(refine vQ ?_ fun x hx=>?_;·omega)|((first|refine vO ?_ ?_|refine vP ?_ ?_);·first|omega|(simp only [vM] at *;omega))|(refine vU ?_ ?_;·kernel_rfl)|fail));all_goals try conv=>whnf
  ·obtain ⟨k,rfl⟩ : ∃ m,k=m+1:=⟨k - 1,by omega⟩
   have h1:g.toList[a]? = some _:=‹g.toList[(a:Int).toNat]? = some _›
   have h2:=zz (a+k) ‹g.toList[((a:Int)+(((k+1:Nat):Int) - 1)).toNat]? = some _› (by omega)
   have er:=zaB (enc:=(eC vf)) (i:=(a:Int)) (j:=(a:Int)+(((k+1:Nat):Int) - 1)) a (a+k) h1 ‹g.toList[((a:Int)+(((k+1:Nat):Int) - 1)).toNat]? = some _› rfl (by omega)
   refine zw.objs [0] (zlg hcf hO (Sort.swp g a (a+k)) er (root:=0) (hi:=k) (first:=a) (ri:=0) (hii:=((k+1:Nat):Int) - 1) (fi:=(a:Int)) rfl (by omega) rfl (by rw [swp_size];omega) (by rw [swp_size];omega) (by omega)) (by (repeat' first|exact rfl|refine And.intro ?_ ?_|refine ⟨_,rfl,?_⟩)) (by (repeat' first|exact rfl|refine And.intro ?_ ?_)) (by rfl) (by rfl) (by simp) ?_
   (repeat' ((conv=>whnf);first|refine vT ?_|(refine vO ?_ ?_;·omega)|fail));all_goals try conv=>whnf
   refine ⟨(_,_),[(0,0)],[],?_,?_,by (refine ⟨rfl,rfl,rfl,?_,?_⟩;repeat' first|exact trivial|exact rfl|refine And.intro ?_ ?_|refine ⟨_,rfl,?_⟩|decide)⟩
   ·exact ⟨k,Sort.siftDown (ltC cf) k a 0 (Sort.swp g a (a+k)),by omega,rfl,by omega,by rw [siftDown_size,swp_size,hg],by rw [← hJ];rfl⟩
   ·((simp only [vM] at *;omega))
  ·have hk0:k=0:=by omega
   subst hk0
   rw [show Sort.heapSort (ltC cf) d a b=g from hJ.symm]
   refine ⟨trivial,_,[(0,0)],[],rfl,.inl (by (repeat' first|exact rfl|refine ⟨_,rfl,?_⟩)),⟨by rfl,by rfl,by rfl,trivial,by (repeat' first|exact trivial|exact rfl|refine And.intro ?_ ?_|refine ⟨_,rfl,?_⟩|exact of_decide_eq_true rfl)⟩,by (repeat' first|exact trivial|exact rfl|refine And.intro ?_ ?_)⟩
end Go.Ab
namespace Go.Ab
open Go Go.Proofs
set_option maxRecDepth 10000
set_option maxHeartbeats 4000000
variable {T:Nat→Obj→Prop}
variable {τ:Type} [Inhabited τ] {vf:τ→Int} {cf:τ→τ→Int} {fid:Nat} {y1 y2 y3:D} (hcf : ∀ x y:τ,Fn Tryz.prog T fid [.d (.int .i64 (vf x)),.d (.int .i64 (vf y)),.d y1,.d y2,.d y3] [] (.d (.int .i64 (cf x y))) []) (hO:Sort.SWO (ltC cf))
include hcf hO
theorem zvj (d:Array τ) {a b:Nat} {ai bi:Int} (ea:ai=a) (eb:bi=b) (hab:a+8≤b) (hb:b≤d.size) (hs:d.size≤536870912) :
  Fn Tryz.prog T zb1 [.own 0,.d (.int .i64 ai),.d (.int .i64 bi),.d (.fn fid [y1,y2,y3])] [zat vf d] (.tup []) [some (zat vf (Sort.breakPatterns d a b))]:=by
 subst ea;subst eb
 have hq:((b:Int) - (a:Int)).tdiv 4=((b - a) / 4:Nat):=by rw [Int.tdiv_eq_ediv_of_nonneg (by omega)];omega
 refine zJ zn zew (by show 4≤67;decide) _ (fun e env mem n h=>h) ?_
 (repeat' ((conv=>whnf);first|(refine vF ?_ ?_<;>intro hc<;>try simp only [vL] at hc)|refine vT ?_|(refine vO ?_ ?_;·omega)|fail));all_goals try conv=>whnf
 ·refine zw.dataN (zzI (n:=(b:Int) - (a:Int)) (b - a) (by omega) (by omega)) (by (repeat refine ⟨⟨rfl,rfl⟩,?_⟩);rfl) ?_
  (repeat' ((conv=>whnf);first|refine vT ?_|((first|refine vO ?_ ?_|refine vP ?_ ?_);·omega)|fail));all_goals try conv=>whnf
  refine zt (fun ((ii,r,xs):Int×BitVec 64×List D)=>[(0,.own 0),(1,.d (.int .i64 ((a:Int)))),(8,.d (.int .i64 (((b:Int) - (a:Int))))),(9,.ptr 1 0),(10,.d (.u64 (1#64 <<< Sort.bitsLen (b - a)))),(11,.d (.int .i64 (ii))),(3,.d (.fn fid [y1,y2,y3])),(za,.own 0)]) (fun ((ii,r,xs):Int×BitVec 64×List D)=>[(0,some (.row 1 xs)),(1,some (.box [.d (.u64 r)]))]) 2 (fun ((ii,r,xs):Int×BitVec 64×List D) => ∃ k:Nat,ii=((a+(b - a) / 4 * 2 - 1+k:Nat):Int)∧r=(brk d a b k).1.toBitVec∧xs=(brk d a b k).2.toList.map (eC vf)∧k≤3) (fun ((ii,r,xs):Int×BitVec 64×List D)=>((a:Int)+((b - a) / 4 * 2+2:Nat) - ii).toNat) (((a:Int)+((b:Int) - (a:Int)).tdiv 4 * 2 - 1,BitVec.ofInt 64 ((b:Int) - (a:Int)),d.toList.map (eC vf))) [(0,0),(1,1)] [] (⟨0,by omega,by rw [show ((b:Int) - (a:Int))=((b - a:Nat):Int) by omega];rfl,rfl,by omega⟩) (by (refine ⟨rfl,rfl,rfl,?_,?_⟩;repeat' first|exact trivial|exact rfl|refine And.intro ?_ ?_|refine ⟨_,rfl,?_⟩|decide)) ?_
  rintro ⟨_,_,_⟩ ⟨k,rfl,rfl,rfl,hk⟩
  have hol:=zyx (l:=b - a) (by omega) (Sort.xorNext (brk d a b k).1)
  have hm:=zxN (b - a) (by omega) (Sort.xorNext (brk d a b k).1)
  have hoe:zma (b - a) (Sort.xorNext (brk d a b k).1)=if ((Sort.xorNext (brk d a b k).1).toNat&&&((1 <<< Sort.bitsLen (b - a)) - 1)) ≥ b - a then ((Sort.xorNext (brk d a b k).1).toNat&&&((1 <<< Sort.bitsLen (b - a)) - 1)) - (b - a) else ((Sort.xorNext (brk d a b k).1).toNat&&&((1 <<< Sort.bitsLen (b - a)) - 1)):=rfl
  have hel:(brk d a b k).2.toList.length=d.size:=by rw [Array.length_toList];exact zsn d a b k
  (repeat' ((conv=>whnf);first|refine vA ?_|(refine vF ?_ ?_<;>intro hc<;>try simp only [vL] at hc)|refine vT ?_|((first|refine vO ?_ ?_|refine vP ?_ ?_);·omega)|fail));all_goals try conv=>whnf
  ·refine zw.objs [1] (zzE _) (by (repeat' first|exact rfl|refine And.intro ?_ ?_|refine ⟨_,rfl,?_⟩)) (by (repeat' first|exact rfl|refine And.intro ?_ ?_|refine ⟨_,rfl,?_⟩)) (by rfl) (by rfl) (by simp) ?_
   have hx:xnB (brk d a b k).1.toBitVec=(Sort.xorNext (brk d a b k).1).toBitVec:=(zBf _).symm
   rw [hx]
   have hm':((Sort.xorNext (brk d a b k).1).toBitVec&&&(1#64 <<< Sort.bitsLen (b - a) - (1:BitVec 64))).toNat=(Sort.xorNext (brk d a b k).1).toNat&&&((1 <<< Sort.bitsLen (b - a)) - 1):=hm
   (repeat' ((conv=>whnf);first|refine vA ?_|(refine vF ?_ ?_<;>intro hc<;>try simp only [vL] at hc)|refine vT ?_|(refine vQ ?_ fun x hx=>?_;·omega)|((first|refine vO ?_ ?_|refine vP ?_ ?_);·first|omega|(simp only [vM] at *;omega))|(refine vU ?_ ?_;·kernel_rfl)|fail));all_goals try conv=>whnf
   ·have hoe':=hoe.trans (if_pos (by omega))
    refine ⟨(_,_,_),[(0,0),(1,1)],[],?_,?_,by (refine ⟨rfl,rfl,rfl,?_,?_⟩;repeat' first|exact trivial|exact rfl|refine And.intro ?_ ?_|refine ⟨_,rfl,?_⟩|decide)⟩
    ·refine ⟨k+1,by omega,rfl,?_,by omega⟩
     rw [brk,zhk,hoe']
     exact zaB _ _ hx ‹_› (by omega) (by omega)
    ·((simp only [vM] at *;omega))
   ·have hoe':=hoe.trans (if_neg (by omega))
    refine ⟨(_,_,_),[(0,0),(1,1)],[],?_,?_,by (refine ⟨rfl,rfl,rfl,?_,?_⟩;repeat' first|exact trivial|exact rfl|refine And.intro ?_ ?_|refine ⟨_,rfl,?_⟩|decide)⟩
    ·refine ⟨k+1,by omega,rfl,?_,by omega⟩
     rw [brk,zhk,hoe']
     exact zaB _ _ hx ‹_› (by omega) (by omega)
    ·((simp only [vM] at *;omega))
  ·have hk3:k=3:=by omega
   subst hk3
   rw [zAj (by omega)]
   refine ⟨trivial,_,[(0,0)],[],rfl,.inl (by (repeat' first|exact rfl|refine ⟨_,rfl,?_⟩)),⟨by rfl,by rfl,by rfl,trivial,by (repeat' first|exact trivial|exact rfl|refine And.intro ?_ ?_|refine ⟨_,rfl,?_⟩|exact of_decide_eq_true rfl)⟩,by (repeat' first|exact trivial|exact rfl|refine And.intro ?_ ?_)⟩
 ·omega
theorem zsZ (d:Array τ) {a b:Nat} {ai bi:Int} (ea:ai=a) (eb:bi=b) (hab:a+8≤b) (hb:b≤d.size) (hs:d.size≤536870912) :
  Fn Tryz.prog T zcc [.own 0,.d (.int .i64 ai),.d (.int .i64 bi),.d (.fn fid [y1,y2,y3])] [zat vf d] (.tup [.d (.int .i64 ((Sort.choosePivot (ltC cf) d a b).1:Int)),.d (.int .i64 (Sort.hintCode (Sort.choosePivot (ltC cf) d a b).2))]) [some (zat vf d)]:=by
 subst ea;subst eb
 have hq:((b:Int) - (a:Int)).tdiv 4=((b - a) / 4:Nat):=by rw [Int.tdiv_eq_ediv_of_nonneg (by omega)];omega
 have fin : ∀ p s:Nat,Sort.rawPivot (ltC cf) d a b=(p,s)→Sort.choosePivot (ltC cf) d a b=(p,Sort.hintOf s):=fun p s h=>by rw [Sort.choosePivot_eq,h]
 refine zJ zn zeS (by show 4≤63;decide) _ (fun e env mem n h=>h) ?_
 (repeat' ((conv=>whnf);first|refine vA ?_|refine vG ?_|(refine vF ?_ ?_<;>intro hc<;>try simp only [vL] at hc)|refine vT ?_|((first|refine vO ?_ ?_|refine vP ?_ ?_);·omega)|fail));all_goals try conv=>whnf
 ·have m1:=Sort.medianAdjacent_mem (ltC cf) d (a+(b - a) / 4 * 1) 0
  have c1:=Sort.medianAdjacent_count (ltC cf) d (a+(b - a) / 4 * 1) 0
  have hraw:Sort.rawPivot (ltC cf) d a b=_:=(if_pos (by omega)).trans (if_pos (by omega))
  refine zw.objs [0,1] (zgt hcf hO d (s:=0) (a:=a+(b - a) / 4 * 1) (ai:=(a:Int)+((b:Int) - (a:Int)).tdiv 4 * 1) (by omega) (by omega) (by omega) (by omega) (by omega)) (by (repeat' first|exact rfl|refine And.intro ?_ ?_|refine ⟨_,rfl,?_⟩)) (by (repeat' first|exact rfl|refine And.intro ?_ ?_|refine ⟨_,rfl,?_⟩)) (by rfl) (by rfl) (by simp) ?_
  generalize Sort.medianAdjacent (ltC cf) d (a+(b - a) / 4 * 1) 0=r1 at m1 c1 hraw
  (repeat' ((conv=>whnf);refine vT ?_));all_goals try conv=>whnf
  have m2:=Sort.medianAdjacent_mem (ltC cf) d (a+(b - a) / 4 * 2) r1.2
  have c2:=Sort.medianAdjacent_count (ltC cf) d (a+(b - a) / 4 * 2) r1.2
  refine zw.objs [0,1] (zgt hcf hO d (s:=r1.2) (a:=a+(b - a) / 4 * 2) (ai:=(a:Int)+((b:Int) - (a:Int)).tdiv 4 * 2) (by omega) (by omega) (by omega) (by omega) (by omega)) (by (repeat' first|exact rfl|refine And.intro ?_ ?_|refine ⟨_,rfl,?_⟩)) (by (repeat' first|exact rfl|refine And.intro ?_ ?_|refine ⟨_,rfl,?_⟩)) (by rfl) (by rfl) (by simp) ?_
  generalize Sort.medianAdjacent (ltC cf) d (a+(b - a) / 4 * 2) r1.2=r2 at m2 c2 hraw
  (repeat' ((conv=>whnf);refine vT ?_));all_goals try conv=>whnf
  have m3:=Sort.medianAdjacent_mem (ltC cf) d (a+(b - a) / 4 * 3) r2.2
  have c3:=Sort.medianAdjacent_count (ltC cf) d (a+(b - a) / 4 * 3) r2.2
  refine zw.objs [0,1] (zgt hcf hO d (s:=r2.2) (a:=a+(b - a) / 4 * 3) (ai:=(a:Int)+((b:Int) - (a:Int)).tdiv 4 * 3) (by omega) (by omega) (by omega) (by omega) (by omega)) (by (repeat' first|exact rfl|refine And.intro ?_ ?_|refine ⟨_,rfl,?_⟩)) (by (repeat' first|exact rfl|refine And.intro ?_ ?_|refine ⟨_,rfl,?_⟩)) (by rfl) (by rfl) (by simp) ?_
  generalize Sort.medianAdjacent (ltC cf) d (a+(b - a) / 4 * 3) r2.2=r3 at m3 c3 hraw
  (repeat' ((conv=>whnf);refine vT ?_));all_goals try conv=>whnf
  refine zw.objs [0,1] (zgu hcf hO d (s:=r3.2) (a:=r1.1) (b:=r2.1) (c:=r3.1) rfl rfl rfl (by omega) (by omega) (by omega) (by omega)) (by (repeat' first|exact rfl|refine And.intro ?_ ?_|refine ⟨_,rfl,?_⟩)) (by (repeat' first|exact rfl|refine And.intro ?_ ?_|refine ⟨_,rfl,?_⟩)) (by rfl) (by rfl) (by simp) ?_
  generalize Sort.median (ltC cf) d r1.1 r2.1 r3.1 r3.2=r4 at hraw
  obtain ⟨p,q⟩:=r4
  (repeat' ((conv=>whnf);first|(refine vF ?_ ?_<;>intro hc<;>try simp only [vL] at hc)|refine vT ?_));all_goals try conv=>whnf
  ·rw [fin _ _ hraw,show Sort.hintOf _ = .increasing from if_pos (by omega)];refine ⟨trivial,_,[(0,0)],[],rfl,.inl (by (repeat' first|exact rfl|refine And.intro ?_ ?_|refine ⟨_,rfl,?_⟩)),⟨by rfl,by rfl,by rfl,trivial,by (repeat' first|exact trivial|exact rfl|refine And.intro ?_ ?_|refine ⟨_,rfl,?_⟩|exact of_decide_eq_true rfl)⟩,by (repeat' first|exact trivial|exact rfl|refine And.intro ?_ ?_)⟩
  ·rw [fin _ _ hraw,show Sort.hintOf _ = .decreasing from (if_neg (by omega)).trans (if_pos (by omega))];refine ⟨trivial,_,[(0,0)],[],rfl,.inl (by (repeat' first|exact rfl|refine And.intro ?_ ?_|refine ⟨_,rfl,?_⟩)),⟨by rfl,by rfl,by rfl,trivial,by (repeat' first|exact trivial|exact rfl|refine And.intro ?_ ?_|refine ⟨_,rfl,?_⟩|exact of_decide_eq_true rfl)⟩,by (repeat' first|exact trivial|exact rfl|refine And.intro ?_ ?_)⟩
  ·rw [fin _ _ hraw,show Sort.hintOf _ = .unknown from (if_neg (by omega)).trans (if_neg (by omega))];refine ⟨trivial,_,[(0,0)],[],rfl,.inl (by (repeat' first|exact rfl|refine And.intro ?_ ?_|refine ⟨_,rfl,?_⟩)),⟨by rfl,by rfl,by rfl,trivial,by (repeat' first|exact trivial|exact rfl|refine And.intro ?_ ?_|refine ⟨_,rfl,?_⟩|exact of_decide_eq_true rfl)⟩,by (repeat' first|exact trivial|exact rfl|refine And.intro ?_ ?_)⟩
 ·have hraw:Sort.rawPivot (ltC cf) d a b=_:=(if_pos (by omega)).trans (if_neg (by omega))
  refine zw.objs [0,1] (zgu hcf hO d (s:=0) (a:=a+(b - a) / 4 * 1) (b:=a+(b - a) / 4 * 2) (c:=a+(b - a) / 4 * 3) (ai:=(a:Int)+((b:Int) - (a:Int)).tdiv 4 * 1) (bi:=(a:Int)+((b:Int) - (a:Int)).tdiv 4 * 2) (ci:=(a:Int)+((b:Int) - (a:Int)).tdiv 4 * 3) (by omega) (by omega) (by omega) (by omega) (by omega) (by omega) (by omega)) (by (repeat' first|exact rfl|refine And.intro ?_ ?_|refine ⟨_,rfl,?_⟩)) (by (repeat' first|exact rfl|refine And.intro ?_ ?_|refine ⟨_,rfl,?_⟩)) (by rfl) (by rfl) (by simp) ?_
  generalize Sort.median (ltC cf) d (a+(b - a) / 4 * 1) (a+(b - a) / 4 * 2) (a+(b - a) / 4 * 3) 0=r4 at hraw
  obtain ⟨p,q⟩:=r4
  (repeat' ((conv=>whnf);first|(refine vF ?_ ?_<;>intro hc<;>try simp only [vL] at hc)|refine vT ?_));all_goals try conv=>whnf
  ·rw [fin _ _ hraw,show Sort.hintOf _ = .increasing from if_pos (by omega)];refine ⟨trivial,_,[(0,0)],[],rfl,.inl (by (repeat' first|exact rfl|refine And.intro ?_ ?_|refine ⟨_,rfl,?_⟩)),⟨by rfl,by rfl,by rfl,trivial,by (repeat' first|exact trivial|exact rfl|refine And.intro ?_ ?_|refine ⟨_,rfl,?_⟩|exact of_decide_eq_true rfl)⟩,by (repeat' first|exact trivial|exact rfl|refine And.intro ?_ ?_)⟩
  ·rw [fin _ _ hraw,show Sort.hintOf _ = .decreasing from (if_neg (by omega)).trans (if_pos (by omega))];refine ⟨trivial,_,[(0,0)],[],rfl,.inl (by (repeat' first|exact rfl|refine And.intro ?_ ?_|refine ⟨_,rfl,?_⟩)),⟨by rfl,by rfl,by rfl,trivial,by (repeat' first|exact trivial|exact rfl|refine And.intro ?_ ?_|refine ⟨_,rfl,?_⟩|exact of_decide_eq_true rfl)⟩,by (repeat' first|exact trivial|exact rfl|refine And.intro ?_ ?_)⟩
  ·rw [fin _ _ hraw,show Sort.hintOf _ = .unknown from (if_neg (by omega)).trans (if_neg (by omega))];refine ⟨trivial,_,[(0,0)],[],rfl,.inl (by (repeat' first|exact rfl|refine And.intro ?_ ?_|refine ⟨_,rfl,?_⟩)),⟨by rfl,by rfl,by rfl,trivial,by (repeat' first|exact trivial|exact rfl|refine And.intro ?_ ?_|refine ⟨_,rfl,?_⟩|exact of_decide_eq_true rfl)⟩,by (repeat' first|exact trivial|exact rfl|refine And.intro ?_ ?_)⟩
 all_goals omega
end Go.Ab
namespace Go.Ab
open Go Go.Proofs
set_option maxRecDepth 10000
set_option maxHeartbeats 4000000
variable {T:Nat→Obj→Prop}
variable {τ:Type} [Inhabited τ] {vf:τ→Int} {cf:τ→τ→Int} {fid:Nat} {y1 y2 y3:D} (hcf : ∀ x y:τ,Fn Tryz.prog T fid [.d (.int .i64 (vf x)),.d (.int .i64 (vf y)),.d y1,.d y2,.d y3] [] (.d (.int .i64 (cf x y))) []) (hO:Sort.SWO (ltC cf))
include hcf hO
set_option maxHeartbeats 2000000 in
theorem zt7 (d:Array τ) {a b:Nat} {ai bi:Int} (ea:ai=a) (eb:bi=b) (hab:a < b) (hb:b≤d.size) (hs:d.size≤536870912) :
  Fn Tryz.prog T zbk [.own 0,.d (.int .i64 ai),.d (.int .i64 bi),.d (.fn fid [y1,y2,y3])] [zat vf d] (.d (.bool (Sort.partialInsertionSort (ltC cf) d a b).2)) [some (zat vf (Sort.partialInsertionSort (ltC cf) d a b).1)]:=by
 subst ea;subst eb
 rw [Sort.partialInsertionSort]
 generalize hR:Sort.partialIns (ltC cf) a b 5 (a+1) d=R
 refine zJ zn zc5 (by show 4≤141;decide) _ (fun e env mem n h=>h) ?_
 (repeat' ((conv=>whnf);first|refine vA ?_|refine vT ?_|(refine vO ?_ ?_;·omega)|fail));all_goals try conv=>whnf
 refine zt (fun ((jj,ii,xs):Int×Int×List D)=>[(0,.own 0),(1,.d (.int .i64 ((a:Int)))),(2,.d (.int .i64 ((b:Int)))),(9,.d (.int .i64 (ii))),(10,.d (.int .i64 (jj))),(3,.d (.fn fid [y1,y2,y3])),(za,.own 0)]) (fun ((jj,ii,xs):Int×Int×List D)=>[(0,some (.row 1 xs))]) 1 (fun ((jj,ii,xs):Int×Int×List D) => ∃ (s i:Nat) (e:Array τ),jj=5 - (s:Int)∧s≤5∧ii=i∧xs=e.toList.map (eC vf)∧a < i∧i≤b∧e.size=d.size∧Sort.partialIns (ltC cf) a b s i e=R) (fun ((jj,ii,xs):Int×Int×List D)=>(5 - jj).toNat) ((0,(a:Int)+1,d.toList.map (eC vf))) [(0,0)] [] (⟨5,a+1,d,by omega,by omega,by omega,rfl,by omega,by omega,rfl,hR⟩) (by (refine ⟨rfl,rfl,rfl,?_,?_⟩;repeat' first|exact trivial|exact rfl|refine And.intro ?_ ?_|refine ⟨_,rfl,?_⟩|decide)) ?_
 rintro ⟨_,_,_⟩ ⟨s,i,e,rfl,hs5,rfl,rfl,hi,hib,he,hI⟩
 have hel:e.toList.length=d.size:=by rw [Array.length_toList];exact he
 (repeat' ((conv=>whnf);first|refine vA ?_|(refine vF ?_ ?_<;>intro hc<;>try simp only [vL] at hc)|refine vT ?_));all_goals try conv=>whnf
 ·obtain ⟨s,rfl⟩ : ∃ m,s=m+1:=⟨s - 1,by omega⟩
  rw [Sort.partialIns_succ] at hI
  refine zt (fun (kk:Int)=>[(0,.own 0),(1,.d (.int .i64 ((a:Int)))),(2,.d (.int .i64 ((b:Int)))),(9,.d (.int .i64 (kk))),(10,.d (.int .i64 ((5 - ((s+1:Nat):Int))))),(3,.d (.fn fid [y1,y2,y3])),(za,.own 0)]) (fun (kk:Int)=>[(0,some (zat vf e))]) 1 (fun (kk:Int) => ∃ k:Nat,kk=k∧i≤k∧k≤b∧Sort.scanSorted (ltC cf) e b k=Sort.scanSorted (ltC cf) e b i) (fun (kk:Int)=>(b - kk).toNat) ((i:Int)) [(0,0)] [] (⟨i,rfl,by omega,by omega,rfl⟩) (by (refine ⟨rfl,rfl,rfl,?_,?_⟩;repeat' first|exact trivial|exact rfl|refine And.intro ?_ ?_|refine ⟨_,rfl,?_⟩|decide)) ?_
  rintro _ ⟨k,rfl,hik,hkb,hK⟩
  have hS : ∀ (h : ¬(k < b∧(ltC cf) e[k]! e[k - 1]! = false)),Sort.scanSorted (ltC cf) e b i=k:=fun h=>hK.symm.trans (zvR h)
  have hsw:(Sort.swp e k (k - 1)).size=d.size:=by rw [swp_size,he]
  have f1:Sort.scanSorted (ltC cf) e b i=k→k≠b → ¬b - a < 50 → ∀ g,Sort.fixUp (ltC cf) b k (Sort.fixDown (ltC cf) a k (Sort.swp e k (k - 1)))=g→Sort.partialIns (ltC cf) a b s k g=R:=fun h1 h2 h3 g hg=>by
   rw [h1,if_neg h2,if_neg h3,hg] at hI;exact hI
  (repeat' ((conv=>whnf);first|refine vA ?_|refine vE ?_|(refine vF ?_ ?_<;>intro hc<;>try simp only [vL] at hc)|refine vT ?_|refine vN ‹_› ?_|(refine vQ ?_ fun x hx=>?_;·omega)|((first|refine vO ?_ ?_|refine vP ?_ ?_);·first|omega|(simp only [vM] at *;omega))|(refine vU ?_ ?_;·kernel_rfl)|refine yD (hcf _ _) (by (repeat refine ⟨⟨rfl,rfl⟩,?_⟩);rfl) rfl ?_));all_goals try conv=>whnf
  all_goals try (exfalso;omega)
  all_goals try (have h1:=zz k ‹e.toList[(k:Int).toNat]? = some _› rfl)
  all_goals try (have h2:=zz (k - 1) ‹e.toList[((k:Int) - 1).toNat]? = some _› (by omega))
  ·have hk:=hS fun h=>Bool.false_ne_true (h.2.symm.trans ((zaj h1 h2).trans (decide_eq_true (by omega))))
   rw [hk,if_neg (by omega),if_pos (by omega)] at hI
   subst hI
   refine ⟨trivial,_,[(0,0)],[],rfl,.inl (by (repeat' exact .inr (.inr ⟨rfl,rfl⟩))),⟨by rfl,by rfl,by rfl,trivial,by (repeat' first|exact trivial|exact rfl|refine And.intro ?_ ?_|refine ⟨_,rfl,?_⟩|exact of_decide_eq_true rfl)⟩,by (repeat' first|exact trivial|exact rfl|refine And.intro ?_ ?_)⟩
  ·
   have hk:=hS fun h=>Bool.false_ne_true (h.2.symm.trans ((zaj h1 h2).trans (decide_eq_true (by omega))))
   have f2:=f1 hk (by omega) (by omega)
   refine zt (fun ((mm,xs):Int×List D)=>[(0,.own 0),(1,.d (.int .i64 ((a:Int)))),(2,.d (.int .i64 ((b:Int)))),(9,.d (.int .i64 ((k:Int)))),(10,.d (.int .i64 ((5 - ((s+1:Nat):Int))))),(11,.d (.int .i64 (mm))),(3,.d (.fn fid [y1,y2,y3])),(za,.own 0)]) (fun ((mm,xs):Int×List D)=>[(0,some (.row 1 xs))]) 1 (fun ((mm,xs):Int×List D) => ∃ (m:Nat) (g:Array τ),mm=m∧xs=g.toList.map (eC vf)∧m≤k - 1∧g.size=d.size∧Sort.shiftDown (ltC cf) m g=Sort.shiftDown (ltC cf) (k - 1) (Sort.swp e k (k - 1))) (fun ((mm,xs):Int×List D)=>mm.toNat) (((k:Int) - 1,_)) [(0,0)] [] (⟨k - 1,Sort.swp e k (k - 1),by omega,zaB _ _ ‹e.toList[(k:Int).toNat]? = some _› ‹e.toList[((k:Int) - 1).toNat]? = some _› rfl (by omega),by omega,hsw,rfl⟩) (by (refine ⟨rfl,rfl,rfl,?_,?_⟩;repeat' first|exact trivial|exact rfl|refine And.intro ?_ ?_|refine ⟨_,rfl,?_⟩|decide)) ?_
   rintro ⟨_,_⟩ ⟨m,u,rfl,rfl,hm,hu,hU⟩
   have hul:u.toList.length=d.size:=by rw [Array.length_toList];exact hu
   have f3 : ∀ h : ¬(1≤m∧(ltC cf) u[m]! u[m - 1]! = true),Sort.fixDown (ltC cf) a k (Sort.swp e k (k - 1))=u:=fun h=>by
    rw [Sort.fixDown,if_pos (by omega),← hU,zyR h]
   (repeat' ((conv=>whnf);first|refine vA ?_|refine vE ?_|(refine vF ?_ ?_<;>intro hc<;>try simp only [vL] at hc)|refine vT ?_|refine vN ‹_› ?_|(refine vQ ?_ fun x hx=>?_;·omega)|((first|refine vO ?_ ?_|refine vP ?_ ?_);·first|omega|(simp only [vM] at *;omega))|(refine vU ?_ ?_;·kernel_rfl)|refine yD (hcf _ _) (by (repeat refine ⟨⟨rfl,rfl⟩,?_⟩);rfl) rfl ?_));all_goals try conv=>whnf
   ·have g1:=zz m ‹u.toList[(m:Int).toNat]? = some _› rfl
    have g2:=zz (m - 1) ‹u.toList[((m:Int) - 1).toNat]? = some _› (by omega)
    refine ⟨(_,_),[(0,0)],[],?_,?_,by (refine ⟨rfl,rfl,rfl,?_,?_⟩;repeat' first|exact trivial|exact rfl|refine And.intro ?_ ?_|refine ⟨_,rfl,?_⟩|decide)⟩
    ·exact ⟨m - 1,Sort.swp u m (m - 1),by omega,zaB _ _ ‹u.toList[(m:Int).toNat]? = some _› ‹u.toList[((m:Int) - 1).toNat]? = some _› rfl (by omega),by omega,by rw [swp_size,hu],(zyQ (by omega) ((zaj g1 g2).trans (decide_eq_true (by omega)))).trans hU⟩
    ·((simp only [vM] at *;omega))
   ·have g1:=zz m ‹u.toList[(m:Int).toNat]? = some _› rfl
    have g2:=zz (m - 1) ‹u.toList[((m:Int) - 1).toNat]? = some _› (by omega)
    have f4:=f3 fun h=>Bool.false_ne_true ((((zaj g1 g2).trans (decide_eq_false (by omega))).symm).trans h.2)
    rw [f4] at f2
    have f5 : ∀ g,Sort.shiftUp (ltC cf) b (k+1) u=g→Sort.partialIns (ltC cf) a b s k g=R:=fun g hg=>f2 g (by rw [Sort.fixUp,if_pos (by omega)];exact hg)
    refine zt (fun ((mm,xs):Int×List D)=>[(0,.own 0),(1,.d (.int .i64 ((a:Int)))),(2,.d (.int .i64 ((b:Int)))),(9,.d (.int .i64 ((k:Int)))),(10,.d (.int .i64 ((5 - ((s+1:Nat):Int))))),(12,.d (.int .i64 (mm))),(3,.d (.fn fid [y1,y2,y3])),(za,.own 0)]) (fun ((mm,xs):Int×List D)=>[(0,some (.row 1 xs))]) 1 (fun ((mm,xs):Int×List D) => ∃ (m:Nat) (g:Array τ),mm=m∧xs=g.toList.map (eC vf)∧k+1≤m∧m≤b∧g.size=d.size∧Sort.shiftUp (ltC cf) b m g=Sort.shiftUp (ltC cf) b (k+1) u) (fun ((mm,xs):Int×List D)=>(b - mm).toNat) (((k:Int)+1,_)) [(0,0)] [] (⟨k+1,u,by omega,rfl,by omega,by omega,hu,rfl⟩) (by (refine ⟨rfl,rfl,rfl,?_,?_⟩;repeat' first|exact trivial|exact rfl|refine And.intro ?_ ?_|refine ⟨_,rfl,?_⟩|decide)) ?_
    rintro ⟨_,_⟩ ⟨m,g,rfl,rfl,hm,hmb,hg,hG⟩
    have hgl:g.toList.length=d.size:=by rw [Array.length_toList];exact hg
    (repeat' ((conv=>whnf);first|refine vA ?_|refine vE ?_|(refine vF ?_ ?_<;>intro hc<;>try simp only [vL] at hc)|refine vT ?_|refine vN ‹_› ?_|(refine vQ ?_ fun x hx=>?_;·omega)|((first|refine vO ?_ ?_|refine vP ?_ ?_);·first|omega|(simp only [vM] at *;omega))|(refine vU ?_ ?_;·kernel_rfl)|refine yD (hcf _ _) (by (repeat refine ⟨⟨rfl,rfl⟩,?_⟩);rfl) rfl ?_));all_goals try conv=>whnf
    ·have h1:=zz m ‹g.toList[(m:Int).toNat]? = some _› rfl
     have h2:=zz (m - 1) ‹g.toList[((m:Int) - 1).toNat]? = some _› (by omega)
     refine ⟨(_,_),[(0,0)],[],?_,?_,by (refine ⟨rfl,rfl,rfl,?_,?_⟩;repeat' first|exact trivial|exact rfl|refine And.intro ?_ ?_|refine ⟨_,rfl,?_⟩|decide)⟩
     ·exact ⟨m+1,Sort.swp g m (m - 1),by omega,zaB _ _ ‹g.toList[(m:Int).toNat]? = some _› ‹g.toList[((m:Int) - 1).toNat]? = some _› rfl (by omega),by omega,by omega,by rw [swp_size,hg],(zn1 (by omega) ((zaj h1 h2).trans (decide_eq_true (by omega)))).trans hG⟩
     ·((simp only [vM] at *;omega))
    ·have h1:=zz m ‹g.toList[(m:Int).toNat]? = some _› rfl
     have h2:=zz (m - 1) ‹g.toList[((m:Int) - 1).toNat]? = some _› (by omega)
     refine ⟨(_,_,_),[(0,0)],[],?_,?_,by (refine ⟨rfl,rfl,rfl,?_,?_⟩;repeat' first|exact trivial|exact rfl|refine And.intro ?_ ?_|refine ⟨_,rfl,?_⟩|decide)⟩
     ·exact ⟨s,k,g,by omega,by omega,rfl,rfl,by omega,by omega,hg,f5 g (hG.symm.trans (zfM fun h=>Bool.false_ne_true ((((zaj h1 h2).trans (decide_eq_false (by omega))).symm).trans h.2)))⟩
     ·((simp only [vM] at *;omega))
    ·refine ⟨(_,_,_),[(0,0)],[],?_,?_,by (refine ⟨rfl,rfl,rfl,?_,?_⟩;repeat' first|exact trivial|exact rfl|refine And.intro ?_ ?_|refine ⟨_,rfl,?_⟩|decide)⟩
     ·exact ⟨s,k,g,by omega,by omega,rfl,rfl,by omega,by omega,hg,f5 g (hG.symm.trans (zfM fun h=>by omega))⟩
     ·((simp only [vM] at *;omega))
   ·have g1:=zz m ‹u.toList[(m:Int).toNat]? = some _› rfl
    have g2:=zz (m - 1) ‹u.toList[((m:Int) - 1).toNat]? = some _› (by omega)
    have f4:=f3 fun h=>Bool.false_ne_true ((((zaj g1 g2).trans (decide_eq_false (by omega))).symm).trans h.2)
    rw [f4] at f2
    refine ⟨(_,_,_),[(0,0)],[],?_,?_,by (refine ⟨rfl,rfl,rfl,?_,?_⟩;repeat' first|exact trivial|exact rfl|refine And.intro ?_ ?_|refine ⟨_,rfl,?_⟩|decide)⟩
    ·exact ⟨s,k,u,by omega,by omega,rfl,rfl,by omega,by omega,hu,f2 u (by rw [Sort.fixUp,if_neg (by omega)])⟩
    ·((simp only [vM] at *;omega))
   ·have f4:=f3 fun h=>by omega
    rw [f4] at f2
    have f5 : ∀ g,Sort.shiftUp (ltC cf) b (k+1) u=g→Sort.partialIns (ltC cf) a b s k g=R:=fun g hg=>f2 g (by rw [Sort.fixUp,if_pos (by omega)];exact hg)
    refine zt (fun ((mm,xs):Int×List D)=>[(0,.own 0),(1,.d (.int .i64 ((a:Int)))),(2,.d (.int .i64 ((b:Int)))),(9,.d (.int .i64 ((k:Int)))),(10,.d (.int .i64 ((5 - ((s+1:Nat):Int))))),(12,.d (.int .i64 (mm))),(3,.d (.fn fid [y1,y2,y3])),(za,.own 0)]) (fun ((mm,xs):Int×List D)=>[(0,some (.row 1 xs))]) 1 (fun ((mm,xs):Int×List D) => ∃ (m:Nat) (g:Array τ),mm=m∧xs=g.toList.map (eC vf)∧k+1≤m∧m≤b∧g.size=d.size∧Sort.shiftUp (ltC cf) b m g=Sort.shiftUp (ltC cf) b (k+1) u) (fun ((mm,xs):Int×List D)=>(b - mm).toNat) (((k:Int)+1,_)) [(0,0)] [] (⟨k+1,u,by omega,rfl,by omega,by omega,hu,rfl⟩) (by (refine ⟨rfl,rfl,rfl,?_,?_⟩;repeat' first|exact trivial|exact rfl|refine And.intro ?_ ?_|refine ⟨_,rfl,?_⟩|decide)) ?_
    rintro ⟨_,_⟩ ⟨m,g,rfl,rfl,hm,hmb,hg,hG⟩
    have hgl:g.toList.length=d.size:=by rw [Array.length_toList];exact hg
    (repeat' ((conv=>whnf);first|refine vA ?_|refine vE ?_|(refine vF ?_ ?_<;>intro hc<;>try simp only [vL] at hc)|refine vT ?_|refine vN ‹_› ?_|(refine vQ ?_ fun x hx=>?_;·omega)|((first|refine vO ?_ ?_|refine vP ?_ ?_);·first|omega|(simp only [vM] at *;omega))|(refine vU ?_ ?_;·kernel_rfl)|refine yD (hcf _ _) (by (repeat refine ⟨⟨rfl,rfl⟩,?_⟩);rfl) rfl ?_));all_goals try conv=>whnf
    ·have h1:=zz m ‹g.toList[(m:Int).toNat]? = some _› rfl
     have h2:=zz (m - 1) ‹g.toList[((m:Int) - 1).toNat]? = some _› (by omega)
     refine ⟨(_,_),[(0,0)],[],?_,?_,by (refine ⟨rfl,rfl,rfl,?_,?_⟩;repeat' first|exact trivial|exact rfl|refine And.intro ?_ ?_|refine ⟨_,rfl,?_⟩|decide)⟩
     ·exact ⟨m+1,Sort.swp g m (m - 1),by omega,zaB _ _ ‹g.toList[(m:Int).toNat]? = some _› ‹g.toList[((m:Int) - 1).toNat]? = some _› rfl (by omega),by omega,by omega,by rw [swp_size,hg],(zn1 (by omega) ((zaj h1 h2).trans (decide_eq_true (by omega)))).trans hG⟩
     ·((simp only [vM] at *;omega))
    ·have h1:=zz m ‹g.toList[(m:Int).toNat]? = some _› rfl
     have h2:=zz (m - 1) ‹g.toList[((m:Int) - 1).toNat]? = some _› (by omega)
     refine ⟨(_,_,_),[(0,0)],[],?_,?_,by (refine ⟨rfl,rfl,rfl,?_,?_⟩;repeat' first|exact trivial|exact rfl|refine And.intro ?_ ?_|refine ⟨_,rfl,?_⟩|decide)⟩
     ·exact ⟨s,k,g,by omega,by omega,rfl,rfl,by omega,by omega,hg,f5 g (hG.symm.trans (zfM fun h=>Bool.false_ne_true ((((zaj h1 h2).trans (decide_eq_false (by omega))).symm).trans h.2)))⟩
     ·((simp only [vM] at *;omega))
    ·refine ⟨(_,_,_),[(0,0)],[],?_,?_,by (refine ⟨rfl,rfl,rfl,?_,?_⟩;repeat' first|exact trivial|exact rfl|refine And.intro ?_ ?_|refine ⟨_,rfl,?_⟩|decide)⟩
     ·exact ⟨s,k,g,by omega,by omega,rfl,rfl,by omega,by omega,hg,f5 g (hG.symm.trans (zfM fun h=>by omega))⟩
     ·((simp only [vM] at *;omega))
   ·have f4:=f3 fun h=>by omega
    rw [f4] at f2
    refine ⟨(_,_,_),[(0,0)],[],?_,?_,by (refine ⟨rfl,rfl,rfl,?_,?_⟩;repeat' first|exact trivial|exact rfl|refine And.intro ?_ ?_|refine ⟨_,rfl,?_⟩|decide)⟩
    ·exact ⟨s,k,u,by omega,by omega,rfl,rfl,by omega,by omega,hu,f2 u (by rw [Sort.fixUp,if_neg (by omega)])⟩
    ·((simp only [vM] at *;omega))
  ·have hk:=hS fun h=>Bool.false_ne_true (h.2.symm.trans ((zaj h1 h2).trans (decide_eq_true (by omega))))
   have f2:=f1 hk (by omega) (by omega)
   rw [Sort.fixDown,if_neg (by omega)] at f2
   have f5 : ∀ g,Sort.shiftUp (ltC cf) b (k+1) (Sort.swp e k (k - 1))=g→Sort.partialIns (ltC cf) a b s k g=R:=fun g hg=>f2 g (by rw [Sort.fixUp,if_pos (by omega)];exact hg)
   refine zt (fun ((mm,xs):Int×List D)=>[(0,.own 0),(1,.d (.int .i64 ((a:Int)))),(2,.d (.int .i64 ((b:Int)))),(9,.d (.int .i64 ((k:Int)))),(10,.d (.int .i64 ((5 - ((s+1:Nat):Int))))),(12,.d (.int .i64 (mm))),(3,.d (.fn fid [y1,y2,y3])),(za,.own 0)]) (fun ((mm,xs):Int×List D)=>[(0,some (.row 1 xs))]) 1 (fun ((mm,xs):Int×List D) => ∃ (m:Nat) (g:Array τ),mm=m∧xs=g.toList.map (eC vf)∧k+1≤m∧m≤b∧g.size=d.size∧Sort.shiftUp (ltC cf) b m g=Sort.shiftUp (ltC cf) b (k+1) (Sort.swp e k (k - 1))) (fun ((mm,xs):Int×List D)=>(b - mm).toNat) (((k:Int)+1,_)) [(0,0)] [] (⟨k+1,(Sort.swp e k (k - 1)),by omega,zaB _ _ ‹e.toList[(k:Int).toNat]? = some _› ‹e.toList[((k:Int) - 1).toNat]? = some _› rfl (by omega),by omega,by omega,hsw,rfl⟩) (by (refine ⟨rfl,rfl,rfl,?_,?_⟩;repeat' first|exact trivial|exact rfl|refine And.intro ?_ ?_|refine ⟨_,rfl,?_⟩|decide)) ?_
   rintro ⟨_,_⟩ ⟨m,g,rfl,rfl,hm,hmb,hg,hG⟩
   have hgl:g.toList.length=d.size:=by rw [Array.length_toList];exact hg
   (repeat' ((conv=>whnf);first|refine vA ?_|refine vE ?_|(refine vF ?_ ?_<;>intro hc<;>try simp only [vL] at hc)|refine vT ?_|refine vN ‹_› ?_|(refine vQ ?_ fun x hx=>?_;·omega)|((first|refine vO ?_ ?_|refine vP ?_ ?_);·first|omega|(simp only [vM] at *;omega))|(refine vU ?_ ?_;·kernel_rfl)|refine yD (hcf _ _) (by (repeat refine ⟨⟨rfl,rfl⟩,?_⟩);rfl) rfl ?_));all_goals try conv=>whnf
   ·have h1:=zz m ‹g.toList[(m:Int).toNat]? = some _› rfl
    have h2:=zz (m - 1) ‹g.toList[((m:Int) - 1).toNat]? = some _› (by omega)
    refine ⟨(_,_),[(0,0)],[],?_,?_,by (refine ⟨rfl,rfl,rfl,?_,?_⟩;repeat' first|exact trivial|exact rfl|refine And.intro ?_ ?_|refine ⟨_,rfl,?_⟩|decide)⟩
    ·exact ⟨m+1,Sort.swp g m (m - 1),by omega,zaB _ _ ‹g.toList[(m:Int).toNat]? = some _› ‹g.toList[((m:Int) - 1).toNat]? = some _› rfl (by omega),by omega,by omega,by rw [swp_size,hg],(zn1 (by omega) ((zaj h1 h2).trans (decide_eq_true (by omega)))).trans hG⟩
    ·((simp only [vM] at *;omega))
   ·have h1:=zz m ‹g.toList[(m:Int).toNat]? = some _› rfl
    have h2:=zz (m - 1) ‹g.toList[((m:Int) - 1).toNat]? = some _› (by omega)
    refine ⟨(_,_,_),[(0,0)],[],?_,?_,by (refine ⟨rfl,rfl,rfl,?_,?_⟩;repeat' first|exact trivial|exact rfl|refine And.intro ?_ ?_|refine ⟨_,rfl,?_⟩|decide)⟩
    ·exact ⟨s,k,g,by omega,by omega,rfl,rfl,by omega,by omega,hg,f5 g (hG.symm.trans (zfM fun h=>Bool.false_ne_true ((((zaj h1 h2).trans (decide_eq_false (by omega))).symm).trans h.2)))⟩
    ·((simp only [vM] at *;omega))
   ·refine ⟨(_,_,_),[(0,0)],[],?_,?_,by (refine ⟨rfl,rfl,rfl,?_,?_⟩;repeat' first|exact trivial|exact rfl|refine And.intro ?_ ?_|refine ⟨_,rfl,?_⟩|decide)⟩
    ·exact ⟨s,k,g,by omega,by omega,rfl,rfl,by omega,by omega,hg,f5 g (hG.symm.trans (zfM fun h=>by omega))⟩
    ·((simp only [vM] at *;omega))
  ·refine ⟨_,[(0,0)],[],?_,?_,by (refine ⟨rfl,rfl,rfl,?_,?_⟩;repeat' first|exact trivial|exact rfl|refine And.intro ?_ ?_|refine ⟨_,rfl,?_⟩|decide)⟩
   ·exact ⟨k+1,by omega,by omega,by omega,(zvQ (by omega) ((zaj h1 h2).trans (decide_eq_false (by omega)))).trans hK⟩
   ·(omega)
  ·have hk:=hS fun h=>by omega
   rw [hk,if_pos (by omega)] at hI
   subst hI
   refine ⟨trivial,_,[(0,0)],[],rfl,.inl (by (repeat' exact .inr (.inl ⟨rfl,rfl⟩))),⟨by rfl,by rfl,by rfl,trivial,by (repeat' first|exact trivial|exact rfl|refine And.intro ?_ ?_|refine ⟨_,rfl,?_⟩|exact of_decide_eq_true rfl)⟩,by (repeat' first|exact trivial|exact rfl|refine And.intro ?_ ?_)⟩
 ·have hs0:s=0:=by omega
  subst hs0
  have hI':(e,false)=R:=hI
  subst hI'
  refine ⟨trivial,_,[(0,0)],[],rfl,.inl (by (repeat' exact .inr (.inr ⟨rfl,rfl⟩))),⟨by rfl,by rfl,by rfl,trivial,by (repeat' first|exact trivial|exact rfl|refine And.intro ?_ ?_|refine ⟨_,rfl,?_⟩|exact of_decide_eq_true rfl)⟩,by (repeat' first|exact trivial|exact rfl|refine And.intro ?_ ?_)⟩
end Go.Ab
namespace Go.Ab
open Go Go.Proofs
set_option maxRecDepth 10000
set_option maxHeartbeats 4000000
variable {T : Nat → Obj → Prop}
variable {τ : Type} [Inhabited τ] {vf : τ → Int} {cf : τ → τ → Int} {fid : Nat} {y1 y2 y3 : D} (hcf : ∀ x y : τ, Fn Tryz.prog T fid [.d (.int .i64 (vf x)), .d (.int .i64 (vf y)), .d y1, .d y2, .d y3] [] (.d (.int .i64 (cf x y))) []) (hO : Sort.SWO (ltC cf))
include hcf hO
set_option maxHeartbeats 2000000 in
theorem zsY (d : Array τ) {a b p : Nat} {ai bi pi : Int} (ea : ai = a) (eb : bi = b) (ep : pi = p) (hap : a ≤ p) (hpb : p < b) (hb : b ≤ d.size) (hs : d.size ≤ 536870912) :
    Fn Tryz.prog T zbS [.own 0, .d (.int .i64 ai), .d (.int .i64 bi), .d (.int .i64 pi), .d (.fn fid [y1, y2, y3])] [zat vf d] (.d (.int .i64 ((Sort.partitionEqual (ltC cf) d a b p).1 : Int))) [some (zat vf (Sort.partitionEqual (ltC cf) d a b p).2)] := by
  subst ea; subst eb; subst ep
  rw [Sort.partitionEqual]
  generalize hR : Sort.partEqLoop (ltC cf) a (a + 1) (b - 1) (Sort.swp d a p) = R
  refine zJ zn zed (by show 5 ≤ 90; decide) _ (fun e env mem n h => h) ?_
  have hdl : d.toList.length = d.size := by rw [Array.length_toList]
  (repeat' ((conv=>whnf);first|refine vA ?_|refine vT ?_|(refine vQ ?_ fun x hx=>?_;·omega)|((first|refine vO ?_ ?_|refine vP ?_ ?_);·first|omega|(simp only [vM] at *;omega))|(refine vU ?_ ?_;·kernel_rfl)|fail));all_goals try conv=>whnf
  refine zt (fun ((ii, jj, xs) : Int × Int × List D) => [(0, .own 0), (1, .d (.int .i64 ((a : Int)))), (11, .d (.int .i64 (ii))), (12, .d (.int .i64 (jj))), (4, .d (.fn fid [y1, y2, y3])), (za, .own 0)]) (fun ((ii, jj, xs) : Int × Int × List D) => [(0, some (.row 1 xs))]) 1 (fun ((ii, jj, xs) : Int × Int × List D) => ∃ (i j : Nat) (e : Array τ), ii = i ∧ jj = j ∧ xs = e.toList.map (eC vf) ∧ a < i ∧ i ≤ j + 2 ∧ j < b ∧ e.size = d.size ∧ Sort.partEqLoop (ltC cf) a i j e = R) (fun ((ii, jj, xs) : Int × Int × List D) => (jj + 1 - ii).toNat) (((a : Int) + 1, (b : Int) - 1, _)) [(0, 0)] [] (⟨a + 1, b - 1, Sort.swp d a p, by omega, by omega, zaB _ _ ‹d.toList[(a : Int).toNat]? = some _› ‹d.toList[(p : Int).toNat]? = some _› rfl rfl, by omega, by omega, by omega, by rw [swp_size], hR⟩) (by (refine ⟨rfl,rfl,rfl,?_,?_⟩;repeat' first|exact trivial|exact rfl|refine And.intro ?_ ?_|refine ⟨_,rfl,?_⟩|decide)) ?_
  rintro ⟨_, _, _⟩ ⟨i, j, e, rfl, rfl, rfl, hi, hij, hjb, he, hI⟩
  have hel : e.toList.length = d.size := by rw [Array.length_toList]; exact he
  rw [Sort.partEqLoop_eq] at hI
  (repeat' ((conv=>whnf);first|refine vA ?_|refine vT ?_));all_goals try conv=>whnf
  refine zt (fun (kk : Int) => [(0, .own 0), (1, .d (.int .i64 ((a : Int)))), (11, .d (.int .i64 (kk))), (12, .d (.int .i64 ((j : Int)))), (4, .d (.fn fid [y1, y2, y3])), (za, .own 0)]) (fun (kk : Int) => [(0, some (zat vf e))]) 1 (fun (kk : Int) => ∃ k : Nat, kk = k ∧ i ≤ k ∧ k ≤ j + 2 ∧ Sort.scanUp (fun x => !(ltC cf) e[a]! x) e j k = Sort.scanUp (fun x => !(ltC cf) e[a]! x) e j i) (fun (kk : Int) => ((j : Int) + 1 - kk).toNat) ((i : Int)) [(0, 0)] [] (⟨i, by omega, by omega, by omega, rfl⟩) (by (refine ⟨rfl,rfl,rfl,?_,?_⟩;repeat' first|exact trivial|exact rfl|refine And.intro ?_ ?_|refine ⟨_,rfl,?_⟩|decide)) ?_
  rintro _ ⟨k, rfl, hik, hkj, hK⟩
  (repeat' ((conv=>whnf);first|refine vA ?_|refine vE ?_|(refine vF ?_ ?_<;>intro hc<;>try simp only [vL] at hc)|refine vT ?_|(refine vQ ?_ fun x hx=>?_;·omega)|((first|refine vO ?_ ?_|refine vP ?_ ?_);·first|omega|(simp only [vM] at *;omega))|(refine vU ?_ ?_;·kernel_rfl)|refine yD (hcf _ _) (by (repeat refine ⟨⟨rfl,rfl⟩,?_⟩);rfl) rfl ?_));all_goals try conv=>whnf
  all_goals first
  | (have g1 := zz a ‹e.toList[(a : Int).toNat]? = some _› rfl
     have g2 := zz k ‹e.toList[(k : Int).toNat]? = some _› rfl
     refine ⟨_, [(0, 0)], [], ?_, ?_, by (refine ⟨rfl,rfl,rfl,?_,?_⟩;repeat' first|exact trivial|exact rfl|refine And.intro ?_ ?_|refine ⟨_,rfl,?_⟩|decide)⟩
     · exact ⟨k + 1, by omega, by omega, by omega, (zqu (by omega) (by show (!(ltC cf) e[a]! e[k]!) = true; rw [zaj (lt := (ltC cf)) g1 g2]; simp only [Bool.not_eq_true']; exact decide_eq_false (by omega))).trans hK⟩
     · (omega))
  | skip
  all_goals
    have hk : Sort.scanUp (fun x => !(ltC cf) e[a]! x) e j i = k := hK.symm.trans (zqv fun h => by
      first
      | omega
      | (have g1 := zz a ‹e.toList[(a : Int).toNat]? = some _› rfl
         have g2 := zz k ‹e.toList[(k : Int).toNat]? = some _› rfl
         have h2 : (!(ltC cf) e[a]! e[k]!) = true := h.2
         rw [zaj (lt := (ltC cf)) g1 g2] at h2
         simp only [Bool.not_eq_true'] at h2
         have := of_decide_eq_false h2
         omega))
    clear hK
    rw [hk] at hI
    refine zt (fun (kk : Int) => [(0, .own 0), (1, .d (.int .i64 ((a : Int)))), (11, .d (.int .i64 ((k : Int)))), (12, .d (.int .i64 (kk))), (4, .d (.fn fid [y1, y2, y3])), (za, .own 0)]) (fun (kk : Int) => [(0, some (zat vf e))]) 1 (fun (kk : Int) => ∃ m : Nat, kk = m ∧ m ≤ j ∧ k ≤ m + 2 ∧ Sort.scanDown (fun x => (ltC cf) e[a]! x) e k m = Sort.scanDown (fun x => (ltC cf) e[a]! x) e k j) (fun (kk : Int) => (kk + 1).toNat) ((j : Int)) [(0, 0)] [] (⟨j, by omega, by omega, by omega, rfl⟩) (by (refine ⟨rfl,rfl,rfl,?_,?_⟩;repeat' first|exact trivial|exact rfl|refine And.intro ?_ ?_|refine ⟨_,rfl,?_⟩|decide)) ?_
    rintro _ ⟨m, rfl, hmj, hkm, hM⟩
    (repeat' ((conv=>whnf);first|refine vA ?_|(refine vF ?_ ?_<;>intro hc<;>try simp only [vL] at hc)|refine vT ?_|refine vN ‹_› ?_|(refine vQ ?_ fun x hx=>?_;·omega)|((first|refine vO ?_ ?_|refine vP ?_ ?_);·first|omega|(simp only [vM] at *;omega))|(refine vU ?_ ?_;·kernel_rfl)|refine yD (hcf _ _) (by (repeat refine ⟨⟨rfl,rfl⟩,?_⟩);rfl) rfl ?_));all_goals try conv=>whnf
    all_goals first
    | (have g1 := zz a ‹e.toList[(a : Int).toNat]? = some _› rfl
       have g2 := zz m ‹e.toList[(m : Int).toNat]? = some _› rfl
       refine ⟨_, [(0, 0)], [], ?_, ?_, by (refine ⟨rfl,rfl,rfl,?_,?_⟩;repeat' first|exact trivial|exact rfl|refine And.intro ?_ ?_|refine ⟨_,rfl,?_⟩|decide)⟩
       · exact ⟨m - 1, by omega, by omega, by omega, (zqo (by omega) (by omega) (by show (ltC cf) e[a]! e[m]! = true; rw [zaj (lt := (ltC cf)) g1 g2]; exact decide_eq_true (by omega))).trans hM⟩
       · (omega))
    | skip
    all_goals
      have hm : Sort.scanDown (fun x => (ltC cf) e[a]! x) e k j = m := hM.symm.trans (zqp fun h => by
        first
        | omega
        | (have g1 := zz a ‹e.toList[(a : Int).toNat]? = some _› rfl
           have g2 := zz m ‹e.toList[(m : Int).toNat]? = some _› rfl
           have h2 : (ltC cf) e[a]! e[m]! = true := h.2
           rw [zaj (lt := (ltC cf)) g1 g2] at h2
           skip
           have := of_decide_eq_true h2
           omega))
      clear hM
      rw [hm] at hI
      first
      | (exfalso; omega)
      | (rw [if_pos (by omega)] at hI
         subst hI
         refine ⟨trivial, _, [(0, 0)], [], rfl, .inl (by (repeat' exact rfl)), ⟨by rfl, by rfl, by rfl, trivial, by (repeat' first|exact trivial|exact rfl|refine And.intro ?_ ?_|refine ⟨_,rfl,?_⟩|exact of_decide_eq_true rfl)⟩, by (repeat' first|exact trivial|exact rfl|refine And.intro ?_ ?_)⟩
         done)
      | (rw [if_neg (by omega)] at hI
         refine ⟨(_, _, _), [(0, 0)], [], ?_, ?_, by (refine ⟨rfl,rfl,rfl,?_,?_⟩;repeat' first|exact trivial|exact rfl|refine And.intro ?_ ?_|refine ⟨_,rfl,?_⟩|decide)⟩
         · exact ⟨k + 1, m - 1, Sort.swp e k m, by omega, by omega, zaB _ _ ‹e.toList[(k : Int).toNat]? = some _› ‹e.toList[(m : Int).toNat]? = some _› rfl rfl, by omega, by omega, by omega, by rw [swp_size, he], hI⟩
         · ((simp only [vM] at *;omega)))
theorem zuh {d e : Array τ} {a b p : Nat} (he : Sort.swp d a p = e) : Sort.partition (ltC cf) d a b p =
    if Sort.scanUp (fun x => (ltC cf) x e[a]!) e (b - 1) (a + 1) > Sort.scanDown (fun x => !(ltC cf) x e[a]!) e (Sort.scanUp (fun x => (ltC cf) x e[a]!) e (b - 1) (a + 1)) (b - 1) then
      (Sort.scanDown (fun x => !(ltC cf) x e[a]!) e (Sort.scanUp (fun x => (ltC cf) x e[a]!) e (b - 1) (a + 1)) (b - 1), true, Sort.swp e (Sort.scanDown (fun x => !(ltC cf) x e[a]!) e (Sort.scanUp (fun x => (ltC cf) x e[a]!) e (b - 1) (a + 1)) (b - 1)) a)
    else ((Sort.partLoop (ltC cf) a (Sort.scanUp (fun x => (ltC cf) x e[a]!) e (b - 1) (a + 1) + 1) (Sort.scanDown (fun x => !(ltC cf) x e[a]!) e (Sort.scanUp (fun x => (ltC cf) x e[a]!) e (b - 1) (a + 1)) (b - 1) - 1) (Sort.swp e (Sort.scanUp (fun x => (ltC cf) x e[a]!) e (b - 1) (a + 1)) (Sort.scanDown (fun x => !(ltC cf) x e[a]!) e (Sort.scanUp (fun x => (ltC cf) x e[a]!) e (b - 1) (a + 1)) (b - 1)))).1, false,
      Sort.swp (Sort.partLoop (ltC cf) a (Sort.scanUp (fun x => (ltC cf) x e[a]!) e (b - 1) (a + 1) + 1) (Sort.scanDown (fun x => !(ltC cf) x e[a]!) e (Sort.scanUp (fun x => (ltC cf) x e[a]!) e (b - 1) (a + 1)) (b - 1) - 1) (Sort.swp e (Sort.scanUp (fun x => (ltC cf) x e[a]!) e (b - 1) (a + 1)) (Sort.scanDown (fun x => !(ltC cf) x e[a]!) e (Sort.scanUp (fun x => (ltC cf) x e[a]!) e (b - 1) (a + 1)) (b - 1)))).2
        (Sort.partLoop (ltC cf) a (Sort.scanUp (fun x => (ltC cf) x e[a]!) e (b - 1) (a + 1) + 1) (Sort.scanDown (fun x => !(ltC cf) x e[a]!) e (Sort.scanUp (fun x => (ltC cf) x e[a]!) e (b - 1) (a + 1)) (b - 1) - 1) (Sort.swp e (Sort.scanUp (fun x => (ltC cf) x e[a]!) e (b - 1) (a + 1)) (Sort.scanDown (fun x => !(ltC cf) x e[a]!) e (Sort.scanUp (fun x => (ltC cf) x e[a]!) e (b - 1) (a + 1)) (b - 1)))).1 a) := by
  subst he; rfl
set_option maxHeartbeats 4000000 in
theorem zvp (d : Array τ) {a b p : Nat} {ai bi pi : Int} (ea : ai = a) (eb : bi = b) (ep : pi = p) (hap : a ≤ p) (hpb : p < b) (hb : b ≤ d.size) (hs : d.size ≤ 536870912) :
    Fn Tryz.prog T zcx [.own 0, .d (.int .i64 ai), .d (.int .i64 bi), .d (.int .i64 pi), .d (.fn fid [y1, y2, y3])] [zat vf d] (.tup [.d (.int .i64 ((Sort.partition (ltC cf) d a b p).1 : Int)), .d (.bool (Sort.partition (ltC cf) d a b p).2.1)]) [some (zat vf (Sort.partition (ltC cf) d a b p).2.2)] := by
  subst ea; subst eb; subst ep
  generalize hI : Sort.partition (ltC cf) d a b p = R
  refine zJ zn zfm (by show 5 ≤ 178; decide) _ (fun e env mem n h => h) ?_
  have hdl : d.toList.length = d.size := by rw [Array.length_toList]
  (repeat' ((conv=>whnf);first|refine vA ?_|refine vT ?_|(refine vQ ?_ fun x hx=>?_;·omega)|((first|refine vO ?_ ?_|refine vP ?_ ?_);·first|omega|(simp only [vM] at *;omega))|(refine vU ?_ ?_;·kernel_rfl)|fail));all_goals try conv=>whnf
  have hsw := zaB (enc := (eC vf)) a p ‹d.toList[(a : Int).toNat]? = some _› ‹d.toList[(p : Int).toNat]? = some _› rfl rfl
  generalize he0 : Sort.swp d a p = e at hsw
  rw [zuh hcf hO he0] at hI
  have he : e.size = d.size := by rw [← he0, swp_size]
  have hel : e.toList.length = d.size := by rw [Array.length_toList]; exact he
  generalize hjd : b - 1 = j at hI
  obtain ⟨i, hid⟩ : ∃ i, i = a + 1 := ⟨_, rfl⟩
  rw [← hid] at hI
  refine zt (fun ((kk, xs) : Int × List D) => [(0, .own 0), (1, .d (.int .i64 ((a : Int)))), (12, .d (.int .i64 (kk))), (13, .d (.int .i64 (((b : Int) - 1)))), (4, .d (.fn fid [y1, y2, y3])), (za, .own 0)]) (fun ((kk, xs) : Int × List D) => [(0, some (.row 1 xs))]) 1 (fun ((kk, xs) : Int × List D) => ∃ k : Nat, kk = k ∧ xs = e.toList.map (eC vf) ∧ i ≤ k ∧ k ≤ j + 2 ∧ Sort.scanUp (fun x => (ltC cf) x e[a]!) e j k = Sort.scanUp (fun x => (ltC cf) x e[a]!) e j i) (fun ((kk, xs) : Int × List D) => ((j : Int) + 1 - kk).toNat) (((a : Int) + 1, _)) [(0, 0)] [] (⟨i, by omega, hsw, by omega, by omega, rfl⟩) (by (refine ⟨rfl,rfl,rfl,?_,?_⟩;repeat' first|exact trivial|exact rfl|refine And.intro ?_ ?_|refine ⟨_,rfl,?_⟩|decide)) ?_
  rintro ⟨_, _⟩ ⟨k, rfl, rfl, hik, hkj, hK⟩
  have hja : (b : Int) - 1 = j := by omega
  (repeat' ((conv=>whnf);first|refine vA ?_|(refine vF ?_ ?_<;>intro hc<;>try simp only [vL] at hc)|refine vT ?_|(refine vQ ?_ fun x hx=>?_;·omega)|((first|refine vO ?_ ?_|refine vP ?_ ?_);·first|omega|(simp only [vM] at *;omega))|(refine vU ?_ ?_;·kernel_rfl)|refine yD (hcf _ _) (by (repeat refine ⟨⟨rfl,rfl⟩,?_⟩);rfl) rfl ?_));all_goals try conv=>whnf
  all_goals first
  | (have g1 := zz a ‹e.toList[(a : Int).toNat]? = some _› rfl
     have g2 := zz k ‹e.toList[(k : Int).toNat]? = some _› rfl
     refine ⟨(_, _), [(0, 0)], [], ?_, ?_, by (refine ⟨rfl,rfl,rfl,?_,?_⟩;repeat' first|exact trivial|exact rfl|refine And.intro ?_ ?_|refine ⟨_,rfl,?_⟩|decide)⟩
     · exact ⟨k + 1, by omega, rfl, by omega, by omega, (zqu (by omega) (by show (ltC cf) e[k]! e[a]! = true; rw [zaj (lt := (ltC cf)) g2 g1]; exact decide_eq_true (by omega))).trans hK⟩
     · ((simp only [vM] at *;omega)))
  | skip
  all_goals
    have hk : Sort.scanUp (fun x => (ltC cf) x e[a]!) e j i = k := hK.symm.trans (zqv fun h => by
      first
      | omega
      | (have g1 := zz a ‹e.toList[(a : Int).toNat]? = some _› rfl
         have g2 := zz k ‹e.toList[(k : Int).toNat]? = some _› rfl
         have h2 : (ltC cf) e[k]! e[a]! = true := h.2
         rw [zaj (lt := (ltC cf)) g2 g1] at h2
         skip
         have := of_decide_eq_true h2
         omega))
    clear hK
    rw [hk] at hI
    refine zt (fun (kk : Int) => [(0, .own 0), (1, .d (.int .i64 ((a : Int)))), (12, .d (.int .i64 ((k : Int)))), (13, .d (.int .i64 (kk))), (4, .d (.fn fid [y1, y2, y3])), (za, .own 0)]) (fun (kk : Int) => [(0, some (zat vf e))]) 1 (fun (kk : Int) => ∃ m : Nat, kk = m ∧ m ≤ j ∧ k ≤ m + 2 ∧ Sort.scanDown (fun x => !(ltC cf) x e[a]!) e k m = Sort.scanDown (fun x => !(ltC cf) x e[a]!) e k j) (fun (kk : Int) => (kk + 1).toNat) (((b : Int) - 1)) [(0, 0)] [] (⟨j, by omega, by omega, by omega, rfl⟩) (by (refine ⟨rfl,rfl,rfl,?_,?_⟩;repeat' first|exact trivial|exact rfl|refine And.intro ?_ ?_|refine ⟨_,rfl,?_⟩|decide)) ?_
    rintro _ ⟨m, rfl, hmj, hkm, hM⟩
    (repeat' ((conv=>whnf);first|refine vA ?_|refine vE ?_|(refine vF ?_ ?_<;>intro hc<;>try simp only [vL] at hc)|refine vT ?_|refine vN ‹_› ?_|(refine vQ ?_ fun x hx=>?_;·omega)|((first|refine vO ?_ ?_|refine vP ?_ ?_);·first|omega|(simp only [vM] at *;omega))|(refine vU ?_ ?_;·kernel_rfl)|refine yD (hcf _ _) (by (repeat refine ⟨⟨rfl,rfl⟩,?_⟩);rfl) rfl ?_));all_goals try conv=>whnf
    all_goals first
    | (have g1 := zz a ‹e.toList[(a : Int).toNat]? = some _› rfl
       have g2 := zz m ‹e.toList[(m : Int).toNat]? = some _› rfl
       refine ⟨_, [(0, 0)], [], ?_, ?_, by (refine ⟨rfl,rfl,rfl,?_,?_⟩;repeat' first|exact trivial|exact rfl|refine And.intro ?_ ?_|refine ⟨_,rfl,?_⟩|decide)⟩
       · exact ⟨m - 1, by omega, by omega, by omega, (zqo (by omega) (by omega) (by show (!(ltC cf) e[m]! e[a]!) = true; rw [zaj (lt := (ltC cf)) g2 g1]; simp only [Bool.not_eq_true']; exact decide_eq_false (by omega))).trans hM⟩
       · (omega))
    | skip
    all_goals
      have hm : Sort.scanDown (fun x => !(ltC cf) x e[a]!) e k j = m := hM.symm.trans (zqp fun h => by
        first
        | omega
        | (have g1 := zz a ‹e.toList[(a : Int).toNat]? = some _› rfl
           have g2 := zz m ‹e.toList[(m : Int).toNat]? = some _› rfl
           have h2 : (!(ltC cf) e[m]! e[a]!) = true := h.2
           rw [zaj (lt := (ltC cf)) g2 g1] at h2
           simp only [Bool.not_eq_true'] at h2
           have := of_decide_eq_false h2
           omega))
      clear hM
      rw [hm] at hI
      first
      | (exfalso; omega)
      | (rw [if_pos (by omega)] at hI
         subst hI
         rw [show zat vf (Sort.swp e m a) = Ob.row 1 _ from congrArg (Ob.row 1) (zaB _ _ ‹e.toList[(m : Int).toNat]? = some _› ‹e.toList[(a : Int).toNat]? = some _› rfl rfl).symm]
         refine ⟨trivial, _, [(0, 0)], [], rfl, .inl (by (repeat' first|exact rfl|exact .inr (.inl ⟨rfl,rfl⟩)|refine And.intro ?_ ?_|refine ⟨_,rfl,?_⟩)), ⟨by rfl, by rfl, by rfl, trivial, by (repeat' first|exact trivial|exact rfl|refine And.intro ?_ ?_|refine ⟨_,rfl,?_⟩|exact of_decide_eq_true rfl)⟩, by (repeat' first|exact trivial|exact rfl|refine And.intro ?_ ?_)⟩
         done)
      | (rw [if_neg (by omega)] at hI
         generalize hQ : Sort.partLoop (ltC cf) a (k + 1) (m - 1) (Sort.swp e k m) = Q at hI
         have hsq := zaB (enc := (eC vf)) k m ‹e.toList[(k : Int).toNat]? = some _› ‹e.toList[(m : Int).toNat]? = some _› rfl rfl
         generalize he1 : Sort.swp e k m = e1 at hsq hQ
         have hes : e1.size = d.size := by rw [← he1, swp_size, he]
         refine zt (fun ((ii, jj, xs) : Int × Int × List D) => [(0, .own 0), (1, .d (.int .i64 ((a : Int)))), (12, .d (.int .i64 (ii))), (13, .d (.int .i64 (jj))), (4, .d (.fn fid [y1, y2, y3])), (za, .own 0)]) (fun ((ii, jj, xs) : Int × Int × List D) => [(0, some (.row 1 xs))]) 1 (fun ((ii, jj, xs) : Int × Int × List D) => ∃ (i j : Nat) (e : Array τ), ii = i ∧ jj = j ∧ xs = e.toList.map (eC vf) ∧ a < i ∧ i ≤ j + 2 ∧ j < b ∧ e.size = d.size ∧ Sort.partLoop (ltC cf) a i j e = Q) (fun ((ii, jj, xs) : Int × Int × List D) => (jj + 1 - ii).toNat) (((k : Int) + 1, (m : Int) - 1, _)) [(0, 0)] [] (⟨k + 1, m - 1, e1, by omega, by omega, hsq, by omega, by omega, by omega, hes, hQ⟩) (by (refine ⟨rfl,rfl,rfl,?_,?_⟩;repeat' first|exact trivial|exact rfl|refine And.intro ?_ ?_|refine ⟨_,rfl,?_⟩|decide)) ?_
         clear hel he hk hm hik hkj hmj hkm hid hjd he0 hQ
         rintro ⟨_, _, _⟩ ⟨i, j, e, rfl, rfl, rfl, hi, hij, hjb, he, hJ⟩
         have hel : e.toList.length = d.size := by rw [Array.length_toList]; exact he
         rw [Sort.partLoop_eq] at hJ
         (repeat' ((conv=>whnf);first|refine vA ?_|refine vT ?_));all_goals try conv=>whnf
         refine zt (fun (kk : Int) => [(0, .own 0), (1, .d (.int .i64 ((a : Int)))), (12, .d (.int .i64 (kk))), (13, .d (.int .i64 ((j : Int)))), (4, .d (.fn fid [y1, y2, y3])), (za, .own 0)]) (fun (kk : Int) => [(0, some (zat vf e))]) 1 (fun (kk : Int) => ∃ k : Nat, kk = k ∧ i ≤ k ∧ k ≤ j + 2 ∧ Sort.scanUp (fun x => (ltC cf) x e[a]!) e j k = Sort.scanUp (fun x => (ltC cf) x e[a]!) e j i) (fun (kk : Int) => ((j : Int) + 1 - kk).toNat) ((i : Int)) [(0, 0)] [] (⟨i, by omega, by omega, by omega, rfl⟩) (by (refine ⟨rfl,rfl,rfl,?_,?_⟩;repeat' first|exact trivial|exact rfl|refine And.intro ?_ ?_|refine ⟨_,rfl,?_⟩|decide)) ?_
         rintro _ ⟨k, rfl, hik, hkj, hK⟩
         (repeat' ((conv=>whnf);first|refine vA ?_|(refine vF ?_ ?_<;>intro hc<;>try simp only [vL] at hc)|refine vT ?_|(refine vQ ?_ fun x hx=>?_;·omega)|((first|refine vO ?_ ?_|refine vP ?_ ?_);·first|omega|(simp only [vM] at *;omega))|(refine vU ?_ ?_;·kernel_rfl)|refine yD (hcf _ _) (by (repeat refine ⟨⟨rfl,rfl⟩,?_⟩);rfl) rfl ?_));all_goals try conv=>whnf
         all_goals first
         | (have g1 := zz a ‹e.toList[(a : Int).toNat]? = some _› rfl
            have g2 := zz k ‹e.toList[(k : Int).toNat]? = some _› rfl
            refine ⟨_, [(0, 0)], [], ?_, ?_, by (refine ⟨rfl,rfl,rfl,?_,?_⟩;repeat' first|exact trivial|exact rfl|refine And.intro ?_ ?_|refine ⟨_,rfl,?_⟩|decide)⟩
            · exact ⟨k + 1, by omega, by omega, by omega, (zqu (by omega) (by show (ltC cf) e[k]! e[a]! = true; rw [zaj (lt := (ltC cf)) g2 g1]; exact decide_eq_true (by omega))).trans hK⟩
            · (omega))
         | skip
         all_goals
           have hk : Sort.scanUp (fun x => (ltC cf) x e[a]!) e j i = k := hK.symm.trans (zqv fun h => by
             first
             | omega
             | (have g1 := zz a ‹e.toList[(a : Int).toNat]? = some _› rfl
                have g2 := zz k ‹e.toList[(k : Int).toNat]? = some _› rfl
                have h2 : (ltC cf) e[k]! e[a]! = true := h.2
                rw [zaj (lt := (ltC cf)) g2 g1] at h2
                skip
                have := of_decide_eq_true h2
                omega))
           clear hK
           rw [hk] at hJ
           refine zt (fun (kk : Int) => [(0, .own 0), (1, .d (.int .i64 ((a : Int)))), (12, .d (.int .i64 ((k : Int)))), (13, .d (.int .i64 (kk))), (4, .d (.fn fid [y1, y2, y3])), (za, .own 0)]) (fun (kk : Int) => [(0, some (zat vf e))]) 1 (fun (kk : Int) => ∃ m : Nat, kk = m ∧ m ≤ j ∧ k ≤ m + 2 ∧ Sort.scanDown (fun x => !(ltC cf) x e[a]!) e k m = Sort.scanDown (fun x => !(ltC cf) x e[a]!) e k j) (fun (kk : Int) => (kk + 1).toNat) ((j : Int)) [(0, 0)] [] (⟨j, by omega, by omega, by omega, rfl⟩) (by (refine ⟨rfl,rfl,rfl,?_,?_⟩;repeat' first|exact trivial|exact rfl|refine And.intro ?_ ?_|refine ⟨_,rfl,?_⟩|decide)) ?_
           rintro _ ⟨m, rfl, hmj, hkm, hM⟩
           (repeat' ((conv=>whnf);first|refine vA ?_|refine vE ?_|(refine vF ?_ ?_<;>intro hc<;>try simp only [vL] at hc)|refine vT ?_|refine vN ‹_› ?_|(refine vQ ?_ fun x hx=>?_;·omega)|((first|refine vO ?_ ?_|refine vP ?_ ?_);·first|omega|(simp only [vM] at *;omega))|(refine vU ?_ ?_;·kernel_rfl)|refine yD (hcf _ _) (by (repeat refine ⟨⟨rfl,rfl⟩,?_⟩);rfl) rfl ?_));all_goals try conv=>whnf
           all_goals first
           | (have g1 := zz a ‹e.toList[(a : Int).toNat]? = some _› rfl
              have g2 := zz m ‹e.toList[(m : Int).toNat]? = some _› rfl
              refine ⟨_, [(0, 0)], [], ?_, ?_, by (refine ⟨rfl,rfl,rfl,?_,?_⟩;repeat' first|exact trivial|exact rfl|refine And.intro ?_ ?_|refine ⟨_,rfl,?_⟩|decide)⟩
              · exact ⟨m - 1, by omega, by omega, by omega, (zqo (by omega) (by omega) (by show (!(ltC cf) e[m]! e[a]!) = true; rw [zaj (lt := (ltC cf)) g2 g1]; simp only [Bool.not_eq_true']; exact decide_eq_false (by omega))).trans hM⟩
              · (omega))
           | skip
           all_goals
             have hm : Sort.scanDown (fun x => !(ltC cf) x e[a]!) e k j = m := hM.symm.trans (zqp fun h => by
               first
               | omega
               | (have g1 := zz a ‹e.toList[(a : Int).toNat]? = some _› rfl
                  have g2 := zz m ‹e.toList[(m : Int).toNat]? = some _› rfl
                  have h2 : (!(ltC cf) e[m]! e[a]!) = true := h.2
                  rw [zaj (lt := (ltC cf)) g2 g1] at h2
                  simp only [Bool.not_eq_true'] at h2
                  have := of_decide_eq_false h2
                  omega))
             clear hM
             rw [hm] at hJ
             first
             | (exfalso; omega)
             | (rw [if_pos (by omega)] at hJ
                subst hJ
                subst hI
                rw [show zat vf (Sort.swp e m a) = Ob.row 1 _ from congrArg (Ob.row 1) (zaB _ _ ‹e.toList[(m : Int).toNat]? = some _› ‹e.toList[(a : Int).toNat]? = some _› rfl rfl).symm]
                refine ⟨trivial, _, [(0, 0)], [], rfl, .inl (by (repeat' first|exact rfl|exact .inr (.inr ⟨rfl,rfl⟩)|refine And.intro ?_ ?_|refine ⟨_,rfl,?_⟩)), ⟨by rfl, by rfl, by rfl, trivial, by (repeat' first|exact trivial|exact rfl|refine And.intro ?_ ?_|refine ⟨_,rfl,?_⟩|exact of_decide_eq_true rfl)⟩, by (repeat' first|exact trivial|exact rfl|refine And.intro ?_ ?_)⟩
                done)
             | (rw [if_neg (by omega)] at hJ
                refine ⟨(_, _, _), [(0, 0)], [], ?_, ?_, by (refine ⟨rfl,rfl,rfl,?_,?_⟩;repeat' first|exact trivial|exact rfl|refine And.intro ?_ ?_|refine ⟨_,rfl,?_⟩|decide)⟩
                · exact ⟨k + 1, m - 1, Sort.swp e k m, by omega, by omega, zaB _ _ ‹e.toList[(k : Int).toNat]? = some _› ‹e.toList[(m : Int).toNat]? = some _› rfl rfl, by omega, by omega, by omega, by rw [swp_size, he], hJ⟩
                · ((simp only [vM] at *;omega))))
end Go.Ab
namespace Go.Ab
open Go Go.Proofs
set_option maxRecDepth 10000
set_option maxHeartbeats 4000000
variable {T:Nat→Obj→Prop}
variable {τ:Type} [Inhabited τ] {vf:τ→Int} {cf:τ→τ→Int} {fid:Nat} {y1 y2 y3:D} (hcf : ∀ x y:τ,Fn Tryz.prog T fid [.d (.int .i64 (vf x)),.d (.int .i64 (vf y)),.d y1,.d y2,.d y3] [] (.d (.int .i64 (cf x y))) []) (hO:Sort.SWO (ltC cf))
include hcf hO
set_option maxHeartbeats 4000000 in
theorem zvq : ∀ (N:Nat) (d:Array τ) {a b l:Nat} {ai bi li:Int} (ea:ai=a) (eb:bi=b) (el:li=l) (hN:b - a≤N) (hab:a≤b) (hb:b≤d.size) (hs:d.size≤536870912) (hl:l≤1000),
  Fn Tryz.prog T zc1 [.own 0,.d (.int .i64 ai),.d (.int .i64 bi),.d (.int .i64 li),.d (.fn fid [y1,y2,y3])] [zat vf d] (.tup []) [some (zat vf (Sort.pdq (ltC cf) d a b l true true))]:=by
 intro N
 induction N using Nat.strongRecOn with
 | _ N ih =>
 intro d a b l ai bi li ea eb el hN hab hb hs hl
 subst ea;subst eb;subst el
 generalize hR:Sort.pdq (ltC cf) d a b l true true=R
 refine zJ zn zfG (by show 5≤148;decide) _ (fun e env mem n h=>h) ?_
 (repeat' ((conv=>whnf);refine vT ?_));all_goals try conv=>whnf
 refine zt (fun ((ai,bi,li,wb,wp,xs):Int×Int×Int×Bool×Bool×List D)=>[(0,.own 0),(1,.d (.int .i64 (ai))),(2,.d (.int .i64 (bi))),(3,.d (.int .i64 (li))),(10,.d (.bool (wb))),(11,.d (.bool (wp))),(4,.d (.fn fid [y1,y2,y3])),(za,.own 0)]) (fun ((ai,bi,li,wb,wp,xs):Int×Int×Int×Bool×Bool×List D)=>[(0,some (.row 1 xs))]) 1 (fun ((ai,bi,li,wb,wp,xs):Int×Int×Int×Bool×Bool×List D) => ∃ (i j l:Nat) (e:Array τ),ai=i∧bi=j∧li=l∧xs=e.toList.map (eC vf)∧a≤i∧i≤j∧j≤b∧l≤1000∧e.size=d.size∧Sort.pdq (ltC cf) e i j l wb wp=R) (fun ((ai,bi,li,wb,wp,xs):Int×Int×Int×Bool×Bool×List D)=>(bi - ai).toNat) (((a:Int),(b:Int),(l:Int),true,true,d.toList.map (eC vf))) [(0,0)] [] (⟨a,b,l,d,rfl,rfl,rfl,rfl,Nat.le_refl _,hab,Nat.le_refl _,hl,rfl,hR⟩) (by (refine ⟨rfl,rfl,rfl,?_,?_⟩;repeat' first|exact trivial|exact rfl|exact .inr (.inl ⟨rfl,rfl⟩)|refine And.intro ?_ ?_|refine ⟨_,rfl,?_⟩|decide)) ?_
 rintro ⟨_,_,_,wb,wp,_⟩ ⟨i,j,l,e,rfl,rfl,rfl,rfl,hi,hij,hj,hl,he,hI⟩
 have hq:((j:Int) - (i:Int)).tdiv 8=((j - i) / 8:Nat):=by rw [Int.tdiv_eq_ediv_of_nonneg (by omega)];omega
 (repeat' ((conv=>whnf);first|refine zeo.but 39 rfl ?_|(refine vF ?_ ?_<;>intro hc<;>try simp only [vL] at hc)|refine vT ?_|(refine vO ?_ ?_;·omega)|fail));all_goals try conv=>whnf
 ·have hI:Sort.insertionSort (ltC cf) e i j=R:=by rw [Sort.pdq,if_pos (by omega)] at hI;exact hI
  subst hI
  refine zw.objs [0] (zt4 hcf hO e (a:=i) (b:=j) rfl rfl (by omega) (by omega) (by omega)) (by (repeat' first|exact rfl|refine And.intro ?_ ?_|refine ⟨_,rfl,?_⟩)) (by (repeat' first|exact rfl|refine And.intro ?_ ?_)) (by rfl) (by rfl) (by simp) ?_
  (repeat' ((conv=>whnf);refine vT ?_));all_goals try conv=>whnf
  refine ⟨trivial,_,[(0,0)],[],rfl,.inl (by (repeat' first|exact rfl|refine ⟨_,rfl,?_⟩)),⟨by rfl,by rfl,by rfl,trivial,by (repeat' first|exact trivial|exact rfl|refine And.intro ?_ ?_|refine ⟨_,rfl,?_⟩|exact of_decide_eq_true rfl)⟩,by (repeat' first|exact trivial|exact rfl|refine And.intro ?_ ?_)⟩
 ·have hI:Sort.heapSort (ltC cf) e i j=R:=by rw [Sort.pdq,if_neg (by omega),if_pos (by omega)] at hI;exact hI
  subst hI
  refine zw.objs [0] (zt3 hcf hO e (a:=i) (b:=j) rfl rfl (by omega) (by omega) (by omega)) (by (repeat' first|exact rfl|refine And.intro ?_ ?_|refine ⟨_,rfl,?_⟩)) (by (repeat' first|exact rfl|refine And.intro ?_ ?_)) (by rfl) (by rfl) (by simp) ?_
  (repeat' ((conv=>whnf);refine vT ?_));all_goals try conv=>whnf
  refine ⟨trivial,_,[(0,0)],[],rfl,.inl (by (repeat' first|exact rfl|refine ⟨_,rfl,?_⟩)),⟨by rfl,by rfl,by rfl,trivial,by (repeat' first|exact trivial|exact rfl|refine And.intro ?_ ?_|refine ⟨_,rfl,?_⟩|exact of_decide_eq_true rfl)⟩,by (repeat' first|exact trivial|exact rfl|refine And.intro ?_ ?_)⟩
 have h12 : ¬j - i≤12:=by omega
 rw [zw0 hO h12 (by omega) (by omega)] at hI
 refine zeo.cut (fun ((li,xs):Int×List D)=>[(0,.own 0),(1,.d (.int .i64 ((i:Int)))),(2,.d (.int .i64 ((j:Int)))),(3,.d (.int .i64 (li))),(10,.d (.bool (wb))),(11,.d (.bool (wp))),(12,.d (.int .i64 (((j:Int) - (i:Int))))),(4,.d (.fn fid [y1,y2,y3])),(za,.own 0)]) (fun ((li,xs):Int×List D)=>[(0,some (.row 1 xs))]) 1 (fun ((li,xs):Int×List D) => ∃ (m:Nat) (u:Array τ),li=m∧xs=u.toList.map (eC vf)∧m≤1000∧u.size=d.size∧zka (ltC cf) u i j m wb wp=R) ?_ ?_
 ·(repeat' ((conv=>whnf);first|refine vE ?_|(refine vI ?_ ?_<;>intro hc)|refine vT ?_));all_goals try conv=>whnf
  ·refine ⟨(_,_),[(0,0)],[],?_,by (refine ⟨rfl,rfl,rfl,?_,?_⟩;repeat' first|exact trivial|exact rfl|exact .inl rfl|refine And.intro ?_ ?_|refine ⟨_,rfl,?_⟩|decide)⟩
   exact ⟨l,e,rfl,rfl,hl,he,by rw [if_pos ‹_›] at hI;exact hI⟩
  ·have hbs:=Sort.breakPatterns_holds e i j (by omega) (by omega)
   refine zw.objs [0] (zvj hcf hO e (a:=i) (b:=j) rfl rfl (by omega) (by omega) (by omega)) (by (repeat' first|exact rfl|refine And.intro ?_ ?_|refine ⟨_,rfl,?_⟩)) (by (repeat' first|exact rfl|refine And.intro ?_ ?_)) (by rfl) (by rfl) (by simp) ?_
   (repeat' ((conv=>whnf);first|refine vT ?_|(refine vO ?_ ?_;·omega)|fail));all_goals try conv=>whnf
   refine ⟨(_,_),[(0,0)],[],?_,by (refine ⟨rfl,rfl,rfl,?_,?_⟩;repeat' first|exact trivial|exact rfl|exact .inl rfl|refine And.intro ?_ ?_|refine ⟨_,rfl,?_⟩|decide)⟩
   exact ⟨l - 1,_,by omega,rfl,by omega,hbs.1.trans he,by rw [if_neg (by simp [‹wb=false›])] at hI;exact hI⟩
 clear hI hl he
 rintro ⟨_,_⟩ ⟨m,u,rfl,rfl,hm,hu,hI⟩
 have hc0:=Sort.choosePivot_holds (ltC cf) u i j (by omega)
 (repeat' ((conv=>whnf);refine vT ?_));all_goals try conv=>whnf
 refine zw.objs [0] (zsZ hcf hO u (a:=i) (b:=j) rfl rfl (by omega) (by omega) (by omega)) (by (repeat' first|exact rfl|refine And.intro ?_ ?_|refine ⟨_,rfl,?_⟩)) (by (repeat' first|exact rfl|refine And.intro ?_ ?_)) (by rfl) (by rfl) (by simp) ?_
 rw [zka] at hI
 generalize Sort.choosePivot (ltC cf) u i j=c at hI hc0
 obtain ⟨p,h⟩:=c
 have hp1:i≤p:=hc0.1
 have hp2:p < j:=hc0.2
 clear hc0
 (repeat' ((conv=>whnf);refine vT ?_));all_goals try conv=>whnf
 refine zeo.cut (fun ((pe,h,xs):Int×Sort.Hint×List D)=>[(0,.own 0),(1,.d (.int .i64 ((i:Int)))),(2,.d (.int .i64 ((j:Int)))),(3,.d (.int .i64 ((m:Int)))),(10,.d (.bool (wb))),(11,.d (.bool (wp))),(12,.d (.int .i64 (((j:Int) - (i:Int))))),(13,.d (.int .i64 (pe))),(14,.d (.int .i64 ((Sort.hintCode h)))),(4,.d (.fn fid [y1,y2,y3])),(za,.own 0)]) (fun ((pe,h,xs):Int×Sort.Hint×List D)=>[(0,some (.row 1 xs))]) 1 (fun ((pe,h,xs):Int×Sort.Hint×List D) => ∃ (p:Nat) (w:Array τ),pe=p∧xs=w.toList.map (eC vf)∧i≤p∧p < j∧w.size=d.size∧znS (ltC cf) w i j p m wb wp h=R) ?_ ?_
 ·have hcode:(Sort.hintCode h=2)↔h = .decreasing:=by cases h<;>simp [Sort.hintCode]
  (repeat' ((conv=>whnf);first|(refine vF ?_ ?_<;>intro hc<;>try simp only [vL] at hc)|refine vT ?_));all_goals try conv=>whnf
  ·have hd:=hcode.1 hc
   rw [if_pos hd] at hI
   have hrs:=(Sort.reverseRange_holds u i j (by omega) (by omega)).1.trans hu
   refine zw.objs [0] (zvs hcf hO u (a:=i) (b:=j) rfl rfl (by omega) (by omega) (by omega)) (by (repeat' first|exact rfl|refine And.intro ?_ ?_|refine ⟨_,rfl,?_⟩)) (by (repeat' first|exact rfl|refine And.intro ?_ ?_)) (by rfl) (by rfl) (by simp) ?_
   (repeat' ((conv=>whnf);first|refine vT ?_|(refine vO ?_ ?_;·omega)|fail));all_goals try conv=>whnf
   refine ⟨(_,Sort.Hint.increasing,_),[(0,0)],[],?_,by (refine ⟨rfl,rfl,rfl,?_,?_⟩;repeat' first|exact trivial|exact rfl|exact .inl rfl|refine And.intro ?_ ?_|refine ⟨_,rfl,?_⟩|decide)⟩
   exact ⟨j - 1 - (p - i),_,by omega,rfl,by omega,by omega,hrs,hI⟩
  ·have hd:=mt hcode.2 hc
   rw [if_neg hd] at hI
   refine ⟨(_,h,_),[(0,0)],[],?_,by (refine ⟨rfl,rfl,rfl,?_,?_⟩;repeat' first|exact trivial|exact rfl|exact .inl rfl|refine And.intro ?_ ?_|refine ⟨_,rfl,?_⟩|decide)⟩
   exact ⟨p,u,rfl,rfl,hp1,hp2,hu,hI⟩
 clear hp1 hp2
 clear hI hu
 rintro ⟨_,h,_⟩ ⟨p,w,rfl,rfl,hp1,hp2,hw,hI⟩
 have hcode:(Sort.hintCode h=1)↔h = .increasing:=by cases h<;>simp [Sort.hintCode]
 rw [znS] at hI
 (repeat' ((conv=>whnf);refine vT ?_));all_goals try conv=>whnf
 refine zeo.cut (fun (xs:List D)=>[(0,.own 0),(1,.d (.int .i64 ((i:Int)))),(2,.d (.int .i64 ((j:Int)))),(3,.d (.int .i64 ((m:Int)))),(10,.d (.bool (wb))),(11,.d (.bool (wp))),(12,.d (.int .i64 (((j:Int) - (i:Int))))),(13,.d (.int .i64 ((p:Int)))),(4,.d (.fn fid [y1,y2,y3])),(za,.own 0)]) (fun (xs:List D)=>[(0,some (.row 1 xs))]) 1 (fun (xs:List D) => ∃ v:Array τ,xs=v.toList.map (eC vf)∧v.size=d.size∧zef (ltC cf) v i j p m wb wp=R) ?_ ?_
 ·(repeat' ((conv=>whnf);refine vT ?_));all_goals try conv=>whnf
  refine zeo.cut (fun (t:Bool)=>[(0,.own 0),(1,.d (.int .i64 ((i:Int)))),(2,.d (.int .i64 ((j:Int)))),(3,.d (.int .i64 ((m:Int)))),(10,.d (.bool (wb))),(11,.d (.bool (wp))),(12,.d (.int .i64 (((j:Int) - (i:Int))))),(13,.d (.int .i64 ((p:Int)))),(75,.d (.bool (t))),(4,.d (.fn fid [y1,y2,y3])),(za,.own 0)]) (fun (t:Bool)=>[(0,some (zat vf w))]) 1 (fun (t:Bool)=>t=true↔(wb=true∧wp=true∧h = .increasing)) ?_ ?_
  ·(repeat' ((conv=>whnf);first|(refine vI ?_ ?_<;>intro hc)|refine vT ?_));all_goals try conv=>whnf
   ·refine ⟨decide (Sort.hintCode h=1),[(0,0)],[],?_,by (refine ⟨rfl,rfl,rfl,?_,?_⟩;repeat' first|exact trivial|exact rfl|exact .inl rfl|refine And.intro ?_ ?_|refine ⟨_,rfl,?_⟩|decide)⟩
    rw [decide_eq_true_iff,hcode];simp [*]
   ·refine ⟨false,[(0,0)],[],?_,by (refine ⟨rfl,rfl,rfl,?_,?_⟩;repeat' first|exact trivial|exact rfl|exact .inl rfl|exact .inr (.inr ⟨rfl,rfl⟩)|refine And.intro ?_ ?_|refine ⟨_,rfl,?_⟩|decide)⟩
    simp [*]
   ·refine ⟨false,[(0,0)],[],?_,by (refine ⟨rfl,rfl,rfl,?_,?_⟩;repeat' first|exact trivial|exact rfl|exact .inl rfl|exact .inr (.inr ⟨rfl,rfl⟩)|refine And.intro ?_ ?_|refine ⟨_,rfl,?_⟩|decide)⟩
    simp [*]
  rintro t ht
  (repeat' ((conv=>whnf);first|(refine vI ?_ ?_<;>intro hc)|refine vT ?_));all_goals try conv=>whnf
  ·rw [if_pos (ht.1 ‹_›)] at hI
   have hps:=zh9 (lt:=(ltC cf)) (d:=w) (a:=i) (b:=j)
   refine zw.objs [0] (zt7 hcf hO w (a:=i) (b:=j) rfl rfl (by omega) (by omega) (by omega)) (by (repeat' first|exact rfl|refine And.intro ?_ ?_|refine ⟨_,rfl,?_⟩)) (by (repeat' first|exact rfl|refine And.intro ?_ ?_)) (by rfl) (by rfl) (by simp) ?_
   generalize Sort.partialInsertionSort (ltC cf) w i j=r at hI hps
   obtain ⟨v,fin⟩:=r
   have hv:v.size=d.size:=hps.trans hw
   (repeat' ((conv=>whnf);first|(refine vI ?_ ?_<;>intro hc<;>try simp only [vL] at hc)|refine vT ?_));all_goals try conv=>whnf
   ·rw [if_pos ‹_›] at hI
    have hI:v=R:=hI
    subst hI
    refine ⟨trivial,_,[(0,0)],[],rfl,.inl (by (repeat' first|exact rfl|refine ⟨_,rfl,?_⟩)),⟨by rfl,by rfl,by rfl,trivial,by (repeat' first|exact trivial|exact rfl|refine And.intro ?_ ?_|refine ⟨_,rfl,?_⟩|exact of_decide_eq_true rfl)⟩,by (repeat' first|exact trivial|exact rfl|refine And.intro ?_ ?_)⟩
   ·rw [if_neg (by simp [‹fin=false›])] at hI
    refine ⟨_,[(0,0)],[],?_,by (refine ⟨rfl,rfl,rfl,?_,?_⟩;repeat' first|exact trivial|exact rfl|exact .inl rfl|refine And.intro ?_ ?_|refine ⟨_,rfl,?_⟩|decide)⟩
    exact ⟨v,rfl,hv,hI⟩
  ·rw [if_neg (fun h=>by have:=ht.2 h;simp_all)] at hI
   refine ⟨_,[(0,0)],[],?_,by (refine ⟨rfl,rfl,rfl,?_,?_⟩;repeat' first|exact trivial|exact rfl|exact .inl rfl|refine And.intro ?_ ?_|refine ⟨_,rfl,?_⟩|decide)⟩
   exact ⟨w,rfl,hw,hI⟩
 clear hI hw
 rintro _ ⟨v,rfl,hv,hI⟩
 have hvl:v.toList.length=d.size:=by rw [Array.length_toList];exact hv
 rw [zef] at hI
 (repeat' ((conv=>whnf);first|refine zeo.but 100097 rfl ?_|refine vT ?_));all_goals try conv=>whnf
 refine zeo.cut (fun (t:Bool)=>[(0,.own 0),(1,.d (.int .i64 ((i:Int)))),(2,.d (.int .i64 ((j:Int)))),(3,.d (.int .i64 ((m:Int)))),(10,.d (.bool (wb))),(11,.d (.bool (wp))),(12,.d (.int .i64 (((j:Int) - (i:Int))))),(13,.d (.int .i64 ((p:Int)))),(97,.d (.bool (t))),(4,.d (.fn fid [y1,y2,y3])),(za,.own 0)]) (fun (t:Bool)=>[(0,some (zat vf v))]) 1 (fun (t:Bool)=>t=true↔(i > 0∧(ltC cf) v[i - 1]! v[p]! = false)) ?_ ?_
 ·(repeat' ((conv=>whnf);first|(refine vF ?_ ?_<;>intro hc<;>try simp only [vL] at hc)|refine vT ?_|(refine vQ ?_ fun x hx=>?_;·omega)|((first|refine vO ?_ ?_|refine vP ?_ ?_);·first|omega|(simp only [vM] at *;omega))|(refine vU ?_ ?_;·kernel_rfl)|refine yD (hcf _ _) (by (repeat refine ⟨⟨rfl,rfl⟩,?_⟩);rfl) rfl ?_));all_goals try conv=>whnf
  ·have g1:=zz (i - 1) ‹v.toList[((i:Int) - 1).toNat]? = some _› (by omega)
   have g2:=zz p ‹v.toList[(p:Int).toNat]? = some _› (by omega)
   refine ⟨_,[(0,0)],[],?_,by (refine ⟨rfl,rfl,rfl,?_,?_⟩;repeat' first|exact trivial|exact rfl|exact .inl rfl|refine And.intro ?_ ?_|refine ⟨_,rfl,?_⟩|decide)⟩
   rw [zaj (lt:=(ltC cf)) g1 g2]
   have:i > 0:=by omega
   simp [this,ltC]
  ·refine ⟨false,[(0,0)],[],?_,by (refine ⟨rfl,rfl,rfl,?_,?_⟩;repeat' first|exact trivial|exact rfl|exact .inl rfl|exact .inr (.inr ⟨rfl,rfl⟩)|refine And.intro ?_ ?_|refine ⟨_,rfl,?_⟩|decide)⟩
   simp;omega
 rintro t ht
 (repeat' ((conv=>whnf);first|(refine vI ?_ ?_<;>intro hc)|refine vT ?_));all_goals try conv=>whnf
 ·rw [if_pos (ht.1 ‹_›)] at hI
  have hq1:=ziv (lt:=(ltC cf)) (d:=v) (a:=i) (b:=j) (p:=p) (by omega) (by omega)
  refine zw.objs [0] (zsY hcf hO v (a:=i) (b:=j) (p:=p) rfl rfl rfl (by omega) (by omega) (by omega) (by omega)) (by (repeat' first|exact rfl|refine And.intro ?_ ?_|refine ⟨_,rfl,?_⟩)) (by (repeat' first|exact rfl|refine And.intro ?_ ?_)) (by rfl) (by rfl) (by simp) ?_
  (repeat' ((conv=>whnf);refine vT ?_));all_goals try conv=>whnf
  refine ⟨(_,_,_,_,_,_),[(0,0)],[],?_,?_,by (refine ⟨rfl,rfl,rfl,?_,?_⟩;repeat' first|exact trivial|exact rfl|exact .inl rfl|refine And.intro ?_ ?_|refine ⟨_,rfl,?_⟩|decide)⟩
  ·exact ⟨(Sort.partitionEqual (ltC cf) v i j p).1,j,m,(Sort.partitionEqual (ltC cf) v i j p).2,rfl,rfl,rfl,rfl,by omega,by omega,by omega,by omega,by omega,hI⟩
  ·((simp only [vM] at *;omega))
 ·rw [if_neg (fun h=>by have:=ht.2 h;simp_all)] at hI
  have hq1:=Sort.partition_holds (ltC cf) hO v i j p (by omega) (by omega) (by omega)
  refine zw.objs [0] (zvp hcf hO v (a:=i) (b:=j) (p:=p) rfl rfl rfl (by omega) (by omega) (by omega) (by omega)) (by (repeat' first|exact rfl|refine And.intro ?_ ?_|refine ⟨_,rfl,?_⟩)) (by (repeat' first|exact rfl|refine And.intro ?_ ?_)) (by rfl) (by rfl) (by simp) ?_
  generalize Sort.partition (ltC cf) v i j p=r at hq1 hI
  obtain ⟨mid,ap,d4⟩:=r
  obtain ⟨q1,q2,q3,-⟩:=hq1
  have q1:i≤mid:=q1
  have q2:mid < j:=q2
  have q3:d4.size=d.size:=q3.1.trans hv
  (repeat' ((conv=>whnf);first|(refine vF ?_ ?_<;>intro hc<;>try simp only [vL] at hc)|refine vT ?_|((first|refine vO ?_ ?_|refine vP ?_ ?_);·omega)|fail));all_goals try conv=>whnf
  ·rw [if_pos (by omega)] at hI
   have hsz:=znT hO (mid - i) d4 i mid m true true (Nat.le_refl _) q1 (by omega)
   refine zw.objs [0] (ih (mid - i) (by omega) d4 (a:=i) (b:=mid) (l:=m) (ai:=(i:Int)) (bi:=(mid:Int)) (li:=(m:Int)) rfl rfl rfl (Nat.le_refl _) (by omega) (by omega) (by omega) (by omega)) (by (repeat' first|exact rfl|refine And.intro ?_ ?_|refine ⟨_,rfl,?_⟩)) (by (repeat' first|exact rfl|refine And.intro ?_ ?_)) (by rfl) (by rfl) (by simp) ?_
   (repeat' ((conv=>whnf);first|refine vT ?_|(refine vO ?_ ?_;·omega)|fail));all_goals try conv=>whnf
   refine ⟨(_,_,_,_,_,_),[(0,0)],[],?_,?_,by (refine ⟨rfl,rfl,rfl,?_,?_⟩;repeat' first|exact trivial|exact rfl|exact .inl rfl|refine And.intro ?_ ?_|refine ⟨_,rfl,?_⟩|decide)⟩
   ·exact ⟨mid+1,j,m,_,by omega,rfl,rfl,rfl,by omega,by omega,by omega,by omega,by omega,(congrArg (fun z=>Sort.pdq (ltC cf) (Sort.pdq (ltC cf) d4 i mid m true true) (mid+1) j m z ap) (decide_eq_decide.2 (by omega))).trans hI⟩
   ·((simp only [vM] at *;omega))
  ·rw [if_neg (by omega)] at hI
   have hsz:=znT hO (j - (mid+1)) d4 (mid+1) j m true true (Nat.le_refl _) (by omega) (by omega)
   refine zw.objs [0] (ih (j - (mid+1)) (by omega) d4 (a:=mid+1) (b:=j) (l:=m) (ai:=(mid:Int)+1) (bi:=(j:Int)) (li:=(m:Int)) (by omega) rfl rfl (Nat.le_refl _) (by omega) (by omega) (by omega) (by omega)) (by (repeat' first|exact rfl|refine And.intro ?_ ?_|refine ⟨_,rfl,?_⟩)) (by (repeat' first|exact rfl|refine And.intro ?_ ?_)) (by rfl) (by rfl) (by simp) ?_
   (repeat' ((conv=>whnf);refine vT ?_));all_goals try conv=>whnf
   refine ⟨(_,_,_,_,_,_),[(0,0)],[],?_,?_,by (refine ⟨rfl,rfl,rfl,?_,?_⟩;repeat' first|exact trivial|exact rfl|exact .inl rfl|refine And.intro ?_ ?_|refine ⟨_,rfl,?_⟩|decide)⟩
   ·exact ⟨i,mid,m,_,rfl,rfl,rfl,rfl,by omega,by omega,by omega,by omega,by omega,(congrArg (fun z=>Sort.pdq (ltC cf) (Sort.pdq (ltC cf) d4 (mid+1) j m true true) i mid m z ap) (decide_eq_decide.2 (by omega))).trans hI⟩
   ·((simp only [vM] at *;omega))
end Go.Ab
namespace Go.Ab
open Go Go.Proofs
set_option maxRecDepth 10000
set_option maxHeartbeats 4000000
variable {T:Nat→Obj→Prop}
variable {τ:Type} [Inhabited τ] {vf:τ→Int} {cf:τ→τ→Int} {fid:Nat} {y1 y2 y3:D} (hcf : ∀ x y:τ,Fn Tryz.prog T fid [.d (.int .i64 (vf x)),.d (.int .i64 (vf y)),.d y1,.d y2,.d y3] [] (.d (.int .i64 (cf x y))) []) (hO:Sort.SWO (ltC cf))
include hcf hO
set_option maxHeartbeats 1000000 in
theorem zt0 (d:Array τ) (hs:d.size≤536870912):Fn Tryz.prog T zc7 [.own 0,.d (.fn fid [y1,y2,y3])] [zat vf d] (.tup []) [some (zat vf (Sort.sort (ltC cf) d))]:=by
 have hn:((BitVec.ofInt 64 (d.size:Int)).toNat)=d.size:=by simp;omega
 have hl:Sort.bitsLen d.size≤30:=(Sort.bitsLen_le_iff d.size 30).2 (Nat.lt_of_le_of_lt hs (by decide))
 refine zJ zn zgi (by show 2≤14;decide) _ (fun e env mem n h=>h) ?_
 (repeat' ((conv=>whnf);first|refine vJ fun hg=>?_|refine vT ?_|refine yD (zsV _) ⟨⟨rfl,rfl⟩,rfl⟩ rfl ?_));all_goals try conv=>whnf
 refine zw.objs [0] (zvq hcf hO d.size d (a:=0) (b:=d.size) (l:=Sort.bitsLen d.size) (ai:=0) (bi:=((d.toList.map (eC vf)).length:Int)) (li:=((Sort.bitsLen (BitVec.ofInt 64 ((d.toList.map (eC vf)).length:Int)).toNat:Nat):Int)) rfl (by simp) (by rw [List.length_map,Array.length_toList,hn]) (by omega) (by omega) (by omega) hs (by omega)) (by (repeat' first|exact rfl|refine And.intro ?_ ?_|refine ⟨_,rfl,?_⟩)) (by (repeat' first|exact rfl|refine And.intro ?_ ?_)) (by rfl) (by rfl) (by simp) ?_
 (repeat' ((conv=>whnf);refine vT ?_));all_goals try conv=>whnf
 refine ⟨trivial,_,[(0,0)],[],rfl,.inl (by (repeat' first|exact rfl|refine ⟨_,rfl,?_⟩)),⟨by rfl,by rfl,by rfl,trivial,by (repeat' first|exact trivial|exact rfl|refine And.intro ?_ ?_|refine ⟨_,rfl,?_⟩|exact of_decide_eq_true rfl)⟩,by (repeat' first|exact trivial|exact rfl|refine And.intro ?_ ?_)⟩
end Go.Ab
namespace Go.Ab
open Go Go.Proofs
set_option maxRecDepth 10000
set_option maxHeartbeats 4000000
variable {T:Nat→Obj→Prop}
theorem zlS {M:Nat→Option Ob} {js fz:List Nat} : ∀ (l:List D) (k:Nat),l.length < k→VPasses M js fz k (l.map V.d) (l.map V.d)
 | [],k+1,_=>rfl
 | x::l,k+1,h=>by
  have h:l.length+1 < k+1:=h
  match k,h with
  | k+1,h=>exact ⟨⟨rfl,rfl⟩,zlS l (k+1) (by omega)⟩
def zik (a b:Int):Int:=if a < b then -1 else if b < a then 1 else 0
theorem zpT (a b:Int):Fn Tryz.prog T zf9 [.d (.int .i64 a),.d (.int .i64 b)] [] (.d (.int .i64 (zik a b))) []:=by
 have hn : ∀ z:Int,Fn Tryz.prog T zht [.d (.int .i64 z)] [] (.d (.bool false)) []:=fun z=>by
  refine zb zn znD (by show 1≤6;decide) ?_
  (repeat' ((conv=>whnf);first|refine vT ?_|refine vZ ?_));all_goals try conv=>whnf
  simp
 refine zb zn zlo (by show 2≤20;decide) ?_
 (repeat' ((conv=>whnf);first|refine vA ?_|refine vH ?_|(refine vF ?_ ?_<;>intro hc<;>try simp only [vL] at hc)|refine vT ?_|refine vX ?_|refine yD (hn _) (by (repeat refine ⟨⟨rfl,rfl⟩,?_⟩);rfl) rfl ?_));all_goals try conv=>whnf
 all_goals (unfold zik;first|rw [if_pos ‹_›]|(rw [if_neg (by omega)];first|rw [if_pos ‹_›]|rw [if_neg (by omega)])|skip)
def orI:List Int→Int
 | []=>0
 | x::l=>if x≠0 then x else orI l
theorem zwq (l:List Int) (hl:l.length≤100):Fn Tryz.prog T zkm [.d (dI l)] [] (.d (.int .i64 (orI l))) []:=by
 refine zb zn zrH (by show 1≤18;decide) ?_
 (repeat' ((conv=>whnf);first|refine vA ?_|refine vJ fun hg=>?_|refine vT ?_));all_goals try conv=>whnf
 refine zaN (fun (k:Nat)=>[(3,.d (.int .i64 (0))),(6,.d (dI l)),(7,.d (.int .i64 ((l.map (D.int .i64)).length:Int))),(8,.d (.int .i64 ((k:Int))))]) (fun (k:Nat)=>k≤l.length∧orI l=orI (l.drop k)) (fun (k:Nat)=>l.length - k) (0) (⟨by simp,rfl⟩) (by (repeat' first|exact trivial|exact rfl|refine And.intro ?_ ?_)) ?_
 rintro k ⟨hk,hI⟩
 (repeat' ((conv=>whnf);first|refine vA ?_|((first|refine vD ?_ ?_|refine vF ?_ ?_)<;>intro hc<;>try simp only [vL] at hc)|refine vT ?_|(refine vQ ?_ fun x hx=>?_;·omega)|(refine vO ?_ ?_;·omega)|refine vX ?_));all_goals try conv=>whnf
 ·rw [hI,zbw hx,orI,if_pos hc]
 ·exact ⟨k+1,[],[],⟨by (omega),by rw [hI,zbw hx,orI,if_neg (by simpa using hc)]⟩,by (omega),by (refine ⟨rfl,rfl,rfl,?_,?_⟩;repeat' first|exact trivial|exact rfl|refine And.intro ?_ ?_)⟩
 ·rw [hI,List.drop_eq_nil_of_le (by omega)];rfl
def k0 (fs:Nat→Nat→BitVec 64) (a w:Nat):Int:=if (fs a w).getLsbD w=true then 0 else 1
abbrev bF (gi:Nat) (gcs:List D):D := .box [.fn gi gcs]
section
variable {p:PM} {fs:Nat→Nat→BitVec 64} {gi:Nat} {gcs:List D} {s:BitVec 64} (hg:gcs.length≤10) (hF : ∀ a w:Nat,a < p.cell.length→w < p.W.toNat→Fn Tryz.prog T gi ([.d (.int .i64 (a:Int)),.d (.int .i64 (w:Int)),.d (.u64 s)]++gcs.map V.d) [] (.d (.u64 (fs a w))) []) (hc0:zy p=0)
include hg hF hc0
theorem zwu (a w:Nat) (ha:a < p.cell.length) (hw:w < p.W.toNat):Fn Tryz.prog T zaZ [.d (.int .i64 (w:Int)),.d (bP p),.d (bI a),.d (bF gi gcs),.d (bU s)] [] (.d (.agg [.int .i64 (k0 fs a w),.int .i64 (rkA p a w)])) []:=by
 have hat:At p a w:=zrU hc0 ha hw
 obtain ⟨hrow,hrank,hlen,hlen',h64,ha',-⟩:=hat.rows
 rw [Int.toNat_natCast] at hrow hrank hlen hlen'
 have hF:=hF a w ha hw
 obtain ⟨x3,e3⟩ : ∃ x,(ze p.rank a)[w]? = some x:=⟨_,List.getElem?_eq_getElem (by omega)⟩
 have f3:rkA p a w=x3:=zah e3
 refine zb zn zkG (by show 5≤28;decide) ?_
 (repeat' ((conv=>whnf);first|refine vA ?_|refine vT ?_|refine vN ‹_› ?_));all_goals try conv=>whnf
 refine zw.data hF ⟨⟨rfl,rfl⟩,⟨rfl,rfl⟩,⟨rfl,rfl⟩,zlS gcs 17 (by omega)⟩ rfl ?_
 (repeat' ((conv=>whnf);first|(refine vF ?_ ?_<;>intro hc)|refine vT ?_|(refine vP ?_ ?_;·omega)|fail));all_goals try conv=>whnf
 ·have hb:=(zus _ _).1 ‹fs a w >>> _&&&1#64=1#64›
  have e0:k0 fs a w=0:=if_pos hb
  rw [e0,f3];rfl
 ·have hb : ¬(fs a w).getLsbD w=true:=fun h=>‹¬fs a w >>> _&&&1#64=1#64› ((zus _ _).2 h)
  have e0:k0 fs a w=1:=if_neg hb
  rw [e0,f3];rfl
abbrev yK (p:PM) (a:Nat) (gi:Nat) (gcs:List D) (s:BitVec 64):D := .box [.fn zaZ [bP p,bI a,bF gi gcs,bU s]]
def zjO (p:PM) (fs:Nat→Nat→BitVec 64) (a x y:Nat):Int:=orI [zik (clA p a x) (clA p a y),zik (k0 fs a x) (k0 fs a y),zik (rkA p a x) (rkA p a y)]
theorem zux (a x y:Nat) (ha:a < p.cell.length) (hx:x < p.W.toNat) (hy:y < p.W.toNat):Fn Tryz.prog T za0 [.d (.int .i64 (x:Int)),.d (.int .i64 (y:Int)),.d (yK p a gi gcs s),.d (bP p),.d (bI a)] [] (.d (.int .i64 (zjO p fs a x y))) []:=by
 have hat:At p a x:=zrU hc0 ha hx
 obtain ⟨hrow,hrank,hlen,hlen',h64,ha',-⟩:=hat.rows
 rw [Int.toNat_natCast] at hrow hrank hlen hlen'
 obtain ⟨z1,e1⟩ : ∃ z,(ze p.cell a)[x]? = some z:=⟨_,List.getElem?_eq_getElem (by omega)⟩
 obtain ⟨z2,e2⟩ : ∃ z,(ze p.cell a)[y]? = some z:=⟨_,List.getElem?_eq_getElem (by omega)⟩
 have f1:clA p a x=z1:=zah e1
 have f2:clA p a y=z2:=zah e2
 have cx:=zwu hg hF hc0 a x ha hx (s:=s)
 have cy:=zwu hg hF hc0 a y ha hy (s:=s)
 have co:=zwq (T:=T) [zik z1 z2,zik (k0 fs a x) (k0 fs a y),zik (rkA p a x) (rkA p a y)] (by simp)
 refine zb zn zkH (by show 5≤45;decide) ?_
 (repeat' ((conv=>whnf);first|refine vA ?_|refine vT ?_|refine vN ‹_› ?_|(refine vP ?_ ?_;·omega)|(refine vU ?_ ?_;·kernel_rfl)|refine vX ?_|refine yN cx (by (repeat refine ⟨⟨rfl,rfl⟩,?_⟩);rfl) ?_|refine yN cy (by (repeat refine ⟨⟨rfl,rfl⟩,?_⟩);rfl) ?_|refine yD (zpT _ _) ⟨⟨rfl,rfl⟩,⟨rfl,rfl⟩,rfl⟩ rfl ?_|refine yD co ⟨⟨rfl,rfl⟩,rfl⟩ rfl ?_));all_goals try conv=>whnf
 rw [zjO,f1,f2]
end
end Go.Ab
namespace Go.Ab
open Go Go.Proofs
set_option maxRecDepth 10000
set_option maxHeartbeats 4000000
variable {T:Nat→Obj→Prop}
theorem zw.objsC {P:Program} {M:Nat→Option Ob} {n f:Nat} {vs lvs:List V} {obs:List Ob} {lv:V} {obs':List (Option Ob)} {K:V→Upd→Nat→Prop} (js fz:List Nat) (hf:Fn P T f lvs obs lv obs') (ha:VPasses M js fz 20 lvs vs)
  (ho:zaJ M js fz obs js) (hnd:nodup js=true) (hdj:zdz fz js=true) (hsj:zdl js (zI M vs)=true) (hsf:zdl fz (zI M vs)=true) (hle:js.length≤obs'.length) (hfl:V.flat 20 lv=true) (hfo:Obs.Flat obs')
  (hK:K (zix js n 20 lv) (zfe js fz n obs' true) (obs'.length - js.length)):zw (zcR P T) M n f vs K :=
 ⟨⟨_,_,_,⟨js,fz,true,lvs,obs,lv,obs',hf,ha,ho,hnd,hdj,hsj,hsf,hle,fun _=>⟨hfl,hfo⟩,rfl,rfl,rfl⟩,hK⟩⟩
section
variable {p:PM} (hc0:zy p=0) {fs:Nat→Nat→BitVec 64} {a:Nat} (ha:a < p.cell.length)
include hc0 ha
theorem zsx {x y:Nat} (hx:x < p.W.toNat) (hy:y < p.W.toNat):zjO p fs a x y < 0↔ltK (clA p a) (zbj p fs a) x y:=by
 have r1:=zib hc0 ha hx
 have r2:=zib hc0 ha hy
 unfold zjO orI orI orI orI zik k0 ltK zbj
 by_cases h1:(fs a x).getLsbD x=true<;>by_cases h2:(fs a y).getLsbD y=true<;>simp only [h1,h2,if_true,if_false]<;>(repeat' split)<;>simp<;>omega
theorem zwg {x y:Nat} (hx:x < p.W.toNat) (hy:y < p.W.toNat):zjO p fs a x y=0↔clA p a x=clA p a y∧zbj p fs a x=zbj p fs a y:=by
 have r1:=zib hc0 ha hx
 have r2:=zib hc0 ha hy
 unfold zjO orI orI orI orI zik k0 zbj
 by_cases h1:(fs a x).getLsbD x=true<;>by_cases h2:(fs a y).getLsbD y=true<;>simp only [h1,h2,if_true,if_false]<;>(repeat' split)<;>simp<;>omega
abbrev cK (p:PM) (fs:Nat→Nat→BitVec 64) (a:Nat):Fin p.W.toNat→Fin p.W.toNat→Int:=fun x y=>zjO p fs a x y
theorem zAT:Sort.SWO (ltC (cK p fs a)):=by
 have key : ∀ x y:Fin p.W.toNat,ltC (cK p fs a) x y=true↔ltK (clA p a) (zbj p fs a) x y:=fun x y=>by
  rw [ltC,decide_eq_true_eq];exact zsx hc0 ha x.2 y.2
 have keyf : ∀ x y:Fin p.W.toNat,ltC (cK p fs a) x y=false ↔ ¬ltK (clA p a) (zbj p fs a) x y:=fun x y=>by
  rw [← key,Bool.not_eq_true]
 refine ⟨fun x=>(keyf _ _).2 ?_,fun x y z h1 h2=>?_,fun x y z h1 h2=>?_⟩
 ·unfold ltK;omega
 ·rw [key] at h1 h2 ⊢;unfold ltK at *;omega
 ·rw [keyf] at h1 h2 ⊢;unfold ltK at *;omega
end
theorem zwe (n:Nat):(List.finRange n).map (eC fun x:Fin n=>((x:Nat):Int))=(List.range n).map fun (i:Nat)=>D.int .i64 (i:Int):=by
 refine List.ext_getElem (by simp) fun i h1 h2=>?_
 simp
theorem zvG {p:PM} (hc0:zy p=0) {fs:Nat→Nat→BitVec 64} {a:Nat} (ha:a < p.cell.length) [Inhabited (Fin p.W.toNat)]:zeY p.W.toNat (clA p a) (zbj p fs a) ((Sort.sort (ltC (cK p fs a)) (List.finRange p.W.toNat).toArray).toList.map Fin.val):=by
 have hS:=zAT hc0 ha (fs:=fs)
 have hp:=ztD hS (List.finRange p.W.toNat).toArray
 obtain ⟨⟨h1,-,-⟩,h3⟩:=Sort.sort_sorts _ hS (List.finRange p.W.toNat).toArray
 generalize Sort.sort (ltC (cK p fs a)) (List.finRange p.W.toNat).toArray=S at hp h1 h3
 have hl:S.toList.length=p.W.toNat:=by rw [hp.length_eq];simp
 have hget : ∀ (j v:Nat),(S.toList.map Fin.val)[j]? = some v → ∃ h:v < p.W.toNat,S.toList[j]? = some ⟨v,h⟩:=fun j v h=>by
  rw [List.getElem?_map,Option.map_eq_some_iff] at h
  obtain ⟨x,h1,rfl⟩:=h
  exact ⟨x.2,h1⟩
 refine ⟨by simpa using hl,fun v hv=>?_,fun j v h=>(hget j v h).1,fun i j v hi hj=>?_,fun i j x y hij hx hy=>?_⟩
 ·have:(⟨v,hv⟩:Fin p.W.toNat)∈S.toList:=hp.mem_iff.2 (by simp)
  obtain ⟨j,hj⟩:=List.getElem?_of_mem this
  exact ⟨j,by rw [List.getElem?_map,hj];rfl⟩
 ·obtain ⟨hv,e1⟩:=hget i v hi
  obtain ⟨_,e2⟩:=hget j v hj
  have hn:S.toList.Nodup:=hp.nodup_iff.2 (by simpa using List.nodup_finRange _)
  obtain ⟨i1,i2⟩:=List.getElem?_eq_some_iff.1 e1
  obtain ⟨j1,j2⟩:=List.getElem?_eq_some_iff.1 e2
  exact (List.getElem_inj hn).1 (i2.trans j2.symm)
 ·obtain ⟨hx',e1⟩:=hget i x hx
  obtain ⟨hy',e2⟩:=hget j y hy
  have j1:=(List.getElem?_eq_some_iff.1 e2).1
  have:=h3 i j (Nat.zero_le _) hij (by rw [← h1];simpa using j1)
  rw [(za9 e1).1,(za9 e2).1,ltC,decide_eq_false_iff_not] at this
  exact fun h=>this ((zsx hc0 ha hy' hx').2 h)
end Go.Ab
namespace Go.Ab
open Go Go.Proofs
set_option maxRecDepth 10000
set_option maxHeartbeats 4000000
variable {T:Nat→Obj→Prop}
abbrev dPI (x:PM×Int):D := .tup [dPM x.1,.int .i64 x.2]
end Go.Ab
namespace Go.Ab
open Go Go.Proofs
set_option maxRecDepth 10000
set_option maxHeartbeats 4000000
variable {T:Nat→Obj→Prop}
theorem zsS (l:List Int) (hl:l.length≤34359738368):Fn Tryz.prog T zdW [.d (dI l)] [] (.d (dI l)) []:=by
 refine zb zn zhC (by show 1≤8;decide) ?_
 (repeat' ((conv=>whnf);first|refine vA ?_|refine vB fun b hb=>?_|refine vE ?_|(refine vF ?_ ?_<;>intro hc)|refine vT ?_|(refine vP ?_ ?_;·(simp only [vM] at *;omega))|fail));all_goals try conv=>whnf
 ·rfl
 ·have:l=[]:=by simpa using hb (by simpa using hc)
  subst this;rfl
structure zij (W k:Nat) (den:Nat→Nat) (ws:List Nat) (xs:List Int):Prop where
 len:xs.length=W
 at_ : ∀ (j w:Nat),ws[j]? = some w→xs[w]? = some (if j < k then (den w:Int) else 0)
theorem zij.skip {W k:Nat} {den:Nat→Nat} {ws:List Nat} {xs:List Int} (h:zij W k den ws xs) {w:Nat} (hw:ws[k]? = some w) (hd:den w=0):zij W (k+1) den ws xs:=by
 refine ⟨h.len,fun j v hj=>?_⟩
 rw [h.at_ j v hj]
 by_cases e:j=k
 ·subst e;rw [hw] at hj;cases hj;rw [if_neg (by omega),if_pos (by omega),hd];rfl
 ·by_cases e2:j < k
  ·rw [if_pos e2,if_pos (by omega)]
  ·rw [if_neg e2,if_neg (by omega)]
theorem zij.set {W k:Nat} {den:Nat→Nat} {ws:List Nat} {xs:List Int} (h:zij W k den ws xs) {w:Nat} (hw:ws[k]? = some w) (inj : ∀ (i j v:Nat),ws[i]? = some v→ws[j]? = some v→i=j) (hlt:w < W) {r:Int} (hd:(den w:Int)=r):zij W (k+1) den ws (xs.set w r):=by
 refine ⟨by rw [List.length_set];exact h.len,fun j v hj=>?_⟩
 by_cases e:j=k
 ·subst e;rw [hw] at hj;cases hj
  rw [List.getElem?_set_self (by rw [h.len];exact hlt),if_pos (by omega),hd]
 ·have hne:w≠v:=fun hh=>e (inj j k v hj (hh▸hw))
  rw [List.getElem?_set_ne hne,h.at_ j v hj]
  by_cases e2:j < k
  ·rw [if_pos e2,if_pos (by omega)]
  ·rw [if_neg e2,if_neg (by omega)]
theorem zij.full {p:PM} {fs:Nat→Nat→BitVec 64} {a:Nat} {ws:List Nat} {xs:List Int} (ho:zeY p.W.toNat (clA p a) (zbj p fs a) ws) (h:zij p.W.toNat p.W.toNat (zaV p.W.toNat (2 * p.W.toNat) (clA p a) (zbj p fs a)) ws xs):xs=upR p fs a:=by
 refine List.ext_getElem? fun w=>?_
 by_cases hw:w < p.W.toNat
 ·obtain ⟨j,hj⟩:=ho.all w hw
  have hjl:=(List.getElem?_eq_some_iff.1 hj).1
  rw [h.at_ j w hj,if_pos (by rw [← ho.len];exact hjl)]
  simp [upR,hw]
 ·rw [List.getElem?_eq_none (by rw [h.len];omega),List.getElem?_eq_none (by simp [upR];omega)]
set_option maxHeartbeats 40000000
theorem zvr (hR:zaY T) (p:PM) (hp:za2 p.rank) (f:List Nd) (gi:Nat) (gcs:List D) (fs:Nat→Nat→BitVec 64) (hgc:gcs.length≤10)
  (hF:zy p=0 → ∀ a w:Nat,a < p.cell.length→w < p.W.toNat→Fn Tryz.prog T gi ([.d (.int .i64 (a:Int)),.d (.int .i64 (w:Int)),.d (.u64 (zS p f).1)]++gcs.map V.d) [] (.d (.u64 (fs a w))) []) :
  Fn Tryz.prog T zgJ [.d (dPM p),.d (dF f),.d (.fn gi gcs)] [] (.d (dPI (if (zS p f).2≠0 then (⟨0,[],[],[]⟩,(zS p f).2) else (upL p fs,0)))) []:=by
 refine zb zn zmC (by show 3≤140;decide) ?_
 by_cases he:(zS p f).2=0
 ·have hc0:=(zq3 he).1
  have hF:=hF hc0
  have hgd:=zA hc0
  have w1:=hgd.w1
  have w2:=hgd.w2
  have n4:=hgd.n4
  have v8:=hgd.v8
  have hcH:=zsU (T:=T) hR p hp f
  rw [show dUE (zS p f) = .tup [.u64 (zS p f).1,.int .i64 0] by rw [dUE,he]] at hcH
  rw [if_neg (by omega)]
  (repeat' ((conv=>whnf);first|refine zao.no (by decide) ?_|refine vA ?_|refine vJ fun hg=>?_|refine vT ?_|(refine vU ?_ ?_;·kernel_rfl)|refine yN hcH ⟨⟨rfl,rfl⟩,⟨rfl,rfl⟩,rfl⟩ ?_|refine yN (zlc p.val (by omega)) ⟨⟨rfl,rfl⟩,rfl⟩ ?_));all_goals try conv=>whnf
  refine zt (fun ((a,xs,ys):Nat×List D×List D)=>[(3,.ptr 0 0),(5,.ptr 1 0),(6,.ptr 2 0),(8,.ptr 3 0),(10,.ptr 4 0),(37,.d (.int .i64 ((p.cell.map dI).length:Int))),(38,.d (.int .i64 ((a:Int))))]) (fun ((a,xs,ys):Nat×List D×List D)=>[(0,some (zck p)),(1,some (.box [.d (.fn gi gcs)])),(2,some (.box [.d (.int .i64 0),.nils 1,.nils 1,.nils 1])),(3,some (.box [.d (.u64 (zS p f).1)])),(4,some (.box [.d (.int .i64 p.W),.d (dU p.val),.own 5,.own 6])),(5,some (.row 1 xs)),(6,some (.row 1 ys))]) 7 (fun ((a,xs,ys):Nat×List D×List D)=>a≤p.cell.length∧xs=(p.cell.take a).map dI∧ys=((List.range a).map (upR p fs)).map dI) (fun ((a,xs,ys):Nat×List D×List D)=>p.cell.length - a) ((0,[],[])) [(0,0),(1,1),(2,2),(3,3),(4,4)]   [5,6] (⟨by simp,rfl,rfl⟩) (by (refine ⟨rfl,rfl,rfl,?_,?_⟩;repeat' first|exact trivial|exact rfl|exact ⟨_,rfl⟩|refine And.intro ?_ ?_|refine ⟨_,rfl,?_⟩|decide)) ?_
  rintro ⟨a,xs,ys⟩ ⟨ha,hX,hY⟩
  by_cases hal:a < p.cell.length
  ·have hrow:=zge hal
   have hal':a < p.rank.length:=by rw [hgd.len];exact hal
   have hlens:=hgd.lens a hal
   haveI:Inhabited (Fin p.W.toNat):=⟨⟨0,by omega⟩⟩
   have hxl:xs.length≤4:=by rw [hX];simp;omega
   have hyl:ys.length≤4:=by rw [hY];simp;omega
   have hcK : ∀ x y:Fin p.W.toNat,Fn Tryz.prog T za0 [.d (.int .i64 (((x:Nat):Int))),.d (.int .i64 (((y:Nat):Int))),.d (yK p a gi gcs (zS p f).1),.d (bP p),.d (bI a)] [] (.d (.int .i64 (cK p fs a x y))) []:=fun x y=>zux hgc hF hc0 a x y hal x.2 y.2
   have hO:=zAT hc0 hal (fs:=fs)
   have hord:=zvG hc0 hal (fs:=fs)
   (repeat' ((conv=>whnf);first|refine vA ?_|(refine vF ?_ ?_<;>intro hc<;>try simp only [vL] at hc)|refine vK fun hg=>?_|refine vT ?_|(refine vP ?_ ?_;·omega)|fail));all_goals try conv=>whnf
   all_goals try omega
   refine zt (fun ((i,zs):Nat×List D)=>[(3,.ptr 0 0),(5,.ptr 1 0),(6,.ptr 2 0),(8,.ptr 3 0),(10,.ptr 4 0),(11,.ptr 7 0),(13,.fn za0 [.ptr 8 0,.ptr 0 0,.ptr 7 0]),(14,.own 9),(37,.d (.int .i64 ((p.cell.map dI).length:Int))),(38,.d (.int .i64 ((a:Int)))),(47,.d (.int .i64 (((List.replicate p.W.toNat (D.int .i64 0)).length:Nat):Int))),(48,.d (.int .i64 ((i:Int))))]) (fun ((i,zs):Nat×List D)=>[(0,some (zck p)),(1,some (.box [.d (.fn gi gcs)])),(2,some (.box [.d (.int .i64 0),.nils 1,.nils 1,.nils 1])),(3,some (.box [.d (.u64 (zS p f).1)])),(4,some (.box [.d (.int .i64 p.W),.d (dU p.val),.own 5,.own 6])),(5,some (.row 1 xs)),(6,some (.row 1 ys)),(7,some (.box [.d (.int .i64 (a:Int))])),(8,some (.box [.fn zaZ [.ptr 0 0,.ptr 7 0,.ptr 1 0,.ptr 3 0]])),(9,some (.row 1 zs))]) 10 (fun ((i,zs):Nat×List D)=>i≤p.W.toNat∧zs.length=p.W.toNat ∧ ∀ j,j < i→zs[j]? = some (.int .i64 (j:Int))) (fun ((i,zs):Nat×List D)=>p.W.toNat - i) ((0,List.replicate p.W.toNat (D.int .i64 0))) [(0,0),(1,1),(2,2),(3,3),(4,4),(5,5),(6,6),(7,7),(8,8),(9,9)] [] (⟨by simp,by simp,by omega⟩) (by (refine ⟨rfl,rfl,rfl,?_,?_⟩;repeat' first|exact trivial|exact rfl|refine And.intro ?_ ?_|refine ⟨_,rfl,?_⟩|decide)) ?_
   rintro ⟨i,zs⟩ ⟨hi,hzl,hz⟩
   have hrl:((List.replicate p.W.toNat (D.int .i64 0)).length:Int)=p.W:=by rw [List.length_replicate];omega
   (repeat' ((conv=>whnf);first|refine vA ?_|(refine vF ?_ ?_<;>intro hc<;>try simp only [vL] at hc)|refine vT ?_|((first|refine vO ?_ ?_|refine vP ?_ ?_);·omega)|fail));all_goals try conv=>whnf
   ·refine ⟨(i+1,_),[(0,0),(1,1),(2,2),(3,3),(4,4),(5,5),(6,6),(7,7),(8,8),(9,9)],[],?_,?_,by (refine ⟨rfl,rfl,rfl,?_,?_⟩;repeat' first|exact trivial|exact rfl|refine And.intro ?_ ?_|refine ⟨_,rfl,?_⟩|decide)⟩
    ·refine ⟨by (omega),by rw [List.length_set];exact hzl,fun j hj=>?_⟩
     by_cases e:j=i
     ·subst e;exact List.getElem?_set_self (by omega)
     ·exact (List.getElem?_set_ne (by omega)).trans (hz j (by omega))
    ·((simp only [vM] at *;omega))
   ·have ei:i=p.W.toNat:=by omega
    subst ei
    have ezs:zs=(List.finRange p.W.toNat).map (eC fun x:Fin p.W.toNat=>((x:Nat):Int)):=by
     rw [zwe]
     refine List.ext_getElem? fun j=>?_
     by_cases hj:j < p.W.toNat
     ·rw [hz j hj];simp [hj]
     ·rw [List.getElem?_eq_none (by omega),List.getElem?_eq_none (by simp;omega)]
    have cS:=zt0 hcK hO (List.finRange p.W.toNat).toArray (by simp;omega)
    generalize Sort.sort (ltC (cK p fs a)) (List.finRange p.W.toNat).toArray=S at cS hord
    rw [show zat (fun x:Fin p.W.toNat=>((x:Nat):Int)) (List.finRange p.W.toNat).toArray = .row 1 zs by rw [ezs],show zat (fun x:Fin p.W.toNat=>((x:Nat):Int)) S = .row 1 ((S.toList.map Fin.val).map fun (w:Nat)=>D.int .i64 (w:Int)) by rw [List.map_map];rfl] at cS
    generalize S.toList.map Fin.val=ws at cS hord
    clear ezs hz
    have hwl:=hord.len
    refine zw.objsC [9] [8,0,7,1,3] cS (by (repeat' first|exact rfl|refine And.intro ?_ ?_|refine ⟨_,rfl,?_⟩)) (by (repeat' first|exact rfl|refine And.intro ?_ ?_)) (by rfl) (by rfl) (by rfl) (by rfl) (by simp) (by rfl) ⟨fun x hx y hy=>by
     obtain ⟨z,-,rfl⟩:=List.mem_map.1 hx
     rw [show D.cells (D.int .i64 (z:Int))=[D.int .i64 (z:Int)] from rfl,List.mem_singleton] at hy
     subst hy;rfl,trivial⟩ ?_
    (repeat' ((conv=>whnf);first|refine vA ?_|refine vJ fun hg=>?_|refine vT ?_|(refine vP ?_ ?_;·omega)|fail));all_goals try conv=>whnf
    refine zt (fun ((k,rs):Nat×List D)=>[(3,.ptr 0 0),(5,.ptr 1 0),(6,.ptr 2 0),(8,.ptr 3 0),(10,.ptr 4 0),(11,.ptr 7 0),(13,.fn za0 [.ptr 8 0,.ptr 0 0,.ptr 7 0]),(14,.own 9),(37,.d (.int .i64 ((p.cell.map dI).length:Int))),(38,.d (.int .i64 ((a:Int)))),(16,.own 10),(62,.own 9),(63,.d (.int .i64 (((ws.map fun (w:Nat)=>D.int .i64 (w:Int)).length:Nat):Int))),(64,.d (.int .i64 ((k:Int))))]) (fun ((k,rs):Nat×List D)=>[(0,some (zck p)),(1,some (.box [.d (.fn gi gcs)])),(2,some (.box [.d (.int .i64 0),.nils 1,.nils 1,.nils 1])),(3,some (.box [.d (.u64 (zS p f).1)])),(4,some (.box [.d (.int .i64 p.W),.d (dU p.val),.own 5,.own 6])),(5,some (.row 1 xs)),(6,some (.row 1 ys)),(7,some (.box [.d (.int .i64 (a:Int))])),(8,some (.box [.fn zaZ [.ptr 0 0,.ptr 7 0,.ptr 1 0,.ptr 3 0]])),(9,some (.row 1 (ws.map fun (w:Nat)=>D.int .i64 (w:Int)))),(10,some (.row 1 rs))]) 11 (fun ((k,rs):Nat×List D)=>k≤p.W.toNat ∧ ∃ l:List Int,rs=l.map (D.int .i64)∧zij p.W.toNat k (zaV p.W.toNat (2 * p.W.toNat) (clA p a) (zbj p fs a)) ws l) (fun ((k,rs):Nat×List D)=>p.W.toNat - k) ((0,List.replicate p.W.toNat (D.int .i64 0))) [(0,0),(1,1),(2,2),(3,3),(4,4),(5,5),(6,6),(7,7),(8,8),(9,9),(10,10)] [] (⟨by simp,List.replicate p.W.toNat 0,by simp,by simp,fun j w hj=>by rw [if_neg (by omega),List.getElem?_replicate,if_pos (hord.lt j w hj)]⟩) (by (refine ⟨rfl,rfl,rfl,?_,?_⟩;repeat' first|exact trivial|exact rfl|refine And.intro ?_ ?_|refine ⟨_,rfl,?_⟩|decide)) ?_
    rintro ⟨k,rs⟩ ⟨hk,l,rfl,hl⟩
    have hll:=hl.len
    by_cases hkW:k < p.W.toNat
    ·obtain ⟨w,hw⟩ : ∃ w,ws[k]? = some w:=⟨_,List.getElem?_eq_getElem (by omega)⟩
     have hwW:=hord.lt k w hw
     by_cases hk0:k=0
     ·subst hk0
      (repeat' ((conv=>whnf);first|refine zao.decY (by omega) ?_|refine vA ?_|(refine vF ?_ ?_<;>intro hc<;>try simp only [vL] at hc)|refine vT ?_|refine vN ‹_› ?_|((first|refine vO ?_ ?_|refine vP ?_ ?_);·first|omega|(simp only [vM] at *;omega))|(refine vU ?_ ?_;·kernel_rfl)|fail));all_goals try conv=>whnf
      all_goals try omega
      refine ⟨(1,_),[(0,0),(1,1),(2,2),(3,3),(4,4),(5,5),(6,6),(7,7),(8,8),(9,9),(10,10)],[],?_,?_,by (refine ⟨rfl,rfl,rfl,?_,?_⟩;repeat' first|exact trivial|exact rfl|refine And.intro ?_ ?_|refine ⟨_,rfl,?_⟩|decide)⟩
      ·exact ⟨by (omega),l,rfl,hl.skip hw (hord.first hw)⟩
      ·((simp only [vM] at *;omega))
     ·obtain ⟨x,hx⟩ : ∃ x,ws[k - 1]? = some x:=⟨_,List.getElem?_eq_getElem (by omega)⟩
      have hxW:=hord.lt (k - 1) x hx
      have hxi:ws[((k:Int) - 1).toNat]? = some x:=by rw [show ((k:Int) - 1).toNat=k - 1 by omega];exact hx
      have hw':ws[k - 1+1]? = some w:=by rw [show k - 1+1=k by omega];exact hw
      obtain ⟨z1,e1⟩ : ∃ z,(ze p.cell a)[x]? = some z:=⟨_,List.getElem?_eq_getElem (by omega)⟩
      obtain ⟨z2,e2⟩ : ∃ z,(ze p.cell a)[w]? = some z:=⟨_,List.getElem?_eq_getElem (by omega)⟩
      have f1:clA p a x=z1:=zah e1
      have f2:clA p a w=z2:=zah e2
      have cx:=zux hgc hF hc0 a x w hal hxW hwW
      have hlx:=hl.at_ (k - 1) x hx
      rw [if_pos (by omega)] at hlx
      have hkr:=zj5 hc0 hal (fs:=fs) x hxW
      have hdb:zaV p.W.toNat (2 * p.W.toNat) (clA p a) (zbj p fs a) x≤2 * p.W.toNat:=ztV
      have hcz:=zwg hc0 hal (fs:=fs) hxW hwW
      (repeat' ((conv=>whnf);first|refine zao.decN (by omega) ?_|refine vA ?_|((first|refine vD ?_ ?_|refine vF ?_ ?_)<;>intro hc<;>try simp only [vL] at hc)|refine vT ?_|refine vN ‹_› ?_|((first|refine vO ?_ ?_|refine vP ?_ ?_);·first|omega|(simp only [vM] at *;omega))|(refine vU ?_ ?_;·kernel_rfl)|refine yD cx (by (repeat refine ⟨⟨rfl,rfl⟩,?_⟩);rfl) rfl ?_));all_goals try conv=>whnf
      all_goals try omega
      ·refine ⟨(k+1,_),[(0,0),(1,1),(2,2),(3,3),(4,4),(5,5),(6,6),(7,7),(8,8),(9,9),(10,10)],[],?_,?_,by (refine ⟨rfl,rfl,rfl,?_,?_⟩;repeat' first|exact trivial|exact rfl|refine And.intro ?_ ?_|refine ⟨_,rfl,?_⟩|decide)⟩
       ·exact ⟨by (omega),l,rfl,hl.skip hw (hord.other hx hw' (by rw [f1,f2];assumption))⟩
       ·((simp only [vM] at *;omega))
      ·have hnz:=‹zjO p fs a x w≠0›
       have hcl:clA p a x=clA p a w:=by rw [f1,f2];assumption
       have hdw:=hord.next hx hw' hcl (fun h=>hnz (hcz.2 ⟨hcl,h⟩)) hkr.1 hkr.2
       refine ⟨_,⟨Int.natCast_nonneg _,List.getElem?_set_self (by rw [List.length_map];omega)⟩,?_⟩
       (repeat' ((conv=>whnf);first|refine vT ?_|((first|refine vO ?_ ?_|refine vP ?_ ?_);·first|omega|(simp only [vM] at *;omega))|fail));all_goals try conv=>whnf
       refine ⟨(k+1,_),[(0,0),(1,1),(2,2),(3,3),(4,4),(5,5),(6,6),(7,7),(8,8),(9,9),(10,10)],[],?_,?_,by (refine ⟨rfl,rfl,rfl,?_,?_⟩;repeat' first|exact trivial|exact rfl|refine And.intro ?_ ?_|refine ⟨_,rfl,?_⟩|decide)⟩
       ·exact ⟨by (omega),l.set w ((zaV p.W.toNat (2 * p.W.toNat) (clA p a) (zbj p fs a) x:Int)+1),by rw [List.map_set];exact List.set_set _,hl.set hw hord.inj hwW (by rw [hdw];omega)⟩
       ·((simp only [vM] at *;omega))
      ·have hz:=hcz.1 ‹zjO p fs a x w=0›
       refine ⟨(k+1,_),[(0,0),(1,1),(2,2),(3,3),(4,4),(5,5),(6,6),(7,7),(8,8),(9,9),(10,10)],[],?_,?_,by (refine ⟨rfl,rfl,rfl,?_,?_⟩;repeat' first|exact trivial|exact rfl|refine And.intro ?_ ?_|refine ⟨_,rfl,?_⟩|decide)⟩
       ·exact ⟨by (omega),l.set w (zaV p.W.toNat (2 * p.W.toNat) (clA p a) (zbj p fs a) x:Int),by rw [List.map_set];rfl,hl.set hw hord.inj hwW (by rw [hord.same hz.1 hz.2])⟩
       ·((simp only [vM] at *;omega))
    ·have ek:k=p.W.toNat:=by omega
     subst ek
     have efull:=zij.full hord hl
     (repeat' ((conv=>whnf);first|refine zao.decN (by omega) ?_|refine vA ?_|(refine vF ?_ ?_<;>intro hc<;>try simp only [vL] at hc)|refine vT ?_|refine vN ‹_› ?_|(refine vQ ?_ fun x hx=>?_;·omega)|((first|refine vO ?_ ?_|refine vP ?_ ?_);·first|omega|(simp only [vM] at *;omega))|(refine vU ?_ ?_;·kernel_rfl)|refine yN (zsS _ (by omega)) ⟨⟨rfl,rfl⟩,rfl⟩ ?_));all_goals try conv=>whnf
     all_goals try omega
     refine ⟨(a+1,_,_),[(0,0),(1,1),(2,2),(3,3),(4,4),(5,12),(6,14)],[],?_,?_,by (refine ⟨rfl,rfl,rfl,?_,?_⟩;repeat' first|exact trivial|exact rfl|refine And.intro ?_ ?_|refine ⟨_,rfl,?_⟩|decide)⟩
     ·exact ⟨by (omega),by rw [List.take_add_one,List.map_append,hX,hrow];rfl,by rw [List.range_succ,List.map_append,List.map_append,hY,efull];rfl⟩
     ·((simp only [vM] at *;omega))
  ·(repeat' ((conv=>whnf);first|refine vA ?_|(refine vF ?_ ?_<;>intro hc<;>try simp only [vL] at hc)|refine vK fun hg=>?_|refine vT ?_|(refine vP ?_ ?_;·omega)|fail));all_goals try conv=>whnf
   all_goals try omega
   have ea:a=p.cell.length:=by omega
   subst ea
   rw [hX,hY,List.take_length];rfl
 ·(repeat' ((conv=>whnf);first|refine vA ?_|(refine vD ?_ ?_<;>intro hc)|refine vT ?_|refine yN (zsU hR p hp f) ⟨⟨rfl,rfl⟩,⟨rfl,rfl⟩,rfl⟩ ?_));all_goals try conv=>whnf
  ·rw [if_pos he];rfl
  all_goals exact absurd ‹(zS p f).2=0› he
end Go.Ab
namespace Go.Ab
open Go Go.Proofs
set_option maxRecDepth 10000
set_option maxHeartbeats 4000000
variable {T:Nat→Obj→Prop}
abbrev noP:PM:=⟨0,[],[],[]⟩
noncomputable def zBy (p:PM) (f:List Nd):PM×Int:=if (zS p f).2≠0 then (noP,(zS p f).2) else (upL p fun _ _=>(zS p f).1,0)
theorem zA7 (hR:zaY T) (p:PM) (hp:za2 p.rank) (f:List Nd):Fn Tryz.prog T zgI [.d (dPM p),.d (dF f)] [] (.d (dPI (zBy p f))) []:=by
 have c:=zvr (T:=T) hR p hp f zdB [] (fun _ _=>(zS p f).1) (by simp) (fun _ a w _ _=>by
  show Fn _ T _ [.d (.int .i64 (a:Int)),.d (.int .i64 (w:Int)),.d (.u64 (zS p f).1)] [] _ []
  refine zb zn zkF (by show 3≤8;decide) ?_
  (repeat' ((conv=>whnf);first|refine vT ?_|refine vY ?_));all_goals try conv=>whnf)
 refine zb zn zmB (by show 2≤11;decide) ?_
 (repeat' ((conv=>whnf);first|refine vT ?_|refine yN c ⟨⟨rfl,rfl⟩,⟨rfl,rfl⟩,⟨rfl,rfl⟩,rfl⟩ ?_));all_goals try conv=>whnf
 rfl
end Go.Ab
