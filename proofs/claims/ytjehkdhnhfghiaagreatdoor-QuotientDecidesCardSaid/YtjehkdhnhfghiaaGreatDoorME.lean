/- A part of the proofs of this seat: functions and their contracts. -/
import Derived.Test.YtjehkdhnhfghiaaGreatDoorMD
import Derived.Calls
import Derived.Shelf.Strconv.Itoa0
import Derived.Laws.IdiomStrings
import Derived.WalkKit
import Derived.CellFam
import Derived.Sort.Row
set_option linter.unusedVariables false
set_option linter.unusedSimpArgs false
set_option linter.unusedSectionVars false
namespace Go.Ab
open Go Go.Proofs
set_option maxRecDepth 10000
set_option maxHeartbeats 4000000
variable {T:Nat→Obj→Prop}
theorem zrp (x y:Tup) (h:Sml x):Fn Tryz.prog T zcr [.d (dII x),.d (dII y)] [] (.d (.bool (decide (x=y)))) []:=by
 have cA:=zhm (T:=T) x y h
 refine zj zy zkU (by show 2≤9;decide) ?_
 (repeat' ((conv=>whnf);first|refine vT ?_|refine vZ ?_|refine yD cA ⟨⟨rfl,rfl⟩,⟨rfl,rfl⟩,rfl⟩ rfl ?_));all_goals try conv=>whnf
 rw [Bool.eq_iff_iff,decide_eq_true_eq,decide_eq_true_eq];exact zak.zero
abbrev fEq:D := .fn zcr []
theorem zsC (d:Array Tup) (hm : ∀ x∈d.toList,Sml x) (hs:d.size≤1000) (hd:Steps d):Fn Tryz.prog T zA [.own 0,.d fEq] [zfY d] (.own 1) [none,some (zfY d)]:=by
 have hln:d.toList.length=d.size:=Array.length_toList
 refine zaq zy zam (by show 2≤66;decide) _ (fun e env mem n h=>h) ?_
 (repeat' ((conv=>whnf);first|refine vA ?_|(refine vF ?_ ?_<;>intro hc<;>try simp only [vL] at hc)|refine vJ fun hg=>?_|refine vT ?_));all_goals try conv=>whnf
 ·refine ⟨trivial,_,[(1,0)],[],rfl,.inl (by (repeat' exact rfl)),⟨by rfl,by rfl,by rfl,trivial,by (repeat' first|exact trivial|exact rfl|refine And.intro ?_ ?_|refine ⟨_,rfl,?_⟩|exact of_decide_eq_true rfl)⟩,by (repeat' first|exact trivial|refine And.intro ?_ ?_)⟩
 refine zu (fun (i:Int)=>[(0,.own 0),(1,.d fEq),(5,.d (.int .i64 (i))),(zc,.own 0)]) (fun (i:Int)=>[(0,some (zfY d))]) 1 (fun (i:Int) => ∃ k:Nat,i=k∧0 < k∧k≤d.size) (fun (i:Int)=>(d.size - i).toNat) (1) [(0,0)] [] (⟨1,rfl,by omega,by omega⟩) (by (refine ⟨rfl,rfl,rfl,?_,?_⟩;repeat' first|exact trivial|exact rfl|refine And.intro ?_ ?_|refine ⟨_,rfl,?_⟩|decide)) ?_
 rintro _ ⟨k,rfl,hk0,hk1⟩
 by_cases hkl:k < d.size
 ·have hx1:d.toList[k]? = some d[k]! := zbI hkl
  have hx2:d.toList[((k:Int) - 1).toNat]? = some d[k - 1]! := by rw [show ((k:Int) - 1).toNat=k - 1 by omega];exact zbI (by omega)
  have cA:=zrp (T:=T) d[k]! d[k - 1]! (hm _ (List.mem_of_getElem? hx1))
  (repeat' ((conv=>whnf);first|refine vA ?_|(refine vF ?_ ?_<;>intro hc<;>try simp only [vL] at hc)|refine vJ fun hg=>?_|refine vT ?_|refine vN ‹_› ?_|((first|refine vO ?_ ?_|refine vP ?_ ?_);·first|omega|(simp only [vM] at *;omega))|(refine vU ?_ ?_;·kernel_rfl)|refine yD cA ⟨⟨rfl,rfl⟩,⟨rfl,rfl⟩,rfl⟩ rfl ?_));all_goals try conv=>whnf
  ·exact absurd ‹d[k]! = d[k - 1]!› (hd k hk0 hkl)
  ·refine ⟨_,[(0,0)],[],?_,?_,by (refine ⟨rfl,rfl,rfl,?_,?_⟩;repeat' first|exact trivial|exact rfl|refine And.intro ?_ ?_|refine ⟨_,rfl,?_⟩|decide)⟩
   ·exact ⟨k+1,by omega,by omega,by omega⟩
   ·(omega)
  ·exfalso;omega
 ·(repeat' ((conv=>whnf);first|refine vA ?_|(refine vF ?_ ?_<;>intro hc<;>try simp only [vL] at hc)|refine vJ fun hg=>?_|refine vT ?_|(refine vQ ?_ fun x hx=>?_;·omega)|((first|refine vO ?_ ?_|refine vP ?_ ?_);·omega)|fail));all_goals try conv=>whnf
  ·exfalso;omega
  ·refine ⟨trivial,_,[(1,0)],[],rfl,.inl (by (repeat' exact rfl)),⟨by rfl,by rfl,by rfl,trivial,by (repeat' first|exact trivial|exact rfl|refine And.intro ?_ ?_|refine ⟨_,rfl,?_⟩|exact of_decide_eq_true rfl)⟩,by (repeat' first|exact trivial|refine And.intro ?_ ?_)⟩
theorem zrj (d:Array Tup) (hm : ∀ x∈d.toList,Sml x) (hs:d.size≤1000) (hd : ¬Steps d):Fn Tryz.prog T zA [.own 0,.d fEq] [zfY d] (.own 1) [none,some (.row 1 ((ddA d d.size).map dII))]:=by
 generalize hR:(ddA d d.size).map dII=R
 have hln:d.toList.length=d.size:=Array.length_toList
 refine zaq zy zam (by show 2≤66;decide) _ (fun e env mem n h=>h) ?_
 (repeat' ((conv=>whnf);first|refine vA ?_|(refine vF ?_ ?_<;>intro hc<;>try simp only [vL] at hc)|refine vJ fun hg=>?_|refine vT ?_));all_goals try conv=>whnf
 ·exact absurd (fun j hj0 hj1=>by omega) hd
 refine zu (fun (i:Int)=>[(0,.own 0),(1,.d fEq),(5,.d (.int .i64 (i))),(zc,.own 0)]) (fun (i:Int)=>[(0,some (zfY d))]) 1 (fun (i:Int) => ∃ k:Nat,i=k∧0 < k∧k≤d.size ∧ ∀ j,0 < j→j < k→d[j]! ≠ d[j - 1]!) (fun (i:Int)=>(d.size - i).toNat) (1) [(0,0)] [] (⟨1,rfl,by omega,by omega,fun j _ _=>by omega⟩) (by (refine ⟨rfl,rfl,rfl,?_,?_⟩;repeat' first|exact trivial|exact rfl|refine And.intro ?_ ?_|refine ⟨_,rfl,?_⟩|decide)) ?_
 rintro _ ⟨k,rfl,hk0,hk1,hk⟩
 by_cases hkl:k < d.size
 ·have hx1:d.toList[k]? = some d[k]! := zbI hkl
  have hx2:d.toList[((k:Int) - 1).toNat]? = some d[k - 1]! := by rw [show ((k:Int) - 1).toNat=k - 1 by omega];exact zbI (by omega)
  have cA:=zrp (T:=T) d[k]! d[k - 1]! (hm _ (List.mem_of_getElem? hx1))
  (repeat' ((conv=>whnf);first|refine vA ?_|(refine vF ?_ ?_<;>intro hc<;>try simp only [vL] at hc)|refine vJ fun hg=>?_|refine vT ?_|refine vN ‹_› ?_|((first|refine vO ?_ ?_|refine vP ?_ ?_);·first|omega|(simp only [vM] at *;omega))|(refine vU ?_ ?_;·kernel_rfl)|refine yD cA ⟨⟨rfl,rfl⟩,⟨rfl,rfl⟩,rfl⟩ rfl ?_));all_goals try conv=>whnf
  ·have hkk:d[k]! = d[k - 1]! := ‹_›
   refine zu (fun ((w,q,xs):Int×Int×List D)=>[(0,.own 0),(1,.d fEq),(5,.d (.int .i64 (w))),(6,.view 0 k ((d.toList.map dII).length - k)),(7,.d (.int .i64 (q))),(zc,.own 0)]) (fun ((w,q,xs):Int×Int×List D)=>[(0,some (.row 1 xs))]) 1 (fun ((w,q,xs):Int×Int×List D) => ∃ (a b:Nat) (e:Array Tup),w=a∧q=b∧xs=e.toList.map dII∧0 < b∧k+b≤d.size∧a < k+b∧e.size=d.size∧e.toList.take a=ddA d (k+b) ∧ ∀ j,k+b - 1≤j→j < d.size→e[j]! = d[j]!) (fun ((w,q,xs):Int×Int×List D)=>(d.size - k - q).toNat) (((k:Int),(1:Int),d.toList.map dII)) [(0,0)] [] (⟨k,1,d,rfl,rfl,rfl,by omega,by omega,by omega,rfl,zq1 hk0 hkl hk hkk,fun _ _ _=>rfl⟩) (by (refine ⟨rfl,rfl,rfl,?_,?_⟩;repeat' first|exact trivial|exact rfl|refine And.intro ?_ ?_|refine ⟨_,rfl,?_⟩|decide)) ?_
   rintro ⟨_,_,_⟩ ⟨a,b,e,rfl,rfl,rfl,hb0,hb1,hab,he,ha,hj⟩
   have hle:e.toList.length=e.size:=Array.length_toList
   by_cases hbl:k+b < d.size
   ·have hy1:e.toList[k+((b:Nat):Int).toNat]? = some e[k+b]! := by rw [Int.toNat_natCast];exact zbI (by omega)
    have hy2:e.toList[k+(((b:Nat):Int) - 1).toNat]? = some e[k+b - 1]! := by rw [show k+(((b:Nat):Int) - 1).toNat=k+b - 1 by omega];exact zbI (by omega)
    have e1:=hj (k+b) (by omega) (by omega)
    have e2:=hj (k+b - 1) (by omega) (by omega)
    have cC:=zrp (T:=T) e[k+b]! e[k+b - 1]! (by rw [e1];exact hm _ (List.mem_of_getElem? (zbI hbl)))
    (repeat' ((conv=>whnf);first|refine vA ?_|refine vE ?_|(refine vF ?_ ?_<;>intro hc<;>try simp only [vL] at hc)|refine vT ?_|refine vN ‹_› ?_|((first|refine vO ?_ ?_|refine vP ?_ ?_);·first|omega|(simp only [vM] at *;omega))|(refine vU ?_ ?_;·kernel_rfl)|refine yD cC ⟨⟨rfl,rfl⟩,⟨rfl,rfl⟩,rfl⟩ rfl ?_));all_goals try conv=>whnf
    ·refine ⟨(_,_,_),[(0,0)],[],?_,?_,by (refine ⟨rfl,rfl,rfl,?_,?_⟩;repeat' first|exact trivial|exact rfl|refine And.intro ?_ ?_|refine ⟨_,rfl,?_⟩|decide)⟩
     ·exact ⟨a,b+1,e,rfl,by omega,rfl,by omega,by omega,by omega,he,
       by rw [ha,← Nat.add_assoc,ztc (by omega) (by rw [← e1,← e2];assumption)],
       fun j h0 h1=>hj j (by omega) h1⟩
     ·((simp only [vM] at *;omega))
    ·refine ⟨(_,_,_),[(0,0)],[],?_,?_,by (refine ⟨rfl,rfl,rfl,?_,?_⟩;repeat' first|exact trivial|exact rfl|refine And.intro ?_ ?_|refine ⟨_,rfl,?_⟩|decide)⟩
     ·exact ⟨a+1,b+1,e.setIfInBounds a e[k+b]!,by omega,by omega,by simp [List.map_set],by omega,by omega,by omega,by simp [he],
       by rw [zsh (by omega),ha,← Nat.add_assoc,zu6 (by rw [← e1,← e2];assumption),e1],
       fun j h0 h1=>by rw [zty (by omega)];exact hj j (by omega) h1⟩
     ·((simp only [vM] at *;omega))
    ·exfalso;omega
   ·(repeat' ((conv=>whnf);first|refine vA ?_|(refine vF ?_ ?_<;>intro hc<;>try simp only [vL] at hc)|refine vT ?_|(refine vQ ?_ fun x hx=>?_;·omega)|((first|refine vO ?_ ?_|refine vP ?_ ?_);·first|omega|(simp only [vM] at *;omega))|fail));all_goals try conv=>whnf
    ·exfalso;omega
    ·have hE:=zta (enc:=dII) (e:=e) (z:=D.arr 1 []) (a:=a) (n:=(e.toList.map dII).length - a) (by omega)
     rw [ha,show k+b=d.size by omega,hR] at hE
     subst hE
     refine znr.mk (by simp only [List.length_append,List.length_take,List.length_replicate,List.length_drop,List.length_map,hle];omega) ?_
     (repeat' ((conv=>whnf);refine vT ?_));all_goals try conv=>whnf
     refine ⟨trivial,_,[(1,1)],[],rfl,.inl (by (repeat' exact rfl)),⟨by rfl,by rfl,by rfl,trivial,by (repeat' first|exact trivial|exact rfl|refine And.intro ?_ ?_|refine ⟨_,rfl,?_⟩|exact of_decide_eq_true rfl)⟩,by (repeat' first|exact trivial|refine And.intro ?_ ?_)⟩
  ·refine ⟨_,[(0,0)],[],?_,?_,by (refine ⟨rfl,rfl,rfl,?_,?_⟩;repeat' first|exact trivial|exact rfl|refine And.intro ?_ ?_|refine ⟨_,rfl,?_⟩|decide)⟩
   ·exact ⟨k+1,by omega,by omega,by omega,fun j h0 h1=>by
     by_cases hjk:j=k
     ·subst hjk;assumption
     ·exact hk j h0 (by omega)⟩
   ·(omega)
  ·exfalso;omega
 ·(repeat' ((conv=>whnf);first|refine vA ?_|(refine vF ?_ ?_<;>intro hc<;>try simp only [vL] at hc)|refine vJ fun hg=>?_|refine vT ?_|(refine vQ ?_ fun x hx=>?_;·omega)|((first|refine vO ?_ ?_|refine vP ?_ ?_);·omega)|fail));all_goals try conv=>whnf
  ·exfalso;omega
  ·exact absurd (fun j h0 h1=>hk j h0 (by omega)) hd
theorem zw5 (d:Array Tup) (hm : ∀ x∈d.toList,Sml x) (hs:d.size≤1000):Fn Tryz.prog T zA [.own 0,.d fEq] [zfY d] (.own 1) [none,some (.row 1 ((ddA d d.size).map dII))]:=by
 by_cases hd:Steps d
 ·have:=zsC (T:=T) d hm hs hd
  rw [zlv (Nat.le_refl _) hd,List.take_of_length_le (by rw [Array.length_toList];exact Nat.le_refl _)]
  exact this
 ·exact zrj d hm hs hd
theorem zve (ts:List Tup) (h:ts≠[]) (hl:ts.length≤1000):Fn Tryz.prog T z7 [.d (.arr 1 (ts.map dII))] [] (.own 0) [some (.row 1 (ts.map dII))]:=by
 refine zaq zy zcf (by show 1≤8;decide) _ (fun e env mem n h=>h) ?_
 (repeat' ((conv=>whnf);first|refine vA ?_|refine vB fun b hb=>?_|refine vE ?_|(refine vF ?_ ?_<;>intro hc)|refine vT ?_|(refine vP ?_ ?_;·(simp only [vM] at *;omega))|fail));all_goals try conv=>whnf
 ·refine ⟨trivial,_,[(0,1)],[],rfl,.inl (by (repeat' exact rfl)),⟨by rfl,by rfl,by rfl,trivial,by (repeat' first|exact trivial|exact rfl|refine And.intro ?_ ?_|refine ⟨_,rfl,?_⟩|exact of_decide_eq_true rfl)⟩,by (repeat' exact trivial)⟩
 ·exact absurd (List.map_eq_nil_iff.1 (hb (by simpa using hc))) h
theorem zzw (S:List Tup) (ts:List Tup) (hS:zci ts S) (hl:S.length≤1000) (hm : ∀ x∈S,Sml x) (t:Tup) :
  ∃ b:Bool,Fn Tryz.prog T zT [.d (.arr 1 (S.map dII)),.d (dII t),.d (.fn zM [])] [] (.d (.tup [.int .i64 (rkN ts t:Int),.bool b])) []:=by
 have key : ∀ i:Nat,i≤S.length→(∀ (k:Nat) x,k < i→S[k]? = some x→zaU x t < 0)→(∀ (k:Nat) x,i≤k→S[k]? = some x → ¬zaU x t < 0)→i=rkN ts t:=fun i h1 h2 h3=>hS.rk h1 h2 h3
 refine ⟨decide (rkN ts t < S.length∧zaU (S.getD (rkN ts t) []) t=0),?_⟩
 refine zj zy zaF (by show 3≤49;decide) ?_
 (repeat' ((conv=>whnf);first|refine vA ?_|refine vJ fun hg=>?_|refine vT ?_));all_goals try conv=>whnf
 refine zaH (fun ((i,j):Nat×Nat)=>[(0,.d (.arr 1 (S.map dII))),(1,.d (dII t)),(2,.d (.fn zM [])),(8,.d (.int .i64 ((S.map dII).length:Int))),(9,.d (.int .i64 ((i:Int)))),(10,.d (.int .i64 ((j:Int))))]) (fun ((i,j):Nat×Nat)=>i≤j∧j≤S.length∧(∀ (k:Nat) x,k < i→S[k]? = some x→zaU x t < 0)∧(∀ (k:Nat) x,j≤k→S[k]? = some x → ¬zaU x t < 0)) (fun ((i,j):Nat×Nat)=>j - i) ((0,(S.map dII).length)) (⟨by omega,by simp,fun k x hk=>by omega,fun k x hk hx=>by have:=(List.getElem?_eq_some_iff.1 hx).1;simp at hk;omega⟩) (by (repeat' first|exact trivial|exact rfl|refine And.intro ?_ ?_)) ?_
 rintro ⟨i,j⟩ ⟨hij,hj,h1,h2⟩
 by_cases hlt:i < j
 ·have hh:(i+j) / 2 < S.length:=by omega
  have e2:(BitVec.ofInt 64 ((i:Int)+(j:Int)) >>> BitVec.toNat (1:BitVec 64)).toNat=(i+j) / 2:=by
   rw [BitVec.toNat_ushiftRight,show BitVec.toNat (1:BitVec 64)=1 from rfl,show ((i:Int)+(j:Int))=((i+j:Nat):Int) by omega,zvN (by omega),Nat.shiftRight_eq_div_pow,Nat.pow_one]
  have hx:S[(BitVec.ofInt 64 ((i:Int)+(j:Int)) >>> BitVec.toNat (1:BitVec 64)).toNat]? = some (S.getD ((i+j) / 2) []):=by rw [e2];exact ze7 hh
  have hx':=ze7 (d:=[]) hh
  have cA:=zhm (T:=T) (S.getD ((i+j) / 2) []) t (hm _ (List.mem_of_getElem? hx))
  (repeat' ((conv=>whnf);first|refine vA ?_|(refine vF ?_ ?_<;>intro hc<;>try simp only [vL] at hc)|refine vT ?_|refine vN ‹_› ?_|(refine vQ ?_ fun x hx=>?_;·omega)|(refine vO ?_ ?_;·omega)|refine yD cA ⟨⟨rfl,rfl⟩,⟨rfl,rfl⟩,rfl⟩ rfl ?_));all_goals try conv=>whnf
  ·refine ⟨((BitVec.ofInt 64 ((i:Int)+(j:Int)) >>> BitVec.toNat (1:BitVec 64)).toNat+1,j),[],[],?_,?_,by (refine ⟨rfl,rfl,rfl,?_,?_⟩;repeat' first|exact trivial|exact rfl|refine And.intro ?_ ?_)⟩
   ·rw [e2]
    refine ⟨by omega,hj,fun k x hk hxk=>?_,h2⟩
    by_cases e:k=(i+j) / 2
    ·subst e;rw [hx'] at hxk;cases hxk;assumption
    ·by_cases e':k < (i+j) / 2
     ·exact hS.lt_of hx' hxk (by omega) ‹_›
     ·exfalso;omega
   ·((simp only [vM] at *;omega))
  ·refine ⟨(i,(BitVec.ofInt 64 ((i:Int)+(j:Int)) >>> BitVec.toNat (1:BitVec 64)).toNat),[],[],?_,?_,by (refine ⟨rfl,rfl,rfl,?_,?_⟩;repeat' first|exact trivial|exact rfl|refine And.intro ?_ ?_)⟩
   ·rw [e2]
    refine ⟨by omega,by omega,h1,fun k x hk hxk hlk=>?_⟩
    have:=hS.lt_of hxk hx' hk hlk
    omega
   ·((simp only [vM] at *;omega))
  iterate 2 (exfalso;omega)
 ·have e0:j=i:=by omega
  subst e0
  have ek:=key j hj h1 h2
  by_cases hjl:j < S.length
  ·have hx:=ze7 (d:=[]) hjl
   have cA:=zhm (T:=T) (S.getD j []) t (hm _ (List.mem_of_getElem? hx))
   (repeat' ((conv=>whnf);first|refine vA ?_|(refine vF ?_ ?_<;>intro hc<;>try simp only [vL] at hc)|refine vT ?_|refine vN ‹_› ?_|(refine vQ ?_ fun x hx=>?_;·omega)|(refine vO ?_ ?_;·omega)|refine yD cA ⟨⟨rfl,rfl⟩,⟨rfl,rfl⟩,rfl⟩ rfl ?_));all_goals try conv=>whnf
   ·exfalso;omega
   ·show some (D.tup [.int .i64 (j:Int),.bool (decide (zaU (S.getD j []) t=0))])=_
    rw [← ek];simp [hjl]
   ·exfalso;omega
  ·(repeat' ((conv=>whnf);first|refine vA ?_|(refine vF ?_ ?_<;>intro hc<;>try simp only [vL] at hc)|refine vT ?_|(refine vQ ?_ fun x hx=>?_;·omega)|(refine vO ?_ ?_;·omega)|fail));all_goals try conv=>whnf
   iterate 2 (exfalso;omega)
   show some (D.tup [.int .i64 (j:Int),.bool false])=_
   rw [← ek];simp [hjl]
theorem zvk (ts:List Tup) (h0:ts≠[]) (h12:ts.length≤12) (hm : ∀ x∈ts,Sml x):Fn Tryz.prog T zeP [.d (.arr 1 (ts.map dII))] [] (.d (.tup [dN (ts.map (rkN ts)),.int .i64 (cnN ts:Int)])) []:=by
 have c1:=zve (T:=T) ts h0 (by omega)
 have c2:=zrl (T:=T) ts.toArray hm (by simpa using h12)
 have hS:=zuH (ts:=ts) rfl
 have hp:=zp6 ts.toArray
 have hms : ∀ x∈(Sort.sort ltT ts.toArray).toList,Sml x:=fun x hx=>hm x (hp.mem_iff.1 hx)
 have hsz:(Sort.sort ltT ts.toArray).size=ts.length:=by have:=hp.length_eq;simpa using this
 generalize Sort.sort ltT ts.toArray=A at c2 hS hp hms hsz
 have hmd : ∀ x∈ddA A A.size,Sml x:=fun x hx=>hm x ((hS.mem x).1 hx)
 have hcn:=hS.cnt
 have hle:=hS.le
 have cb:=fun t=>zzw (T:=T) (ddA A A.size) ts hS (by omega) hmd t
 have c3:=zw5 (T:=T) A hms (by omega)
 generalize ddA A A.size=S at hS hmd hcn hle cb c3
 refine zj zy zm3 (by show 1≤37;decide) ?_
 (repeat' ((conv=>whnf);refine vT ?_));all_goals try conv=>whnf
 refine zan.res (c1) (by (repeat refine ⟨⟨rfl,rfl⟩,?_⟩);rfl) ?_
 (repeat' ((conv=>whnf);refine vT ?_));all_goals try conv=>whnf
 refine zan.objs [0] (c2) (by (repeat' first|exact rfl|refine And.intro ?_ ?_|refine ⟨_,rfl,?_⟩)) (by (repeat' first|exact rfl|refine And.intro ?_ ?_)) (by rfl) (by rfl) (by simp) ?_
 (repeat' ((conv=>whnf);refine vT ?_));all_goals try conv=>whnf
 refine zan.objs [0] (c3) (by (repeat' first|exact rfl|refine And.intro ?_ ?_|refine ⟨_,rfl,?_⟩)) (by (repeat' first|exact rfl|refine And.intro ?_ ?_)) (by rfl) (by rfl) (by simp) ?_
 (repeat' ((conv=>whnf);first|refine vA ?_|refine vJ fun hg=>?_|refine vT ?_|(refine vP ?_ ?_;·(simp only [vM] at *;omega))|fail));all_goals try conv=>whnf
 refine zu (fun ((k,zs):Nat×List D)=>[(4,.own 0),(5,.own 1),(17,.d (.arr 1 (ts.map dII))),(18,.d (.int .i64 ((ts.map dII).length:Int))),(19,.d (.int .i64 ((k:Int))))]) (fun ((k,zs):Nat×List D)=>[(0,some (.row 1 (S.map dII))),(1,some (.row 1 zs))]) 2 (fun ((k,zs):Nat×List D)=>k≤ts.length∧zs=(List.range ts.length).map fun i=>D.int .i64 (if i < k then (rkN ts (ts.getD i []):Int) else 0)) (fun ((k,zs):Nat×List D)=>ts.length - k) ((0,List.replicate (((ts.map dII).length:Int)).toNat (D.int .i64 0))) [(0,1),(1,2)] [] (⟨by omega,by simp only [Nat.not_lt_zero,if_false];rw [List.length_map,Int.toNat_natCast];exact zaa _ _⟩) (by (refine ⟨rfl,rfl,rfl,?_,?_⟩;repeat' first|exact trivial|exact rfl|refine And.intro ?_ ?_|refine ⟨_,rfl,?_⟩|decide)) ?_
 rintro ⟨k,zs⟩ ⟨hk,hz⟩
 have hzl:zs.length=ts.length:=by rw [hz];simp
 by_cases hkl:k < ts.length
 ·have hx:=ze7 (d:=[]) hkl
  obtain ⟨b,cbk⟩:=cb (ts.getD k [])
  (repeat' ((conv=>whnf);first|refine vA ?_|(refine vF ?_ ?_<;>intro hc<;>try simp only [vL] at hc)|refine vJ fun hg=>?_|refine vT ?_|refine vN ‹_› ?_|((first|refine vO ?_ ?_|refine vP ?_ ?_);·omega)|refine yD cbk (by (repeat refine ⟨⟨rfl,rfl⟩,?_⟩);rfl) rfl ?_));all_goals try conv=>whnf
  ·refine ⟨(k+1,_),[(0,0),(1,1)],[],?_,?_,by (refine ⟨rfl,rfl,rfl,?_,?_⟩;repeat' first|exact trivial|exact rfl|refine And.intro ?_ ?_|refine ⟨_,rfl,?_⟩|decide)⟩
   ·refine ⟨by omega,?_⟩
    rw [hz]
    refine (zef _).trans (zL fun u hu=>?_)
    show (if u=k then _ else _)=_
    by_cases e:u=k
    ·subst e;rw [if_pos rfl,if_pos (by omega)]
    ·rw [if_neg e]
     by_cases e2:u < k
     ·rw [if_pos e2,if_pos (by omega)]
     ·rw [if_neg e2,if_neg (by omega)]
   ·((simp only [vM] at *;omega))
  ·exfalso;omega
 ·(repeat' ((conv=>whnf);first|refine vA ?_|(refine vF ?_ ?_<;>intro hc<;>try simp only [vL] at hc)|refine vJ fun hg=>?_|refine vT ?_|(refine vQ ?_ fun x hx=>?_;·omega)|fail));all_goals try conv=>whnf
  ·exfalso;omega
  ·have e0:k=ts.length:=by omega
   subst e0
   have hzz:zs=(ts.map (rkN ts)).map fun (x:Nat)=>D.int .i64 (x:Int):=by
    rw [hz]
    refine zdA (d := .nil) (by simp) fun i hi=>?_
    rw [List.length_map,List.length_range] at hi
    simp [List.getD,hi]
   refine congrArg some (show D.tup [.arr 1 zs,.int .i64 ((S.map dII).length:Int)]=_ from ?_)
   rw [hzz,List.length_map,hcn]
   simp [Function.comp_def]
end Go.Ab
namespace Go.Ab
open Go Go.Proofs
set_option maxRecDepth 10000
set_option maxHeartbeats 4000000
variable {T:Nat→Obj→Prop}
def ltI (x y:Int):Bool:=decide (x < y)
abbrev zbD (d:Array (Int)):Ob := .row 1 (d.toList.map (D.int .i64))
theorem zsD (x y:Int):Fn Tryz.prog T zhQ [.d (.int .i64 x),.d (.int .i64 y)] [] (.d (.bool (ltI x y))) []:=by
 have hn : ∀ z:Int,Fn Tryz.prog T zeO [.d (.int .i64 z)] [] (.d (.bool false)) []:=fun z=>by
  refine zj zy zho (by show 1≤6;decide) ?_
  (repeat' ((conv=>whnf);first|refine vT ?_|refine vZ ?_));all_goals try conv=>whnf
  simp
 refine zj zy zof (by show 2≤17;decide) ?_
 (repeat' ((conv=>whnf);first|refine vA ?_|refine vH ?_|refine vT ?_|refine vZ ?_|refine yD (hn _) (by (repeat refine ⟨⟨rfl,rfl⟩,?_⟩);rfl) rfl ?_));all_goals try conv=>whnf
 rfl
theorem zud (d:Array (Int)) (a b:Nat) (hb:b≤d.size) (hs:d.size≤1073741824) (ha:a≤b) :
  Fn Tryz.prog T zaM [.own 0,.d (.int .i64 (a:Int)),.d (.int .i64 (b:Int))] [zbD d] (.tup []) [some (zbD (Sort.insertionSort ltI d a b))]:=by
 refine zaq zy zeB (by show 3≤49;decide) _ (fun e env mem n h=>h) ?_
 (repeat' ((conv=>whnf);first|refine vT ?_|(refine vO ?_ ?_;·omega)|fail));all_goals try conv=>whnf
 refine zu (fun ((ii,xs):Int×List D)=>[(0,.own 0),(1,.d (.int .i64 ((a:Int)))),(2,.d (.int .i64 ((b:Int)))),(6,.d (.int .i64 (ii))),(zc,.own 0)]) (fun ((ii,xs):Int×List D)=>[(0,some (.row 1 xs))]) 1 (fun ((ii,xs):Int×List D) => ∃ (i:Nat) (e:Array (Int)),ii=i∧xs=e.toList.map (D.int .i64)∧a < i∧i≤b+1∧e.size=d.size∧Sort.insOuter ltI a b i e=Sort.insertionSort ltI d a b) (fun ((ii,xs):Int×List D)=>(b - ii).toNat) (((a:Int)+1,d.toList.map (D.int .i64))) [(0,0)] [] (⟨a+1,d,by omega,rfl,by omega,by omega,rfl,rfl⟩) (by (refine ⟨rfl,rfl,rfl,?_,?_⟩;repeat' first|exact trivial|exact rfl|refine And.intro ?_ ?_|refine ⟨_,rfl,?_⟩|decide)) ?_
 rintro ⟨_,_⟩ ⟨i,e,rfl,rfl,hi,hi2,he,hI⟩
 (repeat' ((conv=>whnf);first|refine vA ?_|(refine vF ?_ ?_<;>intro hc<;>try simp only [vL] at hc)|refine vT ?_));all_goals try conv=>whnf
 ·refine zu (fun ((jj,xs):Int×List D)=>[(0,.own 0),(1,.d (.int .i64 ((a:Int)))),(2,.d (.int .i64 ((b:Int)))),(6,.d (.int .i64 ((i:Int)))),(7,.d (.int .i64 (jj))),(zc,.own 0)]) (fun ((jj,xs):Int×List D)=>[(0,some (.row 1 xs))]) 1 (fun ((jj,xs):Int×List D) => ∃ (j:Nat) (g:Array (Int)),jj=j∧xs=g.toList.map (D.int .i64)∧j≤i∧g.size=d.size∧Sort.insInner ltI a j g=Sort.insInner ltI a i e) (fun ((jj,xs):Int×List D)=>jj.toNat) (((i:Int),e.toList.map (D.int .i64))) [(0,0)] [] (⟨i,e,rfl,rfl,by omega,he,rfl⟩) (by (refine ⟨rfl,rfl,rfl,?_,?_⟩;repeat' first|exact trivial|exact rfl|refine And.intro ?_ ?_|refine ⟨_,rfl,?_⟩|decide)) ?_
  rintro ⟨_,_⟩ ⟨j,g,rfl,rfl,hj,hg,hJ⟩
  have hgl:g.toList.length=d.size:=by rw [Array.length_toList];exact hg
  have stop : ¬(a < j∧ltI g[j]! g[j - 1]! = true)→Sort.insOuter ltI a b (i+1) g=Sort.insertionSort ltI d a b:=fun h=>by
   rw [← hI,Sort.insOuter.eq_def ltI a b i,if_pos (by omega),← hJ,zjZ h]
  (repeat' ((conv=>whnf);first|refine vA ?_|(refine vF ?_ ?_<;>intro hc<;>try simp only [vL] at hc)|refine vT ?_|refine vN ‹_› ?_|(refine vQ ?_ fun x hx=>?_;·omega)|((first|refine vO ?_ ?_|refine vP ?_ ?_);·first|omega|(simp only [vM] at *;omega))|(refine vU ?_ ?_;·kernel_rfl)|refine yD (zsD _ _) ⟨⟨rfl,rfl⟩,⟨rfl,rfl⟩,rfl⟩ rfl ?_));all_goals try conv=>whnf
  ·have e1:((j:Int) - 1).toNat=j - 1:=by omega
   have hx1:g.toList[j]? = some _:=‹g.toList[(j:Int).toNat]? = some _›
   have hx2:g.toList[j - 1]? = some x:=by rw [← e1];exact hx
   refine ⟨(_,_),[(0,0)],[],?_,?_,by (refine ⟨rfl,rfl,rfl,?_,?_⟩;repeat' first|exact trivial|exact rfl|refine And.intro ?_ ?_|refine ⟨_,rfl,?_⟩|decide)⟩
   ·refine ⟨j - 1,Sort.swp g j (j - 1),by omega,?_,by omega,by rw [zsk,hg],?_⟩
    ·rw [e1];exact ztF hx1 hx2
    ·exact (zjY (d:=g) (j:=j) (by omega) (by rw [(zaZ hx1).1,(zaZ hx2).1];exact decide_eq_true hc)).symm.trans hJ
   ·((simp only [vM] at *;omega))
  ·have e1:((j:Int) - 1).toNat=j - 1:=by omega
   have hx1:g.toList[j]? = some _:=‹g.toList[(j:Int).toNat]? = some _›
   have hx2:g.toList[j - 1]? = some x:=by rw [← e1];exact hx
   refine ⟨(_,_),[(0,0)],[],?_,?_,by (refine ⟨rfl,rfl,rfl,?_,?_⟩;repeat' first|exact trivial|exact rfl|refine And.intro ?_ ?_|refine ⟨_,rfl,?_⟩|decide)⟩
   ·exact ⟨i+1,g,by omega,rfl,by omega,by omega,hg,stop fun h=>by
     rw [(zaZ hx1).1,(zaZ hx2).1] at h
     have:=of_decide_eq_true h.2;omega⟩
   ·((simp only [vM] at *;omega))
  ·refine ⟨(_,_),[(0,0)],[],?_,?_,by (refine ⟨rfl,rfl,rfl,?_,?_⟩;repeat' first|exact trivial|exact rfl|refine And.intro ?_ ?_|refine ⟨_,rfl,?_⟩|decide)⟩
   ·exact ⟨i+1,g,by omega,rfl,by omega,by omega,hg,stop fun h=>by omega⟩
   ·((simp only [vM] at *;omega))
 ·have e0:Sort.insertionSort ltI d a b=e:=by
   rw [← hI,Sort.insOuter,if_neg (by omega)]
  rw [e0]
  refine ⟨trivial,_,[(0,0)],[],rfl,.inl (by (repeat' first|exact rfl|refine ⟨_,rfl,?_⟩)),⟨by rfl,by rfl,by rfl,trivial,by (repeat' first|exact trivial|exact rfl|refine And.intro ?_ ?_|refine ⟨_,rfl,?_⟩|exact of_decide_eq_true rfl)⟩,by (repeat' first|exact trivial|exact rfl|refine And.intro ?_ ?_)⟩
theorem zsI (d:Array Int) {a b:Nat} {ai bi:Int} (ea:ai=a) (eb:bi=b) (hb:b≤d.size) (hs:d.size≤1073741824) (ha:a≤b) :
  Fn Tryz.prog T zaM [.own 0,.d (.int .i64 ai),.d (.int .i64 bi)] [zbD d] (.tup []) [some (zbD (Sort.insertionSort ltI d a b))]:=by
 subst ea;subst eb;exact zud d a b hb hs ha
theorem zug (d:Array Int) {b l:Nat} {bi li:Int} (eb:bi=b) (el:li=l) (h12:b≤12) (hb:b≤d.size) (hs:d.size≤536870912) :
  Fn Tryz.prog T zc0 [.own 0,.d (.int .i64 0),.d (.int .i64 bi),.d (.int .i64 li)] [zbD d] (.tup []) [some (zbD (Sort.pdq ltI d 0 b l true true))]:=by
 subst eb;subst el
 have hR:Sort.pdq ltI d 0 b l true true=Sort.insertionSort ltI d 0 b:=by rw [Sort.pdq,if_pos (by omega)]
 rw [hR]
 refine zaq zy zfO (by show 4≤134;decide) _ (fun e env mem n h=>h) ?_
 (repeat' ((conv=>whnf);refine vT ?_));all_goals try conv=>whnf
 refine zu (fun (u:Unit)=>[(0,.own 0),(1,.d (.int .i64 (0))),(2,.d (.int .i64 ((b:Int)))),(3,.d (.int .i64 ((l:Int)))),(8,.d (.bool (true))),(9,.d (.bool (true))),(zc,.own 0)]) (fun (u:Unit)=>[(0,some (zbD d))]) 1 (fun (u:Unit)=>True) (fun (u:Unit)=>0) (()) [(0,0)] [] (trivial) (by (refine ⟨rfl,rfl,rfl,?_,?_⟩;repeat' first|exact trivial|exact rfl|exact .inr (.inl ⟨rfl,rfl⟩)|refine And.intro ?_ ?_|refine ⟨_,rfl,?_⟩|decide)) ?_
 rintro u -
 (repeat' ((conv=>whnf);first|refine zg9.but 35 rfl ?_|(refine vF ?_ ?_<;>intro hc<;>try simp only [vL] at hc)|refine vT ?_|(refine vO ?_ ?_;·omega)|fail));all_goals try conv=>whnf
 ·refine zan.objs [0] (zsI d (a:=0) (b:=b) rfl rfl (by omega) (by omega) (by omega)) (by (repeat' first|exact rfl|refine And.intro ?_ ?_|refine ⟨_,rfl,?_⟩)) (by (repeat' first|exact rfl|refine And.intro ?_ ?_)) (by rfl) (by rfl) (by simp) ?_
  (repeat' ((conv=>whnf);refine vT ?_));all_goals try conv=>whnf
  refine ⟨trivial,_,[(0,0)],[],rfl,.inl (by (repeat' first|exact rfl|refine ⟨_,rfl,?_⟩)),⟨by rfl,by rfl,by rfl,trivial,by (repeat' first|exact trivial|exact rfl|refine And.intro ?_ ?_|refine ⟨_,rfl,?_⟩|exact of_decide_eq_true rfl)⟩,by (repeat' first|exact trivial|exact rfl|refine And.intro ?_ ?_)⟩
 all_goals (exfalso;omega)
set_option maxHeartbeats 1000000 in
theorem zmh (d:Array Int) (hs:d.size≤12):Fn Tryz.prog T zes [.own 0] [zbD d] (.tup []) [some (zbD (Sort.sort ltI d))]:=by
 have hn:((BitVec.ofInt 64 (d.size:Int)).toNat)=d.size:=by simp;omega
 refine zaq zy zhJ (by show 1≤11;decide) _ (fun e env mem n h=>h) ?_
 (repeat' ((conv=>whnf);first|refine vJ fun hg=>?_|refine vT ?_|refine yD (zrk _) ⟨⟨rfl,rfl⟩,rfl⟩ rfl ?_));all_goals try conv=>whnf
 refine zan.objs [0] (zug d (b:=d.size) (l:=Sort.bitsLen d.size) (bi:=((d.toList.map (D.int .i64)).length:Int)) (li:=((Sort.bitsLen (BitVec.ofInt 64 ((d.toList.map (D.int .i64)).length:Int)).toNat:Nat):Int)) (by simp) (by rw [List.length_map,Array.length_toList,hn]) hs (Nat.le_refl _) (by omega)) (by (repeat' first|exact rfl|refine And.intro ?_ ?_|refine ⟨_,rfl,?_⟩)) (by (repeat' first|exact rfl|refine And.intro ?_ ?_)) (by rfl) (by rfl) (by simp) ?_
 (repeat' ((conv=>whnf);refine vT ?_));all_goals try conv=>whnf
 refine ⟨trivial,_,[(0,0)],[],rfl,.inl (by (repeat' first|exact rfl|refine ⟨_,rfl,?_⟩)),⟨by rfl,by rfl,by rfl,trivial,by (repeat' first|exact trivial|exact rfl|refine And.intro ?_ ?_|refine ⟨_,rfl,?_⟩|exact of_decide_eq_true rfl)⟩,by (repeat' first|exact trivial|exact rfl|refine And.intro ?_ ?_)⟩
set_option maxHeartbeats 1000000 in
theorem zkG (d:Array Int) (hs:d.size≤536870912) (hd : ¬Steps d):Fn Tryz.prog T zaW [.own 0] [zbD d] (.own 1) [none,some (.row 1 ((ddA d d.size).map (D.int .i64)))]:=by
 generalize hR:(ddA d d.size).map (D.int .i64)=R
 have hln:d.toList.length=d.size:=Array.length_toList
 refine zaq zy zdx (by show 1≤61;decide) _ (fun e env mem n h=>h) ?_
 (repeat' ((conv=>whnf);first|refine vA ?_|(refine vF ?_ ?_<;>intro hc<;>try simp only [vL] at hc)|refine vJ fun hg=>?_|refine vT ?_));all_goals try conv=>whnf
 ·exact absurd (fun j hj0 hj1=>by omega) hd
 refine zu (fun (i:Int)=>[(0,.own 0),(3,.d (.int .i64 (i))),(zc,.own 0)]) (fun (i:Int)=>[(0,some (zbD d))]) 1 (fun (i:Int) => ∃ k:Nat,i=k∧0 < k∧k≤d.size ∧ ∀ j,0 < j→j < k→d[j]! ≠ d[j - 1]!) (fun (i:Int)=>(d.size - i).toNat) (1) [(0,0)] [] (⟨1,rfl,by omega,by omega,fun j _ _=>by omega⟩) (by (refine ⟨rfl,rfl,rfl,?_,?_⟩;repeat' first|exact trivial|exact rfl|refine And.intro ?_ ?_|refine ⟨_,rfl,?_⟩|decide)) ?_
 rintro _ ⟨k,rfl,hk0,hk1,hk⟩
 (repeat' ((conv=>whnf);first|refine vA ?_|(refine vF ?_ ?_<;>intro hc<;>try simp only [vL] at hc)|refine vJ fun hg=>?_|refine vT ?_|(refine vQ ?_ fun x hx=>?_;·omega)|((first|refine vO ?_ ?_|refine vP ?_ ?_);·first|omega|(simp only [vM] at *;omega))|(refine vU ?_ ?_;·kernel_rfl)|fail));all_goals try conv=>whnf
 ·have g1:=zaZ (zge k ‹d.toList[(k:Int).toNat]? = some _› rfl)
  have g2:=zaZ (zge (k - 1) ‹d.toList[((k:Int) - 1).toNat]? = some _› (by omega))
  have hkk:d[k]! = d[k - 1]! := g1.1.trans (‹_=_›.trans g2.1.symm)
  refine zu (fun ((w,q,xs):Int×Int×List D)=>[(0,.own 0),(3,.d (.int .i64 (w))),(4,.view 0 k ((d.toList.map (D.int .i64)).length - k)),(5,.d (.int .i64 (q))),(zc,.own 0)]) (fun ((w,q,xs):Int×Int×List D)=>[(0,some (.row 1 xs))]) 1 (fun ((w,q,xs):Int×Int×List D) => ∃ (a b:Nat) (e:Array Int),w=a∧q=b∧xs=e.toList.map (D.int .i64)∧0 < b∧k+b≤d.size∧a < k+b∧e.size=d.size∧e.toList.take a=ddA d (k+b) ∧ ∀ j,k+b - 1≤j→j < d.size→e[j]! = d[j]!) (fun ((w,q,xs):Int×Int×List D)=>(d.size - k - q).toNat) (((k:Int),(1:Int),d.toList.map (D.int .i64))) [(0,0)] [] (⟨k,1,d,rfl,rfl,rfl,by omega,by omega,by omega,rfl,zq1 hk0 g1.2 hk hkk,fun _ _ _=>rfl⟩) (by (refine ⟨rfl,rfl,rfl,?_,?_⟩;repeat' first|exact trivial|exact rfl|refine And.intro ?_ ?_|refine ⟨_,rfl,?_⟩|decide)) ?_
  rintro ⟨_,_,_⟩ ⟨a,b,e,rfl,rfl,rfl,hb0,hb1,hab,he,ha,hj⟩
  have hle:e.toList.length=e.size:=Array.length_toList
  (repeat' ((conv=>whnf);first|refine vA ?_|((first|refine vD ?_ ?_|refine vF ?_ ?_)<;>intro hc<;>try simp only [vL] at hc)|refine vT ?_|refine vN ‹_› ?_|(refine vQ ?_ fun x hx=>?_;·omega)|((first|refine vO ?_ ?_|refine vP ?_ ?_);·first|omega|(simp only [vM] at *;omega))|(refine vU ?_ ?_;·kernel_rfl)|fail));all_goals try conv=>whnf
  ·have h1:=zaZ ‹e.toList[k+((b:Nat):Int).toNat]? = some _›
   have h2:=zaZ (zge (i:=((k+b - 1:Nat):Int)) (k+b - 1) (by rw [← ‹e.toList[k+(((b:Nat):Int) - 1).toNat]? = some _›];congr 1;omega) rfl)
   simp only [Int.toNat_natCast] at h1
   have e1:=hj (k+b) (by omega) (by omega)
   have e2:=hj (k+b - 1) (by omega) (by omega)
   refine ⟨(_,_,_),[(0,0)],[],?_,?_,by (refine ⟨rfl,rfl,rfl,?_,?_⟩;repeat' first|exact trivial|exact rfl|refine And.intro ?_ ?_|refine ⟨_,rfl,?_⟩|decide)⟩
   ·exact ⟨a+1,b+1,e.setIfInBounds a e[k+b]!,by omega,by omega,by rw [h1.1];simp [List.map_set],by omega,by omega,by omega,by simp [he],
     by rw [zsh (by omega),ha,← Nat.add_assoc,zu6 (by rw [← e1,← e2,h1.1,h2.1];assumption),e1],
     fun j h0 h1=>by rw [zty (by omega)];exact hj j (by omega) h1⟩
   ·((simp only [vM] at *;omega))
  ·have h1:=zaZ ‹e.toList[k+((b:Nat):Int).toNat]? = some _›
   have h2:=zaZ (zge (i:=((k+b - 1:Nat):Int)) (k+b - 1) (by rw [← ‹e.toList[k+(((b:Nat):Int) - 1).toNat]? = some _›];congr 1;omega) rfl)
   simp only [Int.toNat_natCast] at h1
   have e1:=hj (k+b) (by omega) (by omega)
   have e2:=hj (k+b - 1) (by omega) (by omega)
   refine ⟨(_,_,_),[(0,0)],[],?_,?_,by (refine ⟨rfl,rfl,rfl,?_,?_⟩;repeat' first|exact trivial|exact rfl|refine And.intro ?_ ?_|refine ⟨_,rfl,?_⟩|decide)⟩
   ·exact ⟨a,b+1,e,rfl,by omega,rfl,by omega,by omega,by omega,he,
     by rw [ha,← Nat.add_assoc,ztc (by omega) (by rw [← e1,← e2,h1.1,h2.1];assumption)],
     fun j h0 h1=>hj j (by omega) h1⟩
   ·((simp only [vM] at *;omega))
  ·have hE:=zta (enc:=(D.int .i64)) (e:=e) (z:=(D.int .i64 0)) (a:=a) (n:=(e.toList.map (D.int .i64)).length - a) (by omega)
   rw [ha,show k+b=d.size by omega,hR] at hE
   subst hE
   refine znr.mk (by simp only [List.length_append,List.length_take,List.length_replicate,List.length_drop,List.length_map,hle];omega) ?_
   (repeat' ((conv=>whnf);refine vT ?_));all_goals try conv=>whnf
   refine ⟨trivial,_,[(1,1)],[],rfl,.inl (by (repeat' exact rfl)),⟨by rfl,by rfl,by rfl,trivial,by (repeat' first|exact trivial|exact rfl|refine And.intro ?_ ?_|refine ⟨_,rfl,?_⟩|exact of_decide_eq_true rfl)⟩,by (repeat' first|exact trivial|refine And.intro ?_ ?_)⟩
 ·refine ⟨_,[(0,0)],[],?_,?_,by (refine ⟨rfl,rfl,rfl,?_,?_⟩;repeat' first|exact trivial|exact rfl|refine And.intro ?_ ?_|refine ⟨_,rfl,?_⟩|decide)⟩
  ·exact ⟨k+1,by omega,by omega,by omega,fun j h0 h1=>by
    by_cases hjk:j=k
    ·subst hjk
     have g1:=zaZ (zge j ‹d.toList[(j:Int).toNat]? = some _› rfl)
     have g2:=zaZ (zge (j - 1) ‹d.toList[((j:Int) - 1).toNat]? = some _› (by omega))
     rw [g1.1,g2.1];assumption
    ·exact hk j h0 (by omega)⟩
  ·(omega)
 ·exact absurd (fun j h0 h1=>hk j h0 (by omega)) hd
end Go.Ab
namespace Go.Ab
open Go Go.Proofs
set_option maxRecDepth 10000
set_option maxHeartbeats 4000000
variable {T:Nat→Obj→Prop}
theorem zAg:Sort.SWO ltI:=⟨fun x=>by simp [ltI],fun x y z h1 h2=>by simp [ltI] at *;omega,fun x y z h1 h2=>by simp [ltI] at *;omega⟩
theorem zoC (l:List Int):(Sort.sort ltI l.toArray).toList=zbs l:=by
 obtain ⟨⟨h1,-,h2⟩,h3⟩:=Sort.sort_sorts ltI zAg l.toArray
 have e1:(Sort.sort ltI l.toArray).extract 0 l.toArray.size=Sort.sort ltI l.toArray:=by rw [← h1];simp
 have e2:l.toArray.extract 0 l.toArray.size=l.toArray:=by simp
 rw [e1,e2] at h2
 refine zzL ?_ h2
 rw [List.pairwise_iff_getElem]
 intro i j hi hj hij
 rw [Array.length_toList] at hi hj
 have:=h3 i j (Nat.zero_le _) hij (by rw [← h1];exact hj)
 have a1:=(zaZ (List.getElem?_eq_getElem (l:=(Sort.sort ltI l.toArray).toList) (by rw [Array.length_toList];exact hi))).1
 have a2:=(zaZ (List.getElem?_eq_getElem (l:=(Sort.sort ltI l.toArray).toList) (by rw [Array.length_toList];exact hj))).1
 rw [a1,a2] at this
 have:=of_decide_eq_false this
 omega
theorem zri (d:Array Int) (hs:d.size≤1000):Fn Tryz.prog T zaW [.own 0] [zbD d] (.own 1) [none,some (.row 1 ((ddA d d.size).map (D.int .i64)))]:=by
 by_cases hd:Steps d
 ·have hln:d.toList.length=d.size:=Array.length_toList
  have e0:ddA d d.size=d.toList:=by rw [zlv (Nat.le_refl _) hd,List.take_of_length_le (by omega)]
  rw [e0]
  refine zaq zy zdx (by show 1≤61;decide) _ (fun e env mem n h=>h) ?_
  (repeat' ((conv=>whnf);first|refine vA ?_|(refine vF ?_ ?_<;>intro hc<;>try simp only [vL] at hc)|refine vJ fun hg=>?_|refine vT ?_));all_goals try conv=>whnf
  ·refine ⟨trivial,_,[(1,0)],[],rfl,.inl (by (repeat' exact rfl)),⟨by rfl,by rfl,by rfl,trivial,by (repeat' first|exact trivial|exact rfl|refine And.intro ?_ ?_|refine ⟨_,rfl,?_⟩|exact of_decide_eq_true rfl)⟩,by (repeat' first|exact trivial|refine And.intro ?_ ?_)⟩
  refine zu (fun (i:Int)=>[(0,.own 0),(3,.d (.int .i64 (i))),(zc,.own 0)]) (fun (i:Int)=>[(0,some (zbD d))]) 1 (fun (i:Int) => ∃ k:Nat,i=k∧0 < k∧k≤d.size) (fun (i:Int)=>(d.size - i).toNat) (1) [(0,0)] [] (⟨1,rfl,by omega,by omega⟩) (by (refine ⟨rfl,rfl,rfl,?_,?_⟩;repeat' first|exact trivial|exact rfl|refine And.intro ?_ ?_|refine ⟨_,rfl,?_⟩|decide)) ?_
  rintro _ ⟨k,rfl,hk0,hk1⟩
  (repeat' ((conv=>whnf);first|refine vA ?_|(refine vF ?_ ?_<;>intro hc<;>try simp only [vL] at hc)|refine vJ fun hg=>?_|refine vT ?_|(refine vQ ?_ fun x hx=>?_;·omega)|((first|refine vO ?_ ?_|refine vP ?_ ?_);·first|omega|(simp only [vM] at *;omega))|(refine vU ?_ ?_;·kernel_rfl)|fail));all_goals try conv=>whnf
  ·have g1:=zaZ (zge k ‹d.toList[(k:Int).toNat]? = some _› rfl)
   have g2:=zaZ (zge (k - 1) ‹d.toList[((k:Int) - 1).toNat]? = some _› (by omega))
   exact absurd (g1.1.trans (‹_=_›.trans g2.1.symm)) (hd k hk0 g1.2)
  ·refine ⟨_,[(0,0)],[],?_,?_,by (refine ⟨rfl,rfl,rfl,?_,?_⟩;repeat' first|exact trivial|exact rfl|refine And.intro ?_ ?_|refine ⟨_,rfl,?_⟩|decide)⟩
   ·exact ⟨k+1,by omega,by omega,by omega⟩
   ·(omega)
  ·refine ⟨trivial,_,[(1,0)],[],rfl,.inl (by (repeat' exact rfl)),⟨by rfl,by rfl,by rfl,trivial,by (repeat' first|exact trivial|exact rfl|refine And.intro ?_ ?_|refine ⟨_,rfl,?_⟩|exact of_decide_eq_true rfl)⟩,by (repeat' first|exact trivial|refine And.intro ?_ ?_)⟩
 ·exact zkG d (by omega) hd
theorem zu7 (l:List Int):ddA (zbs l).toArray (zbs l).toArray.size=zeX l:=by
 have hs:=zep l
 have hg : ∀ i,i < (zbs l).length→(zbs l)[i]? = some (zbs l).toArray[i]! := fun i hi=>by
  have:=zbI (d:=(zbs l).toArray) (i:=i) (by simpa using hi)
  simpa using this
 have hsz:(zbs l).toArray.size=(zbs l).length:=by simp
 have h1:(ddA (zbs l).toArray (zbs l).toArray.size).Pairwise fun x y=>ltI x y=true:=zjk (lt:=ltI) (fun i j hij hj=>by
   rw [hsz] at hj
   have a1:=hg i (by omega);have a2:=hg j hj
   obtain ⟨p1,q1⟩:=List.getElem?_eq_some_iff.1 a1
   obtain ⟨p2,q2⟩:=List.getElem?_eq_some_iff.1 a2
   have:=List.pairwise_iff_getElem.1 hs i j p1 p2 hij
   rw [q1,q2] at this
   unfold ltI
   rw [decide_eq_false_iff_not];omega) (fun x y h1 h2=>by simp [ltI] at h1 h2;omega) (Nat.le_refl _)
 have h1':(ddA (zbs l).toArray (zbs l).toArray.size).Pairwise (· < ·):=h1.imp fun h=>by simpa [ltI] using h
 have h2:(zeX l).Nodup:=(zb7 _).nodup_iff.2 (zcy l)
 refine zdB (h1'.imp fun h=>Int.le_of_lt h) (zep _) (zfy (h1'.imp fun h e=>by subst e;omega) h2 fun x=>?_)
 rw [ze3,zjA]
 rw [← (zb7 l).mem_iff]
 constructor
 ·rintro ⟨i,hi,rfl⟩;rw [hsz] at hi;exact List.mem_of_getElem? (hg i hi)
 ·intro hx
  obtain ⟨i,hi⟩:=List.getElem?_of_mem hx
  have hl:=(List.getElem?_eq_some_iff.1 hi).1
  refine ⟨i,by rw [hsz];exact hl,?_⟩
  have:=hg i hl;rw [hi] at this;exact (Option.some.inj this).symm
theorem zsH (hT:zbP T) (s:BitVec 64):Fn Tryz.prog T zgj [.d (.u64 s)] [] (.d (dN (zn s))) []:=by
 refine zj zy zkS (by show 1≤16;decide) ?_
 (repeat' ((conv=>whnf);first|refine vA ?_|refine vT ?_));all_goals try conv=>whnf
 refine zu (fun ((r,zs):BitVec 64×List D)=>[(0,.d (.u64 (r))),(3,.own 0)]) (fun ((r,zs):BitVec 64×List D)=>[(0,some (.row 1 zs))]) 1 (fun ((r,zs):BitVec 64×List D) => ∃ l:List Nat,zs=l.map (fun (x:Nat)=>D.int .i64 (x:Int))∧zn s=l++zn r) (fun ((r,zs):BitVec 64×List D)=>(zn r).length) ((s,[])) []   [0] (⟨[],rfl,rfl⟩) (by (refine ⟨rfl,rfl,rfl,?_,?_⟩;repeat' first|exact trivial|exact rfl|exact ⟨_,rfl⟩|refine And.intro ?_ ?_|decide)) ?_
 rintro ⟨r,zs⟩ ⟨l,rfl,hI⟩
 by_cases hr:r=0#64
 ·subst hr
  (repeat' ((conv=>whnf);first|refine vA ?_|refine vH ?_|refine vT ?_));all_goals try conv=>whnf
  rw [hI,zeF,List.append_nil]
  show some (D.arr 1 _)=some (D.arr 1 _)
  rw [List.map_map];rfl
 ·have hb:=zf4 r hr
  have hl:=congrArg List.length hI
  have hlen:=znz s
  rw [List.length_append] at hl
  (repeat' ((conv=>whnf);first|refine vA ?_|(refine vD ?_ ?_<;>intro hc)|refine vT ?_|(refine vP ?_ ?_;·(simp only [vM] at *;omega))|refine yD (hT r) (by (repeat refine ⟨⟨rfl,rfl⟩,?_⟩);rfl) rfl ?_));all_goals try conv=>whnf
  ·refine ⟨(r&&&(r - 1#64),_),[(0,2)],[],?_,?_,by (refine ⟨rfl,rfl,rfl,?_,?_⟩;repeat' first|exact trivial|exact rfl|refine And.intro ?_ ?_|refine ⟨_,rfl,?_⟩|decide)⟩
   ·exact ⟨l++[Lib.ctz 64 r.toNat],by simp,by rw [hI,hb];simp⟩
   ·show (zn (r&&&(r - 1#64))).length < (zn r).length
    rw [hb];simp
  ·exact absurd ‹r=0› hr
def zcC (q:Nat→Nat) (s:BitVec 64):List Int:=(zn s).map fun v=>(q v:Int)
theorem zs3 {n:Nat} {s:BitVec 64} (hs : ∀ v,s.getLsbD v=true→v < n):(zn s).length≤n:=zs8 hs
theorem zvl (hT:zbP T) (q:Nat→Nat) {n:Nat} (hn:n≤12) {s:BitVec 64} (hs : ∀ v,s.getLsbD v=true→v < n) :
  Fn Tryz.prog T zey [.d (dI (ptL n q)),.d (.u64 s)] [] (.own 0) [some (.row 1 ((zbs (zcC q s)).map (D.int .i64)))]:=by
 have hbl:=zs3 hs
 have hvl:(zcC q s).length=(zn s).length:=by simp [zcC]
 have c1:=zmh (T:=T) (zcC q s).toArray (by simp [hvl];omega)
 rw [show zbD (Sort.sort ltI (zcC q s).toArray) = .row 1 ((zbs (zcC q s)).map (D.int .i64)) by rw [zbD,zoC]] at c1
 have hln:(ptL n q).length=n:=zbq
 refine zaq zy zlY (by show 2≤26;decide) _ (fun e env mem n h=>h) ?_
 (repeat' ((conv=>whnf);first|refine vA ?_|refine vJ fun hg=>?_|refine vT ?_|refine yN (zsH hT s) ⟨⟨rfl,rfl⟩,rfl⟩ ?_));all_goals try conv=>whnf
 refine zu (fun ((k,zs):Nat×List D)=>[(0,.d (dI (ptL n q))),(5,.own 0),(9,.d (dN (zn s))),(10,.d (.int .i64 ((zfQ (zn s):Int)))),(11,.d (.int .i64 ((k:Int))))]) (fun ((k,zs):Nat×List D)=>[(0,some (.row 1 zs))]) 1 (fun ((k,zs):Nat×List D)=>k≤(zn s).length∧zs=((zcC q s).take k).map (D.int .i64)) (fun ((k,zs):Nat×List D)=>(zn s).length - k) ((0,[])) []   [0] (⟨by omega,by simp⟩) (by (refine ⟨rfl,rfl,rfl,?_,?_⟩;repeat' first|exact trivial|exact rfl|exact ⟨_,rfl⟩|refine And.intro ?_ ?_|decide)) ?_
 rintro ⟨k,zs⟩ ⟨hk,hz⟩
 have hzl:zs.length≤12:=by rw [hz];simp;omega
 have hlD:=zo8 (zn s)
 by_cases hkl:k < (zn s).length
 ·have e1:=zlE hkl
  have hw:=hs _ (zbR.1 (zac hkl))
  have e2:=za0 (q:=q) hw
  (repeat' ((conv=>whnf);first|refine vA ?_|(refine vF ?_ ?_<;>intro hc<;>try simp only [vL] at hc)|refine vT ?_|refine vN ‹_› ?_|((first|refine vO ?_ ?_|refine vP ?_ ?_);·first|omega|(simp only [vM] at *;omega))|fail));all_goals try conv=>whnf
  ·refine ⟨(k+1,_),[(0,2)],[],?_,?_,by (refine ⟨rfl,rfl,rfl,?_,?_⟩;repeat' first|exact trivial|exact rfl|refine And.intro ?_ ?_|refine ⟨_,rfl,?_⟩|decide)⟩
   ·refine ⟨by omega,?_⟩
    have e3:(zcC q s)[k]? = some ((q ((zn s).getD k 0):Nat):Int):=by
     rw [zcC,List.getElem?_map,ze7 (d:=0) hkl];rfl
    rw [List.take_add_one,e3,hz];simp
   ·((simp only [vM] at *;omega))
  ·exfalso;omega
 ·(repeat' ((conv=>whnf);first|refine vA ?_|(refine vF ?_ ?_<;>intro hc<;>try simp only [vL] at hc)|refine vT ?_|(refine vQ ?_ fun x hx=>?_;·omega)|((first|refine vO ?_ ?_|refine vS ?_ fun x hx=>?_|refine vP ?_ ?_);·omega)|fail));all_goals try conv=>whnf
  ·exfalso;omega
  ·have e0:zs=(zcC q s).map (D.int .i64):=by rw [hz,List.take_of_length_le (by omega)]
   clear hz
   subst e0
   refine zan.objs [0] (c1) (by (repeat' first|exact rfl|refine And.intro ?_ ?_|refine ⟨_,rfl,?_⟩)) (by (repeat' first|exact rfl|refine And.intro ?_ ?_)) (by rfl) (by rfl) (by simp) ?_
   (repeat' ((conv=>whnf);refine vT ?_));all_goals try conv=>whnf
   refine ⟨trivial,_,[(0,0)],[],rfl,.inl (by (repeat' exact rfl)),⟨by rfl,by rfl,by rfl,trivial,by (repeat' first|exact trivial|exact rfl|refine And.intro ?_ ?_|refine ⟨_,rfl,?_⟩|exact of_decide_eq_true rfl)⟩,by (repeat' exact trivial)⟩
theorem zxO {n:Nat} {q:Nat→Nat} {s:BitVec 64} (hn:n≤64) (hs : ∀ v,s.getLsbD v=true→v < n) {r:Nat→Nat→Bool} {w:Nat} (hr : ∀ v,v < n→r w v=s.getLsbD v):zc5 n r q w=zcC q s:=by
 unfold zc5 zcC zn
 rw [zfp (n:=n) hs 64 hn]
 congr 1
 exact List.filter_congr fun v hv=>hr v (List.mem_range.1 hv)
end Go.Ab
namespace Go.Ab
open Go Go.Proofs
set_option maxRecDepth 10000
set_option maxHeartbeats 4000000
variable {T:Nat→Obj→Prop}
abbrev dTs (l:List Tup):D := .arr 1 (l.map dII)
theorem zxE {n:Nat} (t:Nat→Tup):(((List.range n).map t).map (rkN ((List.range n).map t))).map (fun (x:Nat)=>(x:Int))=ptL n fun w=>rkN ((List.range n).map t) (t w):=by
 unfold ptL;simp [Function.comp_def]
theorem zpF {n:Nat} (t:Nat→Tup) (h1:1≤n) (h12:n≤12) (hs : ∀ w,w < n→Sml (t w)) :
  Fn Tryz.prog T zeP [.d (dTs ((List.range n).map t))] [] (.d (.tup [dI (ptL n fun w=>rkN ((List.range n).map t) (t w)),.int .i64 (cnN ((List.range n).map t):Int)])) []:=by
 have h:=zvk (T:=T) ((List.range n).map t) (fun h=>by have:=congrArg List.length h;simp at this;omega) (by simpa using h12) (fun x hx=>by
  obtain ⟨w,hw,rfl⟩:=List.mem_map.1 hx
  exact hs w (List.mem_range.1 hw))
 rw [show dN (((List.range n).map t).map (rkN ((List.range n).map t)))=dI (ptL n fun w=>rkN ((List.range n).map t) (t w)) by rw [← zxE]] at h
 exact h
theorem zuh {n:Nat} (h1:1≤n) (h12:n≤12) (g:Nat) (y:D) (next:(Nat→Nat)→Nat→Tup) (first:Nat→Tup) (hF : ∀ q v w,v < n→w < n→next q v=next q w→q v=q w)
  (hs : ∀ q w,w < n→Sml (next q w)) (hf : ∀ w,w < n→Sml (first w)) (hx : ∀ (q:Nat→Nat) (w:Nat),w < n→Fn Tryz.prog T g [.d (dI (ptL n q)),.d (.int .i64 (w:Int)),.d y] [] (.d (dII (next q w))) []) :
  Fn Tryz.prog T zgH [.d (dTs ((List.range n).map first)),.d (.fn g [y])] []
   (.d (.tup [dI (ptL n (zbh n next (n+1) (fun w=>rkN ((List.range n).map first) (first w)) (cnN ((List.range n).map first))).1),.int .i64 ((zbh n next (n+1) (fun w=>rkN ((List.range n).map first) (first w)) (cnN ((List.range n).map first))).2:Int)])) []:=by
 have c1:=zpF (T:=T) first h1 h12 hf
 have c2:=fun q=>zpF (T:=T) (next q) h1 h12 (hs q)
 generalize hq0:(fun w=>rkN ((List.range n).map first) (first w))=q0 at c1
 have hd0:cnN ((List.range n).map first)=dcN n q0:=by
  have:=zeg (n:=n) (next:=fun _=>first) (fun _=>0)
  unfold zbw rfT zec rfT at this
  rw [hq0] at this
  exact this.symm
 rw [hd0] at c1 ⊢
 generalize hR:zbh n next (n+1) q0 (dcN n q0)=R
 refine zj zy zlX (by show 2≤45;decide) ?_
 (repeat' ((conv=>whnf);first|refine vT ?_|refine yN c1 ⟨⟨rfl,rfl⟩,rfl⟩ ?_));all_goals try conv=>whnf
 refine zaH (fun ((q,c):(Nat→Nat)×Nat)=>[(1,.d (.fn g [y])),(6,.d (dI (ptL n q))),(7,.d (.int .i64 ((c:Int))))]) (fun ((q,c):(Nat→Nat)×Nat)=>c=dcN n q∧zbh n next (n+1) q (dcN n q)=R) (fun ((q,c):(Nat→Nat)×Nat)=>n+1 - c) ((q0,dcN n q0)) (⟨rfl,hR⟩) (by (repeat' first|exact trivial|exact rfl|refine And.intro ?_ ?_)) ?_
 rintro ⟨q,c⟩ ⟨hc0,hI⟩
 have hln:(ptL n q).length=n:=zbq
 (repeat' ((conv=>whnf);first|refine vA ?_|refine vJ fun hg=>?_|refine vK fun hg=>?_|refine vT ?_|(refine vP ?_ ?_;·(simp only [vM] at *;omega))|fail));all_goals try conv=>whnf
 ·refine zu (fun ((k,zs):Nat×List D)=>[(1,.d (.fn g [y])),(6,.d (dI (ptL n q))),(7,.d (.int .i64 ((c:Int)))),(8,.own 0),(21,.d (.int .i64 (((List.replicate ((((ptL n q).map (D.int .i64)).length:Int)).toNat (D.arr 1 []))).length:Int))),(22,.d (.int .i64 ((k:Int))))]) (fun ((k,zs):Nat×List D)=>[(0,some (.row 1 zs))]) 1 (fun ((k,zs):Nat×List D)=>k≤n∧zs=(List.range n).map fun w=>if w < k then dII (next q w) else D.arr 1 []) (fun ((k,zs):Nat×List D)=>n - k) ((0,List.replicate ((((ptL n q).map (D.int .i64)).length:Int)).toNat (D.arr 1 []))) [(0,0)] [] (⟨by omega,by simp only [Nat.not_lt_zero,if_false];rw [List.length_map,hln,Int.toNat_natCast];exact zaa _ _⟩) (by (refine ⟨rfl,rfl,rfl,?_,?_⟩;repeat' first|exact trivial|exact rfl|refine And.intro ?_ ?_|refine ⟨_,rfl,?_⟩|decide)) ?_
  rintro ⟨k,zs⟩ ⟨hk,hz⟩
  by_cases hkl:k < n
  ·subst hz
   have er:(List.range n)[k]? = some k:=List.getElem?_range hkl
   (repeat' ((conv=>whnf);first|refine vA ?_|(refine vF ?_ ?_<;>intro hc<;>try simp only [vL] at hc)|refine vT ?_));all_goals try conv=>whnf
   ·refine zan.dataN (hx q k hkl) (by (repeat refine ⟨⟨rfl,rfl⟩,?_⟩);rfl) ?_
    (repeat' ((conv=>whnf);first|refine vT ?_|((first|refine vO ?_ ?_|refine vP ?_ ?_);·first|omega|(simp only [vM] at *;omega))|fail));all_goals try conv=>whnf
    refine ⟨(k+1,_),[(0,0)],[],?_,?_,by (refine ⟨rfl,rfl,rfl,?_,?_⟩;repeat' first|exact trivial|exact rfl|refine And.intro ?_ ?_|refine ⟨_,rfl,?_⟩|decide)⟩
    ·refine ⟨by omega,(zef _).trans (zL fun u hu=>?_)⟩
     show (if u=k then _ else _)=_
     by_cases e:u=k
     ·subst e;rw [if_pos rfl,if_pos (by omega)]
     ·rw [if_neg e]
      by_cases e2:u < k
      ·rw [if_pos e2,if_pos (by omega)]
      ·rw [if_neg e2,if_neg (by omega)]
    ·((simp only [vM] at *;omega))
   ·exfalso
    simp only [vM] at *;omega
  ·have hzz:zs=((List.range n).map (next q)).map dII:=by
    rw [hz,List.map_map];exact zL fun u hu=>by rw [if_pos (by omega)];rfl
   clear hz
   subst hzz
   have c3:=c2 q
   (repeat' ((conv=>whnf);first|refine vA ?_|(refine vF ?_ ?_<;>intro hc<;>try simp only [vL] at hc)|refine vT ?_|refine yN c3 (by (repeat refine ⟨⟨rfl,rfl⟩,?_⟩);rfl) ?_));all_goals try conv=>whnf
   ·exfalso;simp only [vM] at *;omega
   ·have e1:zbw n next q=dcN n q:=by have h:(cnN ((List.range n).map (next q)):Int)=(c:Int):=‹_›;unfold zbw rfT;omega
    rw [zbh,if_pos e1] at hI
    rw [← hI,hc0];rfl
   ·have e1:zbw n next q≠dcN n q:=fun e=>by
     have h : ¬(cnN ((List.range n).map (next q)):Int)=(c:Int):=‹_›
     unfold zbw rfT at e;omega
    have e2:=zqY hF q
    have e3:=zeg (n:=n) (next:=next) q
    have e4:=zu4 (n:=n) (next:=next) q
    refine ⟨(zec n next q,zbw n next q),[],[],?_,?_,by (refine ⟨rfl,rfl,rfl,?_,?_⟩;repeat' first|exact trivial|exact rfl|refine And.intro ?_ ?_)⟩
    ·refine ⟨e3.symm,?_⟩
     rw [zbh,if_neg e1,← e3] at hI
     rw [← hI]
     exact ztx hF _ _ _ (by omega) (by omega)
    ·show n+1 - zbw n next q < n+1 - c
     omega
end Go.Ab
namespace Go.Ab
open Go Go.Proofs
set_option maxRecDepth 10000
set_option maxHeartbeats 4000000
variable {T:Nat→Obj→Prop}
theorem zxQ {n:Nat} (h12:n≤12) {R:zB} (hR:R.length≤8) (q:Nat→Nat) (w:Nat):Sml (zh1 n R q w)∧Sml (zX n R q w):=by
 have hsee : ∀ r:Nat→Nat→Bool,(zc5 n r q w).length≤12:=fun r=>by
  unfold zc5
  rw [List.length_map]
  have:=List.length_filter_le (fun v=>r w v) (List.range n)
  rw [List.length_range] at this;omega
 refine ⟨⟨by simp [zh1];omega,fun x hx=>?_⟩,⟨by simp [zX];omega,fun x hx=>?_⟩⟩
 ·rcases List.mem_cons.1 hx with rfl|hx
  ·simp
  ·obtain ⟨r,-,rfl⟩:=List.mem_map.1 hx
   have:=hsee r
   rw [(zb7 _).length_eq];omega
 ·rcases List.mem_cons.1 hx with rfl|hx
  ·simp
  ·obtain ⟨r,-,rfl⟩:=List.mem_map.1 hx
   have:=hsee r
   have h2:=zbC (zcy (zc5 n r q w)) (l':=zc5 n r q w) fun y hy=>zap.1 hy
   unfold zeX
   rw [(zb7 _).length_eq];omega
theorem zr4 {m:KM} (hk0:za m=0) {r:List (BitVec 64)} (hr:r∈m.rel) (w:Nat) : ∀ v,(r.getD w 0#64).getLsbD v=true→v < m.W.toNat:=fun v hv=>(zyh hk0 hr (v:=w) (u:=v) hv).2
theorem zuf (hT:zbP T) {m:KM} (hk0:za m=0) (h12:m.W≤12) (q:Nat→Nat) (w:Nat) (hw:w < m.W.toNat) :
  Fn Tryz.prog T zca [.d (dI (ptL m.W.toNat q)),.d (.int .i64 (w:Int)),.d (bKM m)] [] (.d (dII (zX m.W.toNat (zg m) q w))) []:=by
 have hg0:=zq hk0
 have n4:=hg0.n4
 have e0:=za0 (q:=q) hw
 refine zj zy zj6 (by show 3≤34;decide) ?_
 (repeat' ((conv=>whnf);first|refine vA ?_|refine vJ fun hg=>?_|refine vT ?_|refine vN ‹_› ?_));all_goals try conv=>whnf
 refine zu (fun ((k,zs):Nat×List D)=>[(0,.d (dI (ptL m.W.toNat q))),(1,.d (.int .i64 ((w:Int)))),(6,.own 0),(16,.d (dUU m.rel)),(17,.d (.int .i64 ((m.rel.map dU).length:Int))),(18,.d (.int .i64 ((k:Int))))]) (fun ((k,zs):Nat×List D)=>[(0,some (.row 1 zs))]) 1 (fun ((k,zs):Nat×List D)=>k≤m.rel.length∧zs=dI [(q w:Int)]::(m.rel.take k).map fun r=>dI (zeX (zcC q (r.getD w 0#64)))) (fun ((k,zs):Nat×List D)=>m.rel.length - k) ((0,[dI [(q w:Int)]])) [(0,1)] [] (⟨by omega,by simp⟩) (by (refine ⟨rfl,rfl,rfl,?_,?_⟩;repeat' first|exact trivial|exact rfl|refine And.intro ?_ ?_|refine ⟨_,rfl,?_⟩|decide)) ?_
 rintro ⟨k,zs⟩ ⟨hk,hz⟩
 have hzl:zs.length≤5:=by rw [hz];simp;omega
 by_cases hkl:k < m.rel.length
 ·obtain ⟨r,hr⟩ : ∃ r,m.rel[k]? = some r:=⟨_,List.getElem?_eq_getElem hkl⟩
  have hrm:=List.mem_of_getElem? hr
  have hrl:=hg0.len r hrm
  have hx:=ze7 (l:=r) (d:=0#64) (show w < r.length by omega)
  have hvl:=zs3 (zr4 hk0 hrm w)
  have c2:=zri (T:=T) (zbs (zcC q (r.getD w 0#64))).toArray (by rw [List.size_toArray,(zb7 _).length_eq,zcC,List.length_map];omega)
  rw [zu7] at c2
  (repeat' ((conv=>whnf);first|refine vA ?_|(refine vF ?_ ?_<;>intro hc<;>try simp only [vL] at hc)|refine vT ?_|refine vN ‹_› ?_));all_goals try conv=>whnf
  ·refine zan.res (zvl hT q (n:=m.W.toNat) (by omega) (zr4 hk0 hrm w)) (by (repeat refine ⟨⟨rfl,rfl⟩,?_⟩);rfl) ?_
   (repeat' ((conv=>whnf);refine vT ?_));all_goals try conv=>whnf
   refine zan.objs [1] (c2) (by (repeat' first|exact rfl|refine And.intro ?_ ?_|refine ⟨_,rfl,?_⟩)) (by (repeat' first|exact rfl|refine And.intro ?_ ?_)) (by rfl) (by rfl) (by simp) ?_
   (repeat' ((conv=>whnf);first|refine vT ?_|((first|refine vO ?_ ?_|refine vP ?_ ?_);·first|omega|(simp only [vM] at *;omega))|fail));all_goals try conv=>whnf
   refine ⟨(k+1,_),[(0,4)],[],?_,?_,by (refine ⟨rfl,rfl,rfl,?_,?_⟩;repeat' first|exact trivial|exact rfl|refine And.intro ?_ ?_|refine ⟨_,rfl,?_⟩|decide)⟩
   ·refine ⟨by omega,?_⟩
    rw [List.take_add_one,hr,hz];simp
   ·((simp only [vM] at *;omega))
  ·exfalso;omega
 ·have hzz:zs=dI [(q w:Int)]::m.rel.map fun r=>dI (zeX (zcC q (r.getD w 0#64))):=by rw [hz,List.take_of_length_le (by omega)]
  clear hz
  (repeat' ((conv=>whnf);first|refine vA ?_|(refine vF ?_ ?_<;>intro hc<;>try simp only [vL] at hc)|refine vT ?_|(refine vQ ?_ fun x hx=>?_;·omega)|fail));all_goals try conv=>whnf
  ·exfalso;omega
  ·refine congrArg some (show D.arr 1 zs=dII (zX m.W.toNat (zg m) q w) from ?_)
   rw [hzz]
   unfold zX zg
   have a1 : ∀ r∈m.rel,zc5 m.W.toNat (fun v w=>rb r v w) q w=zcC q (r.getD w 0#64):=fun r hr=>zxO (by omega) (zr4 hk0 hr w) fun v _=>rfl
   simp only [List.map_map,List.map_cons]
   refine congrArg (fun l=>D.arr 1 (dI [(q w:Int)]::l)) ?_
   rw [List.map_map]
   exact List.map_congr_left fun r hr=>by show dI _=dI (zeX (zc5 _ (fun v w=>rb r v w) q w));rw [a1 r hr]
theorem zpE (hT:zbP T) {m:KM} (hk0:za m=0) (h12:m.W≤12) (root:Int) :
  Fn Tryz.prog T zgG [.d (dKM m),.d (.int .i64 root)] [] (.d (.tup [dI (ptL m.W.toNat (zea m root).1),.int .i64 ((zea m root).2:Int)])) []:=by
 have hg0:=zq hk0
 have w1:=hg0.w1
 have n4:=hg0.n4
 have cr:=zuh (T:=T) (n:=m.W.toNat) (by omega) (by omega) zca (bKM m) (zX m.W.toNat (zg m)) (mkT m root) (fun q v w hv hw h=>zfx q v w hv hw h) (fun q w hw=>(zxQ (by omega) (by simp [zg];omega) q w).2) (fun w hw=>⟨by simp [mkT],fun r hr=>by unfold mkT at hr;simp at hr;rcases hr with rfl|rfl<;>simp⟩) (fun q w hw=>zuf hT hk0 h12 q w hw)
 refine zj zy zlW (by show 2≤33;decide) ?_
 (repeat' ((conv=>whnf);first|refine vA ?_|refine vT ?_));all_goals try conv=>whnf
 refine zu (fun ((k,zs):Nat×List D)=>[(1,.d (.int .i64 (root))),(2,.ptr 0 0),(6,.own 1),(10,.d (.int .i64 (m.W))),(11,.d (.int .i64 ((k:Int))))]) (fun ((k,zs):Nat×List D)=>[(0,some (zao m)),(1,some (.row 1 zs))]) 2 (fun ((k,zs):Nat×List D)=>k≤m.W.toNat∧zs=((List.range k).map (mkT m root)).map dII) (fun ((k,zs):Nat×List D)=>m.W.toNat - k) ((0,[])) [(0,0)]   [1] (⟨by omega,rfl⟩) (by (refine ⟨rfl,rfl,rfl,?_,?_⟩;repeat' first|exact trivial|exact rfl|exact ⟨_,rfl⟩|refine And.intro ?_ ?_|refine ⟨_,rfl,?_⟩|decide)) ?_
 rintro ⟨k,zs⟩ ⟨hk,hz⟩
 have hzl:zs.length≤12:=by rw [hz];simp;omega
 by_cases hkl:k < m.W.toNat
 ·have cf:=zd2 (T:=T) m (k:Int)
  rw [ziw hk0 hkl] at cf
  (repeat' ((conv=>whnf);first|refine vA ?_|(refine vF ?_ ?_<;>intro hc<;>try simp only [vL] at hc)|refine vT ?_|((first|refine vO ?_ ?_|refine vP ?_ ?_);·first|omega|(simp only [vM] at *;omega))|refine yD cf ⟨⟨rfl,rfl⟩,⟨rfl,rfl⟩,rfl⟩ rfl ?_));all_goals try conv=>whnf
  ·refine ⟨(k+1,_),[(0,0),(1,6)],[],?_,?_,by (refine ⟨rfl,rfl,rfl,?_,?_⟩;repeat' first|exact trivial|exact rfl|refine And.intro ?_ ?_|refine ⟨_,rfl,?_⟩|decide)⟩
   ·refine ⟨by omega,?_⟩
    rw [hz,List.range_succ,List.map_append,List.map_append]
    refine congrArg _ ?_
    show [D.arr 1 [D.arr 1 [D.int .i64 0],D.arr 1 [D.int .i64 (zz m k)]]]=[dII (mkT m root k)]
    unfold mkT;rw [if_pos ‹_›];rfl
   ·((simp only [vM] at *;omega))
  ·refine ⟨(k+1,_),[(0,0),(1,6)],[],?_,?_,by (refine ⟨rfl,rfl,rfl,?_,?_⟩;repeat' first|exact trivial|exact rfl|refine And.intro ?_ ?_|refine ⟨_,rfl,?_⟩|decide)⟩
   ·refine ⟨by omega,?_⟩
    rw [hz,List.range_succ,List.map_append,List.map_append]
    refine congrArg _ ?_
    show [D.arr 1 [D.arr 1 [D.int .i64 1],D.arr 1 [D.int .i64 (zz m k)]]]=[dII (mkT m root k)]
    unfold mkT;rw [if_neg ‹_›];rfl
   ·((simp only [vM] at *;omega))
  ·exfalso;omega
 ·have hzz:zs=((List.range m.W.toNat).map (mkT m root)).map dII:=by rw [hz,show k=m.W.toNat by omega]
  clear hz
  subst hzz
  (repeat' ((conv=>whnf);first|refine vA ?_|(refine vF ?_ ?_<;>intro hc<;>try simp only [vL] at hc)|refine vT ?_|refine yN cr ⟨⟨rfl,rfl⟩,⟨rfl,rfl⟩,rfl⟩ ?_));all_goals try conv=>whnf
  iterate 2 (exfalso;omega)
  rfl
end Go.Ab
namespace Go.Ab
open Go Go.Proofs
set_option maxRecDepth 10000
set_option maxHeartbeats 4000000
variable {T:Nat→Obj→Prop}
theorem zpC {l:List Nat} {w:Nat} (h:w∈l):zeM (fun y=>(w:Int)==y) (l.map fun (x:Nat)=>(x:Int))=(l.idxOf w:Int):=by
 have h1:=zjs h
 refine zgo (x:=(w:Int)) (by rw [zlE h1.1,h1.2]) (by simp) fun i y hi hy=>?_
 rw [List.getElem?_map,Option.map_eq_some_iff] at hy
 obtain ⟨x,hx,rfl⟩:=hy
 have hne:x≠w:=fun e=>by
  subst e
  have h2:=List.idxOf_lt_length_of_mem h
  obtain ⟨p1,q1⟩:=List.getElem?_eq_some_iff.1 hx
  have : ∀ (l:List Nat) (i:Nat) (hi:i < l.length),l.idxOf l[i]≤i:=fun l=>by
   induction l with
   | nil=>intro i hi;simp at hi
   | cons a l ih =>
    intro i hi
    cases i with
    | zero=>simp
    | succ i =>
     rw [List.getElem_cons_succ,List.idxOf_cons]
     cases hb:a==l[i]'(by simpa using hi) with
     | true=>simp
     | false=>have:=ih i (by simpa using hi);simp;exact this
  have:=this l i p1
  rw [q1] at this;omega
 simp;omega
theorem zrh (hT:zbP T) (m:KM) (h12:za m=0→m.W≤12) (w:Int):Fn Tryz.prog T zfm [.d (dKM m),.d (.int .i64 w)] [] (.d (.tup [dKM (zfJ m w).1,dI (zfJ m w).2.1,.int .i64 (zfJ m w).2.2])) []:=by
 have cc:=zar (T:=T) m
 by_cases hk0:za m=0
 ·have h12:=h12 hk0
  have hg0:=zq hk0
  have w1:=hg0.w1
  rw [hk0] at cc
  by_cases hw:w < 0∨m.W≤w
  ·refine zj zy zdo (by show 2≤95;decide) ?_
   (repeat' ((conv=>whnf);first|refine vA ?_|refine vH ?_|(refine vF ?_ ?_<;>intro hc<;>try simp only [vL] at hc)|refine vT ?_|(refine vP ?_ ?_;·omega)|refine yD cc ⟨⟨rfl,rfl⟩,rfl⟩ rfl ?_));all_goals try conv=>whnf
   iterate 2 (rw [zfJ,if_neg (by omega),if_pos hw];rfl)
   exfalso;omega
  ·obtain ⟨w,rfl⟩ : ∃ v:Nat,w=(v:Int):=⟨w.toNat,by omega⟩
   have hwl:w < m.W.toNat:=by omega
   have hbit : ∀ v,(1#64 <<< w).getLsbD v=true→v < m.W.toNat:=fun v hv=>by have:=(zlD (by omega)).1 hv;omega
   have hl:=zrt hk0 hwl
   have hroot:=zeQ (R:=zg m) hwl
   have hlen:=ziB (n:=m.W.toNat) (R:=zg m) (w:=w)
   have hlt : ∀ x∈zD m.W.toNat (zg m) w,x < m.W.toNat:=fun x hx=>(ze6.1 hx).lt
   have hnd:=zhW m.W.toNat (zg m) w
   have hcan:zfJ m (w:Int)=if zib (zJ m (zD m.W.toNat (zg m) w))=false then (zbb,[],16) else (zJ m (zdf m w),(zdf m w).map fun (x:Nat)=>(x:Int),0):=by
    rw [zfJ,if_neg (by omega),if_neg hw,Int.toNat_natCast]
   have hcc:=zwQ hk0 hwl
   have cg:=zjW hT hk0 hbit
   have cr:=zkK hT hk0 (s:=zgy m (1#64 <<< w)) (fun e=>by
    rw [e,zeF] at hl;rw [← hl] at hroot;cases hroot) (fun v hv=>((zgZ hk0).1 hv).lt)
   rw [hl] at cr
   generalize zgy m (1#64 <<< w)=gs at cg cr
   clear hl
   generalize hL:zD m.W.toNat (zg m) w=l at hroot hlen hlt hnd hcan hcc cr
   have hll:1≤l.length:=List.length_pos_of_mem hroot
   have hp0:=znv hk0 hll (by omega)
   have hpW:(zJ m l).W.toNat=l.length:=Int.toNat_natCast _
   have hpI:(zJ m l).W=(l.length:Int):=rfl
   have c1:=zpE hT hp0 (by rw [hpI];omega) (-1)
   have ci:=zhl (T:=T) (l.map fun (x:Nat)=>(x:Int)) (w:Int)
   rw [zpC hroot] at ci
   have c2:=zpE hT hp0 (by rw [hpI];omega) (l.idxOf w:Int)
   have hn:=zzD (p:=zJ m l) (-1)
   rw [hpW] at c1 c2 hn
   refine zj zy zdo (by show 2≤95;decide) ?_
   cases hmin:zib (zJ m l) with
   | false =>
    have hne:(zea (zJ m l) (-1)).2≠l.length:=fun e=>by
     unfold zib at hmin;rw [hpW,e] at hmin;simp at hmin
    rw [hcan,hmin,if_pos rfl]
    (repeat' ((conv=>whnf);first|refine vA ?_|refine vH ?_|(refine vF ?_ ?_<;>intro hc<;>try simp only [vL] at hc)|refine vT ?_|(refine vP ?_ ?_;·omega)|(refine vU ?_ ?_;·kernel_rfl)|refine yD cc ⟨⟨rfl,rfl⟩,rfl⟩ rfl ?_|refine yN cg ⟨⟨rfl,rfl⟩,⟨rfl,rfl⟩,rfl⟩ ?_|refine yN cr ⟨⟨rfl,rfl⟩,⟨rfl,rfl⟩,rfl⟩ ?_|refine yN c1 ⟨⟨rfl,rfl⟩,⟨rfl,rfl⟩,rfl⟩ ?_));all_goals try conv=>whnf
    ·exfalso;omega
    ·rfl
    ·have h : ¬((zea (zJ m l) (-1)).2:Int) < (l.length:Int):=by rw [← hpI];omega
     exfalso;omega
   | true =>
    have he:(zea (zJ m l) (-1)).2=l.length:=by
     unfold zib at hmin;rw [hpW] at hmin;exact of_decide_eq_true hmin
    rw [hcan,hmin,if_neg (by decide)]
    obtain ⟨hq,ha,hw2⟩:=hcc hmin
    have c3:=zue (T:=T) (zJ m l) (ptL l.length (zea (zJ m l) (l.idxOf w:Int)).1)
    rw [znf,if_neg (by omega),if_pos (by rw [hpW];exact zpf hq),hpW,ha] at c3
    generalize (zea (zJ m l) (l.idxOf w:Int)).1=q at c2 c3 hq hw2
    have hln:(ptL l.length q).length=l.length:=zbq
    (repeat' ((conv=>whnf);first|refine vA ?_|refine vH ?_|(refine vF ?_ ?_<;>intro hc<;>try simp only [vL] at hc)|refine vJ fun hg=>?_|refine vT ?_|(refine vP ?_ ?_;·first|omega|(simp only [vM] at *;omega))|(refine vU ?_ ?_;·kernel_rfl)|refine yD cc ⟨⟨rfl,rfl⟩,rfl⟩ rfl ?_|refine yN cg ⟨⟨rfl,rfl⟩,⟨rfl,rfl⟩,rfl⟩ ?_|refine yN cr ⟨⟨rfl,rfl⟩,⟨rfl,rfl⟩,rfl⟩ ?_|refine yN c1 ⟨⟨rfl,rfl⟩,⟨rfl,rfl⟩,rfl⟩ ?_|refine yD ci ⟨⟨rfl,rfl⟩,⟨rfl,rfl⟩,rfl⟩ rfl ?_|refine yN c2 ⟨⟨rfl,rfl⟩,⟨rfl,rfl⟩,rfl⟩ ?_|refine yN c3 ⟨⟨rfl,rfl⟩,⟨rfl,rfl⟩,rfl⟩ ?_));all_goals try conv=>whnf
    ·exfalso;omega
    ·exfalso;rw [hpI] at *;omega
    refine zu (fun ((k,zs):Nat×List D)=>[(4,.ptr 0 0),(11,.d (dN l)),(17,.ptr 1 0),(19,.own 2),(78,.d (dI (ptL l.length q))),(79,.d (.int .i64 (((ptL l.length q).map (D.int .i64)).length:Int))),(80,.d (.int .i64 ((k:Int))))]) (fun ((k,zs):Nat×List D)=>[(0,some (.box [.d (.int .i64 0),.nils 1,.nils 1])),(1,some (zao (zJ m (zdf m w)))),(2,some (.row 1 zs))]) 3 (fun ((k,zs):Nat×List D)=>k≤l.length∧zs=(List.range l.length).map fun i=>D.int .i64 (if zb4 l.length q i < k then (l.getD (zb4 l.length q i) 0:Int) else 0)) (fun ((k,zs):Nat×List D)=>l.length - k) ((0,List.replicate ((((ptL l.length q).map (D.int .i64)).length:Int)).toNat (D.int .i64 0))) [(0,1),(1,3),(2,4)] [] (⟨by omega,by simp only [Nat.not_lt_zero,if_false];rw [List.length_map,zbq,Int.toNat_natCast];exact zaa _ _⟩) (by (refine ⟨rfl,rfl,rfl,?_,?_⟩;repeat' first|exact trivial|exact rfl|refine And.intro ?_ ?_|refine ⟨_,rfl,?_⟩|decide)) ?_
    rintro ⟨k,zs⟩ ⟨hk,hz⟩
    subst hz
    by_cases hkl:k < l.length
    ·have e1:=za0 (q:=q) hkl
     have e2:=zlE hkl
     have er:(List.range l.length)[q k]? = some (q k):=List.getElem?_range (hq.lt k hkl)
     have hqk:=hq.lt k hkl
     (repeat' ((conv=>whnf);first|refine vA ?_|(refine vF ?_ ?_<;>intro hc<;>try simp only [vL] at hc)|refine vT ?_|refine vN ‹_› ?_|((first|refine vO ?_ ?_|refine vP ?_ ?_);·first|omega|(simp only [vM] at *;omega))|fail));all_goals try conv=>whnf
     ·refine ⟨(k+1,_),[(0,0),(1,1),(2,2)],[],?_,?_,by (refine ⟨rfl,rfl,rfl,?_,?_⟩;repeat' first|exact trivial|exact rfl|refine And.intro ?_ ?_|refine ⟨_,rfl,?_⟩|decide)⟩
      ·refine ⟨by omega,(zef _).trans (zL fun u hu=>?_)⟩
       show (if u=q k then _ else _)=_
       by_cases e:u=q k
       ·subst e
        rw [if_pos rfl,zgT hq hkl,if_pos (by omega)]
       ·rw [if_neg e]
        have hne:zb4 l.length q u≠k:=fun e'=>e (by rw [← e'];exact (zdN hq hu).2.symm)
        by_cases e2:zb4 l.length q u < k
        ·rw [if_pos e2,if_pos (by omega)]
        ·rw [if_neg e2,if_neg (by omega)]
      ·((simp only [vM] at *;omega))
     all_goals (exfalso;omega)
    ·(repeat' ((conv=>whnf);first|refine vA ?_|(refine vF ?_ ?_<;>intro hc<;>try simp only [vL] at hc)|refine vT ?_|(refine vQ ?_ fun x hx=>?_;·omega)|((first|refine vO ?_ ?_|refine vP ?_ ?_);·omega)|fail));all_goals try conv=>whnf
     all_goals try (exfalso;omega)
     have e0:k=l.length:=by omega
     refine congrArg (fun x=>some (D.tup [dKM (zJ m (zdf m w)),D.arr 1 x,D.int .i64 0])) ?_
     rw [hw2,List.map_map,List.map_map]
     exact zL fun u hu=>by rw [if_pos (by rw [e0];exact (zdN hq hu).1)];rfl
 ·refine zj zy zdo (by show 2≤95;decide) ?_
  (repeat' ((conv=>whnf);first|refine vA ?_|((first|refine vD ?_ ?_|refine vF ?_ ?_)<;>intro hc<;>try simp only [vL] at hc)|refine vT ?_|(refine vP ?_ ?_;·omega)|refine yD cc ⟨⟨rfl,rfl⟩,rfl⟩ rfl ?_));all_goals try conv=>whnf
  ·rw [zfJ,if_pos hk0];rfl
  all_goals exact absurd ‹za m=0› hk0
end Go.Ab
namespace Go.Ab
open Go Go.Proofs
set_option maxRecDepth 10000
set_option maxHeartbeats 4000000
def zjt:List D→Option (List Int)
 | []=>some []
 | .int .i64 n::r=>match zjt r with
  | some l=>some (n::l)
  | none=>none
 | _=>none
theorem zmX : ∀ {ds:List D} {l:List Int},zjt ds=some l→ds=l.map (D.int .i64)
 | [],l,h=>by cases h;rfl
 | .int .i64 n::r,l,h=>by
  unfold zjt at h
  split at h
  ·rename_i l' h';cases h;rw [zmX h'];rfl
  ·cases h
def zhD:List D→Option (List (BitVec 64))
 | []=>some []
 | .u64 n::r=>match zhD r with
  | some l=>some (n::l)
  | none=>none
 | _=>none
theorem zll : ∀ {ds:List D} {l:List (BitVec 64)},zhD ds=some l→ds=l.map D.u64
 | [],l,h=>by cases h;rfl
 | .u64 n::r,l,h=>by
  unfold zhD at h
  split at h
  ·rename_i l' h';cases h;rw [zll h'];rfl
  ·cases h
def ziI:List D→Option (List (List Int))
 | []=>some []
 | .arr 1 x::r=>match zjt x with
  | some a=>match ziI r with
   | some l=>some (a::l)
   | none=>none
  | none=>none
 | _=>none
theorem zkY : ∀ {ds:List D} {l:List (List Int)},ziI ds=some l→ds=l.map dI
 | [],l,h=>by cases h;rfl
 | .arr 1 x::r,l,h=>by
  replace h:(match zjt x with
   | some a=>match ziI r with
    | some l=>some (a::l)
    | none=>none
   | none=>none)=some l:=h
  cases h1:zjt x with
  | none=>rw [h1] at h;cases h
  | some a =>
   cases h2:ziI r with
   | none=>rw [h1,h2] at h;cases h
   | some l'=>rw [h1,h2] at h;cases h;rw [zkY h2,zmX h1];rfl
def zou:List D→Option (List (List (BitVec 64)))
 | []=>some []
 | .arr 1 x::r=>match zhD x with
  | some a=>match zou r with
   | some l=>some (a::l)
   | none=>none
  | none=>none
 | _=>none
theorem zr5 : ∀ {ds:List D} {l:List (List (BitVec 64))},zou ds=some l→ds=l.map dU
 | [],l,h=>by cases h;rfl
 | .arr 1 x::r,l,h=>by
  replace h:(match zhD x with
   | some a=>match zou r with
    | some l=>some (a::l)
    | none=>none
   | none=>none)=some l:=h
  cases h1:zhD x with
  | none=>rw [h1] at h;cases h
  | some a =>
   cases h2:zou r with
   | none=>rw [h1,h2] at h;cases h
   | some l'=>rw [h1,h2] at h;cases h;rw [zr5 h2,zll h1];rfl
def zpc:D→Option KM
 | .agg [.int .i64 W,.arr 1 v,.arr 1 r]=>match zhD v,zou r with
  | some v,some r=>some ⟨W,v,r⟩
  | _,_=>none
 | _=>none
theorem zlB {d:D} {m:KM} (h:zpc d=some m):d=dKM m:=by
 unfold zpc at h
 split at h
 ·split at h
  ·rename_i h1 h2;cases h;rw [zll h1,zr5 h2]
  ·cases h
 ·cases h
def zuE (t:Tup):Bool:=Nat.ble t.length 1000&&t.all fun r=>Nat.ble r.length 1000
theorem zy8 {t:Tup} (h:zuE t=true):Sml t:=by
 unfold zuE at h
 rw [Bool.and_eq_true,Nat.ble_eq] at h
 exact ⟨h.1,fun r hr=>by have:=List.all_eq_true.1 h.2 r hr;rwa [Nat.ble_eq] at this⟩
variable {T:Nat→Obj→Prop}
end Go.Ab
namespace Go.Ab
open Go Go.Proofs
set_option maxRecDepth 10000
set_option maxHeartbeats 4000000
variable {T:Nat→Obj→Prop}
def zgb (a b:List Int) (v w:Nat):Bool:=decide (at0 a v=at0 a w∧at0 b v=at0 b w)
end Go.Ab
namespace Go.Ab
open Go Go.Proofs
set_option maxRecDepth 10000
set_option maxHeartbeats 4000000
variable {T:Nat→Obj→Prop}
def pOk (p:List Int) (i:Nat):Bool:=decide (0≤at0 p i∧at0 p i≤i∧at0 p (at0 p i).toNat=at0 p i)
def zbL (p:List Int):Int:=if 64 < p.length then 8 else if (List.range p.length).all (pOk p)=true then 0 else 3
theorem ztr {p:List Int} {k:Nat} (hk:k < p.length) (h:pOk p k=false) : ¬(List.range p.length).all (pOk p)=true:=fun e=>by
 rw [List.all_eq_true] at e
 rw [e k (List.mem_range.2 hk)] at h;cases h
theorem zrU {p:List Int} (h : ∀ i,i < p.length→pOk p i=true):(List.range p.length).all (pOk p)=true:=List.all_eq_true.2 fun i hi=>h i (List.mem_range.1 hi)
theorem zsQ {p:List Int} (h:zbL p=0):p.length≤64∧zaK p.length (fun w=>(at0 p w).toNat)∧p=ptL p.length fun w=>(at0 p w).toNat:=by
 unfold zbL at h
 split at h
 ·cases h
 ·rename_i h1
  split at h
  ·rename_i h2
   have h3 : ∀ i,i < p.length→0≤at0 p i∧at0 p i≤i∧at0 p (at0 p i).toNat=at0 p i:=fun i hi=>by
    have:=List.all_eq_true.1 h2 i (List.mem_range.2 hi)
    simpa [pOk] using this
   refine ⟨by omega,⟨fun w hw=>by have:=h3 w hw;show (at0 p w).toNat≤w;omega,fun w hw=>by have:=h3 w hw;show (at0 p (at0 p w).toNat).toNat=_;rw [this.2.2]⟩,?_⟩
   refine List.ext_getElem? fun i=>?_
   by_cases hi:i < p.length
   ·rw [za0 hi,zdC hi]
    have:=h3 i hi
    congr 1;omega
   ·rw [List.getElem?_eq_none (by omega),List.getElem?_eq_none (by rw [zbq];omega)]
  ·cases h
theorem zma {n:Nat} {q:Nat→Nat} (hq:zaK n q) (hn:n≤64):zbL (ptL n q)=0:=by
 have hl:(ptL n q).length=n:=zbq
 have ha : ∀ i,i < n→at0 (ptL n q) i=((q i:Nat):Int):=fun i hi=>zcV (za0 hi)
 unfold zbL
 rw [if_neg (by omega),if_pos (zrU fun i hi=>?_)]
 rw [hl] at hi
 have h1:=hq.le i hi
 unfold pOk
 rw [decide_eq_true_eq,ha i hi,Int.toNat_natCast,ha (q i) (by omega),hq.idem i hi]
 exact ⟨by omega,by omega,rfl⟩
theorem zgQ (p:List Int):Fn Tryz.prog T zez [.d (dI p)] [] (.d (.int .i64 (zbL p))) []:=by
 refine zj zy zl1 (by show 1≤31;decide) ?_
 (repeat' ((conv=>whnf);first|refine vA ?_|(refine vF ?_ ?_<;>intro hc<;>try simp only [vL] at hc)|refine vJ fun hg=>?_|refine vT ?_|refine vX ?_));all_goals try conv=>whnf
 ·rw [zbL,if_pos (by omega)]
 ·have e0:zbL p=if (List.range p.length).all (pOk p)=true then 0 else 3:=by rw [zbL,if_neg (by omega)]
  refine zaH (fun (k:Nat)=>[(0,.d (dI p)),(8,.d (dI p)),(9,.d (.int .i64 ((p.map (D.int .i64)).length:Int))),(10,.d (.int .i64 ((k:Int))))]) (fun (k:Nat)=>k≤p.length ∧ ∀ i,i < k→pOk p i=true) (fun (k:Nat)=>p.length - k) (0) (⟨by simp,fun i hi=>by omega⟩) (by (repeat' first|exact trivial|exact rfl|refine And.intro ?_ ?_)) ?_
  rintro k ⟨hk,hI⟩
  by_cases hkl:k < p.length
  ·have e1:p[k]? = some (at0 p k):=zdC hkl
   by_cases hb:0≤at0 p k∧at0 p k≤k
   ·have e2:p[(at0 p k).toNat]? = some (at0 p (at0 p k).toNat):=zdC (by omega)
    (repeat' ((conv=>whnf);first|refine vA ?_|((first|refine vD ?_ ?_|refine vF ?_ ?_)<;>intro hc<;>try simp only [vL] at hc)|refine vT ?_|refine vN ‹_› ?_|((first|refine vO ?_ ?_|refine vR ?_ ‹_› ?_);·omega)|refine vX ?_));all_goals try conv=>whnf
    all_goals try omega
    ·rw [e0,if_neg (ztr hkl (by unfold pOk;rw [decide_eq_false_iff_not];rintro ⟨-,-,h3⟩;exact absurd h3 ‹_›))]
    ·exact ⟨k+1,[],[],⟨by (omega),fun i hi=>by
      by_cases e:i=k
      ·subst e;unfold pOk;rw [decide_eq_true_eq];exact ⟨hb.1,hb.2,by assumption⟩
      ·exact hI i (by omega)⟩,by (omega),by (refine ⟨rfl,rfl,rfl,?_,?_⟩;repeat' first|exact trivial|exact rfl|refine And.intro ?_ ?_)⟩
   ·(repeat' ((conv=>whnf);first|refine vA ?_|((first|refine vD ?_ ?_|refine vF ?_ ?_)<;>intro hc<;>try simp only [vL] at hc)|refine vT ?_|refine vN ‹_› ?_|((first|refine vO ?_ ?_|refine vS ?_ fun x hx=>?_);·omega)|refine vX ?_));all_goals try conv=>whnf
    all_goals try omega
    all_goals exact (by rw [e0,if_neg (ztr hkl (by unfold pOk;rw [decide_eq_false_iff_not];rintro ⟨h1,h2,-⟩;exact hb ⟨h1,h2⟩))])
  ·(repeat' ((conv=>whnf);first|refine vA ?_|((first|refine vD ?_ ?_|refine vF ?_ ?_)<;>intro hc<;>try simp only [vL] at hc)|refine vT ?_|(refine vQ ?_ fun x hx=>?_;·omega)|((first|refine vO ?_ ?_|refine vS ?_ fun x hx=>?_);·omega)|refine vX ?_));all_goals try conv=>whnf
   all_goals try omega
   rw [e0,if_pos (zrU fun i hi=>hI i (by omega))]
theorem zvj {n:Nat} {q:Nat→Nat} (hq:zaK n q) (hn:n≤64):Fn Tryz.prog T zez [.d (dI (ptL n q))] [] (.d (.int .i64 0)) []:=by
 have:=zgQ (T:=T) (ptL n q)
 rwa [zma hq hn] at this
abbrev pkD (x y:Int):D := .agg [.int .i64 x,.int .i64 y]
def zc1 (a b:List Int) (k:Nat) (x y:Int):Option Nat:=(List.range k).find? fun j=>decide (at0 a j=x∧at0 b j=y)
def zj8 (a b:List Int) (k:Nat) (es:List (D×D)):Prop := ∀ x y,zZ es (pkD x y)=some ((zc1 a b k x y).map fun (j:Nat)=>D.int .i64 (j:Int))
theorem zfq (k:D) (l:List (D×D)) : ∀ es:List (D×D),zZ es k=some none→zZ (es++l) k=zZ l k
 | [],_=>rfl
 | (a,v)::r,h=>by
  simp only [zZ] at h
  show zZ ((a,v)::(r++l)) k=_
  simp only [zZ]
  split at h
  ·cases h
  ·exact zfq k l r h
  ·cases h
theorem zme (k:D) (l:List (D×D)) : ∀ (es:List (D×D)) (x:D),zZ es k=some (some x)→zZ (es++l) k=some (some x)
 | [],_,h=>by cases h
 | (a,v)::r,x,h=>by
  simp only [zZ] at h
  show zZ ((a,v)::(r++l)) k=_
  simp only [zZ]
  split at h
  ·exact h
  ·exact zme k l r x h
  ·cases h
theorem zvQ (x y x' y':Int):D.eqk (pkD x y) (pkD x' y')=some (decide (x=x')&&(decide (y=y')&&true)):=rfl
theorem zkF (a b:List Int) (k:Nat) (x y:Int):zc1 a b (k+1) x y=match zc1 a b k x y with
  | some j=>some j
  | none=>if at0 a k=x∧at0 b k=y then some k else none:=by
 unfold zc1
 rw [List.range_succ,List.find?_append]
 cases h:(List.range k).find? fun j=>decide (at0 a j=x∧at0 b j=y) with
 | some j=>rfl
 | none =>
  show (none:Option Nat).or _=_
  rw [Option.none_or]
  simp only [List.find?]
  by_cases e:at0 a k=x∧at0 b k=y
  ·rw [if_pos e,decide_eq_true e]
  ·rw [if_neg e,decide_eq_false e]
theorem zsB {a b:List Int} {k j:Nat} {es:List (D×D)} (h:zj8 a b k es) (hf:zc1 a b k (at0 a k) (at0 b k)=some j):zj8 a b (k+1) es:=by
 intro x y
 rw [h x y,zkF]
 cases e:zc1 a b k x y with
 | some i=>rfl
 | none =>
  show _=some (Option.map _ (if at0 a k=x∧at0 b k=y then some k else none))
  rw [if_neg]
  rintro ⟨rfl,rfl⟩;rw [hf] at e;cases e
theorem zt7 {a b:List Int} {k:Nat} {es:List (D×D)} (h:zj8 a b k es) (hf:zc1 a b k (at0 a k) (at0 b k)=none):zj8 a b (k+1) (es++[(pkD (at0 a k) (at0 b k),.int .i64 (k:Int))]):=by
 intro x y
 rw [zkF]
 cases e:zc1 a b k x y with
 | some i=>exact zme _ _ _ _ (by rw [h x y,e];rfl)
 | none =>
  rw [zfq _ _ _ (by rw [h x y,e];rfl)]
  show _=some (Option.map _ (if at0 a k=x∧at0 b k=y then some k else none))
  simp only [zZ,zvQ]
  by_cases e1:at0 a k=x∧at0 b k=y
  ·obtain ⟨rfl,rfl⟩:=e1
   simp
  ·rw [if_neg e1]
   by_cases e2:x=at0 a k
   ·have e3 : ¬ y=at0 b k:=fun e3=>e1 ⟨e2.symm,e3.symm⟩
    simp [e2,e3]
   ·simp [e2]
theorem zpL (a b:List Int) (k:Nat):zU (zgb a b) k=(zc1 a b k (at0 a k) (at0 b k)).getD k:=rfl
theorem ztz {e:Nat→Nat→Bool} {n k j:Nat} (h:zU e k=j):(((List.range n).map fun i=>D.int .i64 (if i < k then (zU e i:Int) else 0)).set k (D.int .i64 (j:Int)))=(List.range n).map fun i=>D.int .i64 (if i < k+1 then (zU e i:Int) else 0):=by
 refine (zef _).trans (zL fun u hu=>?_)
 by_cases e1:u=k
 ·subst e1;rw [if_pos rfl,if_pos (by omega),h]
 ·rw [if_neg e1]
  by_cases e2:u < k
  ·rw [if_pos e2,if_pos (by omega)]
  ·rw [if_neg e2,if_neg (by omega)]
theorem zvf (a b:List Int) (hl:b.length=a.length) (hn:a.length≤64):Fn Tryz.prog T zgk [.d (dI a),.d (dI b)] [] (.d (dI (ptL a.length (zU (zgb a b))))) []:=by
 refine zj zy zkV (by show 2≤48;decide) ?_
 (repeat' ((conv=>whnf);first|refine vA ?_|refine vJ fun hg=>?_|refine vT ?_|(refine vP ?_ ?_;·(simp only [vM] at *;omega))|fail));all_goals try conv=>whnf
 refine zu (fun ((k,es,zs):Nat×List (D×D)×List D)=>[(0,.d (dI a)),(1,.d (dI b)),(5,.map 0),(6,.own 1),(16,.d (.int .i64 ((a.map (D.int .i64)).length:Int))),(17,.d (.int .i64 ((k:Int))))]) (fun ((k,es,zs):Nat×List (D×D)×List D)=>[(0,some (.map es)),(1,some (.row 1 zs))]) 2 (fun ((k,es,zs):Nat×List (D×D)×List D)=>k≤a.length∧zj8 a b k es∧zs=(List.range a.length).map fun i=>D.int .i64 (if i < k then (zU (zgb a b) i:Int) else 0)) (fun ((k,es,zs):Nat×List (D×D)×List D)=>a.length - k) ((0,[],List.replicate (((a.map (D.int .i64)).length:Int)).toNat (D.int .i64 0))) [(0,0),(1,1)] [] (⟨by simp,fun x y=>by simp [zZ,zc1],by simp only [Nat.not_lt_zero,if_false];rw [List.length_map,Int.toNat_natCast];exact zaa _ _⟩) (by (refine ⟨rfl,rfl,rfl,?_,?_⟩;repeat' first|exact trivial|exact rfl|refine And.intro ?_ ?_|refine ⟨_,rfl,?_⟩|decide)) ?_
 rintro ⟨k,es,zs⟩ ⟨hk,hM,rfl⟩
 by_cases hkl:k < a.length
 ·obtain ⟨x,e1⟩ : ∃ x,a[k]? = some x:=⟨_,List.getElem?_eq_getElem hkl⟩
  obtain ⟨y,e2⟩ : ∃ y,b[k]? = some y:=⟨_,List.getElem?_eq_getElem (by omega)⟩
  have f1:at0 a k=x:=zcV e1
  have f2:at0 b k=y:=zcV e2
  cases hf:zc1 a b k x y with
  | some j =>
   have hfd:zZ es (pkD x y)=some (some (.int .i64 (j:Int))):=by rw [hM x y,hf];rfl
   (repeat' ((conv=>whnf);first|refine vA ?_|refine vE ?_|refine vG ?_|(refine vF ?_ ?_<;>intro hc<;>try simp only [vL] at hc)|refine vT ?_|refine vN ‹_› ?_|((first|refine vO ?_ ?_|refine vP ?_ ?_);·first|omega|(simp only [vM] at *;omega))|(refine vU ?_ ?_;·kernel_rfl)|refine zi3.mk _ ‹_› ?_));all_goals try conv=>whnf
   ·have hlo:zU (zgb a b) k=j:=by rw [zpL,f1,f2,hf];rfl
    refine ⟨(k+1,es,_),[(0,0),(1,1)],[],?_,?_,by (refine ⟨rfl,rfl,rfl,?_,?_⟩;repeat' first|exact trivial|exact rfl|refine And.intro ?_ ?_|refine ⟨_,rfl,?_⟩|decide)⟩
    ·exact ⟨by (omega),zsB hM (by rw [f1,f2];exact hf),ztz hlo⟩
    ·((simp only [vM] at *;omega))
   all_goals omega
  | none =>
   have hfd:zZ es (pkD x y)=some none:=by rw [hM x y,hf];rfl
   have hfn:zZ (es++[(pkD x y,.int .i64 (k:Int))]) (pkD x y)=some (some (.int .i64 (k:Int))):=by rw [zfq _ _ _ hfd];simp [zZ,zvQ]
   (repeat' ((conv=>whnf);first|refine vA ?_|(refine vF ?_ ?_<;>intro hc<;>try simp only [vL] at hc)|refine vT ?_|refine vN ‹_› ?_|((first|refine vO ?_ ?_|refine vP ?_ ?_);·first|omega|(simp only [vM] at *;omega))|(refine vU ?_ ?_;·kernel_rfl)|refine zi3.mk _ ‹_› ?_));all_goals try conv=>whnf
   ·have hlo:zU (zgb a b) k=k:=by rw [zpL,f1,f2,hf];rfl
    refine ⟨(k+1,_,_),[(0,0),(1,1)],[],?_,?_,by (refine ⟨rfl,rfl,rfl,?_,?_⟩;repeat' first|exact trivial|exact rfl|refine And.intro ?_ ?_|refine ⟨_,rfl,?_⟩|decide)⟩
    ·exact ⟨by (omega),by subst f1 f2;exact zt7 hM hf,ztz hlo⟩
    ·((simp only [vM] at *;omega))
   all_goals omega
 ·(repeat' ((conv=>whnf);first|refine vA ?_|(refine vF ?_ ?_<;>intro hc<;>try simp only [vL] at hc)|refine vT ?_|(refine vQ ?_ fun x hx=>?_;·omega)|(refine vU ?_ ?_;·kernel_rfl)|fail));all_goals try conv=>whnf
  ·omega
  ·have e0:k=a.length:=by omega
   subst e0
   refine congrArg (fun l=>some (D.arr 1 l)) ?_
   unfold ptL
   rw [List.map_map]
   exact zL fun u hu=>by rw [if_pos hu];rfl
theorem zrm {n:Nat} {q:Nat→Nat} (hq:zaK n q) (hn:n≤64) (keys:List Int) (hl:keys.length=n):Fn Tryz.prog T zcP [.d (dI (ptL n q)),.d (dI keys)] [] (.d (.tup [dI (ptL n (zU (zgb (ptL n q) keys))),.int .i64 0])) []:=by
 have hp:=zbq (n:=n) (q:=q)
 have cd:=zvf (T:=T) (ptL n q) keys (by omega) (by omega)
 rw [hp] at cd
 refine zj zy zl2 (by show 2≤20;decide) ?_
 (repeat' ((conv=>whnf);first|refine vA ?_|refine vH ?_|(refine vD ?_ ?_<;>intro hc<;>try simp only [vL] at hc)|refine vJ fun hg=>?_|refine vT ?_|refine yD (zvj hq hn) ⟨⟨rfl,rfl⟩,rfl⟩ rfl ?_|refine yN cd ⟨⟨rfl,rfl⟩,⟨rfl,rfl⟩,rfl⟩ ?_));all_goals try conv=>whnf
 ·omega
 ·rfl
end Go.Ab
namespace Go.Ab
open Go Go.Proofs
set_option maxRecDepth 10000
set_option maxHeartbeats 4000000
variable {T:Nat→Obj→Prop}
def zgD (R:List (List (BitVec 64))):List (Nat→BitVec 64):=R.map fun r w=>r.getD w 0#64
end Go.Ab
namespace Go.Ab
def zaf (d:Nat):UInt8:=if d < 10 then UInt8.ofNat (48+d) else UInt8.ofNat (87+d)
def zoH (c:UInt8):Nat:=if c.toNat < 58 then c.toNat - 48 else c.toNat - 87
theorem zfb : ∀ d,d < 16→zoH (zaf d)=d∧zaf d≠32:=by decide
def zdH:Nat→Nat→List UInt8
 | 0,v=>[zaf (v % 16)]
 | k+1,v=>if v < 16 then [zaf v] else zdH k (v / 16)++[zaf (v % 16)]
def zoI (l:List UInt8):Nat:=l.foldl (fun a c=>a * 16+zoH c) 0
theorem zjP : ∀ k v,v < 16 ^ (k+1)→zoI (zdH k v)=v
 | 0,v,h=>by
  have h:v < 16:=by simpa using h
  show 0 * 16+zoH (zaf (v % 16))=v
  rw [Nat.mod_eq_of_lt h,(zfb v h).1];omega
 | k+1,v,h=>by
  unfold zdH
  split
  ·rename_i hv
   show 0 * 16+zoH (zaf v)=v
   rw [(zfb v hv).1];omega
  ·unfold zoI
   rw [List.foldl_append]
   show zoI (zdH k (v / 16)) * 16+zoH (zaf (v % 16))=v
   rw [zjP k (v / 16) (by rw [Nat.pow_succ] at h;omega),(zfb _ (Nat.mod_lt _ (by omega))).1]
   omega
theorem ziE : ∀ k v,(∀ c,c∈zdH k v→c≠32)∧(zdH k v).length≤k+1
 | 0,v=>⟨fun c hc=>by simp only [zdH,List.mem_singleton] at hc;subst hc;exact (zfb _ (Nat.mod_lt _ (by omega))).2,by simp [zdH]⟩
 | k+1,v=>by
  unfold zdH
  split
  ·rename_i hv
   exact ⟨fun c hc=>by simp only [List.mem_singleton] at hc;subst hc;exact (zfb _ hv).2,by simp⟩
  ·obtain ⟨h1,h2⟩:=ziE k (v / 16)
   refine ⟨fun c hc=>?_,by simp;omega⟩
   rcases List.mem_append.1 hc with hc|hc
   ·exact h1 c hc
   ·simp only [List.mem_singleton] at hc;subst hc;exact (zfb _ (Nat.mod_lt _ (by omega))).2
def zfM (x:BitVec 64):List UInt8:=zdH 15 x.toNat
theorem zxe {x y:BitVec 64} (h:zfM x=zfM y):x=y:=by
 have hx:zoI (zfM x)=x.toNat:=zjP 15 _ (by have:=x.isLt;simpa using this)
 have hy:zoI (zfM y)=y.toNat:=zjP 15 _ (by have:=y.isLt;simpa using this)
 exact BitVec.eq_of_toNat_eq (by rw [← hx,← hy,h])
theorem zts : ∀ {a b r r':List UInt8},(∀ c,c∈a→c≠32)→(∀ c,c∈b→c≠32)→a++32::r=b++32::r'→a=b∧r=r'
 | [],[],_,_,_,_,h=>⟨rfl,by simpa using h⟩
 | [],y::b,_,_,_,hb,h=>by
  simp only [List.nil_append,List.cons_append,List.cons.injEq] at h
  exact absurd h.1.symm (hb y (by simp))
 | x::a,[],_,_,ha,_,h=>by
  simp only [List.nil_append,List.cons_append,List.cons.injEq] at h
  exact absurd h.1 (ha x (by simp))
 | x::a,y::b,_,_,ha,hb,h=>by
  simp only [List.cons_append,List.cons.injEq] at h
  obtain ⟨rfl,h⟩:=h
  obtain ⟨rfl,h'⟩:=zts (fun c hc=>ha c (by simp [hc])) (fun c hc=>hb c (by simp [hc])) h
  exact ⟨rfl,h'⟩
def zfu (xs:List (BitVec 64)):List UInt8:=xs.flatMap fun x=>zfM x++[32]
theorem zgq (x:BitVec 64) (xs:List (BitVec 64)):zfu (x::xs)=zfM x++32::zfu xs:=by simp [zfu]
theorem zvB (x:BitVec 64) (xs:List (BitVec 64)):zfu (xs++[x])=zfu xs++(zfM x++[32]):=by simp [zfu]
theorem zrA : ∀ {xs ys:List (BitVec 64)},zfu xs=zfu ys→xs=ys
 | [],[],_=>rfl
 | [],y::ys,h=>by rw [zgq] at h;simp [zfu] at h
 | x::xs,[],h=>by rw [zgq] at h;simp [zfu] at h
 | x::xs,y::ys,h=>by
  rw [zgq,zgq] at h
  obtain ⟨h1,h2⟩:=zts (ziE _ _).1 (ziE _ _).1 h
  rw [zxe h1,zrA h2]
theorem zrB : ∀ xs:List (BitVec 64),(zfu xs).length≤17 * xs.length
 | []=>by simp [zfu]
 | x::xs=>by
  rw [zgq,List.length_append,List.length_cons,List.length_cons]
  have h1:(zfM x).length≤16:=(ziE 15 x.toNat).2
  have:=zrB xs
  omega
end Go.Ab
namespace Go.Ab
open Go Go.Proofs
set_option maxRecDepth 10000
set_option maxHeartbeats 4000000
variable {T:Nat→Obj→Prop}
abbrev KS:=List UInt8
def zc2:Nat→List KS→List (D×D)
 | _,[]=>[]
 | i,x::r=>(.str x,.int .i64 (i:Int))::zc2 (i+1) r
def zlq (dl:List KS) (x:KS):List KS:=if x∈dl then dl else dl++[x]
theorem zna : ∀ (dl:List KS) (i:Nat),(zc2 i dl).length=dl.length
 | [],_=>rfl
 | x::r,i=>by simp [zc2,zna r (i+1)]
theorem zms (x:KS) : ∀ (dl:List KS) (i:Nat),zc2 i (dl++[x])=zc2 i dl++[(.str x,.int .i64 ((i+dl.length:Nat):Int))]
 | [],i=>by simp [zc2]
 | y::r,i=>by
  rw [List.cons_append,zc2,zc2,zms x r (i+1),List.cons_append,List.length_cons,show i+1+r.length=i+(r.length+1) by omega]
theorem zpR (x:KS) : ∀ (dl:List KS) (i:Nat),zZ (zc2 i dl) (.str x)=some (if x∈dl then some (.int .i64 ((i+dl.idxOf x:Nat):Int)) else none)
 | [],i=>by simp [zc2,zZ]
 | y::r,i=>by
  have ih:=zpR x r (i+1)
  show (match some (decide (x=y)) with
   | some true=>some (some (D.int .i64 (i:Int)))
   | some false=>zZ (zc2 (i+1) r) (.str x)
   | none=>none)=_
  by_cases e:x=y
  ·subst e;simp
  ·rw [decide_eq_false e]
   show zZ (zc2 (i+1) r) (.str x)=_
   rw [ih,List.idxOf_cons]
   have:(y==x)=false:=by simp [Ne.symm e]
   rw [this]
   by_cases hm:x∈r
   ·rw [if_pos hm,if_pos (List.mem_cons_of_mem _ hm)]
    show some (some (D.int .i64 _))=some (some (D.int .i64 _))
    congr 4
    simp only [cond_false]
    omega
   ·rw [if_neg hm,if_neg (by simp [e,hm])]
def zd6 (bl:Nat→KS) (k:Nat):List KS:=(List.range k).foldl (fun l w=>zlq l (bl w)) []
theorem zgr (bl:Nat→KS) (k:Nat):zd6 bl (k+1)=zlq (zd6 bl k) (bl k):=by
 unfold zd6;rw [List.range_succ,List.foldl_append];rfl
theorem zkc (l:List KS) (x:KS):(∃ t,zlq l x=l++t)∧x∈zlq l x∧(zlq l x).length≤l.length+1:=by
 unfold zlq
 split
 ·rename_i h;exact ⟨⟨[],by simp⟩,h,by omega⟩
 ·exact ⟨⟨[x],rfl⟩,by simp,by simp⟩
theorem zrE (bl:Nat→KS) : ∀ k,(zd6 bl k).length≤k
 | 0=>by simp [zd6]
 | k+1=>by
  rw [zgr]
  have:=(zkc (zd6 bl k) (bl k)).2.2
  have:=zrE bl k
  omega
theorem zrF (bl:Nat→KS) {k:Nat} : ∀ m,k≤m → ∃ t,zd6 bl m=zd6 bl k++t
 | 0,h=>⟨[],by have:k=0:=Nat.le_zero.1 h;subst this;simp⟩
 | m+1,h=>by
  by_cases e:k=m+1
  ·exact ⟨[],by rw [e];simp⟩
  ·obtain ⟨t,ht⟩:=zrF bl (k:=k) m (by omega)
   obtain ⟨⟨t',ht'⟩,-⟩:=zkc (zd6 bl m) (bl m)
   exact ⟨t++t',by rw [zgr,ht',ht];simp⟩
def zdI (bl:Nat→KS) (w:Nat):Nat:=(zd6 bl (w+1)).idxOf (bl w)
theorem ztk (bl:Nat→KS) {w m:Nat} (h:w < m):zdI bl w=(zd6 bl m).idxOf (bl w)∧bl w∈zd6 bl m:=by
 obtain ⟨t,ht⟩:=zrF bl (k:=w+1) m (by omega)
 have hm:bl w∈zd6 bl (w+1):=by rw [zgr];exact (zkc _ _).2.1
 rw [ht]
 exact ⟨by rw [List.idxOf_append,if_pos hm];rfl,List.mem_append_left _ hm⟩
theorem zxh (bl:Nat→KS) {v w n:Nat} (hv:v < n) (hw:w < n):zdI bl v=zdI bl w↔bl v=bl w:=by
 obtain ⟨h1,m1⟩:=ztk bl hv
 obtain ⟨h2,m2⟩:=ztk bl hw
 rw [h1,h2]
 constructor
 ·intro h
  have g1:=List.getElem_idxOf (List.idxOf_lt_length_of_mem m1)
  have g2:=List.getElem_idxOf (List.idxOf_lt_length_of_mem m2)
  rw [← g1,← g2]
  congr 1
 ·intro h;rw [h]
def zeu (R:List (List (BitVec 64))) (q:Nat→Nat) (n w:Nat):KS:=zfu (R.map fun r=>zaG q (r.getD w 0#64) n)
theorem zwO {R:List (List (BitVec 64))} {q:Nat→Nat} {n v w:Nat} : zeu R q n v=zeu R q n w ↔ ∀ r∈R,zaG q (r.getD v 0#64) n=zaG q (r.getD w 0#64) n:=by
 unfold zeu
 constructor
 ·intro h
  have:=zrA h
  exact List.map_inj_left.1 this
 ·intro h
  rw [List.map_congr_left h]
theorem zuB {R:List (List (BitVec 64))} {q:Nat→Nat} {n w:Nat} (hw:w < n):zU (zgb (ptL n q) (ptL n (zdI (zeu R q n)))) w=zbj n (zgD R) q w:=by
 refine zht fun v hv=>?_
 have h1:at0 (ptL n q) v=((q v:Nat):Int):=zcV (za0 (by omega))
 have h2:at0 (ptL n q) w=((q w:Nat):Int):=zcV (za0 hw)
 have h3:at0 (ptL n (zdI (zeu R q n))) v=((zdI (zeu R q n) v:Nat):Int):=zcV (za0 (by omega))
 have h4:at0 (ptL n (zdI (zeu R q n))) w=((zdI (zeu R q n) w:Nat):Int):=zcV (za0 hw)
 unfold zgb
 rw [h1,h2,h3,h4]
 have e2:=zxh (zeu R q n) (v:=v) (w:=w) (n:=n) (by omega) hw
 rw [zwO] at e2
 rw [Bool.eq_iff_iff,decide_eq_true_eq]
 rw [show (((q v:Nat):Int)=((q w:Nat):Int))↔q v=q w by omega]
 rw [show (((zdI (zeu R q n) v:Nat):Int)=((zdI (zeu R q n) w:Nat):Int))↔zdI (zeu R q n) v=zdI (zeu R q n) w by omega,e2]
 unfold zfB zgD
 simp [List.all_eq_true]
def zoP (q:Nat→Nat) (l:List Nat):BitVec 64:=l.foldl (fun o w=>o|||1#64 <<< q w) 0#64
theorem zuY {q:Nat→Nat} {l:List Nat} {i w:Nat} (h:l[i]? = some w):zoP q (l.take (i+1))=zoP q (l.take i)|||1#64 <<< q w:=by
 rw [List.take_add_one,h];simp [zoP]
theorem zqO {s:BitVec 64} {n:Nat} (hn:n≤64) (h : ∀ i,s.getLsbD i=true→i < n):zn s=(List.range n).filter fun i=>s.getLsbD i:=by
 unfold zn
 have e:List.range 64=List.range n++(List.range (64 - n)).map (n + ·):=by
  rw [← List.range_add];congr 1;omega
 rw [e,List.filter_append,show ((List.range (64 - n)).map (n + ·)).filter (fun i=>s.getLsbD i)=[] from ?_,List.append_nil]
 rw [List.filter_eq_nil_iff]
 intro a ha
 obtain ⟨b,-,rfl⟩:=List.mem_map.1 ha
 intro h1
 have:=h _ h1
 omega
theorem zuX {q:Nat→Nat} {s:BitVec 64} {n:Nat} (hn:n≤64) (h : ∀ i,s.getLsbD i=true→i < n):zoP q (zn s)=zaG q s n:=by
 rw [zqO hn h]
 unfold zoP zaG
 rw [List.foldl_filter]
end Go.Ab
namespace Go.Ab
theorem zeN {q:Nat→Nat} {s:BitVec 64} {j:Nat} : ∀ {k:Nat},(∀ w,w < k→q w < 64)→((zaG q s k).getLsbD j=true ↔ ∃ w,w < k∧s.getLsbD w=true∧q w=j)
 | 0,_=>by simp [zaG]
 | k+1,h=>by
  have ih:=zeN (q:=q) (s:=s) (j:=j) (k:=k) fun w hw=>h w (by omega)
  rw [zgf]
  split
  ·rename_i hs
   rw [zop (h k (by omega)),ih]
   constructor
   ·rintro (⟨w,h1,h2,h3⟩|rfl)
    ·exact ⟨w,by omega,h2,h3⟩
    ·exact ⟨k,by omega,hs,rfl⟩
   ·rintro ⟨w,h1,h2,h3⟩
    by_cases e:w=k
    ·subst e;exact .inr h3.symm
    ·exact .inl ⟨w,by omega,h2,h3⟩
  ·rename_i hs
   rw [ih]
   constructor
   ·rintro ⟨w,h1,h2,h3⟩;exact ⟨w,by omega,h2,h3⟩
   ·rintro ⟨w,h1,h2,h3⟩
    by_cases e:w=k
    ·subst e;exact absurd h2 hs
    ·exact ⟨w,by omega,h2,h3⟩
def zbg (m:KM) (q:Nat→Nat):KM :=
 ⟨(zx m.W.toNat q:Nat),m.val.map fun s=>zaC (fun k=>s.getLsbD ((zaV m.W.toNat q).getD k 0)) (zx m.W.toNat q),
  m.rel.map fun r=>(List.range (zx m.W.toNat q)).map fun i=>zaC (fun j=>zc4 m.W.toNat q (fun v w=>rb r v w) i j) (zx m.W.toNat q)⟩
def ztI (m:KM) (q:Nat→Nat):Prop := ∀ w,w < m.W.toNat→zz m w=zz m (q w)
theorem zw3 {m:KM} {q:Nat→Nat} (h:ztI m q) {w:Nat} (hw:w < m.W.toNat) {s:BitVec 64} (hs:s∈m.val):s.getLsbD w=s.getLsbD (q w):=by
 obtain ⟨i,hi⟩:=List.mem_iff_getElem?.1 hs
 have hil:=(List.getElem?_eq_some_iff.1 hi).1
 have e:zaB m.val w m.val.length=zaB m.val (q w) m.val.length:=Int.ofNat_inj.1 (h w hw)
 have h1:=zgn m.val w (i:=i) m.val.length
 have h2:=zgn m.val (q w) (i:=i) m.val.length
 rw [e] at h1
 rw [show m.val.getD i 0#64=s by simp [List.getD,hi]] at h1 h2
 rw [Bool.eq_iff_iff]
 exact ⟨fun h=>(h2.1 (h1.2 ⟨hil,h⟩)).2,fun h=>(h1.1 (h2.2 ⟨hil,h⟩)).2⟩
section
variable {m:KM} {q:Nat→Nat} (hq:zaK m.W.toNat q) (hn:m.W.toNat≤64)
include hq hn
theorem ztn {w:Nat} (hw:w < m.W.toNat):zN q w < 64:=by
 have h1:=zfW hq hw
 have h2:=zcX m.W.toNat q
 omega
theorem zy3 (hf:ztI m q) {s:BitVec 64} (hs:s∈m.val):zaG (zN q) s m.W.toNat=zaC (fun k=>s.getLsbD ((zaV m.W.toNat q).getD k 0)) (zx m.W.toNat q):=by
 have hc:=zcX m.W.toNat q
 refine BitVec.eq_of_getLsbD_eq fun j _=>?_
 rw [Bool.eq_iff_iff,zeN (fun w hw=>ztn hq hn hw),zbU (by omega)]
 constructor
 ·rintro ⟨w,h1,h2,rfl⟩
  refine ⟨zfW hq h1,?_⟩
  rw [List.getD,zfV hq h1]
  show s.getLsbD (q w)=true
  rw [← zw3 hf h1 hs];exact h2
 ·rintro ⟨h1,h2⟩
  obtain ⟨u,u1,u2,u3,u4⟩:=zjD hq h1
  rw [List.getD,u1] at h2
  exact ⟨u,u2,h2,u4⟩
def zdT (q:Nat→Nat) (n:Nat) (r:List (BitVec 64)):Nat→Nat→BitVec 64
 | 0,_=>0#64
 | k+1,i=>if zN q k=i then zdT q n r k i|||zaG (zN q) (r.getD k 0#64) n else zdT q n r k i
omit hq hn in
theorem zqG {n:Nat} {r:List (BitVec 64)} (h64 : ∀ w,w < n→zN q w < 64) {i j:Nat} : ∀ {k:Nat},(zdT q n r k i).getLsbD j=true ↔ ∃ v w,v < k∧w < n∧zN q v=i∧zN q w=j∧rb r v w=true
 | 0=>by simp [zdT]
 | k+1=>by
  have ih:=zqG (r:=r) h64 (i:=i) (j:=j) (k:=k)
  unfold zdT
  split
  ·rename_i he
   rw [BitVec.getLsbD_or,Bool.or_eq_true,ih,zeN h64]
   constructor
   ·rintro (⟨v,w,h1,h2,h3,h4,h5⟩|⟨w,h1,h2,h3⟩)
    ·exact ⟨v,w,by omega,h2,h3,h4,h5⟩
    ·exact ⟨k,w,by omega,h1,he,h3,h2⟩
   ·rintro ⟨v,w,h1,h2,h3,h4,h5⟩
    by_cases e:v=k
    ·subst e;exact .inr ⟨w,h2,h5,h4⟩
    ·exact .inl ⟨v,w,by omega,h2,h3,h4,h5⟩
  ·rename_i he
   rw [ih]
   constructor
   ·rintro ⟨v,w,h1,h2,h3,h4,h5⟩;exact ⟨v,w,by omega,h2,h3,h4,h5⟩
   ·rintro ⟨v,w,h1,h2,h3,h4,h5⟩
    by_cases e:v=k
    ·subst e;exact absurd h3 he
    ·exact ⟨v,w,by omega,h2,h3,h4,h5⟩
theorem zy2 (r:List (BitVec 64)) (i:Nat):zdT q m.W.toNat r m.W.toNat i=zaC (fun j=>zc4 m.W.toNat q (fun v w=>rb r v w) i j) (zx m.W.toNat q):=by
 have hc:=zcX m.W.toNat q
 refine BitVec.eq_of_getLsbD_eq fun j _=>?_
 rw [Bool.eq_iff_iff,zqG (fun w hw=>ztn hq hn hw),zbU (by omega),zhx]
 constructor
 ·rintro ⟨v,w,h1,h2,h3,h4,h5⟩
  exact ⟨by rw [← h4];exact zfW hq h2,v,w,h1,h2,h3,h4,h5⟩
 ·rintro ⟨-,v,w,h1,h2,h3,h4,h5⟩
  exact ⟨v,w,h1,h2,h3,h4,h5⟩
end
theorem zwT {n:Nat} {q:Nat→Nat} (hq:zaK n q) (hn:0 < n):0 < zx n q:=by
 unfold zx
 have h0:q 0=0:=by have:=hq.le 0 hn;omega
 exact List.length_pos_of_mem (List.mem_filter.2 ⟨List.mem_range.2 hn,by simp [h0]⟩)
theorem zxD {m:KM} {q:Nat→Nat} (hm:zcm m) (hq:zaK m.W.toNat q):zcm (zbg m q):=by
 have w1:=hm.w1
 have w2:=hm.w2
 have hc:=zcX m.W.toNat q
 have hp:=zwT hq (by omega)
 have hset : ∀ f,bad (zx m.W.toNat q:Nat) (zaC f (zx m.W.toNat q))=false:=fun f=>by
  rw [ze0 (by omega)]
  intro i hi
  have:=((zbU (by omega)).1 hi).1
  omega
 refine ⟨by show (1:Int)≤(zx m.W.toNat q:Nat);omega,by show ((zx m.W.toNat q:Nat):Int)≤64;omega,by have:=hm.n4;simpa [zbg] using this,by have:=hm.v8;simpa [zbg] using this,fun r hr=>?_,fun s hs=>?_,fun r hr s hs=>?_⟩
 ·obtain ⟨r',-,rfl⟩:=List.mem_map.1 hr;simp [zbg]
 ·obtain ⟨s',-,rfl⟩:=List.mem_map.1 hs;exact hset _
 ·obtain ⟨r',-,rfl⟩:=List.mem_map.1 hr
  obtain ⟨i,-,rfl⟩:=List.mem_map.1 hs
  exact hset _
theorem zvV {m:KM} {q:Nat→Nat} (hc:za m=0) (hq:zaK m.W.toNat q):za (zbg m q)=0:=zn7 (zxD (zq hc) hq)
theorem zy1 {m:KM} {q:Nat→Nat} (hn:m.W.toNat≤64) {i:Nat} {r r':Nat→Nat→Bool} (h:(zg (zbg m q))[i]? = some r) (h':((zg m).map (zc4 m.W.toNat q))[i]? = some r') {v w:Nat} (hv:v < zx m.W.toNat q) (hw:w < zx m.W.toNat q):r v w=r' v w:=by
 have hc:=zcX m.W.toNat q
 unfold zg zbg at h
 unfold zg at h'
 rw [List.map_map,List.getElem?_map,Option.map_eq_some_iff] at h
 rw [List.map_map,List.getElem?_map,Option.map_eq_some_iff] at h'
 obtain ⟨a,ha,rfl⟩:=h
 obtain ⟨b,hb,rfl⟩:=h'
 rw [ha] at hb;cases hb
 show (((List.range (zx m.W.toNat q)).map fun i=>zaC (fun j=>zc4 m.W.toNat q (fun v w=>rb a v w) i j) (zx m.W.toNat q)).getD v 0#64).getLsbD w=zc4 m.W.toNat q (fun v w=>rb a v w) v w
 rw [show ((List.range (zx m.W.toNat q)).map fun i=>zaC (fun j=>zc4 m.W.toNat q (fun v w=>rb a v w) i j) (zx m.W.toNat q)).getD v 0#64=zaC (fun j=>zc4 m.W.toNat q (fun v w=>rb a v w) v j) (zx m.W.toNat q) by simp [List.getD,hv]]
 rw [Bool.eq_iff_iff,zbU (by omega)]
 exact ⟨fun h=>h.2,fun h=>⟨hw,h⟩⟩
theorem zpy (vl:List (BitVec 64)) {f:BitVec 64→BitVec 64} {i u:Nat} (h : ∀ s∈vl,(f s).getLsbD i=s.getLsbD u) : ∀ k,zaB (vl.map f) i k=zaB vl u k
 | 0=>rfl
 | k+1=>by
  rw [zaB,zaB,zpy vl h k]
  have e:((vl.map f).getD k 0#64).getLsbD i=(vl.getD k 0#64).getLsbD u:=by
   simp only [List.getD,List.getElem?_map]
   cases hk:vl[k]? with
   | none=>simp
   | some s=>exact h s (List.mem_of_getElem? hk)
  rw [e]
theorem zy0 {m:KM} {q:Nat→Nat} (hn:m.W.toNat≤64) {i:Nat} (hi:i < zx m.W.toNat q):zz (zbg m q) i=zhw m.W.toNat q (zz m) i:=by
 have hc:=zcX m.W.toNat q
 unfold zz zhw zbg
 rw [List.length_map,zpy m.val (u:=(zaV m.W.toNat q).getD i 0) fun s hs=>?_]
 rw [Bool.eq_iff_iff,zbU (by omega)]
 exact ⟨fun h=>h.2,fun h=>⟨hi,h⟩⟩
def zah (m:KM):Nat→Nat→Nat:=zbu m.W.toNat (zgD m.rel) (zU (za9 (zz m)))
def cq (m:KM):Nat→Nat:=zah m m.W.toNat
theorem zfA (m:KM) (k:Nat):zaK m.W.toNat (zah m k):=zmp (zd7 (zbN (zz m)) m.W.toNat) k
theorem zfK (m:KM):zaK m.W.toNat (cq m):=zfA m _
theorem znj (m:KM) : ∀ k w,w < m.W.toNat→zz m (zah m k w)=zz m w
 | 0,w,hw=>by
  have:=zm5 (zbN (zz m)) w
  show zz m (zU (za9 (zz m)) w)=zz m w
  simpa [za9] using this
 | k+1,w,hw=>by
  have h1:=zpm (rels:=zgD m.rel) (zfA m k) hw
  have h2:=(zfA m (k+1)).le w hw
  have h3:=znj m k (zah m (k+1) w) (by omega)
  have h4:=znj m k w hw
  rw [← h3,← h4]
  exact congrArg (zz m) h1
theorem zq0 (m:KM):ztI m (cq m):=fun w hw=>(znj m _ w hw).symm
theorem zu5 (m:KM) (hn:0 < m.W.toNat) {j:Nat} (hj:m.W.toNat≤j) {w:Nat} (hw:w < m.W.toNat):zah m j w=cq m w:=zvz (zd7 (zbN (zz m)) m.W.toNat) hn hj hw
theorem zs9 {m:KM} {k:Nat} (hn:0 < m.W.toNat) (h:ptL m.W.toNat (zah m (k+1))=ptL m.W.toNat (zah m k)):ptL m.W.toNat (zah m k)=ptL m.W.toNat (cq m):=by
 have hst : ∀ w,w < m.W.toNat→zah m (k+1) w=zah m k w:=fun w hw=>zyZ h hw
 refine zh2 fun w hw=>?_
 by_cases hk:k≤m.W.toNat
 ·exact (zjw (zd7 (zbN (zz m)) m.W.toNat) hst _ hk w hw).symm
 ·exact zu5 m hn (by omega) hw
theorem zyE {m:KM} {k:Nat} (hn : ∀ i,i < k→ptL m.W.toNat (zah m (i+1))≠ptL m.W.toNat (zah m i)):k≤m.W.toNat:=by
 have h1:=zjv (rels:=zgD m.rel) (zd7 (zbN (zz m)) m.W.toNat) (k:=k) (fun i hi=>by
  refine Classical.byContradiction fun hne=>hn i hi (zh2 fun w hw=>?_)
  exact Classical.byContradiction fun hw'=>hne ⟨w,hw,hw'⟩) k (Nat.le_refl _)
 have h2:=zcX m.W.toNat (zbu m.W.toNat (zgD m.rel) (zU (za9 (zz m))) k)
 omega
end Go.Ab
namespace Go.Ab
theorem zr2 {m:KM} {f:Nat→BitVec 64} : f∈zgD m.rel ↔ ∃ r∈m.rel,f=fun w=>r.getD w 0#64:=by
 unfold zgD
 rw [List.mem_map]
 exact ⟨fun ⟨r,a,b⟩=>⟨r,a,b.symm⟩,fun ⟨r,a,b⟩=>⟨r,a,b.symm⟩⟩
theorem zr3 {m:KM} {f:Nat→Nat→Bool} : f∈zg m ↔ ∃ r∈m.rel,f=fun v w=>rb r v w:=by
 unfold zg
 rw [List.mem_map]
 exact ⟨fun ⟨r,a,b⟩=>⟨r,a,b.symm⟩,fun ⟨r,a,b⟩=>⟨r,a,b.symm⟩⟩
theorem zqP {n:Nat} {q:Nat→Nat} (hq:zaK n q) (hn:n≤64) {s t:BitVec 64} : zaG q s n=zaG q t n ↔ ∀ x:Nat,(∃ u,u < n∧s.getLsbD u=true∧q u=x) ↔ ∃ u,u < n∧t.getLsbD u=true∧q u=x:=by
 have h64 : ∀ w,w < n→q w < 64:=fun w hw=>by have:=hq.le w hw;omega
 constructor
 ·intro h x
  rw [← zeN h64,← zeN h64,h]
 ·intro h
  refine BitVec.eq_of_getLsbD_eq fun j _=>?_
  rw [Bool.eq_iff_iff,zeN h64,zeN h64]
  exact h j
theorem zse {m:KM} {q:Nat→Nat} (hq:zaK m.W.toNat q) (hn:m.W.toNat≤64) {v w:Nat} : zfB m.W.toNat (zgD m.rel) q v w=true↔zX m.W.toNat (zg m) q v=zX m.W.toNat (zg m) q w:=by
 unfold zfB
 rw [zc8,Bool.and_eq_true,decide_eq_true_eq,List.all_eq_true]
 refine and_congr Iff.rfl ⟨fun h r hr x=>?_,fun h f hf=>?_⟩
 ·obtain ⟨r',hr',rfl⟩:=zr3.1 hr
  have:=h _ (zr2.2 ⟨r',hr',rfl⟩)
  rw [decide_eq_true_eq,zqP hq hn] at this
  exact this x
 ·obtain ⟨r',hr',rfl⟩:=zr2.1 hf
  rw [decide_eq_true_eq,zqP hq hn]
  exact h _ (zr3.2 ⟨r',hr',rfl⟩)
theorem zyD {m:KM} (h0:0 < m.W.toNat) (hn:m.W.toNat≤64):zi5 m.W.toNat (zg m) (zz m) (cq m) where
 canon:=zfK m
 stab:=fun v w hv hw e=>by
  have hc:=zfK m
  have h1 : ∀ u,u < m.W.toNat→zbj m.W.toNat (zgD m.rel) (cq m) u=cq m u:=fun u hu=>zu5 m h0 (Nat.le_succ _) hu
  refine (zse hc hn).1 ((ziK (zh3 _ _ _)).1 ?_)
  show zbj m.W.toNat (zgD m.rel) (cq m) v=zbj m.W.toNat (zgD m.rel) (cq m) w
  rw [h1 v hv,h1 w hw,e]
 fac:=fun v w hv hw e=>by
  rw [zq0 m v hv,zq0 m w hw,e]
theorem zlG {m:KM} (hn:m.W.toNat≤64) {Z:Nat→Nat→Prop} (B:zcc m.W.toNat m.W.toNat (zg m) (zg m) (zz m) (zz m) Z) : ∀ (k v w:Nat),Z v w→zah m k v=zah m k w
 | 0,v,w,hz=>zo0.2 (B.fac hz)
 | k+1,v,w,hz=>by
  refine (ziK (zh3 _ _ _)).2 ((zse (zfA m k) hn).2 (zc8.2 ⟨zlG hn B k v w hz,fun r hr x=>?_⟩))
  obtain ⟨i,hi⟩:=List.mem_iff_getElem?.1 hr
  constructor
  ·rintro ⟨u,a,b,rfl⟩
   obtain ⟨u',c,d,e⟩:=B.forth hi hi hz a b
   exact ⟨u',c,d,(zlG hn B k u u' e).symm⟩
  ·rintro ⟨u,a,b,rfl⟩
   obtain ⟨u',c,d,e⟩:=B.back hi hi hz a b
   exact ⟨u',c,d,zlG hn B k u' u e⟩
theorem zzv {m:KM} (h0:0 < m.W.toNat) (hn:m.W.toNat≤64) {w:Nat} (hw:w < m.W.toNat):cq m w=coa m.W.toNat (zg m) (zz m) w:=by
 have S:=zyD h0 hn
 have S':=zdg m.W.toNat (zg m) (zz m)
 rw [← zjg S.canon hw,← zjg S'.canon hw]
 refine zht fun v hv=>?_
 unfold za9
 rw [Bool.eq_iff_iff,decide_eq_true_eq,decide_eq_true_eq]
 exact ⟨fun e=>zil S.bis ⟨by omega,hw,e⟩,fun e=>zlG hn S'.bis _ v w ⟨by omega,hw,e⟩⟩
end Go.Ab
namespace Go.Ab
open Go Go.Proofs
set_option maxRecDepth 10000
set_option maxHeartbeats 4000000
variable {T:Nat→Obj→Prop}
def zfd (T:Nat→Obj→Prop):Prop := ∀ x:BitVec 64,Fn Tryz.prog T zdm [.d (.u64 x),.d (.int .i64 16)] [] (.d (.str (zfM x))) []
theorem zia (hT:zbP T) (s:BitVec 64):It Tryz.prog T zcN [.ptr 0 0] [.box [.d (.u64 s)]] (zji s):=by
 refine zvx zy zlV rfl (by show 2≤14;decide) fun l=>?_
 (repeat' ((conv=>whnf);refine vT ?_));all_goals try conv=>whnf
 refine zu (fun (s':BitVec 64)=>[(0,.yld l),(1,.ptr 0 0)]) (fun (s':BitVec 64)=>[(0,some (.box [.d (.u64 s')])),(1,some (.todo (some (zji s'))))]) 2 (fun (s':BitVec 64)=>True) (fun (s':BitVec 64)=>(zn s').length) (s) [(0,0),(1,1)] [] (trivial) (by (refine ⟨rfl,rfl,rfl,?_,?_⟩;repeat' first|exact trivial|exact rfl|refine And.intro ?_ ?_|refine ⟨_,rfl,?_⟩|decide)) ?_
 rintro s' -
 (repeat' ((conv=>whnf);first|refine vA ?_|(refine vD ?_ ?_<;>intro hc)|refine vT ?_|refine yD (hT _) (by (repeat refine ⟨⟨rfl,rfl⟩,?_⟩);rfl) rfl ?_));all_goals try conv=>whnf
 ·have hd:zji s'=[D.int .i64 (Lib.ctz 64 s'.toNat:Int)]::zji (s'&&&(s' - 1#64)):=by
   rw [zji,zf4 s' hc];rfl
  refine ⟨rfl,[.int .i64 (Lib.ctz 64 s'.toNat)],zji (s'&&&(s' - 1#64)),congrArg (fun l=>some (Ob.todo (some l))) hd,rfl,rfl,rfl,?_,?_⟩
  ·(repeat' ((conv=>whnf);first|refine vE ?_|refine vG ?_|refine vT ?_));all_goals try conv=>whnf
   refine ⟨s'&&&(s' - 1#64),[(0,0),(1,1)],[],trivial,?_,⟨rfl,rfl,rfl,by (repeat' first|exact trivial|exact rfl|refine And.intro ?_ ?_|refine ⟨_,rfl,?_⟩),by (repeat' first|exact trivial|exact rfl|refine And.intro ?_ ?_|refine ⟨_,rfl,?_⟩|decide)⟩⟩
   show (zn (s'&&&(s' - 1#64))).length < (zn s').length
   rw [zf4 s' hc];simp
  ·(repeat' ((conv=>whnf);first|refine vE ?_|refine vH ?_|refine vT ?_));all_goals try conv=>whnf
   right;rfl
 ·left
  have:s'=0#64:=hc
  subst this
  exact congrArg (fun l:List Nat=>some (Ob.todo (some (l.map fun (i:Nat)=>[D.int .i64 (i:Int)])))) zeF
theorem zh8 (s:BitVec 64):Fn Tryz.prog T zhO [.d (.u64 s)] [] (.fn zcN [.ptr 0 0]) [some (.box [.d (.u64 s)])]:=by
 refine zaq zy zod (by show 1≤4;decide) _ (fun e env mem n h=>h) ?_
 (repeat' ((conv=>whnf);refine vT ?_));all_goals try conv=>whnf
 exact ⟨trivial,_,[(0,0)],[],rfl,.inl (by (repeat' first|exact rfl|refine And.intro ?_ ?_|refine ⟨_,rfl,?_⟩)),⟨rfl,rfl,rfl,trivial,by (repeat' first|exact trivial|exact rfl|refine And.intro ?_ ?_|refine ⟨_,rfl,?_⟩|exact of_decide_eq_true rfl)⟩,trivial⟩
theorem zsG (hT:zbP T) {n:Nat} {q:Nat→Nat} (hn:n≤64) (s:BitVec 64) (hs : ∀ i,s.getLsbD i=true→i < n):Fn Tryz.prog T zhP [.d (dI (ptL n q)),.d (.u64 s)] [] (.d (.u64 (zaG q s n))) []:=by
 refine zj zy zoe (by show 2≤18;decide) ?_
 (repeat' ((conv=>whnf);first|refine vA ?_|refine vT ?_));all_goals try conv=>whnf
 refine zan.res (zh8 s) (by (repeat refine ⟨⟨rfl,rfl⟩,?_⟩);rfl) ?_
 (repeat' ((conv=>whnf);refine vT ?_));all_goals try conv=>whnf
 refine zld (zia hT s) [2] [] (by first|((repeat refine ⟨⟨rfl,rfl⟩,?_⟩);rfl)|(repeat' first|exact rfl|refine And.intro ?_ ?_|refine ⟨_,rfl,?_⟩)) (by (repeat' first|exact rfl|refine And.intro ?_ ?_|refine ⟨_,rfl,?_⟩)) (by rfl) (by rfl) [(2,.ptr 0 0),(5,.ptr 1 0)] (fun (o:BitVec 64)=>[(0,some (.box [.d (dI (ptL n q))])),(1,some (.box [.d (.u64 o)]))]) 2 (fun i (o:BitVec 64)=>o=zoP q ((zn s).take i)) (0#64) [(0,0),(1,1)] [] (rfl) (by (refine ⟨rfl,rfl,rfl,?_,?_⟩;repeat' first|exact trivial|exact rfl|refine And.intro ?_ ?_|refine ⟨_,rfl,?_⟩|decide)) ?_ ?_
 ·intro i x o hx ho
  obtain ⟨w,hw,rfl,hsw,hw64⟩:=zkp hx
  have hwr:=hs w hsw
  have e1:(ptL n q)[w]? = some ((q w:Nat):Int):=za0 hwr
  refine ⟨rfl,?_⟩
  (repeat' ((conv=>whnf);first|refine vT ?_|refine vN ‹_› ?_|(refine vP ?_ ?_;·omega)|(refine vU ?_ ?_;·kernel_rfl)|fail));all_goals try conv=>whnf
  ·exact ⟨o|||1#64 <<< q w,[(0,0),(1,1)],[],by rw [ho,zuY hw],by (refine ⟨rfl,rfl,rfl,?_,?_⟩;repeat' first|exact trivial|exact rfl|refine And.intro ?_ ?_|refine ⟨_,rfl,?_⟩|decide)⟩
  all_goals omega
 ·intro o ho
  (repeat' ((conv=>whnf);first|refine vT ?_|refine vY ?_));all_goals try conv=>whnf
  rw [ho,List.length_map,List.take_length,zuX hn hs]
def zed (m:KM) (N i:Nat):List (List D):=((List.range (N+1)).drop i).map fun j=>[dI (ptL m.W.toNat (zah m j))]
theorem zpZ {m:KM} {N i:Nat} (h:i≤N):zed m N i=[dI (ptL m.W.toNat (zah m i))]::zed m N (i+1):=by
 unfold zed
 rw [List.drop_eq_getElem_cons (by simp;omega)];simp
theorem zxI {m:KM} {N i:Nat} (h:N < i):zed m N i=[]:=by
 unfold zed
 rw [List.drop_eq_nil_of_le (by simp;omega)];rfl
def zf8 (m:KM):List Int:=(List.range m.W.toNat).map (zz m)
theorem zte {m:KM} {w:Nat} (h:w < m.W.toNat):(zf8 m)[w]? = some (zz m w):=by simp [zf8,h]
theorem zwy (n:Nat):zaK n (fun _=>0):=⟨fun w _=>Nat.zero_le w,fun w _=>rfl⟩
theorem zt5 (m:KM) {w:Nat} (hw:w < m.W.toNat):zU (zgb (ptL m.W.toNat fun _=>0) (zf8 m)) w=zah m 0 w:=by
 refine zht fun v hv=>?_
 have h1:at0 (ptL m.W.toNat fun _=>0) v=0:=zcV (za0 (q:=fun _=>0) (by omega))
 have h2:at0 (ptL m.W.toNat fun _=>0) w=0:=zcV (za0 (q:=fun _=>0) hw)
 have h3:at0 (zf8 m) v=zz m v:=zcV (zte (by omega))
 have h4:at0 (zf8 m) w=zz m w:=zcV (zte hw)
 unfold zgb za9
 rw [h1,h2,h3,h4]
 simp
theorem zvm (m:KM) (h64:m.W.toNat≤64):Fn Tryz.prog T zcP [.d (.arr 1 (List.replicate m.W.toNat (D.int .i64 0))),.d (dI (zf8 m))] [] (.d (.tup [dI (ptL m.W.toNat (zah m 0)),.int .i64 0])) []:=by
 have cs:=zrm (T:=T) (zwy m.W.toNat) h64 (zf8 m) (by simp [zf8])
 rwa [show dI (ptL m.W.toNat fun _=>0)=D.arr 1 (List.replicate m.W.toNat (D.int .i64 0)) by show D.arr 1 ((ptL m.W.toNat fun _=>0).map (D.int .i64))=_;unfold ptL;rw [List.map_map];exact congrArg _ (zaa _ _).symm,zh2 fun w hw=>zt5 m hw] at cs
theorem zvg (m:KM) (h64:m.W.toNat≤64) (i:Nat):Fn Tryz.prog T zcP [.d (dI (ptL m.W.toNat (zah m i))),.d (dI (ptL m.W.toNat (zdI (zeu m.rel (zah m i) m.W.toNat))))] [] (.d (.tup [dI (ptL m.W.toNat (zah m (i+1))),.int .i64 0])) []:=by
 have cs:=zrm (T:=T) (zfA m i) h64 (ptL m.W.toNat (zdI (zeu m.rel (zah m i) m.W.toNat))) zbq
 rwa [zh2 fun w hw=>zuB hw] at cs
theorem zhz {α:Type} {n w:Nat} {f:Nat→D} {g:Nat→D} {d:D} (hd:d=f w):(((List.range n).map fun u=>if u < w then f u else g u).set w d)=(List.range n).map fun u=>if u < w+1 then f u else g u:=by
 refine (zef _).trans (zL fun u hu=>?_)
 by_cases e:u=w
 ·subst e;rw [if_pos rfl,if_pos (by omega),hd]
 ·rw [if_neg e]
  by_cases e2:u < w
  ·rw [if_pos e2,if_pos (by omega)]
  ·rw [if_neg e2,if_neg (by omega)]
theorem zvy (hT:zbP T) (hX:zfd T) {m:KM} (hk0:za m=0) (N:Nat):ItF Tryz.prog T false zdl [.ptr 0 0,.ptr 1 0] [zao m,.box [.d (dUU m.rel)]] (zed m N 0):=by
 have hg0:=zq hk0
 have w1:=hg0.w1
 have w2:=hg0.w2
 have n4:=hg0.n4
 have h64:m.W.toNat≤64:=by omega
 refine zoa zy zm1 rfl (by show 3≤93;decide) fun l=>?_
 (repeat' ((conv=>whnf);first|refine vA ?_|refine vK fun hg=>?_|refine vT ?_|(refine vP ?_ ?_;·omega)|fail));all_goals try conv=>whnf
 refine zu (fun ((w,zs):Nat×List D)=>[(0,.yld l),(1,.ptr 0 0),(2,.ptr 1 0),(4,.own 3),(5,.own 4),(22,.d (.int .i64 ((List.replicate m.W.toNat (D.int .i64 0)).length:Int))),(23,.d (.int .i64 ((w:Int))))]) (fun ((w,zs):Nat×List D)=>[(0,some (zao m)),(1,some (.box [.d (dUU m.rel)])),(2,some (.todo (some (zed m N 0)))),(3,some (.row 1 (List.replicate m.W.toNat (D.int .i64 0)))),(4,some (.row 1 zs))]) 5 (fun ((w,zs):Nat×List D)=>w≤m.W.toNat∧zs=(List.range m.W.toNat).map fun u=>if u < w then D.int .i64 (zz m u) else D.int .i64 0) (fun ((w,zs):Nat×List D)=>m.W.toNat - w) ((0,List.replicate m.W.toNat (D.int .i64 0))) [(0,0),(1,1),(2,2),(3,3),(4,4)] [] (⟨by simp,by simp only [Nat.not_lt_zero,if_false];exact zaa _ _⟩) (by (refine ⟨rfl,rfl,rfl,?_,?_⟩;repeat' first|exact trivial|exact rfl|refine And.intro ?_ ?_|refine ⟨_,rfl,?_⟩|decide)) ?_
 rintro ⟨w,zs⟩ ⟨hw,hz⟩
 have hzl:zs.length=m.W.toNat:=by rw [hz];simp
 by_cases hwl:w < m.W.toNat
 ·have cf:=zd2 (T:=T) m (w:Int)
  rw [ziw hk0 hwl] at cf
  (repeat' ((conv=>whnf);first|refine vA ?_|(refine vF ?_ ?_<;>intro hc<;>try simp only [vL] at hc)|refine vT ?_|((first|refine vO ?_ ?_|refine vP ?_ ?_);·omega)|refine yD cf ⟨⟨rfl,rfl⟩,⟨rfl,rfl⟩,rfl⟩ rfl ?_));all_goals try conv=>whnf
  ·refine ⟨(w+1,_),[(0,0),(1,1),(2,2),(3,3),(4,4)],[],?_,?_,by (refine ⟨rfl,rfl,rfl,?_,?_⟩;repeat' first|exact trivial|exact rfl|refine And.intro ?_ ?_|refine ⟨_,rfl,?_⟩|decide)⟩
   ·exact ⟨by (omega),by rw [hz];exact zhz (α:=Nat) rfl⟩
   ·((simp only [vM] at *;omega))
  all_goals omega
 ·have e0:w=m.W.toNat:=by omega
  obtain rfl:zs=(zf8 m).map (D.int .i64):=by
   rw [hz,zf8,List.map_map]
   exact zL fun u hu=>by rw [if_pos (by omega)];rfl
  (repeat' ((conv=>whnf);first|refine vA ?_|(refine vF ?_ ?_<;>intro hc<;>try simp only [vL] at hc)|refine vT ?_|refine yN (zvm m h64) ⟨⟨rfl,rfl⟩,⟨rfl,rfl⟩,rfl⟩ ?_));all_goals try conv=>whnf
  ·omega
  ·refine zu (fun (i:Nat)=>[(0,.yld l),(1,.ptr 0 0),(2,.ptr 1 0),(4,.d (dI (ptL m.W.toNat (zah m i))))]) (fun (i:Nat)=>[(0,some (zao m)),(1,some (.box [.d (dUU m.rel)])),(2,some (.todo (some (zed m N i))))]) 3 (fun (i:Nat)=>i≤N) (fun (i:Nat)=>N+1 - i) (0) [(0,0),(1,1),(2,2)] [] (by simp) (by (refine ⟨rfl,rfl,rfl,?_,?_⟩;repeat' first|exact trivial|exact rfl|refine And.intro ?_ ?_|refine ⟨_,rfl,?_⟩|decide)) ?_
   rintro i hi
   have hd:=zpZ (m:=m) hi
   (repeat' ((conv=>whnf);first|refine vA ?_|refine vT ?_));all_goals try conv=>whnf
   refine ⟨rfl,[dI (ptL m.W.toNat (zah m i))],zed m N (i+1),congrArg (fun l=>some (Ob.todo (some l))) hd,rfl,rfl,rfl,?_,?_⟩
   ·by_cases hiN:i < N
    ·have hne:(false || !(zed m N (i+1)).isEmpty)=true:=by rw [zpZ (m:=m) (i:=i+1) (by omega)];rfl
     rw [hne]
     (repeat' ((conv=>whnf);first|refine vA ?_|refine vG ?_|refine vK fun hg=>?_|refine vT ?_|(refine vP ?_ ?_;·omega)|fail));all_goals try conv=>whnf
     obtain ⟨bk,hbk⟩ : ∃ bk:Nat→KS,bk=zeu m.rel (zah m i) m.W.toNat:=⟨_,rfl⟩
     refine zu (fun ((w,es,zs):Nat×List (D×D)×List D)=>[(0,.yld l),(1,.ptr 0 0),(2,.ptr 1 0),(4,.d (dI (ptL m.W.toNat (zah m i)))),(7,.map 3),(8,.own 4),(47,.d (.int .i64 ((List.replicate m.W.toNat (D.int .i64 0)).length:Int))),(48,.d (.int .i64 ((w:Int))))]) (fun ((w,es,zs):Nat×List (D×D)×List D)=>[(0,some (zao m)),(1,some (.box [.d (dUU m.rel)])),(2,some (.todo (some (zed m N (i+1))))),(3,some (.map es)),(4,some (.row 1 zs))]) 5 (fun ((w,es,zs):Nat×List (D×D)×List D)=>w≤m.W.toNat∧es=zc2 0 (zd6 bk w)∧zs=(List.range m.W.toNat).map fun u=>if u < w then D.int .i64 (zdI bk u:Int) else D.int .i64 0) (fun ((w,es,zs):Nat×List (D×D)×List D)=>m.W.toNat - w) ((0,[],List.replicate m.W.toNat (D.int .i64 0))) [(0,0),(1,1),(2,2),(3,3),(4,4)] [] (⟨by simp,rfl,by simp only [Nat.not_lt_zero,if_false];exact zaa _ _⟩) (by (refine ⟨rfl,rfl,rfl,?_,?_⟩;repeat' first|exact trivial|exact rfl|refine And.intro ?_ ?_|refine ⟨_,rfl,?_⟩|decide)) ?_
     rintro ⟨w,es,zs⟩ ⟨hw,hes,hz⟩
     obtain ⟨dl,hdl⟩ : ∃ dl,dl=zd6 bk w:=⟨_,rfl⟩
     rw [← hdl] at hes
     have hzl:zs.length=m.W.toNat:=by rw [hz];simp
     by_cases hwl:w < m.W.toNat
     ·(repeat' ((conv=>whnf);first|refine vA ?_|(refine vF ?_ ?_<;>intro hc<;>try simp only [vL] at hc)|refine vJ fun hg=>?_|refine vT ?_));all_goals try conv=>whnf
      ·refine zu (fun ((k,t):Nat×KS)=>[(0,.yld l),(1,.ptr 0 0),(2,.ptr 1 0),(4,.d (dI (ptL m.W.toNat (zah m i)))),(7,.map 3),(8,.own 4),(9,.d (.int .i64 ((w:Int)))),(10,.d (.str t)),(47,.d (.int .i64 ((List.replicate m.W.toNat (D.int .i64 0)).length:Int))),(48,.d (.int .i64 ((w:Int)))),(51,.d (dUU m.rel)),(52,.d (.int .i64 ((m.rel.map dU).length:Int))),(53,.d (.int .i64 ((k:Int))))]) (fun ((k,t):Nat×KS)=>[(0,some (zao m)),(1,some (.box [.d (dUU m.rel)])),(2,some (.todo (some (zed m N (i+1))))),(3,some (.map es)),(4,some (.row 1 zs))]) 5 (fun ((k,t):Nat×KS)=>k≤m.rel.length∧t=zfu ((m.rel.take k).map fun r=>zaG (zah m i) (r.getD w 0#64) m.W.toNat)) (fun ((k,t):Nat×KS)=>m.rel.length - k) ((0,[])) [(0,0),(1,1),(2,2),(3,3),(4,4)] [] (⟨by simp,rfl⟩) (by (refine ⟨rfl,rfl,rfl,?_,?_⟩;repeat' first|exact trivial|exact rfl|refine And.intro ?_ ?_|refine ⟨_,rfl,?_⟩|decide)) ?_
       rintro ⟨k,t⟩ ⟨hk,ht⟩
       by_cases hkl:k < m.rel.length
       ·obtain ⟨r,hr⟩ : ∃ r,m.rel[k]? = some r:=⟨_,List.getElem?_eq_getElem hkl⟩
        have hrl:=hg0.len r (List.mem_of_getElem? hr)
        obtain ⟨s,hs⟩ : ∃ s,r[w]? = some s:=⟨_,List.getElem?_eq_getElem (by omega)⟩
        have hsb:=(ze0 (by omega)).1 (hg0.rel r (List.mem_of_getElem? hr) s (List.mem_of_getElem? hs))
        have hl1:=zrB ((m.rel.take k).map fun r=>zaG (zah m i) (r.getD w 0#64) m.W.toNat)
        have hl2:(zfM (zaG (zah m i) s m.W.toNat)).length≤16:=(ziE 15 _).2
        have hl3:((m.rel.take k).map fun r=>zaG (zah m i) (r.getD w 0#64) m.W.toNat).length≤4:=by rw [List.length_map,List.length_take];omega
        rw [← ht] at hl1
        have hl4:([32]:List UInt8).length=1:=rfl
        (repeat' ((conv=>whnf);first|refine vA ?_|(refine vF ?_ ?_<;>intro hc<;>try simp only [vL] at hc)|refine vT ?_|refine vN ‹_› ?_|((first|refine vO ?_ ?_|refine vP ?_ ?_);·first|omega|(simp only [vM] at *;omega))|refine yD (zsG hT h64 s hsb) ⟨⟨rfl,rfl⟩,⟨rfl,rfl⟩,rfl⟩ rfl ?_|refine yD (hX _) (by (repeat refine ⟨⟨rfl,rfl⟩,?_⟩);rfl) rfl ?_));all_goals try conv=>whnf
        ·refine ⟨(k+1,_),[(0,0),(1,1),(2,2),(3,3),(4,4)],[],?_,?_,by (refine ⟨rfl,rfl,rfl,?_,?_⟩;repeat' first|exact trivial|exact rfl|refine And.intro ?_ ?_|refine ⟨_,rfl,?_⟩|decide)⟩
         ·refine ⟨by (omega),?_⟩
          rw [List.take_add_one,hr,Option.toList_some,List.map_append,List.map_singleton,zvB,← ht,zth hs]
         ·((simp only [vM] at *;omega))
        all_goals (try simp only [List.length_append,hl4])
        all_goals omega
       ·have ek:k=m.rel.length:=by omega
        subst ek
        rw [List.take_length] at ht
        have ht:t=bk w:=by rw [ht,hbk];rfl
        subst ht
        subst hes
        have hfd:=zpR (bk w) dl 0
        have hd64:dl.length≤64:=by rw [hdl];have:=zrE bk w;omega
        by_cases hm:bk w∈dl
        ·rw [if_pos hm,Nat.zero_add] at hfd
         have ea:zd6 bk (w+1)=dl:=by rw [zgr,← hdl];exact if_pos hm
         (repeat' ((conv=>whnf);first|refine vA ?_|refine vE ?_|refine vG ?_|(refine vF ?_ ?_<;>intro hc<;>try simp only [vL] at hc)|refine vT ?_|(refine vQ ?_ fun x hx=>?_;·omega)|((first|refine vO ?_ ?_|refine vP ?_ ?_);·omega)|refine zi3.mk _ ‹_› ?_));all_goals try conv=>whnf
         ·omega
         ·refine ⟨(w+1,_,_),[(0,0),(1,1),(2,2),(3,3),(4,4)],[],?_,?_,by (refine ⟨rfl,rfl,rfl,?_,?_⟩;repeat' first|exact trivial|exact rfl|refine And.intro ?_ ?_|refine ⟨_,rfl,?_⟩|decide)⟩
          ·refine ⟨by (omega),by rw [ea],?_⟩
           rw [hz]
           exact zhz (α:=Nat) (by rw [zdI,ea])
          ·((simp only [vM] at *;omega))
         all_goals omega
        ·rw [if_neg hm] at hfd
         have ea:zd6 bk (w+1)=dl++[bk w]:=by rw [zgr,← hdl];exact if_neg hm
         have eb:zc2 0 (dl++[bk w])=zc2 0 dl++[(.str (bk w),.int .i64 ((zc2 0 dl).length:Int))]:=by rw [zms,zna,Nat.zero_add]
         have ec:(dl++[bk w]).idxOf (bk w)=(zc2 0 dl).length:=by rw [zna,List.idxOf_append,if_neg hm];simp
         have hfn:zZ (zc2 0 dl++[(.str (bk w),.int .i64 ((zc2 0 dl).length:Int))]) (.str (bk w))=some (some (.int .i64 ((zc2 0 dl).length:Int))):=by rw [zfq _ _ _ hfd];simp [zZ,D.eqk,D.same]
         (repeat' ((conv=>whnf);first|refine vA ?_|(refine vF ?_ ?_<;>intro hc<;>try simp only [vL] at hc)|refine vT ?_|(refine vQ ?_ fun x hx=>?_;·omega)|((first|refine vO ?_ ?_|refine vP ?_ ?_);·omega)|refine zi3.mk _ ‹_› ?_));all_goals try conv=>whnf
         ·omega
         ·refine ⟨(w+1,_,_),[(0,0),(1,1),(2,2),(3,3),(4,4)],[],?_,?_,by (refine ⟨rfl,rfl,rfl,?_,?_⟩;repeat' first|exact trivial|exact rfl|refine And.intro ?_ ?_|refine ⟨_,rfl,?_⟩|decide)⟩
          ·refine ⟨by (omega),by rw [ea,eb],?_⟩
           rw [hz]
           exact zhz (α:=Nat) (by rw [zdI,ea,ec])
          ·((simp only [vM] at *;omega))
         all_goals omega
      ·omega
     ·have e0:w=m.W.toNat:=by omega
      obtain rfl:zs=(ptL m.W.toNat (zdI bk)).map (D.int .i64):=by
       rw [hz];unfold ptL;rw [List.map_map]
       exact zL fun u hu=>by rw [if_pos (by omega)];rfl
      have ck:=zvg (T:=T) m h64 i
      rw [← hbk] at ck
      (repeat' ((conv=>whnf);first|refine vA ?_|(refine vF ?_ ?_<;>intro hc<;>try simp only [vL] at hc)|refine vJ fun hg=>?_|refine vT ?_|refine yN ck ⟨⟨rfl,rfl⟩,⟨rfl,rfl⟩,rfl⟩ ?_));all_goals try conv=>whnf
      ·omega
      ·refine ⟨i+1,[(0,0),(1,1),(2,2)],[],?_,?_,by (refine ⟨rfl,rfl,rfl,?_,?_⟩;repeat' first|exact trivial|exact rfl|refine And.intro ?_ ?_|refine ⟨_,rfl,?_⟩|decide)⟩
       ·(omega)
       ·(omega)
    ·have hne:(false || !(zed m N (i+1)).isEmpty)=false:=by rw [zxI (m:=m) (i:=i+1) (by omega)];rfl
     rw [hne]
     trivial
   ·(repeat' ((conv=>whnf);first|refine vH ?_|refine vT ?_));all_goals try conv=>whnf
    right;rfl
end Go.Ab
namespace Go.Ab
open Go Go.Proofs
set_option maxRecDepth 10000
set_option maxHeartbeats 4000000
variable {T:Nat→Obj→Prop}
theorem zub (m:KM) (R:List (List (BitVec 64))):Fn Tryz.prog T zis [.d (dKM m),.d (dUU R)] [] (.fn zdl [.ptr 0 0,.ptr 1 0]) [some (zao m),some (.box [.d (dUU R)])]:=by
 refine zaq zy zo4 (by show 2≤6;decide) _ (fun e env mem n h=>h) ?_
 (repeat' ((conv=>whnf);refine vT ?_));all_goals try conv=>whnf
 exact ⟨trivial,_,[(0,0),(1,1)],[],rfl,.inl (by (repeat' first|exact rfl|refine And.intro ?_ ?_|refine ⟨_,rfl,?_⟩)),⟨rfl,rfl,rfl,trivial,by (repeat' first|exact trivial|exact rfl|refine And.intro ?_ ?_|refine ⟨_,rfl,?_⟩|exact of_decide_eq_true rfl)⟩,trivial⟩
def zf2 (m:KM) (j:Nat):Prop:=ptL m.W.toNat (zah m (j+1))=ptL m.W.toNat (zah m j)
instance (m:KM) (j:Nat):Decidable (zf2 m j):=inferInstanceAs (Decidable (_=_))
def zqw (m:KM):Nat:=zU (fun v _=>decide (zf2 m v)) 65
theorem zx2 {m:KM} {j:Nat} (hj:j < 65) (h:zf2 m j) (hn : ∀ i,i < j → ¬zf2 m i):zqw m=j:=by
 have h1:=ziL (fun v _=>decide (zf2 m v)) 65
 rcases Nat.lt_trichotomy (zqw m) j with hl|hl|hl
 ·exfalso
  rcases h1.1 with ⟨h2,h3⟩|h2
  ·exact hn _ hl (of_decide_eq_true h3)
  ·unfold zqw at hl;omega
 ·exact hl
 ·have:=h1.2 j hl
  simp [h] at this
def zz4 (m:KM):Nat→V
 | 0 => .nils 1
 | k+1 => .d (dI (ptL m.W.toNat (zah m k)))
theorem zy6 {m:KM} {N i:Nat} {x:List D} (h:(zed m N 0)[i]? = some x):x=[dI (ptL m.W.toNat (zah m i))]∧i≤N:=by
 unfold zed at h
 rw [List.drop_zero,List.getElem?_map,Option.map_eq_some_iff] at h
 obtain ⟨j,hj,rfl⟩:=h
 have hi:=(List.getElem?_eq_some_iff.1 hj).1
 rw [List.length_range] at hi
 rw [List.getElem?_range hi] at hj
 cases hj
 exact ⟨rfl,by omega⟩
theorem zxJ (m:KM) (N:Nat):(zed m N 0).length=N+1:=by simp [zed]
theorem zuc (hT:zbP T) (hX:zfd T) {m:KM} (hk0:za m=0):Fn Tryz.prog T zit [.d (dKM m),.d (dUU m.rel)] [] (.d (.tup [dI (ptL m.W.toNat (cq m)),.int .i64 (zqw m:Int)])) []:=by
 have hg0:=zq hk0
 have w1:=hg0.w1
 have w2:=hg0.w2
 refine zj zy zo5 (by show 2≤21;decide) ?_
 (repeat' ((conv=>whnf);first|refine vA ?_|refine vT ?_));all_goals try conv=>whnf
 refine zan.res (zub m m.rel) (by (repeat refine ⟨⟨rfl,rfl⟩,?_⟩);rfl) ?_
 (repeat' ((conv=>whnf);refine vT ?_));all_goals try conv=>whnf
 refine zuA (zvy hT hX hk0 (m.W.toNat+1)) [3,4] [] (by first|((repeat refine ⟨⟨rfl,rfl⟩,?_⟩);rfl)|(repeat' first|exact rfl|refine And.intro ?_ ?_|refine ⟨_,rfl,?_⟩)) (by (repeat' first|exact rfl|refine And.intro ?_ ?_|refine ⟨_,rfl,?_⟩)) (by rfl) (by rfl) [(6,.ptr 0 0),(7,.ptr 1 0)] (fun ((a,c):Nat×Int)=>[(0,some (.box [zz4 m a])),(1,some (.box [.d (.int .i64 c)]))]) 2 (fun i ((a,c):Nat×Int)=>a=i∧c=(i:Int) - 1 ∧ ∀ j,j+1 < i → ¬zf2 m j) ((0,-1)) [(0,1),(1,2)] [] (⟨rfl,rfl,fun j hj=>by omega⟩) (by (refine ⟨rfl,rfl,rfl,?_,?_⟩;repeat' first|exact trivial|exact rfl|refine And.intro ?_ ?_|refine ⟨_,rfl,?_⟩|decide)) ?_ ?_
 ·rintro i x ⟨a,c⟩ hx ⟨rfl,hcc,hJ⟩
  obtain ⟨rfl,hi⟩:=zy6 hx
  refine ⟨rfl,?_⟩
  cases a with
  | zero =>
   have ce:=zkH (T:=T) (ptL m.W.toNat (zah m 0)) []
   rw [show (ptL m.W.toNat (zah m 0)==[])=false by
    rw [beq_eq_false_iff_ne];intro e;have:=congrArg List.length e;rw [zbq] at this;simp at this;omega] at ce
   (repeat' ((conv=>whnf);first|refine vA ?_|refine vH ?_|refine vT ?_|(refine vO ?_ ?_;·omega)|refine yD ce ⟨⟨rfl,rfl⟩,⟨rfl,rfl⟩,rfl⟩ rfl ?_));all_goals try conv=>whnf
   ·exact ⟨(0+1,c+1),[(0,0),(1,1)],[],⟨rfl,by omega,fun j hj=>by omega⟩,by (refine ⟨rfl,rfl,rfl,?_,?_⟩;repeat' first|exact trivial|exact rfl|refine And.intro ?_ ?_|refine ⟨_,rfl,?_⟩|decide)⟩
   all_goals omega
  | succ k =>
   (repeat' ((conv=>whnf);first|refine vA ?_|(refine vI ?_ ?_<;>intro hc)|refine vT ?_|(refine vO ?_ ?_;·omega)|(refine vU ?_ ?_;·kernel_rfl)|refine yD (zkH _ _) ⟨⟨rfl,rfl⟩,⟨rfl,rfl⟩,rfl⟩ rfl ?_));all_goals try conv=>whnf
   ·show some (D.tup [dI (ptL m.W.toNat (zah m k)),.int .i64 c])=_
    have hs:zf2 m k:=by simpa [zf2] using hc
    have hk:=zx2 (m:=m) (j:=k) (by omega) hs (fun i hi=>hJ i (by omega))
    rw [zs9 (m:=m) (k:=k) (by omega) hs,hk,show c=(k:Int) by omega]
   ·have hs : ¬zf2 m k:=by simpa [zf2] using hc
    exact ⟨(k+1+1,c+1),[(0,0),(1,1)],[],⟨rfl,by omega,fun j hj=>by
     by_cases e:j=k
     ·subst e;exact hs
     ·exact hJ j (by omega)⟩,by (refine ⟨rfl,rfl,rfl,?_,?_⟩;repeat' first|exact trivial|exact rfl|refine And.intro ?_ ?_|refine ⟨_,rfl,?_⟩|decide)⟩
   all_goals omega
 ·rintro ⟨a,c⟩ ⟨rfl,hcc,hJ⟩
  rw [zxJ] at hJ
  have:=zyE (m:=m) (k:=m.W.toNat+1) fun j hj=>hJ j (by omega)
  omega
def zfi (m:KM):List Int×Int:=if za m≠0 then ([],za m) else (ptL m.W.toNat (cq m),0)
abbrev dLI (x:List Int×Int):D := .tup [dI x.1,.int .i64 x.2]
theorem zkJ (hT:zbP T) (hX:zfd T) (m:KM):Fn Tryz.prog T zdk [.d (dKM m)] [] (.d (dLI (zfi m))) []:=by
 refine zj zy zm0 (by show 1≤20;decide) ?_
 by_cases hk0:za m=0
 ·have cs:=zuc (T:=T) hT hX hk0
  (repeat' ((conv=>whnf);first|refine vA ?_|(refine vD ?_ ?_<;>intro hc)|refine vT ?_|refine yD (zar m) ⟨⟨rfl,rfl⟩,rfl⟩ rfl ?_|refine yN cs ⟨⟨rfl,rfl⟩,⟨rfl,rfl⟩,rfl⟩ ?_));all_goals try conv=>whnf
  ·exact absurd hk0 (by omega)
  ·rw [zfi,if_neg (by omega)];rfl
 ·(repeat' ((conv=>whnf);first|refine vA ?_|(refine vD ?_ ?_<;>intro hc)|refine vT ?_|refine yD (zar m) ⟨⟨rfl,rfl⟩,rfl⟩ rfl ?_));all_goals try conv=>whnf
  ·rw [zfi,if_pos hk0];rfl
  ·exact absurd ‹za m=0› hk0
end Go.Ab
namespace Go.Ab
open Go Go.Proofs
set_option maxRecDepth 10000
set_option maxHeartbeats 4000000
variable {T:Nat→Obj→Prop}
theorem zvd (l:List Int) (h:l≠[]) (hl:l.length≤1000):Fn Tryz.prog T zb2 [.d (dI l)] [] (.own 0) [some (.row 1 (l.map (D.int .i64)))]:=by
 refine zaq zy zhq (by show 1≤8;decide) _ (fun e env mem n h=>h) ?_
 (repeat' ((conv=>whnf);first|refine vA ?_|refine vB fun b hb=>?_|refine vE ?_|(refine vF ?_ ?_<;>intro hc)|refine vT ?_|(refine vP ?_ ?_;·(simp only [vM] at *;omega))|fail));all_goals try conv=>whnf
 ·refine ⟨trivial,_,[(0,1)],[],rfl,.inl (by (repeat' exact rfl)),⟨by rfl,by rfl,by rfl,trivial,by (repeat' first|exact trivial|exact rfl|refine And.intro ?_ ?_|refine ⟨_,rfl,?_⟩|exact of_decide_eq_true rfl)⟩,by (repeat' exact trivial)⟩
 ·exact absurd (List.map_eq_nil_iff.1 (hb (by simpa using hc))) h
theorem zx1 {n:Nat} {q:Nat→Nat} (hq:zaK n q):zeX (ptL n q)=(zaV n q).map fun (x:Nat)=>(x:Int):=by
 have hs:((zaV n q).map fun (x:Nat)=>(x:Int)).Pairwise (· < ·):=by
  rw [List.pairwise_map]
  refine List.Pairwise.imp (R:=(· < ·)) (fun h=>by omega) (List.Pairwise.filter _ List.pairwise_lt_range)
 have hn:(zeX (ptL n q)).Nodup:=(zb7 _).nodup_iff.2 (zcy _)
 refine zdB (zep _) (hs.imp fun h=>Int.le_of_lt h) (zfy hn (hs.imp fun h e=>by subst e;omega) fun x=>?_)
 rw [zjA]
 unfold ptL zaV
 simp only [List.mem_map,List.mem_filter,List.mem_range,decide_eq_true_eq]
 constructor
 ·rintro ⟨w,hw,rfl⟩
  have:=hq.le w hw
  exact ⟨q w,⟨by omega,hq.idem w hw⟩,rfl⟩
 ·rintro ⟨w,⟨hw,e⟩,rfl⟩
  exact ⟨w,hw,by rw [e]⟩
theorem zvh {n:Nat} {q:Nat→Nat} (hq:zaK n q) (h0:0 < n) (h12:n≤12):Fn Tryz.prog T zgK [.d (dI (ptL n q))] [] (.d (dN (zaV n q))) []:=by
 have hl:(ptL n q).length=n:=zbq
 have c0:=zvd (T:=T) (ptL n q) (fun e=>by rw [e] at hl;simp at hl;omega) (by omega)
 have c1:=zmh (T:=T) (ptL n q).toArray (by simp;omega)
 rw [show zbD (Sort.sort ltI (ptL n q).toArray) = .row 1 ((zbs (ptL n q)).map (D.int .i64)) by rw [zbD,zoC]] at c1
 have hsl:(zbs (ptL n q)).length=n:=by rw [(zb7 _).length_eq,hl]
 have c2:=zri (T:=T) (zbs (ptL n q)).toArray (by simp;omega)
 rw [zu7,zx1 hq] at c2
 refine zj zy zl3 (by show 1≤10;decide) ?_
 (repeat' ((conv=>whnf);refine vT ?_));all_goals try conv=>whnf
 refine zan.res (c0) (by (repeat refine ⟨⟨rfl,rfl⟩,?_⟩);rfl) ?_
 (repeat' ((conv=>whnf);refine vT ?_));all_goals try conv=>whnf
 refine zan.objs [0] (c1) (by (repeat' first|exact rfl|refine And.intro ?_ ?_|refine ⟨_,rfl,?_⟩)) (by (repeat' first|exact rfl|refine And.intro ?_ ?_)) (by rfl) (by rfl) (by simp) ?_
 (repeat' ((conv=>whnf);refine vT ?_));all_goals try conv=>whnf
 refine zan.objs [0] (c2) (by (repeat' first|exact rfl|refine And.intro ?_ ?_|refine ⟨_,rfl,?_⟩)) (by (repeat' first|exact rfl|refine And.intro ?_ ?_)) (by rfl) (by rfl) (by simp) ?_
 (repeat' ((conv=>whnf);refine vT ?_));all_goals try conv=>whnf
 rfl
theorem zn0 (s:BitVec 64) {n:Nat} {k:Nat→Nat} (hk : ∀ w,w < n→k w < 64):Fn Tryz.prog T zgL [.d (.u64 s),.d (dI (ptL n k))] [] (.d (.u64 (zaG k s n))) []:=by
 have hl:(ptL n k).length=n:=zbq
 refine zj zy zl4 (by show 2≤26;decide) ?_
 (repeat' ((conv=>whnf);first|refine vA ?_|refine vJ fun hg=>?_|refine vT ?_));all_goals try conv=>whnf
 refine zaH (fun ((j,o):Nat×BitVec 64)=>[(0,.d (.u64 (s))),(5,.d (.u64 (o))),(8,.d (dI (ptL n k))),(9,.d (.int .i64 (((ptL n k).map (D.int .i64)).length:Int))),(10,.d (.int .i64 ((j:Int))))]) (fun ((j,o):Nat×BitVec 64)=>j≤n∧o=zaG k s j) (fun ((j,o):Nat×BitVec 64)=>n - j) ((0,0#64)) (⟨by simp,rfl⟩) (by (repeat' first|exact trivial|exact rfl|refine And.intro ?_ ?_)) ?_
 rintro ⟨j,o⟩ ⟨hj,ho⟩
 by_cases hjl:j < n
 ·have e1:=za0 (q:=k) hjl
  (repeat' ((conv=>whnf);first|refine vA ?_|(refine vF ?_ ?_<;>intro hc<;>try simp only [vL] at hc)|refine vT ?_|refine vN ‹_› ?_|((first|refine vO ?_ ?_|refine vP ?_ ?_);·omega)|refine vY ?_));all_goals try conv=>whnf
  ·refine ⟨(j+1,_),[],[],?_,?_,by (refine ⟨rfl,rfl,rfl,?_,?_⟩;repeat' first|exact trivial|exact rfl|refine And.intro ?_ ?_)⟩
   ·exact ⟨by (omega),by rw [zgf,if_pos ((ze1 s j).1 ‹_›),ho];rfl⟩
   ·((simp only [vM] at *;omega))
  ·refine ⟨(j+1,o),[],[],?_,?_,by (refine ⟨rfl,rfl,rfl,?_,?_⟩;repeat' first|exact trivial|exact rfl|refine And.intro ?_ ?_)⟩
   ·refine ⟨by (omega),?_⟩
    rw [zgf,if_neg,ho]
    intro h
    exact absurd ((ze1 s j).2 h) ‹_›
   ·((simp only [vM] at *;omega))
  all_goals omega
 ·(repeat' ((conv=>whnf);first|refine vA ?_|(refine vF ?_ ?_<;>intro hc<;>try simp only [vL] at hc)|refine vT ?_|(refine vQ ?_ fun x hx=>?_;·omega)|((first|refine vO ?_ ?_|refine vP ?_ ?_);·omega)|refine vY ?_));all_goals try conv=>whnf
  all_goals try omega
  rw [ho,show j=n by omega]
theorem zyM {n:Nat} {q:Nat→Nat} (hq:zaK n q) {w:Nat} (hw:w < n):zeM (fun y=>((q w:Nat):Int)==y) ((zaV n q).map fun (x:Nat)=>(x:Int))=((zN q w:Nat):Int):=by
 have h1:=zfV hq hw
 refine zgo (by rw [List.getElem?_map,h1];rfl) (by simp) fun i y hi hy=>?_
 rw [List.getElem?_map,Option.map_eq_some_iff] at hy
 obtain ⟨u,hu,rfl⟩:=hy
 have hnd:(zaV n q).Nodup:=List.Nodup.sublist List.filter_sublist List.nodup_range
 rw [beq_eq_false_iff_ne]
 intro e
 have e:q w=u:=by omega
 subst e
 obtain ⟨a1,a2⟩:=List.getElem?_eq_some_iff.1 h1
 obtain ⟨b1,b2⟩:=List.getElem?_eq_some_iff.1 hu
 have:=(List.getElem_inj hnd).1 (a2.trans b2.symm)
 omega
abbrev byQ (p:List Int):Nat→Nat:=fun w=>(at0 p w).toNat
def byF (m:KM) (q:Nat→Nat) (w:Nat):Bool:=decide (zz m w=zz m (q w))
def byL (m:KM) (p:List Int):KM×List Int×Int :=
 if za m≠0 then (zbb,[],za m) else if zbL p≠0 then (zbb,[],zbL p) else if (p.length:Int)≠m.W then (zbb,[],3) else
  if (List.range m.W.toNat).all (byF m (byQ p))=true then (zbg m (byQ p),ptL m.W.toNat (zN (byQ p)),0) else (zbb,[],1)
abbrev zt0 (x:KM×List Int×Int):D := .tup [dKM x.1,dI x.2.1,.int .i64 x.2.2]
theorem zyp {n k:Nat} {f:Nat→Bool} (hk:k < n) (h:f k=false) : ¬(List.range n).all f=true:=fun e=>by
 rw [List.all_eq_true] at e
 rw [e k (List.mem_range.2 hk)] at h;cases h
theorem zqH {n:Nat} {f:Nat→Bool} (h : ∀ i,i < n→f i=true):(List.range n).all f=true:=List.all_eq_true.2 fun i hi=>h i (List.mem_range.1 hi)
theorem zuQ {q:Nat→Nat} {n:Nat} {r:List (BitVec 64)} {k i:Nat} : zdT q n r (k+1) i=if zN q k=i then zdT q n r k i|||zaG (zN q) (r.getD k 0#64) n else zdT q n r k i:=rfl
def byR (m:KM) (q:Nat→Nat):KM×List Int×Int:=if (List.range m.W.toNat).all (byF m q)=true then (zbg m q,ptL m.W.toNat (zN q),0) else (zbb,[],1)
theorem zvc {m:KM} (hk0:za m=0) (h12:m.W≤12) {q:Nat→Nat} (hq:zaK m.W.toNat q):Fn Tryz.prog T zdv [.d (dKM m),.d (dI (ptL m.W.toNat q))] [] (.d (zt0 (byR m q))) []:=by
 have hg0:=zq hk0
 have w1:=hg0.w1
 have n4:=hg0.n4
 have v8:=hg0.v8
 have hp0:zbL (ptL m.W.toNat q)=0:=zma hq (by omega)
 refine zj zy zj0 (by show 2≤134;decide) ?_
 have hlen:((ptL m.W.toNat q).length:Int)=m.W:=by rw [zbq];omega
 have e0:byR m q=if (List.range m.W.toNat).all (byF m q)=true then (zbg m q,ptL m.W.toNat (zN q),0) else (zbb,[],1):=rfl
 obtain ⟨n,hn⟩ : ∃ n,n=m.W.toNat:=⟨_,rfl⟩
 rw [← hn] at hq hp0 hlen e0 ⊢
 have hpl:(ptL n q).length=n:=zbq
 have hcn:=zcX n q
 have h64 : ∀ w,w < n→zN q w < 64:=fun w hw=>by have:=zfW hq hw;omega
 have clo:=zvh (T:=T) hq (by omega) (by omega)
 (repeat' ((conv=>whnf);first|refine vA ?_|(refine vD ?_ ?_<;>intro hc<;>try simp only [vL] at hc)|refine vJ fun hg=>?_|refine vT ?_|refine yD (zar m) ⟨⟨rfl,rfl⟩,rfl⟩ rfl ?_|refine yD (zgQ _) ⟨⟨rfl,rfl⟩,rfl⟩ rfl ?_));all_goals try conv=>whnf
 iterate 3 (exact absurd ‹_≠_› (by first|exact not_not_intro hk0|exact not_not_intro hp0|exact not_not_intro hlen))
 refine zu (fun (w:Nat)=>[(1,.d (dI (ptL n q))),(2,.ptr 0 0),(4,.ptr 1 0),(41,.d (dI (ptL n q))),(42,.d (.int .i64 (((ptL n q).map (D.int .i64)).length:Int))),(43,.d (.int .i64 ((w:Int))))]) (fun (w:Nat)=>[(0,some (zao m)),(1,some (.box [.d (.int .i64 0),.nils 1,.nils 1]))]) 2 (fun (w:Nat)=>w≤n ∧ ∀ u,u < w→byF m q u=true) (fun (w:Nat)=>n - w) (0) [(0,0),(1,1)] [] (⟨by omega,fun u hu=>by omega⟩) (by (refine ⟨rfl,rfl,rfl,?_,?_⟩;repeat' first|exact trivial|exact rfl|refine And.intro ?_ ?_|refine ⟨_,rfl,?_⟩|decide)) ?_
 rintro w ⟨hw,hI⟩
 by_cases hwl:w < n
 ·have e1:=za0 (q:=q) hwl
  have hqw:=hq.le w hwl
  have cf1:=zd2 (T:=T) m (w:Int)
  have cf2:=zd2 (T:=T) m ((q w:Nat):Int)
  rw [ziw hk0 (by omega)] at cf1 cf2
  (repeat' ((conv=>whnf);first|refine vA ?_|((first|refine vD ?_ ?_|refine vF ?_ ?_)<;>intro hc<;>try simp only [vL] at hc)|refine vT ?_|refine vN ‹_› ?_|(refine vO ?_ ?_;·omega)|(refine vU ?_ ?_;·kernel_rfl)|refine yD cf1 ⟨⟨rfl,rfl⟩,⟨rfl,rfl⟩,rfl⟩ rfl ?_|refine yD cf2 ⟨⟨rfl,rfl⟩,⟨rfl,rfl⟩,rfl⟩ rfl ?_));all_goals try conv=>whnf
  ·rw [e0,if_neg (zyp hwl (by unfold byF;rw [decide_eq_false_iff_not];assumption))];rfl
  ·exact ⟨w+1,[(0,0),(1,1)],[],⟨by (omega),fun u hu=>by
    by_cases e:u=w
    ·subst e;unfold byF;rw [decide_eq_true_eq];assumption
    ·exact hI u (by omega)⟩,by (omega),by (refine ⟨rfl,rfl,rfl,?_,?_⟩;repeat' first|exact trivial|exact rfl|refine And.intro ?_ ?_|refine ⟨_,rfl,?_⟩|decide)⟩
  all_goals omega
 ·have hfa:ztI m q:=fun w hw=>by
   have:=hI w (by omega)
   simpa [byF] using this
  have e0:byR m q=(zbg m q,ptL n (zN q),0):=by rw [e0,if_pos (zqH fun u hu=>hI u (by omega))]
  have hrl':zfQ (zaV n q)=zx n q:=zo8 _
  (repeat' ((conv=>whnf);first|refine vA ?_|(refine vF ?_ ?_<;>intro hc<;>try simp only [vL] at hc)|refine vJ fun hg=>?_|refine vT ?_|(refine vQ ?_ fun x hx=>?_;·omega)|(refine vP ?_ ?_;·(simp only [vM] at *;omega))|refine yN clo ⟨⟨rfl,rfl⟩,rfl⟩ ?_));all_goals try conv=>whnf
  ·omega
  refine zu (fun ((w,zs):Nat×List D)=>[(2,.ptr 0 0),(4,.ptr 1 0),(11,.d (dN (zaV n q))),(12,.own 2),(62,.d (dI (ptL n q))),(63,.d (.int .i64 (((ptL n q).map (D.int .i64)).length:Int))),(64,.d (.int .i64 ((w:Int))))]) (fun ((w,zs):Nat×List D)=>[(0,some (zao m)),(1,some (.box [.d (.int .i64 0),.nils 1,.nils 1])),(2,some (.row 1 zs))]) 3 (fun ((w,zs):Nat×List D)=>w≤n∧zs=(List.range n).map fun u=>if u < w then D.int .i64 (zN q u:Int) else D.int .i64 0) (fun ((w,zs):Nat×List D)=>n - w) ((0,List.replicate ((((ptL n q).map (D.int .i64)).length:Int)).toNat (D.int .i64 0))) [(0,0),(1,1),(2,2)] [] (⟨by omega,by simp only [Nat.not_lt_zero,if_false];rw [List.length_map,hpl,Int.toNat_natCast];exact zaa _ _⟩) (by (refine ⟨rfl,rfl,rfl,?_,?_⟩;repeat' first|exact trivial|exact rfl|refine And.intro ?_ ?_|refine ⟨_,rfl,?_⟩|decide)) ?_
  rintro ⟨w,zs⟩ ⟨hw,hz⟩
  have hzl:zs.length=n:=by rw [hz];simp
  by_cases hwl:w < n
  ·have e1:=za0 (q:=q) hwl
   have cix:=zhl (T:=T) ((zaV n q).map fun (x:Nat)=>(x:Int)) ((q w:Nat):Int)
   rw [zyM hq hwl] at cix
   (repeat' ((conv=>whnf);first|refine vA ?_|(refine vF ?_ ?_<;>intro hc<;>try simp only [vL] at hc)|refine vJ fun hg=>?_|refine vT ?_|refine vN ‹_› ?_|((first|refine vO ?_ ?_|refine vP ?_ ?_);·omega)|refine yD cix ⟨⟨rfl,rfl⟩,⟨rfl,rfl⟩,rfl⟩ rfl ?_));all_goals try conv=>whnf
   ·refine ⟨(w+1,_),[(0,0),(1,1),(2,2)],[],?_,?_,by (refine ⟨rfl,rfl,rfl,?_,?_⟩;repeat' first|exact trivial|exact rfl|refine And.intro ?_ ?_|refine ⟨_,rfl,?_⟩|decide)⟩
    ·exact ⟨by (omega),by rw [hz];exact zhz (α:=Nat) rfl⟩
    ·((simp only [vM] at *;omega))
   all_goals omega
  ·obtain rfl:zs=(ptL n (zN q)).map (D.int .i64):=by
    rw [hz];unfold ptL;rw [List.map_map]
    exact zL fun u hu=>by rw [if_pos (by omega)];rfl
   have hml:(ptL n (zN q)).length=n:=zbq
   (repeat' ((conv=>whnf);first|refine vA ?_|(refine vF ?_ ?_<;>intro hc<;>try simp only [vL] at hc)|refine vJ fun hg=>?_|refine vT ?_|(refine vQ ?_ fun x hx=>?_;·omega)|fail));all_goals try conv=>whnf
   ·omega
   refine zu (fun ((k,zs):Nat×List D)=>[(2,.ptr 0 0),(4,.ptr 1 0),(11,.d (dN (zaV n q))),(12,.own 2),(15,.ptr 3 0),(80,.d (dU m.val)),(81,.d (.int .i64 ((m.val.map D.u64).length:Int))),(82,.d (.int .i64 ((k:Int))))]) (fun ((k,zs):Nat×List D)=>[(0,some (zao m)),(1,some (.box [.d (.int .i64 0),.nils 1,.nils 1])),(2,some (.row 1 ((ptL n (zN q)).map (D.int .i64)))),(3,some (.box [.d (.int .i64 (zfQ (zaV n q):Int)),.own 4,.nils 1])),(4,some (.row 1 zs))]) 5 (fun ((k,zs):Nat×List D)=>k≤m.val.length∧zs=(m.val.take k).map fun s=>D.u64 (zaG (zN q) s n)) (fun ((k,zs):Nat×List D)=>m.val.length - k) ((0,[])) [(0,0),(1,1),(2,2),(3,3)]   [4] (⟨by simp,by simp⟩) (by (refine ⟨rfl,rfl,rfl,?_,?_⟩;repeat' first|exact trivial|exact rfl|exact ⟨_,rfl⟩|refine And.intro ?_ ?_|refine ⟨_,rfl,?_⟩|decide)) ?_
   rintro ⟨k,zs⟩ ⟨hk,hz⟩
   have hzl:zs.length≤8:=by rw [hz];simp;omega
   by_cases hkl:k < m.val.length
   ·obtain ⟨s,hs⟩ : ∃ s,m.val[k]? = some s:=⟨_,List.getElem?_eq_getElem hkl⟩
    (repeat' ((conv=>whnf);first|refine vA ?_|(refine vF ?_ ?_<;>intro hc<;>try simp only [vL] at hc)|refine vJ fun hg=>?_|refine vT ?_|refine vN ‹_› ?_|((first|refine vO ?_ ?_|refine vP ?_ ?_);·first|omega|(simp only [vM] at *;omega))|(refine vU ?_ ?_;·kernel_rfl)|refine yD (zn0 s h64) ⟨⟨rfl,rfl⟩,⟨rfl,rfl⟩,rfl⟩ rfl ?_));all_goals try conv=>whnf
    ·refine ⟨(k+1,_),[(0,0),(1,1),(2,2),(3,3),(4,6)],[],?_,?_,by (refine ⟨rfl,rfl,rfl,?_,?_⟩;repeat' first|exact trivial|exact rfl|refine And.intro ?_ ?_|refine ⟨_,rfl,?_⟩|decide)⟩
     ·exact ⟨by omega,by rw [List.take_add_one,hs,hz];simp⟩
     ·((simp only [vM] at *;omega))
    all_goals omega
   ·have hzz:zs=m.val.map fun s=>D.u64 (zaG (zN q) s n):=by rw [hz,List.take_of_length_le (by omega)]
    clear hz
    subst hzz
    (repeat' ((conv=>whnf);first|refine vA ?_|(refine vF ?_ ?_<;>intro hc<;>try simp only [vL] at hc)|refine vJ fun hg=>?_|refine vT ?_|(refine vQ ?_ fun x hx=>?_;·omega)|fail));all_goals try conv=>whnf
    ·omega
    refine zu (fun ((k,zs):Nat×List D)=>[(4,.ptr 1 0),(11,.d (dN (zaV n q))),(12,.own 2),(15,.ptr 3 0),(96,.d (dUU m.rel)),(97,.d (.int .i64 ((m.rel.map dU).length:Int))),(98,.d (.int .i64 ((k:Int))))]) (fun ((k,zs):Nat×List D)=>[(1,some (.box [.d (.int .i64 0),.nils 1,.nils 1])),(2,some (.row 1 ((ptL n (zN q)).map (D.int .i64)))),(3,some (.box [.d (.int .i64 (zfQ (zaV n q):Int)),.own 4,.own 5])),(4,some (.row 1 (m.val.map fun s=>D.u64 (zaG (zN q) s n)))),(5,some (.row 1 zs))]) 6 (fun ((k,zs):Nat×List D)=>k≤m.rel.length∧zs=(m.rel.take k).map fun r=>dU ((List.range (zx n q)).map (zdT q n r n))) (fun ((k,zs):Nat×List D)=>m.rel.length - k) ((0,[])) [(1,1),(2,2),(3,3),(4,4)]   [5] (⟨by simp,by simp⟩) (by (refine ⟨rfl,rfl,rfl,?_,?_⟩;repeat' first|exact trivial|exact rfl|exact ⟨_,rfl⟩|refine And.intro ?_ ?_|refine ⟨_,rfl,?_⟩|decide)) ?_
    rintro ⟨k,zs⟩ ⟨hk,hz⟩
    have hzl:zs.length≤4:=by rw [hz];simp;omega
    by_cases hkl:k < m.rel.length
    ·obtain ⟨r,hr⟩ : ∃ r,m.rel[k]? = some r:=⟨_,List.getElem?_eq_getElem hkl⟩
     have hrl:r.length=n:=by have:=hg0.len r (List.mem_of_getElem? hr);omega
     (repeat' ((conv=>whnf);first|refine vA ?_|(refine vF ?_ ?_<;>intro hc<;>try simp only [vL] at hc)|refine vJ fun hg=>?_|refine vT ?_|refine vN ‹_› ?_|(refine vP ?_ ?_;·(simp only [vM] at *;omega))|fail));all_goals try conv=>whnf
     ·refine zu (fun ((w,ys):Nat×List D)=>[(4,.ptr 1 0),(11,.d (dN (zaV n q))),(12,.own 2),(15,.ptr 3 0),(20,.own 6),(96,.d (dUU m.rel)),(97,.d (.int .i64 ((m.rel.map dU).length:Int))),(98,.d (.int .i64 ((k:Int)))),(105,.d (dU r)),(106,.d (.int .i64 ((r.map D.u64).length:Int))),(107,.d (.int .i64 ((w:Int))))]) (fun ((w,ys):Nat×List D)=>[(1,some (.box [.d (.int .i64 0),.nils 1,.nils 1])),(2,some (.row 1 ((ptL n (zN q)).map (D.int .i64)))),(3,some (.box [.d (.int .i64 (zfQ (zaV n q):Int)),.own 4,.own 5])),(4,some (.row 1 (m.val.map fun s=>D.u64 (zaG (zN q) s n)))),(5,some (.row 1 zs)),(6,some (.row 1 ys))]) 7 (fun ((w,ys):Nat×List D)=>w≤n∧ys=(List.range (zx n q)).map fun i=>D.u64 (zdT q n r w i)) (fun ((w,ys):Nat×List D)=>n - w) ((0,List.replicate ((zfQ (zaV n q):Int)).toNat (D.u64 0))) [(1,1),(2,2),(3,3),(4,4),(5,5),(6,6)] [] (⟨by omega,by rw [hrl',Int.toNat_natCast];exact zaa _ _⟩) (by (refine ⟨rfl,rfl,rfl,?_,?_⟩;repeat' first|exact trivial|exact rfl|refine And.intro ?_ ?_|refine ⟨_,rfl,?_⟩|decide)) ?_
      rintro ⟨w,ys⟩ ⟨hw,hy⟩
      have hrl2:(List.range (zx n q)).length=zx n q:=List.length_range
      subst hy
      by_cases hwl:w < n
      ·obtain ⟨s,hs⟩ : ∃ s,r[w]? = some s:=⟨_,List.getElem?_eq_getElem (by omega)⟩
       have e1:=za0 (q:=zN q) hwl
       have hnl:=zfW hq hwl
       have e2:(List.range (zx n q))[zN q w]? = some (zN q w):=List.getElem?_range hnl
       (repeat' ((conv=>whnf);first|refine vA ?_|(refine vF ?_ ?_<;>intro hc<;>try simp only [vL] at hc)|refine vT ?_|refine vN ‹_› ?_|((first|refine vO ?_ ?_|refine vP ?_ ?_);·first|omega|(simp only [vM] at *;omega))|(refine vU ?_ ?_;·kernel_rfl)|refine yD (zn0 s h64) ⟨⟨rfl,rfl⟩,⟨rfl,rfl⟩,rfl⟩ rfl ?_));all_goals try conv=>whnf
       ·refine ⟨(w+1,_),[(1,1),(2,2),(3,3),(4,4),(5,5),(6,6)],[],?_,?_,by (refine ⟨rfl,rfl,rfl,?_,?_⟩;repeat' first|exact trivial|exact rfl|refine And.intro ?_ ?_|refine ⟨_,rfl,?_⟩|decide)⟩
        ·refine ⟨by (omega),?_⟩
         refine (zef _).trans (zL fun u hu=>?_)
         rw [zuQ,zth hs,Int.toNat_natCast]
         by_cases e:u=zN q w
         ·subst e;rw [if_pos rfl,if_pos rfl]
         ·rw [if_neg e,if_neg (fun h=>e h.symm)]
        ·((simp only [vM] at *;omega))
       all_goals omega
      ·rw [show ((List.range (zx n q)).map fun i=>D.u64 (zdT q n r w i))=((List.range (zx n q)).map (zdT q n r n)).map D.u64 by rw [show w=n by omega,List.map_map];rfl]
       (repeat' ((conv=>whnf);first|refine vA ?_|(refine vF ?_ ?_<;>intro hc<;>try simp only [vL] at hc)|refine vT ?_|(refine vQ ?_ fun x hx=>?_;·omega)|((first|refine vO ?_ ?_|refine vP ?_ ?_);·first|omega|(simp only [vM] at *;omega))|fail));all_goals try conv=>whnf
       ·omega
       ·refine ⟨(k+1,_),[(1,1),(2,2),(3,3),(4,4),(5,8)],[],?_,?_,by (refine ⟨rfl,rfl,rfl,?_,?_⟩;repeat' first|exact trivial|exact rfl|refine And.intro ?_ ?_|refine ⟨_,rfl,?_⟩|decide)⟩
        ·refine ⟨by omega,?_⟩
         rw [List.take_add_one,hr,hz];simp
        ·((simp only [vM] at *;omega))
       all_goals omega
     all_goals omega
    ·have hzz:zs=m.rel.map fun r=>dU ((List.range (zx n q)).map (zdT q n r n)):=by rw [hz,List.take_of_length_le (by omega)]
     subst hzz
     (repeat' ((conv=>whnf);first|refine vA ?_|(refine vF ?_ ?_<;>intro hc<;>try simp only [vL] at hc)|refine vJ fun hg=>?_|refine vT ?_|(refine vQ ?_ fun x hx=>?_;·omega)|(refine vP ?_ ?_;·omega)|fail));all_goals try conv=>whnf
     ·omega
     ·rw [e0]
      refine congrArg some (show D.tup [D.agg [.int .i64 (zfQ (zaV n q):Int),.arr 1 (m.val.map fun s=>D.u64 (zaG (zN q) s n)),.arr 1 (m.rel.map fun r=>dU ((List.range (zx n q)).map (zdT q n r n)))],dI (ptL n (zN q)),.int .i64 0]=D.tup [dKM (zbg m q),dI (ptL n (zN q)),.int .i64 0] from ?_)
      have f1:(m.val.map fun s=>zaG (zN q) s n)=(zbg m q).val:=by
       rw [hn] at hq ⊢
       exact List.map_congr_left fun s hs=>zy3 hq (by omega) hfa hs
      have f2:(m.rel.map fun r=>(List.range (zx n q)).map (zdT q n r n))=(zbg m q).rel:=by
       rw [hn] at hq ⊢
       exact List.map_congr_left fun r _=>List.map_congr_left fun i _=>zy2 hq (by omega) r i
      rw [hrl',show (m.val.map fun s=>D.u64 (zaG (zN q) s n))=(zbg m q).val.map D.u64 by rw [← f1,List.map_map];rfl,show (m.rel.map fun r=>dU ((List.range (zx n q)).map (zdT q n r n)))=(zbg m q).rel.map dU by rw [← f2,List.map_map];rfl,hn]
      rfl
theorem zz1 (m:KM) (p:List Int) (h12:za m=0→m.W≤12):Fn Tryz.prog T zdv [.d (dKM m),.d (dI p)] [] (.d (zt0 (byL m p))) []:=by
 by_cases hall:za m=0∧zbL p=0∧(p.length:Int)=m.W
 ·obtain ⟨hk0,hp0,hlen⟩:=hall
  obtain ⟨hp64,hq,hpe⟩:=zsQ hp0
  have hpn:p.length=m.W.toNat:=by omega
  rw [hpn] at hq hpe
  have:=zvc (T:=T) hk0 (h12 hk0) hq
  rw [← hpe] at this
  rw [show byL m p=byR m (byQ p) by rw [byL,if_neg (by omega),if_neg (by omega),if_neg (by omega)];rfl]
  exact this
 refine zj zy zj0 (by show 2≤134;decide) ?_
 by_cases hk0:za m=0
 ·by_cases hp0:zbL p=0
  ·by_cases hlen:(p.length:Int)=m.W
   ·exact absurd ⟨hk0,hp0,hlen⟩ hall
   ·(repeat' ((conv=>whnf);first|refine vA ?_|(refine vD ?_ ?_<;>intro hc<;>try simp only [vL] at hc)|refine vJ fun hg=>?_|refine vT ?_|refine yD (zar m) ⟨⟨rfl,rfl⟩,rfl⟩ rfl ?_|refine yD (zgQ p) ⟨⟨rfl,rfl⟩,rfl⟩ rfl ?_));all_goals try conv=>whnf
    ·exact absurd hk0 ‹_›
    ·exact absurd hp0 ‹_›
    ·rw [byL,if_neg (by omega),if_neg (by omega),if_pos hlen];rfl
    ·exact absurd ‹(p.length:Int)=m.W› hlen
  ·(repeat' ((conv=>whnf);first|refine vA ?_|(refine vD ?_ ?_<;>intro hc<;>try simp only [vL] at hc)|refine vJ fun hg=>?_|refine vT ?_|refine yD (zar m) ⟨⟨rfl,rfl⟩,rfl⟩ rfl ?_|refine yD (zgQ p) ⟨⟨rfl,rfl⟩,rfl⟩ rfl ?_));all_goals try conv=>whnf
   ·exact absurd hk0 ‹_›
   ·rw [byL,if_neg (by omega),if_pos hp0];rfl
   all_goals exact absurd ‹zbL p=0› hp0
 ·(repeat' ((conv=>whnf);first|refine vA ?_|(refine vD ?_ ?_<;>intro hc)|refine vT ?_|refine yD (zar m) ⟨⟨rfl,rfl⟩,rfl⟩ rfl ?_));all_goals try conv=>whnf
  ·rw [byL,if_pos hk0];rfl
  all_goals exact absurd ‹za m=0› hk0
end Go.Ab
namespace Go.Ab
open Go Go.Proofs
set_option maxRecDepth 10000
set_option maxHeartbeats 4000000
variable {T:Nat→Obj→Prop}
theorem zzs (m:KM):byR m (cq m)=(zbg m (cq m),ptL m.W.toNat (zN (cq m)),0):=if_pos (zqH fun w hw=>by unfold byF;rw [decide_eq_true_eq];exact zq0 m w hw)
def zrK (m:KM):KM×List Int×Int:=if za m≠0 then (zbb,[],za m) else (zbg m (cq m),ptL m.W.toNat (zN (cq m)),0)
theorem zsE (hT:zbP T) (hX:zfd T) (m:KM) (h12:za m=0→m.W≤12):Fn Tryz.prog T zfE [.d (dKM m)] [] (.d (zt0 (zrK m))) []:=by
 have cco:=zkJ (T:=T) hT hX m
 refine zj zy zj7 (by show 1≤22;decide) ?_
 by_cases hk0:za m=0
 ·rw [show zfi m=(ptL m.W.toNat (cq m),0) by rw [zfi,if_neg (by omega)]] at cco
  have cb:=zvc (T:=T) hk0 (h12 hk0) (zfK m)
  rw [zzs] at cb
  (repeat' ((conv=>whnf);first|refine vA ?_|refine vH ?_|refine vT ?_|refine yN cco ⟨⟨rfl,rfl⟩,rfl⟩ ?_|refine yN cb ⟨⟨rfl,rfl⟩,⟨rfl,rfl⟩,rfl⟩ ?_));all_goals try conv=>whnf
  ·rw [zrK,if_neg (by omega)];rfl
 ·rw [show zfi m=([],za m) by rw [zfi,if_pos hk0]] at cco
  (repeat' ((conv=>whnf);first|refine vA ?_|(refine vD ?_ ?_<;>intro hc<;>try simp only [vL] at hc)|refine vT ?_|refine yN cco ⟨⟨rfl,rfl⟩,rfl⟩ ?_));all_goals try conv=>whnf
  ·rw [zrK,if_pos hk0];rfl
  all_goals exact absurd ‹za m=0› hk0
noncomputable def zV (m:KM) (w:Nat):KM:=zJ m (zD m.W.toNat (zg m) w)
noncomputable def zad (m:KM) (w:Int):KM×Int×Int :=
 if za m≠0 then (zbb,0,za m) else if w < 0∨m.W≤w then (zbb,0,2) else
  (zbg (zV m w.toNat) (cq (zV m w.toNat)),((zN (cq (zV m w.toNat)) ((zD m.W.toNat (zg m) w.toNat).idxOf w.toNat):Nat):Int),0)
theorem zt9 (hT:zbP T) (hX:zfd T) (m:KM) (h12:za m=0→m.W≤12) (w:Int):Fn Tryz.prog T zgl [.d (dKM m),.d (.int .i64 w)] [] (.d (.tup [dKM (zad m w).1,.int .i64 (zad m w).2.1,.int .i64 (zad m w).2.2])) []:=by
 have ccx:=zar (T:=T) m
 refine zj zy zkW (by show 2≤62;decide) ?_
 by_cases hk0:za m=0
 ·have h12:=h12 hk0
  have hg0:=zq hk0
  have w1:=hg0.w1
  rw [hk0] at ccx
  by_cases hw:w < 0∨m.W≤w
  ·(repeat' ((conv=>whnf);first|refine vA ?_|refine vH ?_|(refine vF ?_ ?_<;>intro hc<;>try simp only [vL] at hc)|refine vT ?_|(refine vP ?_ ?_;·omega)|refine yD ccx ⟨⟨rfl,rfl⟩,rfl⟩ rfl ?_));all_goals try conv=>whnf
   iterate 2 (rw [zad,if_neg (by omega),if_pos hw];rfl)
   exfalso;omega
  ·obtain ⟨w,rfl⟩ : ∃ v:Nat,w=(v:Int):=⟨w.toNat,by omega⟩
   have hwl:w < m.W.toNat:=by omega
   have hbit : ∀ v,(1#64 <<< w).getLsbD v=true→v < m.W.toNat:=fun v hv=>by have:=(zlD (by omega)).1 hv;omega
   have hl:=zrt hk0 hwl
   have hroot:=zeQ (R:=zg m) hwl
   have hlen:=ziB (n:=m.W.toNat) (R:=zg m) (w:=w)
   have cg:=zjW hT hk0 hbit
   have cr:=zkK hT hk0 (s:=zgy m (1#64 <<< w)) (fun e=>by
    rw [e,zeF] at hl;rw [← hl] at hroot;cases hroot) (fun v hv=>((zgZ hk0).1 hv).lt)
   rw [hl] at cr
   generalize zgy m (1#64 <<< w)=gs at cg cr
   have hres:zad m (w:Int)=(zbg (zV m w) (cq (zV m w)),((zN (cq (zV m w)) ((zD m.W.toNat (zg m) w).idxOf w):Nat):Int),0):=by
    rw [zad,if_neg (by omega),if_neg hw,Int.toNat_natCast]
   rw [hres]
   clear hl
   have hll:1≤(zD m.W.toNat (zg m) w).length:=List.length_pos_of_mem hroot
   have hp0:za (zV m w)=0:=znv hk0 hll (by omega)
   have hpW:(zV m w).W.toNat=(zD m.W.toNat (zg m) w).length:=Int.toNat_natCast _
   have hpI:(zV m w).W=((zD m.W.toNat (zg m) w).length:Int):=rfl
   change Fn _ _ _ _ _ (.d (.tup [dKM (zV m w),_,_])) _ at cr
   have cm:=zsE (T:=T) hT hX (zV m w) (fun _=>by rw [hpI];omega)
   rw [show zrK (zV m w)=(zbg (zV m w) (cq (zV m w)),ptL (zV m w).W.toNat (zN (cq (zV m w))),0) by rw [zrK,if_neg (by omega)]] at cm
   have ci:=zhl (T:=T) ((zD m.W.toNat (zg m) w).map fun (x:Nat)=>(x:Int)) (w:Int)
   rw [zpC hroot] at ci
   have hix:=List.idxOf_lt_length_of_mem hroot
   generalize zV m w=g at cr cm hpW hp0
   generalize zD m.W.toNat (zg m) w=l at cr cm ci hpW hix
   have e1:=za0 (n:=g.W.toNat) (q:=zN (cq g)) (w:=l.idxOf w) (by omega)
   (repeat' ((conv=>whnf);first|refine vA ?_|refine vH ?_|(refine vF ?_ ?_<;>intro hc<;>try simp only [vL] at hc)|refine vT ?_|refine vN ‹_› ?_|(refine vP ?_ ?_;·omega)|(refine vU ?_ ?_;·kernel_rfl)|refine yD ccx ⟨⟨rfl,rfl⟩,rfl⟩ rfl ?_|refine yN cg ⟨⟨rfl,rfl⟩,⟨rfl,rfl⟩,rfl⟩ ?_|refine yN cr ⟨⟨rfl,rfl⟩,⟨rfl,rfl⟩,rfl⟩ ?_|refine yN cm ⟨⟨rfl,rfl⟩,rfl⟩ ?_|refine yD ci ⟨⟨rfl,rfl⟩,⟨rfl,rfl⟩,rfl⟩ rfl ?_));all_goals try conv=>whnf
   ·exfalso;omega
   ·rfl
   all_goals skip
 ·(repeat' ((conv=>whnf);first|refine vA ?_|((first|refine vD ?_ ?_|refine vF ?_ ?_)<;>intro hc<;>try simp only [vL] at hc)|refine vT ?_|(refine vP ?_ ?_;·omega)|refine yD ccx ⟨⟨rfl,rfl⟩,rfl⟩ rfl ?_));all_goals try conv=>whnf
  ·rw [zad,if_pos hk0];rfl
  all_goals exact absurd ‹za m=0› hk0
noncomputable def cnL (m:KM) (w:Int):KM×Int:=if (zad m w).2.2≠0 then (zbb,(zad m w).2.2) else ((zfJ (zad m w).1 (zad m w).2.1).1,(zfJ (zad m w).1 (zad m w).2.1).2.2)
theorem zor {m:KM} {w:Int} (hk0:za m=0) (hw : ¬(w < 0∨m.W≤w)):zad m w=(zbg (zV m w.toNat) (cq (zV m w.toNat)),((zN (cq (zV m w.toNat)) ((zD m.W.toNat (zg m) w.toNat).idxOf w.toNat):Nat):Int),0):=by
 rw [zad,if_neg (by omega),if_neg hw]
theorem ztg {m:KM} {w:Nat} (hk0:za m=0) (hw:w < m.W.toNat):za (zV m w)=0∧(zV m w).W.toNat=(zD m.W.toNat (zg m) w).length∧(zV m w).W≤m.W∧1≤(zV m w).W:=by
 have hg:=zq hk0
 have w1:=hg.w1
 have w2:=hg.w2
 have hroot:=zeQ (R:=zg m) hw
 have hlen:=ziB (n:=m.W.toNat) (R:=zg m) (w:=w)
 have hpos:=List.length_pos_of_mem hroot
 have hpI:(zV m w).W=((zD m.W.toNat (zg m) w).length:Int):=rfl
 exact ⟨znv hk0 hpos (by omega),Int.toNat_natCast _,by omega,by omega⟩
theorem zvR {m:KM} {w:Int} (h12:za m=0→m.W≤12) (h:(zad m w).2.2=0):za m=0∧0≤w∧w < m.W∧za (zad m w).1=0∧(zad m w).1.W≤12:=by
 by_cases hk0:za m=0
 ·by_cases hw:w < 0∨m.W≤w
  ·rw [zad,if_neg (by omega),if_pos hw] at h;cases h
  ·have h12:=h12 hk0
   obtain ⟨h1,h2,h3,-⟩:=ztg hk0 (w:=w.toNat) (by omega)
   rw [zor hk0 hw]
   refine ⟨hk0,by omega,by omega,zvV h1 (zfK _),?_⟩
   have:=zcX (zV m w.toNat).W.toNat (cq (zV m w.toNat))
   show ((zx (zV m w.toNat).W.toNat (cq (zV m w.toNat)):Nat):Int)≤12
   omega
 ·rw [zad,if_pos hk0] at h;exact absurd h hk0
theorem zjX (hT:zbP T) (hX:zfd T) (m:KM) (h12:za m=0→m.W≤12) (w:Int):Fn Tryz.prog T zfo [.d (dKM m),.d (.int .i64 w)] [] (.d (dKI (cnL m w))) []:=by
 have cp:=zt9 (T:=T) hT hX m h12 w
 have hs:=zvR (m:=m) (w:=w) h12
 refine zj zy zjy (by show 2≤31;decide) ?_
 obtain ⟨x,hx⟩ : ∃ x,x=zad m w:=⟨_,rfl⟩
 have hcn:cnL m w=if x.2.2≠0 then (zbb,x.2.2) else ((zfJ x.1 x.2.1).1,(zfJ x.1 x.2.1).2.2):=by rw [hx];rfl
 rw [← hx] at cp hs
 obtain ⟨g,v,e⟩:=x
 rw [hcn]
 by_cases he:e=0
 ·have h1:=hs he
  have c2:=zrh (T:=T) hT g (fun _=>h1.2.2.2.2) v
  rw [if_neg (not_not_intro he)]
  (repeat' ((conv=>whnf);first|refine vA ?_|(refine vD ?_ ?_<;>intro hc<;>try simp only [vL] at hc)|refine vT ?_|refine yN cp ⟨⟨rfl,rfl⟩,⟨rfl,rfl⟩,rfl⟩ ?_|refine yN c2 ⟨⟨rfl,rfl⟩,⟨rfl,rfl⟩,rfl⟩ ?_));all_goals try conv=>whnf
  ·exact absurd he ‹_›
  ·rfl
 ·rw [if_pos he]
  (repeat' ((conv=>whnf);first|refine vA ?_|(refine vD ?_ ?_<;>intro hc<;>try simp only [vL] at hc)|refine vT ?_|refine yN cp ⟨⟨rfl,rfl⟩,⟨rfl,rfl⟩,rfl⟩ ?_));all_goals try conv=>whnf
  ·rfl
  ·exact absurd ‹e=0› he
noncomputable def zuD (a:KM) (v:Int) (b:KM) (w:Int):Bool×Int :=
 if za a≠0 then (false,za a) else if za b≠0 then (false,za b) else if a.rel.length≠b.rel.length∨a.val.length≠b.val.length then (false,1) else
  if (cnL a v).2≠0 then (false,(cnL a v).2) else if (cnL b w).2≠0 then (false,(cnL b w).2) else (decide ((cnL a v).1=(cnL b w).1),0)
theorem zAe (hT:zbP T) (hX:zfd T) (a b:KM) (ha:za a=0→a.W≤12) (hb:za b=0→b.W≤12) (v w:Int):Fn Tryz.prog T zhT [.d (dKM a),.d (.int .i64 v),.d (dKM b),.d (.int .i64 w)] [] (.d (.tup [.bool (zuD a v b w).1,.int .i64 (zuD a v b w).2])) []:=by
 have c1:=zjX (T:=T) hT hX a ha v
 have c2:=zjX (T:=T) hT hX b hb w
 refine zj zy zol (by show 4≤62;decide) ?_
 obtain ⟨x,hx⟩ : ∃ x,x=cnL a v:=⟨_,rfl⟩
 obtain ⟨y,hy⟩ : ∃ y,y=cnL b w:=⟨_,rfl⟩
 have hs:zuD a v b w=if za a≠0 then (false,za a) else if za b≠0 then (false,za b) else if a.rel.length≠b.rel.length∨a.val.length≠b.val.length then (false,1) else
  if x.2≠0 then (false,x.2) else if y.2≠0 then (false,y.2) else (decide (x.1=y.1),0):=by rw [hx,hy];rfl
 rw [← hx] at c1
 rw [← hy] at c2
 rw [hs]
 clear hs hx hy
 obtain ⟨x,e⟩:=x
 obtain ⟨y,e'⟩:=y
 dsimp only
 (repeat' ((conv=>whnf);first|refine vA ?_|(refine vD ?_ ?_<;>intro hc<;>try simp only [vL] at hc)|refine vJ fun hg=>?_|refine vT ?_|refine yD (zar _) ⟨⟨rfl,rfl⟩,rfl⟩ rfl ?_|refine yN c1 ⟨⟨rfl,rfl⟩,⟨rfl,rfl⟩,rfl⟩ ?_|refine yN c2 ⟨⟨rfl,rfl⟩,⟨rfl,rfl⟩,rfl⟩ ?_|refine yD (zw9 _ _) ⟨⟨rfl,rfl⟩,⟨rfl,rfl⟩,rfl⟩ rfl ?_));all_goals try conv=>whnf
 ·rw [if_pos (by omega)];rfl
 ·rw [if_neg (by omega),if_pos (by omega)];rfl
 iterate 2 (rw [if_neg (by omega),if_neg (by omega),if_pos (by omega)];rfl)
 ·rw [if_neg (by omega),if_neg (by omega),if_neg (by omega),if_pos (by omega)];rfl
 ·rw [if_neg (by omega),if_neg (by omega),if_neg (by omega),if_neg (by omega),if_pos (by omega)];rfl
 ·rw [if_neg (by omega),if_neg (by omega),if_neg (by omega),if_neg (by omega),if_neg (by omega)];rfl
end Go.Ab
namespace Go.Ab
open Go Go.Proofs
set_option maxRecDepth 10000
set_option maxHeartbeats 4000000
variable {T:Nat→Obj→Prop}
theorem zwU {n:Nat} {q:Nat→Nat} : zx n q=n ↔ ∀ w,w < n→q w=w:=by
 unfold zx
 have h:=List.length_filter_eq_length_iff (p:=fun w=>decide (q w=w)) (l:=List.range n)
 rw [List.length_range] at h
 rw [h]
 exact ⟨fun k w hw=>of_decide_eq_true (k w (List.mem_range.2 hw)),fun k w hw=>decide_eq_true (k w (List.mem_range.1 hw))⟩
end Go.Ab
namespace Go.Ab
open Go Go.Proofs
set_option maxRecDepth 10000
set_option maxHeartbeats 4000000
def exQ:KM:=⟨4,[12#64],[[4#64,8#64,4#64,8#64]]⟩
def zxv:KM:=⟨1,[1#64],[[1#64]]⟩
def zx3:KM:=⟨2,[2#64],[[2#64,2#64]]⟩
def zwZ:KM:=⟨2,[],[[2#64,1#64]]⟩
theorem zlt {m:KM} {l:List Int} (hk0:za m=0) (h:ptL m.W.toNat (zah m 1)=ptL m.W.toNat (zah m 0)) (h0:ptL m.W.toNat (zah m 0)=l):zfi m=(l,0):=by
 have w1:=(zq hk0).w1
 rw [zfi,if_neg (by omega),← zs9 (m:=m) (k:=0) (by omega) h,h0]
theorem zzu:zfi exQ=([0,0,2,2],0):=zlt (by decide) (by decide) (by decide)
theorem zyB:zfi zxv=([0],0):=zlt (by decide) (by decide) (by decide)
theorem zyC:zfi zx3=([0,1],0):=zlt (by decide) (by decide) (by decide)
theorem zyA:zfi zwZ=([0,0],0):=zlt (by decide) (by decide) (by decide)
def zwV (m:KM):Option (List Int):=cond (decide (m=exQ)) (some [0,0,2,2]) (cond (decide (m=zxv)) (some [0]) (cond (decide (m=zx3)) (some [0,1]) (cond (decide (m=zwZ)) (some [0,0]) none)))
theorem zyz {m:KM} {l:List Int} (h:zwV m=some l):zfi m=(l,0):=by
 unfold zwV at h
 cases h1:decide (m=exQ) with
 | true=>rw [h1] at h;cases h;rw [of_decide_eq_true h1];exact zzu
 | false =>
  rw [h1] at h
  cases h2:decide (m=zxv) with
  | true=>rw [h2] at h;cases h;rw [of_decide_eq_true h2];exact zyB
  | false =>
   rw [h2] at h
   cases h3:decide (m=zx3) with
   | true=>rw [h3] at h;cases h;rw [of_decide_eq_true h3];exact zyC
   | false =>
    rw [h3] at h
    cases h4:decide (m=zwZ) with
    | true=>rw [h4] at h;cases h;rw [of_decide_eq_true h4];exact zyA
    | false=>rw [h4] at h;cases h
def zrC:Fs:=fun f vs obs =>
 cond (Nat.beq f zdv) (match vs,obs with
  | [.d d,.d (.arr 1 a)],[]=>match zpc d,zjt a with
   | some m,some p=>cond (decide (m.W≤12)) (some (.d (zt0 (byL m p)),[])) none
   | _,_=>none
  | _,_=>none)
 (  cond (Nat.beq f zdk) (match vs,obs with
  | [.d d],[]=>match zpc d with
   | some m=>match zwV m with
    | some l=>some (.d (.tup [dI l,.int .i64 0]),[])
    | none=>none
   | none=>none
  | _,_=>none)
 (cond (Nat.beq f zM) (match vs,obs with
  | [.d (.arr 1 a),.d (.arr 1 b)],[]=>match ziI a,ziI b with
   | some a,some b=>cond (zuE a) (some (.d (.int .i64 (zaU a b)),[])) none
   | _,_=>none
  | _,_=>none)
 (cond (Nat.beq f zaP) (match vs,obs with
  | [.d (.u64 w)],[]=>some (.d (.int .i64 (Lib.ctz 64 w.toNat)),[])
  | _,_=>none)
 (cond (Nat.beq f zdO) (match vs,obs with
  | [.d (.u64 w)],[]=>some (.d (.int .i64 (Sort.bitsLen w.toNat:Int)),[])
  | _,_=>none)
 (cond (Nat.beq f zeK) (match vs,obs with
  | [.d d],[]=>match zpc d with
   | some m=>some (.d (.int .i64 (za m)),[])
   | none=>none
  | _,_=>none)
 (cond (Nat.beq f zeL) (match vs,obs with
  | [.d d,.d (.int .i64 w)],[]=>match zpc d with
   | some m=>some (.d (.int .i64 (zkB m w)),[])
   | none=>none
  | _,_=>none) none))))))
def zAf (f:Nat):Bool:=Nat.beq f z7||(Nat.beq f zA||(Nat.beq f zey||(Nat.beq f zaW||Nat.beq f zb2)))
noncomputable def zzt:Cfg:=⟨zi Tryz.prog,zrC,fun _ _ _=>none,zAf,fun f=>Nat.beq f zdn||(Nat.beq f zh7||Nat.beq f ziv),150⟩
variable {T:Nat→Obj→Prop}
theorem zvC (hT:zbP T) (hX:zfd T):ztJ Tryz.prog T zrC:=by
 intro f vs obs v obs' h
 unfold zrC at h
 cases hb0:Nat.beq f zdv with
 | true =>
  rw [hb0,cond_true] at h
  rw [Nat.eq_of_beq_eq_true hb0]
  split at h
  ·split at h
   ·rename_i m p hm hp
    rw [zlB hm,zmX hp]
    cases hc:decide (m.W≤12) with
    | true=>rw [hc] at h;cases h;exact zz1 m p fun _=>of_decide_eq_true hc
    | false=>rw [hc] at h;cases h
   ·cases h
  ·cases h
 | false =>
 rw [hb0,cond_false] at h
 cases h0:Nat.beq f zdk with
 | true =>
  rw [h0,cond_true] at h
  rw [Nat.eq_of_beq_eq_true h0]
  split at h
  ·split at h
   ·rename_i m hm
    split at h
    ·rename_i hl
     cases h
     rw [zlB hm]
     have:=zkJ (T:=T) hT hX m
     rw [zyz hl] at this
     exact this
    ·cases h
   ·cases h
  ·cases h
 | false =>
 rw [h0,cond_false] at h
 cases h1:Nat.beq f zM with
 | true =>
  rw [h1,cond_true] at h
  rw [Nat.eq_of_beq_eq_true h1]
  split at h
  ·split at h
   ·rename_i a b ha hb
    rw [zkY ha,zkY hb]
    cases hc:zuE a with
    | true=>rw [hc] at h;cases h;exact zhm _ _ (zy8 hc)
    | false=>rw [hc] at h;cases h
   ·cases h
  ·cases h
 | false =>
  rw [h1,cond_false] at h
  cases h2:Nat.beq f zaP with
  | true =>
   rw [h2,cond_true] at h
   rw [Nat.eq_of_beq_eq_true h2]
   split at h
   ·cases h;exact hT _
   ·cases h
  | false =>
   rw [h2,cond_false] at h
   cases h3:Nat.beq f zdO with
   | true =>
    rw [h3,cond_true] at h
    rw [Nat.eq_of_beq_eq_true h3]
    split at h
    ·cases h;exact zrk _
    ·cases h
   | false =>
    rw [h3,cond_false] at h
    cases h4:Nat.beq f zeK with
    | true =>
     rw [h4,cond_true] at h
     rw [Nat.eq_of_beq_eq_true h4]
     split at h
     ·split at h
      ·rename_i hm;cases h;rw [zlB hm];exact zar _
      ·cases h
     ·cases h
    | false =>
     rw [h4,cond_false] at h
     cases h5:Nat.beq f zeL with
     | true =>
      rw [h5,cond_true] at h
      rw [Nat.eq_of_beq_eq_true h5]
      split at h
      ·split at h
       ·rename_i hm;cases h;rw [zlB hm];exact zd2 _ _
       ·cases h
      ·cases h
     | false=>rw [h5] at h;cases h
theorem zyu (hT:zbP T) (hX:zfd T):ztH Tryz.prog T zzt:=⟨fun f c h=>h,zvC hT hX,fun g vs obs xs h=>by cases h⟩
end Go.Ab
namespace Go.Ab
open Go Go.Proofs
set_option maxRecDepth 10000
set_option maxHeartbeats 4000000
variable {T:Nat→Obj→Prop}
theorem zvF {m:KM} {l:List Nat} (h2:l.length≤64):(zea (zJ m l) (-1)).2=(zcg l.length (zF l (zg m)) (fun i=>[[1],[zae l (zz m) i]])).2:=by
 have hid:Ren l.length fun w=>w:=⟨fun _ h=>h,fun _ _ _ _ h=>h⟩
 have:=zlF hid (zqK h2 (m:=m)) (first:=fun i=>[[1],[zae l (zz m) i]]) (first':=mkT (zJ m l) (-1)) fun i hi=>by
  unfold mkT
  rw [if_neg (by omega),zlr h2 hi]
 unfold zea
 rw [show (zJ m l).W.toNat=l.length from Int.toNat_natCast _]
 exact this.2.2.2
theorem zyt {m:KM} (hk0:za m=0) {w:Nat} (hw:w < m.W.toNat):zfJ m (w:Int)=if zib (zJ m (zD m.W.toNat (zg m) w))=false then (zbb,[],16) else (zJ m (zdf m w),(zdf m w).map fun (x:Nat)=>(x:Int),0):=by
 rw [zfJ,if_neg (by omega),if_neg (by omega),Int.toNat_natCast]
end Go.Ab
namespace Go.Ab
open Go
theorem zcT.refl' {n:Nat} {fa fb:Nat→Int} {R R':zB} (hf : ∀ w,w < n→fb w=fa w) (hl:R'.length=R.length) (hR : ∀ (i:Nat) r r',R[i]? = some r→R'[i]? = some r' → ∀ v w,v < n→w < n→r' v w=r v w):zcT n fa fb R R' fun w=>w :=
 ⟨⟨fun _ h=>h,fun _ _ _ _ e=>e⟩,hf,⟨hl,fun i r r' h1 h2 v w hv hw=>hR i r r' h1 h2 v w hv hw⟩⟩
theorem zwW {n:Nat} {R R':zB} {fa fb:Nat→Int} (h:zcT n fa fb R R' fun w=>w) {w:Nat} (hw:w < n):coa n R' fb w=coa n R fa w:=by
 have S:=zdg n R fa
 have S':=zdg n R' fb
 have B:=h.bis
 rw [← zjg S'.canon hw,← zjg S.canon hw]
 refine zht fun v hv=>?_
 unfold za9
 rw [Bool.eq_iff_iff,decide_eq_true_eq,decide_eq_true_eq]
 constructor
 ·intro e
  exact zil ((B.trans S'.bis).trans B.symm) (v:=v) (w:=w) ⟨w,⟨v,⟨by omega,rfl⟩,by omega,hw,e⟩,hw,rfl⟩
 ·intro e
  exact zil ((B.symm.trans S.bis).trans B) (v:=v) (w:=w) ⟨w,⟨v,⟨by omega,rfl⟩,by omega,hw,e⟩,hw,rfl⟩
theorem zw1 {n:Nat} {R:zB} {fa:Nat→Int} : zg6 n R fa ↔ ∀ Z,zcc n n R R fa fa Z → ∀ v w,Z v w→v=w:=by
 constructor
 ·intro h Z B v w hz;exact h.eq B hz
 ·intro h i hi
  have S:=zdg n R fa
  have:=S.canon.le i hi
  exact h _ S.bis _ _ ⟨by omega,hi,S.canon.idem i hi⟩
theorem ztd {n:Nat} {R R':zB} {fa fb:Nat→Int} {f:Nat→Nat} (h:zcT n fa fb R R' f) (hd:zg6 n R fa):zg6 n R' fb:=by
 rw [zw1] at hd ⊢
 intro Z B v w hz
 have hvw:=B.lt hz
 obtain ⟨v',hv',rfl⟩:=h.ren.surj hvw.1
 obtain ⟨w',hw',rfl⟩:=h.ren.surj hvw.2
 have:=hd _ ((h.bis.trans B).trans h.bis.symm) v' w' ⟨_,⟨_,⟨hv',rfl⟩,hz⟩,hw',rfl⟩
 rw [this]
section
variable {n:Nat} {q q':Nat→Nat} (h : ∀ w,w < n→q w=q' w)
include h
theorem zpu {k:Nat} (hk:k≤n):zx k q=zx k q':=by
 unfold zx
 congr 1
 exact List.filter_congr fun w hw=>by rw [h w (by have:=List.mem_range.1 hw;omega)]
theorem zvY:zaV n q=zaV n q':=by
 unfold zaV
 exact List.filter_congr fun w hw=>by rw [h w (List.mem_range.1 hw)]
theorem zgt (hq:zaK n q) {w:Nat} (hw:w < n):zN q w=zN q' w:=by
 unfold zN
 have:=hq.le w hw
 rw [zpu h (by omega),h w hw]
theorem zvT (hq:zaK n q) {r r':Nat→Nat→Bool} (hr : ∀ v w,v < n→w < n→r v w=r' v w) (i j:Nat):zc4 n q r i j=zc4 n q' r' i j:=by
 rw [Bool.eq_iff_iff,zhx,zhx]
 constructor
 ·rintro ⟨v,w,a,b,c,d,e⟩
  exact ⟨v,w,a,b,by rw [← zgt h hq a];exact c,by rw [← zgt h hq b];exact d,by rw [← hr v w a b];exact e⟩
 ·rintro ⟨v,w,a,b,c,d,e⟩
  exact ⟨v,w,a,b,by rw [zgt h hq a];exact c,by rw [zgt h hq b];exact d,by rw [hr v w a b];exact e⟩
end
def ptM (m:KM) (w:Nat):Ptd:=⟨m.W.toNat,zg m,zz m,w⟩
section
variable {m:KM} (hk0:za m=0) {w:Nat} (hw:w < m.W.toNat)
include hk0 hw
theorem ziU:let Q:=(zad m (w:Int)).1;Q.W.toNat=(ptM m w).min.n∧za Q=0∧(zad m (w:Int)).2.1=(((ptM m w).min.root:Nat):Int)∧zcT (ptM m w).min.n (ptM m w).min.fa (zz Q) (ptM m w).min.R (zg Q) fun x=>x:=by
 intro Q
 have hg0:=zq hk0
 have w2:=hg0.w2
 have hW : ¬((w:Int) < 0∨m.W≤(w:Int)):=by omega
 have hQ:zad m (w:Int)=_:=zor hk0 hW
 rw [Int.toNat_natCast] at hQ
 obtain ⟨hp0,hpW,hpI,hp1⟩:=ztg hk0 hw
 have hQ1:Q=zbg (zV m w) (cq (zV m w)):=congrArg Prod.fst hQ
 have hlen:=ziB (n:=m.W.toNat) (R:=zg m) (w:=w)
 have hid:zcT (zD m.W.toNat (zg m) w).length (zae (zD m.W.toNat (zg m) w) (zz m)) (zz (zV m w)) (zF (zD m.W.toNat (zg m) w) (zg m)) (zg (zV m w)) fun x=>x :=
  zcT.refl' (fun x hx=>zlr (by omega) hx) (by simp [zF,zg,zV,zJ]) fun i r r' h1 h2 v u hv hu=>zoM (by omega) h2 h1 hv hu
 have hcq : ∀ x,x < (zD m.W.toNat (zg m) w).length→cq (zV m w) x=coa (zD m.W.toNat (zg m) w).length (zF (zD m.W.toNat (zg m) w) (zg m)) (zae (zD m.W.toNat (zg m) w) (zz m)) x:=fun x hx=>by
  rw [zzv (by omega) (by omega) (by omega),hpW]
  exact zwW hid hx
 have hcan:zaK (zD m.W.toNat (zg m) w).length (cq (zV m w)):=by rw [← hpW];exact zfK _
 have hcnt:=zpu hcq (Nat.le_refl _)
 have hroot:=zeQ (R:=zg m) hw
 have hix:=List.idxOf_lt_length_of_mem hroot
 have hQW:Q.W.toNat=zx (zD m.W.toNat (zg m) w).length (cq (zV m w)):=by rw [hQ1];show ((zx (zV m w).W.toNat (cq (zV m w)):Nat):Int).toNat=_;rw [Int.toNat_natCast,hpW]
 refine ⟨hQW.trans hcnt,by rw [hQ1];exact zvV hp0 (zfK _),?_,zcT.refl' (fun i hi=>?_) ?_ fun i r r' h1 h2 a b ha hb=>?_⟩
 ·rw [hQ]
  show ((zN (cq (zV m w)) _:Nat):Int)=_
  rw [zgt hcq hcan hix];rfl
 ·have hi':i < zx (zV m w).W.toNat (cq (zV m w)):=by rw [hpW,hcnt];exact hi
  rw [hQ1,zy0 (by omega) hi']
  rw [show (ptM m w).min.fa i=zhw (zD m.W.toNat (zg m) w).length (coa (zD m.W.toNat (zg m) w).length (zF (zD m.W.toNat (zg m) w) (zg m)) (zae (zD m.W.toNat (zg m) w) (zz m))) (zae (zD m.W.toNat (zg m) w) (zz m)) i from rfl]
  unfold zhw
  rw [hpW,zvY hcq]
  have hl:(zaV (zD m.W.toNat (zg m) w).length (coa (zD m.W.toNat (zg m) w).length (zF (zD m.W.toNat (zg m) w) (zg m)) (zae (zD m.W.toNat (zg m) w) (zz m)))).getD i 0 < (zD m.W.toNat (zg m) w).length:=by
   have hm:=zac (l:=zaV (zD m.W.toNat (zg m) w).length (coa (zD m.W.toNat (zg m) w).length (zF (zD m.W.toNat (zg m) w) (zg m)) (zae (zD m.W.toNat (zg m) w) (zz m)))) (i:=i) hi
   exact List.mem_range.1 (List.mem_filter.1 hm).1
  exact hid.fac _ hl
 ·rw [hQ1]
  show (zg (zbg (zV m w) (cq (zV m w)))).length=((zF _ (zg m)).map _).length
  simp [zg,zbg,zF,zV,zJ]
 ·have h1':((zF (zD m.W.toNat (zg m) w) (zg m)).map (zc4 (zD m.W.toNat (zg m) w).length (coa (zD m.W.toNat (zg m) w).length (zF (zD m.W.toNat (zg m) w) (zg m)) (zae (zD m.W.toNat (zg m) w) (zz m)))))[i]? = some r:=h1
  rw [List.getElem?_map,Option.map_eq_some_iff] at h1'
  obtain ⟨s,hs,rfl⟩:=h1'
  obtain ⟨s',hs'⟩:=zdD hid.rel.len hs
  rw [hQ1] at h2
  have h3:((zg (zV m w)).map (zc4 (zV m w).W.toNat (cq (zV m w))))[i]? = some (zc4 (zV m w).W.toNat (cq (zV m w)) s'):=by rw [List.getElem?_map,hs'];rfl
  rw [zy1 (by omega) h2 h3 (by rw [hpW,hcnt];exact ha) (by rw [hpW,hcnt];exact hb),hpW]
  exact zvT hcq hcan (fun v u hv hu=>hid.rel.rel i s s' hs hs' v u hv hu) a b
theorem zxB:zg6 (zad m (w:Int)).1.W.toNat (zg (zad m (w:Int)).1) (zz (zad m (w:Int)).1):=by
 obtain ⟨h1,h2,h3,h4⟩:=ziU hk0 hw
 rw [h1]
 exact ztd h4 (zdp (ptM m w))
theorem zrZ:(ptM m w).min.root < (ptM m w).min.n:=zeT (m:=ptM m w) hw
theorem ztt:zD (zad m (w:Int)).1.W.toNat (zg (zad m (w:Int)).1) (ptM m w).min.root=List.range (zad m (w:Int)).1.W.toNat:=by
 obtain ⟨h1,h2,h3,h4⟩:=ziU hk0 hw
 rw [h1]
 unfold zD
 refine List.filter_eq_self.2 fun i hi=>?_
 rw [@decide_eq_true_eq _ (Classical.propDecidable _)]
 exact Rch.iso (S:=(· = (ptM m w).min.root)) h4 (fun v _ e=>e) (zkZ (m:=ptM m w) hw i (List.mem_range.1 hi))
theorem zxC:zib (zJ (zad m (w:Int)).1 (zD (zad m (w:Int)).1.W.toNat (zg (zad m (w:Int)).1) (ptM m w).min.root))=true:=by
 obtain ⟨h1,h2,h3,h4⟩:=ziU hk0 hw
 have hd:=zxB hk0 hw
 have hg:=ztt hk0 hw
 have w2:=(zq h2).w2
 rw [hg]
 generalize (zad m (w:Int)).1=Q at *
 have hr:=zjl hd 0
 have hl:(List.range Q.W.toNat).length=Q.W.toNat:=List.length_range
 unfold zib
 rw [decide_eq_true_eq,zvF (by omega),show (zJ Q (List.range Q.W.toNat)).W.toNat=(List.range Q.W.toNat).length from Int.toNat_natCast _]
 refine (zrL (fa:=zae (List.range Q.W.toNat) (zz Q)) fun v u _ _=>by simp).1 ?_
 show zx _ (coa (List.range Q.W.toNat).length (zF (List.range Q.W.toNat) (zg Q)) (zae (List.range Q.W.toNat) (zz Q)))=_
 rw [zwU]
 have hid:zcT (List.range Q.W.toNat).length (zz Q) (zae (List.range Q.W.toNat) (zz Q)) (zg Q) (zF (List.range Q.W.toNat) (zg Q)) fun x=>x :=
  zcT.refl' (fun x hx=>by unfold zae;rw [show (List.range Q.W.toNat).getD x 0=x by simp [List.getD,show x < Q.W.toNat by omega]]) (by simp [zF]) fun i r r' e1 e2 v u hv hu=>by
   unfold zF at e2
   rw [List.getElem?_map,e1] at e2
   cases e2
   show r ((List.range Q.W.toNat).getD v 0) ((List.range Q.W.toNat).getD u 0)=r v u
   rw [show (List.range Q.W.toNat).getD v 0=v by simp [List.getD,show v < Q.W.toNat by omega],show (List.range Q.W.toNat).getD u 0=u by simp [List.getD,show u < Q.W.toNat by omega]]
 rw [hl] at hid ⊢
 exact fun x hx=>ztd hid hd x hx
theorem zzY:cnL m (w:Int)=(zJ (zad m (w:Int)).1 (zdf (zad m (w:Int)).1 (ptM m w).min.root),0):=by
 obtain ⟨h1,h2,h3,h4⟩:=ziU hk0 hw
 have hr:=zrZ hk0 hw
 have he:(zad m (w:Int)).2.2=0:=by rw [zor hk0 (by omega)]
 unfold cnL
 rw [if_neg (not_not_intro he),h3,zyt h2 (by omega),if_neg (by rw [zxC hk0 hw];decide)]
end
end Go.Ab
namespace Go.Ab
open Go Go.Proofs
set_option maxRecDepth 10000
set_option maxHeartbeats 4000000
variable {T:Nat→Obj→Prop}
def zcQ (m:KM) (i v:Nat):BitVec 64:=(m.rel.getD i []).getD v 0#64
def zrr (p:List (BitVec 64)) (s t:BitVec 64):Bool:=(zn s).all fun x=>decide (p.getD x 0#64&&&t≠0#64)
def zid (p:List (BitVec 64)) (s t:BitVec 64):Bool:=zrr p s t&&decide (t &&& ~~~(zdE p (zn s))=0#64)
def zd8 (a b:KM) (p:List (BitVec 64)) (v w:Nat):Bool:=decide (zz a v=zz b w)&&(List.range a.rel.length).all fun i=>zid p (zcQ a i v) (zcQ b i w)
theorem zom {a b:KM} {p:List (BitVec 64)} {v w i:Nat} (hi:i < a.rel.length) (h:zid p (zcQ a i v) (zcQ b i w)=false):zd8 a b p v w=false:=by
 unfold zd8
 rw [Bool.and_eq_false_iff];right
 rw [List.all_eq_false]
 exact ⟨i,List.mem_range.2 hi,by rw [h];decide⟩
theorem zui {p:List (BitVec 64)} {s t:BitVec 64} {x:Nat} (hx:s.getLsbD x=true) (hx64:x < 64) (h:p.getD x 0#64&&&t=0#64):zid p s t=false:=by
 unfold zid zrr
 rw [Bool.and_eq_false_iff];left
 rw [List.all_eq_false]
 exact ⟨x,zbR.2 hx,by rw [decide_eq_true_eq];exact not_not_intro h⟩
def zde (a b:KM):Int:=if za a≠0 then za a else if za b≠0 then za b else if a.rel.length≠b.rel.length∨a.val.length≠b.val.length then 1 else 0
theorem zw8 (a b:KM):Fn Tryz.prog T zky [.d (dKM a),.d (dKM b)] [] (.d (.int .i64 (zde a b))) []:=by
 have ck1:=zar (T:=T) a
 have ck2:=zar (T:=T) b
 refine zj zy zrx (by show 2≤33;decide) ?_
 (repeat' ((conv=>whnf);first|refine vA ?_|(refine vD ?_ ?_<;>intro hc<;>try simp only [vL] at hc)|refine vJ fun hg=>?_|refine vT ?_|refine vX ?_|refine yD ck1 ⟨⟨rfl,rfl⟩,rfl⟩ rfl ?_|refine yD ck2 ⟨⟨rfl,rfl⟩,rfl⟩ rfl ?_));all_goals try conv=>whnf
 all_goals unfold zde
 ·rw [if_pos ‹_›]
 ·rw [if_neg (by omega),if_pos ‹_›]
 ·rw [if_neg (by omega),if_neg (by omega),if_pos (by omega)]
 ·rw [if_neg (by omega),if_neg (by omega),if_pos (by omega)]
 ·rw [if_neg (by omega),if_neg (by omega),if_neg (by omega)]
end Go.Ab
namespace Go.Ab
open Go Go.Proofs
set_option maxRecDepth 10000
set_option maxHeartbeats 4000000
variable {T:Nat→Obj→Prop}
theorem zrn (hT:zbP T) {a b:KM} (ha:za a=0) (hb:za b=0) (hr:a.rel.length=b.rel.length) {p:List (BitVec 64)} (hp:p.length=a.W.toNat) {v w:Nat} (hv:v < a.W.toNat) (hw:w < b.W.toNat):Fn Tryz.prog T zhN [.d (dKM a),.d (dKM b),.own 0,.d (.int .i64 (v:Int)),.d (.int .i64 (w:Int))] [.row 1 (p.map D.u64)] (.d (.bool (zd8 a b p v w))) [some (.row 1 (p.map D.u64))]:=by
 have ga:=zq ha
 have gb:=zq hb
 have wa1:=ga.w1
 have wa2:=ga.w2
 have wb1:=gb.w1
 have wb2:=gb.w2
 have cfa:=zd2 (T:=T) a (v:Int)
 have cfb:=zd2 (T:=T) b (w:Int)
 rw [ziw ha hv] at cfa
 rw [ziw hb hw] at cfb
 refine zaq zy zoc (by show 5≤69;decide) _ (fun e env mem n h=>h) ?_
 (repeat' ((conv=>whnf);first|refine vA ?_|(refine vD ?_ ?_<;>intro hc)|refine vJ fun hg=>?_|refine vT ?_|(refine vU ?_ ?_;·kernel_rfl)|refine yD cfa ⟨⟨rfl,rfl⟩,⟨rfl,rfl⟩,rfl⟩ rfl ?_|refine yD cfb ⟨⟨rfl,rfl⟩,⟨rfl,rfl⟩,rfl⟩ rfl ?_));all_goals try conv=>whnf
 ·rw [zd8,decide_eq_false hc,Bool.false_and];refine ⟨trivial,_,[(0,0)],[],rfl,.inl (by (repeat' exact .inr (.inr ⟨rfl,rfl⟩))),⟨by rfl,by rfl,by rfl,trivial,by (repeat' first|exact trivial|exact rfl|refine And.intro ?_ ?_|refine ⟨_,rfl,?_⟩|exact of_decide_eq_true rfl)⟩,by (repeat' first|exact trivial|exact rfl|refine And.intro ?_ ?_)⟩
 refine zu (fun (g:Nat)=>[(3,.d (.int .i64 ((v:Int)))),(5,.ptr 1 0),(6,.ptr 2 0),(7,.ptr 3 0),(9,.ptr 4 0),(10,.ptr 5 0),(23,.d (.int .i64 (((a.rel.map dU).length:Int)))),(24,.d (.int .i64 ((g:Int)))),(zc,.own 0)]) (fun (g:Nat)=>[(0,some (.row 1 (p.map D.u64))),(1,some (zao a)),(2,some (zao b)),(3,some (.box [.own 0])),(4,some (.box [.d (.int .i64 (w:Int))])),(5,some (.box [.d (.bool false)]))]) 6 (fun (g:Nat)=>g≤a.rel.length ∧ ∀ j,j < g→zid p (zcQ a j v) (zcQ b j w)=true) (fun (g:Nat)=>a.rel.length - g) (0) [(0,0),(1,1),(2,2),(3,3),(4,4),(5,5)] [] (⟨by omega,fun j h=>by omega⟩) (by (refine ⟨rfl,rfl,rfl,?_,?_⟩;repeat' first|exact trivial|exact rfl|exact .inr (.inr ⟨rfl,rfl⟩)|refine And.intro ?_ ?_|refine ⟨_,rfl,?_⟩|decide)) ?_
 rintro g ⟨hi,hI⟩
 by_cases hil:g < a.rel.length
 ·(repeat' ((conv=>whnf);first|refine vA ?_|(refine vF ?_ ?_<;>intro hc<;>try simp only [vL] at hc)|refine vT ?_|(refine vQ ?_ fun x hx=>?_;·omega)|(refine vS ?_ fun x hx=>?_;·omega)|fail));all_goals try conv=>whnf
  ·have hrow:=hx
   have hxl:=ga.len _ (List.mem_of_getElem? hrow)
   (repeat' ((conv=>whnf);first|refine vT ?_|(refine vQ ?_ fun x hx=>?_;·omega)|fail));all_goals try conv=>whnf
   ·have hs:zcQ a g v=x:=by unfold zcQ;simp [List.getD,hrow,hx]
    obtain ⟨br,hbr⟩ : ∃ br,b.rel[g]? = some br:=⟨_,List.getElem?_eq_getElem (by omega)⟩
    have hbl:=gb.len _ (List.mem_of_getElem? hbr)
    obtain ⟨t,ht⟩ : ∃ t,br[w]? = some t:=⟨_,List.getElem?_eq_getElem (by omega)⟩
    have hst:zcQ b g w=t:=by unfold zcQ;simp [List.getD,hbr,ht]
    have hin : ∀ u,x.getLsbD u=true→u < p.length:=fun u hu=>by
     have:=(ze0 (by omega)).1 (ga.rel _ (List.mem_of_getElem? hrow) _ (List.mem_of_getElem? hx)) u hu
     omega
    refine zan.res (zh8 x) (by (repeat refine ⟨⟨rfl,rfl⟩,?_⟩);rfl) ?_
    (repeat' ((conv=>whnf);refine vT ?_));all_goals try conv=>whnf
    refine zld (zia hT x) [8] [] (by first|((repeat refine ⟨⟨rfl,rfl⟩,?_⟩);rfl)|(repeat' first|exact rfl|refine And.intro ?_ ?_|refine ⟨_,rfl,?_⟩)) (by (repeat' first|exact rfl|refine And.intro ?_ ?_|refine ⟨_,rfl,?_⟩)) (by rfl) (by rfl) [(3,.d (.int .i64 ((v:Int)))),(5,.ptr 1 0),(6,.ptr 2 0),(7,.ptr 3 0),(9,.ptr 4 0),(10,.ptr 5 0),(11,.ptr 6 0),(12,.ptr 7 0),(23,.d (.int .i64 (((a.rel.map dU).length:Int)))),(24,.d (.int .i64 ((g:Int)))),(zc,.own 0)] (fun (o:BitVec 64)=>[(0,some (.row 1 (p.map D.u64))),(1,some (zao a)),(2,some (zao b)),(3,some (.box [.own 0])),(4,some (.box [.d (.int .i64 (w:Int))])),(5,some (.box [.d (.bool false)])),(6,some (.box [.d (.int .i64 (g:Int))])),(7,some (.box [.d (.u64 o)]))]) 8 (fun i (o:BitVec 64)=>o=zdE p ((zn x).take i) ∧ ∀ j y,j < i→(zn x)[j]? = some y→p.getD y 0#64&&&t≠0#64) (0#64) [(0,0),(1,1),(2,2),(3,3),(4,4),(5,5),(6,6),(7,7)] [] (⟨rfl,fun j y h=>by omega⟩) (by (refine ⟨rfl,rfl,rfl,?_,?_⟩;repeat' first|exact trivial|exact rfl|exact .inl rfl|refine And.intro ?_ ?_|refine ⟨_,rfl,?_⟩|decide)) ?_ ?_
    ·rintro i y o hy ⟨ho,hJ⟩
     obtain ⟨u,hu,rfl,hxu,hu64⟩:=zkp hy
     have hup:=hin u hxu
     refine ⟨rfl,?_⟩
     (repeat' ((conv=>whnf);first|refine vA ?_|(refine vF ?_ ?_<;>intro hc)|refine vT ?_|refine vN ‹_› ?_|(refine vQ ?_ fun x hx=>?_;·omega)|(refine vP ?_ ?_;·(simp only [vM] at *;omega))|(refine vU ?_ ?_;·kernel_rfl)|fail));all_goals try conv=>whnf
     ·have hpu:p.getD u 0#64=x:=by rw [Int.toNat_natCast] at hx;simp [List.getD,hx]
      rw [zom hil (by rw [hs,hst];exact zui hxu hu64 (by rw [hpu];exact hc))]
      refine ⟨trivial,_,[(0,0)],[],rfl,.inl (by (repeat' exact .inr (.inr ⟨rfl,rfl⟩))),⟨by rfl,by rfl,by rfl,trivial,by (repeat' first|exact trivial|exact rfl|refine And.intro ?_ ?_|refine ⟨_,rfl,?_⟩|exact of_decide_eq_true rfl)⟩,by (repeat' first|exact trivial|exact rfl|refine And.intro ?_ ?_)⟩
     ·have hpu:p.getD u 0#64=x:=by rw [Int.toNat_natCast] at hx;simp [List.getD,hx]
      exact ⟨o|||x,[(0,0),(1,1),(2,2),(3,3),(4,4),(5,5),(6,6),(7,7)],[],⟨by rw [ho,zsm hu,hpu],fun j y hj h=>by
       by_cases e:j=i
       ·subst e;rw [hu] at h;cases h;rw [hpu];exact hc
       ·exact hJ j y (by omega) h⟩,by (refine ⟨rfl,rfl,rfl,?_,?_⟩;repeat' first|exact trivial|exact rfl|exact .inl rfl|refine And.intro ?_ ?_|refine ⟨_,rfl,?_⟩|decide)⟩
    ·rintro o ⟨ho,hJ⟩
     rw [List.length_map,List.take_length] at ho
     rw [List.length_map] at hJ
     (repeat' ((conv=>whnf);first|refine vA ?_|(refine vD ?_ ?_<;>intro hc)|refine vT ?_|refine vN ‹_› ?_|(refine vO ?_ ?_;·omega)|(refine vU ?_ ?_;·kernel_rfl)|fail));all_goals try conv=>whnf
     ·rw [zom hil (by
       rw [hs,hst]
       unfold zid
       rw [Bool.and_eq_false_iff];right
       rw [← ho]
       exact decide_eq_false hc)]
      refine ⟨trivial,_,[(0,0)],[],rfl,.inl (by (repeat' exact .inr (.inr ⟨rfl,rfl⟩))),⟨by rfl,by rfl,by rfl,trivial,by (repeat' first|exact trivial|exact rfl|refine And.intro ?_ ?_|refine ⟨_,rfl,?_⟩|exact of_decide_eq_true rfl)⟩,by (repeat' first|exact trivial|exact rfl|refine And.intro ?_ ?_)⟩
     ·have hcc:t &&& ~~~o=0#64:=hc
      refine ⟨g+1,[(0,0),(1,1),(2,2),(3,3),(4,4),(5,5)],[],?_,?_,by (refine ⟨rfl,rfl,rfl,?_,?_⟩;repeat' first|exact trivial|exact rfl|exact .inl rfl|refine And.intro ?_ ?_|refine ⟨_,rfl,?_⟩|decide)⟩
      ·refine ⟨by (omega),fun j hj=>?_⟩
       by_cases e:j=g
       ·subst e
        rw [hs,hst]
        unfold zid zrr
        rw [Bool.and_eq_true_iff]
        refine ⟨List.all_eq_true.2 fun y hy=>?_,by rw [← ho];exact decide_eq_true hcc⟩
        obtain ⟨k,hk⟩:=List.mem_iff_getElem?.1 hy
        exact decide_eq_true (hJ k y (List.getElem?_eq_some_iff.1 hk).1 hk)
       ·exact hI j (by omega)
      ·(omega)
  ·exfalso;omega
 ·(repeat' ((conv=>whnf);first|refine vA ?_|(refine vF ?_ ?_<;>intro hc<;>try simp only [vL] at hc)|refine vT ?_|(refine vQ ?_ fun x hx=>?_;·omega)|fail));all_goals try conv=>whnf
  ·omega
  ·rw [show zd8 a b p v w=true by
    rw [zd8,decide_eq_true (by omega),Bool.true_and,List.all_eq_true]
    exact fun j hj=>hI j (by have:=List.mem_range.1 hj;omega)]
   refine ⟨trivial,_,[(0,0)],[],rfl,.inl (by (repeat' exact .inr (.inl ⟨rfl,rfl⟩))),⟨by rfl,by rfl,by rfl,trivial,by (repeat' first|exact trivial|exact rfl|refine And.intro ?_ ?_|refine ⟨_,rfl,?_⟩|exact of_decide_eq_true rfl)⟩,by (repeat' first|exact trivial|exact rfl|refine And.intro ?_ ?_)⟩
end Go.Ab
namespace Go.Ab
open Go
section
variable {m:KM} (hk0:za m=0) {w:Nat} (hw:w < m.W.toNat)
include hk0 hw
theorem znR:(cnL m (w:Int)).2=0∧za (cnL m (w:Int)).1=0∧(cnL m (w:Int)).1.W=((ptM m w).can.n:Int)∧(cnL m (w:Int)).1.val.length=m.val.length∧(cnL m (w:Int)).1.rel.length=m.rel.length ∧
  zcT (ptM m w).can.n (ptM m w).can.fa (zz (cnL m (w:Int)).1) (ptM m w).can.R (zg (cnL m (w:Int)).1) fun x=>x:=by
 obtain ⟨h1,h2,h3,h4⟩:=ziU hk0 hw
 have hr:(ptM m w).min.root < (ptM m w).min.n:=zrZ hk0 hw
 have hQv:(zad m (w:Int)).1.val.length=m.val.length∧(zad m (w:Int)).1.rel.length=m.rel.length:=by
  rw [zor hk0 (by omega)];simp [zbg,zV,zJ]
 have hg:=ztt hk0 hw
 rw [zzY hk0 hw]
 have hcn:(ptM m w).can.n=(ptM m w).min.n:=rfl
 have hcw:zdf (zad m (w:Int)).1 (ptM m w).min.root=zS (List.range (ptM m w).min.n) (ptM m w).min.R (ptM m w).min.fa (ptM m w).min.root:=by
  unfold zdf
  rw [hg,h1]
  have:=zs5 (l:=List.range (ptM m w).min.n) (l2:=List.range (ptM m w).min.n) (R:=(ptM m w).min.R) (R2:=zg (zad m (w:Int)).1) (fa:=(ptM m w).min.fa) (fb:=zz (zad m (w:Int)).1) (root:=(ptM m w).min.root) (root2:=(ptM m w).min.root) (f:=fun x=>x)
   List.nodup_range List.nodup_range (fun x=>by simp) (fun x y _ _ e=>e) (fun x hx=>h4.fac x (List.mem_range.1 hx)) h4.rel.len (fun i r r' e1 e2 x y hx hy=>h4.rel.rel i r r' e1 e2 x y (List.mem_range.1 hx) (List.mem_range.1 hy)) (List.mem_range.2 hr) rfl (zjl (zdp (ptM m w)) _)
  rw [this,List.map_id']
 have w2:=(zq h2).w2
 obtain ⟨l1,l2,l3,l4⟩:=zmN (R:=(ptM m w).min.R) (fa:=(ptM m w).min.fa) hr (zdp (ptM m w))
 have hfa:(ptM m w).can.fa=zae (zS (List.range (ptM m w).min.n) (ptM m w).min.R (ptM m w).min.fa (ptM m w).min.root) (ptM m w).min.fa:=rfl
 have hR:(ptM m w).can.R=zF (zS (List.range (ptM m w).min.n) (ptM m w).min.R (ptM m w).min.fa (ptM m w).min.root) (ptM m w).min.R:=rfl
 rw [hcw]
 generalize zS (List.range (ptM m w).min.n) (ptM m w).min.R (ptM m w).min.fa (ptM m w).min.root=cw at *
 rw [hfa,hR,hcn]
 generalize (zad m (w:Int)).1=Q at *
 generalize (ptM m w).min=P at *
 refine ⟨rfl,znv h2 (by omega) (by omega),by show ((cw.length:Nat):Int)=_;rw [l1],by simp [zJ,hQv.1],by simp [zJ,hQv.2],zcT.refl' (fun x hx=>?_) ?_ fun i r r' e1 e2 a b ha hb=>?_⟩
 ·rw [zlr (by omega) (by omega)]
  exact h4.fac _ ((l3 _).1 (zac (by omega)))
 ·have:=h4.rel.len
  simp [zg,zJ,zF] at this ⊢;omega
 ·unfold zF at e1
  rw [List.getElem?_map,Option.map_eq_some_iff] at e1
  obtain ⟨s,hs,rfl⟩:=e1
  obtain ⟨s',hs'⟩:=zdD h4.rel.len hs
  have h3':(zF cw (zg Q))[i]? = some fun a b=>s' (cw.getD a 0) (cw.getD b 0):=by unfold zF;rw [List.getElem?_map,hs'];rfl
  rw [zoM (by omega) e2 h3' (by omega) (by omega)]
  exact h4.rel.rel i s s' hs hs' _ _ ((l3 _).1 (zac (by omega))) ((l3 _).1 (zac (by omega)))
end
theorem zAo {m m':KM} (hm:za m=0) (hm':za m'=0) {w w':Nat} (hw:w < m.W.toNat) (hw':w' < m'.W.toNat) (hv:m'.val.length=m.val.length) (h:zbZ (ptM m w) (ptM m' w')):(cnL m (w:Int)).1=(cnL m' (w':Int)).1:=by
 have hc:=(zl9 (m:=ptM m w) (m':=ptM m' w') hw hw').2 h
 obtain ⟨a1,a2,a3,a4,a5,a6⟩:=znR hm hw
 obtain ⟨b1,b2,b3,b4,b5,b6⟩:=znR hm' hw'
 have hrl:m'.rel.length=m.rel.length:=by
  obtain ⟨Z,B,-⟩:=h
  have:=B.len
  simpa [ptM,zg] using this
 generalize (cnL m (w:Int)).1=C at *
 generalize (cnL m' (w':Int)).1=D at *
 have hn:=hc.n
 have hCW:C.W.toNat=(ptM m w).can.n:=by omega
 refine zzB (zq a2) (zq b2) (by rw [a3,b3,hn]) (by rw [a4,b4,hv]) (by rw [a5,b5,hrl]) (fun x hx=>?_) fun i r r' e1 e2 u v hu hv'=>?_
 ·rw [hCW] at hx
  rw [show zz C x=_ from a6.fac x hx,show zz D x=_ from b6.fac x (by rw [hn];exact hx)]
  exact (hc.fa x hx).symm
 ·rw [hCW] at hu hv'
  obtain ⟨s,hs⟩:=zdD a6.rel.len.symm e1
  obtain ⟨s',hs'⟩:=zdD b6.rel.len.symm e2
  rw [show r u v=_ from a6.rel.rel i s r hs e1 u v hu hv',show r' u v=_ from b6.rel.rel i s' r' hs' e2 u v (by rw [hn];exact hu) (by rw [hn];exact hv')]
  exact (hc.rel i s s' hs hs' u v hu hv').symm
theorem zAj {m m':KM} (hm:za m=0) (hm':za m'=0) {w w':Nat} (hw:w < m.W.toNat) (hw':w' < m'.W.toNat) (h:(cnL m (w:Int)).1=(cnL m' (w':Int)).1):zbZ (ptM m w) (ptM m' w'):=by
 obtain ⟨a1,a2,a3,a4,a5,a6⟩:=znR hm hw
 obtain ⟨b1,b2,b3,b4,b5,b6⟩:=znR hm' hw'
 rw [h] at a3 a6
 have hn:(ptM m' w').can.n=(ptM m w).can.n:=by omega
 refine (zl9 (m:=ptM m w) (m':=ptM m' w') hw hw').1 ⟨hn,fun k hk=>?_,?_,fun i r r' e1 e2 a b ha hb=>?_⟩
 ·rw [← a6.fac k hk,← b6.fac k (by omega)]
 ·rw [← a6.rel.len,← b6.rel.len]
 ·obtain ⟨s,hs⟩:=zdD a6.rel.len e1
  rw [← a6.rel.rel i r s e1 hs a b ha hb,← b6.rel.rel i r' s e2 hs a b (by omega) (by omega)]
end Go.Ab
namespace Go.Ab
open Go
theorem zpd {x:BitVec 64} : x≠0#64 ↔ ∃ i,x.getLsbD i=true:=by
 constructor
 ·intro h
  refine Classical.byContradiction fun hn=>h (BitVec.eq_of_getLsbD_eq fun i hi=>?_)
  rw [BitVec.getLsbD_zero]
  cases e:x.getLsbD i
  ·rfl
  ·exact absurd ⟨i,e⟩ hn
 ·rintro ⟨i,hi⟩ rfl
  simp at hi
theorem zxb {p:List (BitVec 64)} {s t:BitVec 64} : zrr p s t=true ↔ ∀ x,s.getLsbD x=true → ∃ y,(p.getD x 0#64).getLsbD y=true∧t.getLsbD y=true:=by
 unfold zrr
 rw [List.all_eq_true]
 simp only [zbR,decide_eq_true_eq,zpd,BitVec.getLsbD_and,Bool.and_eq_true]
theorem znc {p:List (BitVec 64)} {s t:BitVec 64} : zid p s t=true↔(∀ x,s.getLsbD x=true → ∃ y,(p.getD x 0#64).getLsbD y=true∧t.getLsbD y=true) ∧ ∀ y,t.getLsbD y=true → ∃ x,s.getLsbD x=true∧(p.getD x 0#64).getLsbD y=true:=by
 unfold zid
 rw [Bool.and_eq_true,zxb,decide_eq_true_eq]
 refine and_congr Iff.rfl ?_
 constructor
 ·intro h y hy
  refine Classical.byContradiction fun hn=>?_
  have:(t &&& ~~~(zdE p (zn s)))≠0#64:=zpd.2 ⟨y,?_⟩
  ·exact this h
  ·have hy64:y < 64:=by
    refine Nat.lt_of_not_le fun h=>?_
    rw [BitVec.getLsbD_of_ge _ _ h] at hy;cases hy
   rw [BitVec.getLsbD_and,hy,Bool.true_and,BitVec.getLsbD_not,decide_eq_true hy64,Bool.true_and]
   cases e:(zdE p (zn s)).getLsbD y
   ·rfl
   ·obtain ⟨u,hu,he⟩:=zmz.1 e
    exact absurd ⟨u,zbR.1 hu,he⟩ hn
 ·intro h
  refine Classical.byContradiction fun hn=>?_
  obtain ⟨y,hy⟩:=zpd.1 hn
  rw [BitVec.getLsbD_and,BitVec.getLsbD_not,Bool.and_eq_true,Bool.and_eq_true] at hy
  obtain ⟨x,h1,h2⟩:=h y hy.1
  have:(zdE p (zn s)).getLsbD y=true:=zmz.2 ⟨x,zbR.2 h1,h2⟩
  rw [this] at hy
  simp at hy
theorem zc9 {m:KM} {i v u:Nat} {r:Nat→Nat→Bool} (h:(zg m)[i]? = some r):(zcQ m i v).getLsbD u=r v u:=by
 unfold zg at h
 rw [List.getElem?_map,Option.map_eq_some_iff] at h
 obtain ⟨s,hs,rfl⟩:=h
 unfold zcQ rb
 simp [List.getD,hs]
theorem zmW {m:KM} (g:zcm m) {i v u:Nat} (h:(zcQ m i v).getLsbD u=true):u < m.W.toNat:=by
 have w1:=g.w1
 unfold zcQ at h
 by_cases hi:i < m.rel.length
 ·by_cases hv:v < (m.rel[i]).length
  ·have e:(m.rel.getD i []).getD v 0#64=(m.rel[i])[v]:=by simp [List.getD,hi,hv]
   rw [e] at h
   exact (ze0 (by omega)).1 (g.rel _ (List.getElem_mem hi) _ (List.getElem_mem hv)) u h
  ·simp [List.getD,hi,hv] at h
 ·simp [List.getD,hi] at h
theorem zup {a b:KM} (ga:zcm a) (gb:zcm b) {p:List (BitVec 64)} {Z:Nat→Nat→Prop} (B:zcc a.W.toNat b.W.toNat (zg a) (zg b) (zz a) (zz b) Z) (hp : ∀ v w,Z v w→(p.getD v 0#64).getLsbD w=true) {v w:Nat} (h:Z v w):zd8 a b p v w=true:=by
 unfold zd8
 rw [decide_eq_true (B.fac h),Bool.true_and,List.all_eq_true]
 intro i hi
 have hi:=List.mem_range.1 hi
 obtain ⟨r,hr⟩ : ∃ r,(zg a)[i]? = some r:=⟨_,List.getElem?_eq_getElem (by rw [zjI];exact hi)⟩
 obtain ⟨r',hr'⟩:=zdD B.len hr
 rw [znc]
 constructor
 ·intro x hx
  have hxl:=zmW ga hx
  rw [zc9 hr] at hx
  obtain ⟨u,h1,h2,h3⟩:=B.forth hr hr' h hxl hx
  exact ⟨u,hp _ _ h3,by rw [zc9 hr'];exact h2⟩
 ·intro y hy
  have hyl:=zmW gb hy
  rw [zc9 hr'] at hy
  obtain ⟨u,h1,h2,h3⟩:=B.back hr hr' h hyl hy
  exact ⟨u,by rw [zc9 hr];exact h2,hp _ _ h3⟩
theorem ztS {a b:KM} (ga:zcm a) (gb:zcm b) (hl:a.rel.length=b.rel.length) {p:List (BitVec 64)} (hp : ∀ v w,v < a.W.toNat→(p.getD v 0#64).getLsbD w=true→w < b.W.toNat∧zd8 a b p v w=true):zcc a.W.toNat b.W.toNat (zg a) (zg b) (zz a) (zz b) fun v w=>v < a.W.toNat∧(p.getD v 0#64).getLsbD w=true:=by
 have key : ∀ {v w:Nat},(v < a.W.toNat∧(p.getD v 0#64).getLsbD w=true)→zz a v=zz b w ∧ ∀ i,i < a.rel.length→zid p (zcQ a i v) (zcQ b i w)=true:=fun {v w} h=>by
  have h1:=(hp v w h.1 h.2).2
  unfold zd8 at h1
  rw [Bool.and_eq_true,decide_eq_true_eq,List.all_eq_true] at h1
  exact ⟨h1.1,fun i hi=>h1.2 i (List.mem_range.2 hi)⟩
 have il : ∀ {i:Nat} {r:Nat→Nat→Bool},(zg a)[i]? = some r→i < a.rel.length:=fun h=>by
  have:=(List.getElem?_eq_some_iff.1 h).1
  rwa [zjI] at this
 refine ⟨by rw [zjI,zjI,hl],fun h=>⟨h.1,(hp _ _ h.1 h.2).1⟩,fun h=>(key h).1,fun {i r r'} h1 h2 {v v' u} h hu hr=>?_,fun {i r r'} h1 h2 {v v' u} h hu hr=>?_⟩
 ·obtain ⟨y,h3,h4⟩:=(znc.1 ((key h).2 i (il h1))).1 u (by rw [zc9 h1];exact hr)
  exact ⟨y,(hp u y hu h3).1,by rw [← zc9 h2];exact h4,hu,h3⟩
 ·obtain ⟨x,h3,h4⟩:=(znc.1 ((key h).2 i (il h1))).2 u (by rw [zc9 h2];exact hr)
  have hx:=zmW ga h3
  exact ⟨x,hx,by rw [← zc9 h1];exact h3,hx,h4⟩
end Go.Ab
namespace Go.Ab
open Go Go.Proofs
set_option maxRecDepth 10000
set_option maxHeartbeats 4000000
variable {T:Nat→Obj→Prop}
noncomputable def zgw (a b:KM):List (BitVec 64):=(List.range a.W.toNat).map fun v=>zaC (fun w => @decide (zbZ (ptM a v) (ptM b w)) (Classical.propDecidable _)) b.W.toNat
def zex:List (BitVec 64)→Nat
 | []=>0
 | s::l=>(zn s).length+zex l
theorem zqX : ∀ {p:List (BitVec 64)} {g:Nat} {x y:BitVec 64},p[g]? = some x→(zn y).length < (zn x).length→zex (p.set g y) < zex p
 | [],_,_,_,h,_=>by simp at h
 | s::l,0,x,y,h,hl=>by
  simp only [List.getElem?_cons_zero,Option.some.injEq] at h
  subst h
  show (zn y).length+zex l < (zn s).length+zex l
  omega
 | s::l,g+1,x,y,h,hl=>by
  have:=zqX (p:=l) (g:=g) (by simpa using h) hl
  show (zn s).length+zex (l.set g y) < (zn s).length+zex l
  omega
theorem zgg {x:BitVec 64} {w i:Nat} (hw:w < 64):(x &&& ~~~(1#64 <<< w)).getLsbD i=true↔x.getLsbD i=true∧i≠w:=by
 rw [BitVec.getLsbD_and,BitVec.getLsbD_not,BitVec.getLsbD_shiftLeft]
 constructor
 ·intro h
  simp only [Bool.and_eq_true,Bool.not_eq_true',decide_eq_true_eq,Bool.and_eq_false_iff,decide_eq_false_iff_not,Bool.not_eq_false',BitVec.getLsbD_one] at h
  refine ⟨h.1,fun e=>?_⟩
  subst e
  omega
 ·rintro ⟨h1,h2⟩
  have:i < 64:=by
   refine Nat.lt_of_not_le fun h=>?_
   rw [BitVec.getLsbD_of_ge _ _ h] at h1;cases h1
  simp only [h1,Bool.true_and,Bool.and_eq_true,Bool.not_eq_true',decide_eq_true_eq,Bool.and_eq_false_iff,decide_eq_false_iff_not,Bool.not_eq_false',BitVec.getLsbD_one]
  omega
theorem ztT {x:BitVec 64} {w:Nat} (hw:w < 64) (hx:x.getLsbD w=true):(zn (x &&& ~~~(1#64 <<< w))).length < (zn x).length:=by
 unfold zn
 refine (ze5 (fun i h=>((zgg hw).1 h).1) _).2 ⟨w,List.mem_range.2 hw,?_,hx⟩
 rw [← Bool.not_eq_true]
 exact fun h=>((zgg hw).1 h).2 rfl
theorem zsn {n i:Nat} (hn:n≤64):((1#64 <<< n) - 1#64).getLsbD i=true↔i < n:=by
 have e:(1#64 <<< n) - 1#64=zi7 (n:Int):=by
  unfold zi7
  by_cases h:n=64
  ·subst h;rfl
  ·rw [if_neg (by omega),Int.toNat_natCast]
 rw [e]
 by_cases hi:i < 64
 ·rw [zmE (by omega) hi,decide_eq_true_eq];omega
 ·rw [BitVec.getLsbD_of_ge _ _ (by omega)]
  exact ⟨fun h=>absurd h (by decide),fun h=>by omega⟩
structure BtI (a b:KM) (p:List (BitVec 64)):Prop where
 len:p.length=a.W.toNat
 ins : ∀ v w,(p.getD v 0#64).getLsbD w=true→w < b.W.toNat
 sup : ∀ v w,zbZ (ptM a v) (ptM b w)→(p.getD v 0#64).getLsbD w=true
theorem BtI.start {a b:KM} (hb:b.W.toNat≤64):BtI a b ((List.range a.W.toNat).map fun _=>(1#64 <<< b.W.toNat) - 1#64) where
 len:=by simp
 ins:=fun v w h=>by
  by_cases hv:v < a.W.toNat
  ·exact (zsn hb).1 (by simpa [List.getD,hv] using h)
  ·simp [List.getD,hv] at h
 sup:=fun v w ⟨Z,B,hz⟩=>by
  have:=B.lt hz
  have hv:v < a.W.toNat:=this.1
  have:=(zsn (i:=w) hb).2 this.2
  simpa [List.getD,hv] using this
theorem zmV {p:List (BitVec 64)} {g v:Nat} {y:BitVec 64} (hg:g < p.length):(p.set g y).getD v 0#64=if v=g then y else p.getD v 0#64:=by
 simp only [List.getD,List.getElem?_set]
 by_cases e:v=g
 ·subst e;simp [hg]
 ·simp [e,Ne.symm e]
theorem BtI.del {a b:KM} (ga:zcm a) (gb:zcm b) {p:List (BitVec 64)} (h:BtI a b p) {g w:Nat} {x:BitVec 64} (hx:p[g]? = some x) (hw:w < 64) (hm:zd8 a b p g w=false):BtI a b (p.set g (x &&& ~~~(1#64 <<< w))):=by
 have hgl:=(List.getElem?_eq_some_iff.1 hx).1
 have hpx:p.getD g 0#64=x:=by simp [List.getD,hx]
 refine ⟨by rw [List.length_set,h.len],fun v u hb=>?_,fun v u hb=>?_⟩
 ·rw [zmV hgl] at hb
  by_cases e:v=g
  ·subst e
   rw [if_pos rfl] at hb
   exact h.ins v u (by rw [hpx];exact ((zgg hw).1 hb).1)
  ·rw [if_neg e] at hb;exact h.ins v u hb
 ·have h1:=h.sup v u hb
  rw [zmV hgl]
  by_cases e:v=g
  ·subst e
   rw [if_pos rfl,zgg hw]
   rw [hpx] at h1
   refine ⟨h1,fun e=>?_⟩
   subst e
   obtain ⟨Z,B,hz⟩:=hb
   have:=zup ga gb B (p:=p) (fun v w hz'=>h.sup v w ⟨Z,B,hz'⟩) hz
   exact absurd (hm.symm.trans this) (by decide)
  ·rw [if_neg e];exact h1
theorem BtI.done {a b:KM} (ga:zcm a) (gb:zcm b) (hl:a.rel.length=b.rel.length) {p:List (BitVec 64)} (h:BtI a b p) (hm : ∀ v w,v < a.W.toNat→(p.getD v 0#64).getLsbD w=true→zd8 a b p v w=true):p=zgw a b:=by
 have wb2:=gb.w2
 have B:=ztS ga gb hl (p:=p) fun v w hv hw=>⟨h.ins v w hw,hm v w hv hw⟩
 refine List.ext_getElem (by simp [zgw,h.len]) fun v h1 h2=>?_
 have hv:v < a.W.toNat:=by rw [← h.len];exact h1
 have e1:p[v]=p.getD v 0#64:=by simp [List.getD,h1]
 have e2:(zgw a b)[v]=zaC (fun w => @decide (zbZ (ptM a v) (ptM b w)) (Classical.propDecidable _)) b.W.toNat:=by
  have:(zgw a b)[v]? = some (zaC (fun w => @decide (zbZ (ptM a v) (ptM b w)) (Classical.propDecidable _)) b.W.toNat):=by unfold zgw;rw [List.getElem?_map,List.getElem?_range hv];rfl
  exact (List.getElem?_eq_some_iff.1 this).2
 rw [e1,e2]
 refine BitVec.eq_of_getLsbD_eq fun i hi=>?_
 rw [Bool.eq_iff_iff,zbU (by omega),@decide_eq_true_eq _ (Classical.propDecidable _)]
 constructor
 ·intro hb
  exact ⟨h.ins v i hb,_,B,hv,hb⟩
 ·rintro ⟨-,hb⟩
  exact h.sup v i hb
noncomputable def zh6 (a b:KM):List (BitVec 64)×Int:=if zde a b≠0 then ([],zde a b) else (zgw a b,0)
theorem zsF (hT:zbP T) (a b:KM):Fn Tryz.prog T zhM [.d (dKM a),.d (dKM b)] [] (.d (.tup [dU (zh6 a b).1,.int .i64 (zh6 a b).2])) []:=by
 have cbo:=zw8 (T:=T) a b
 refine zj zy zob (by show 2≤64;decide) ?_
 by_cases h0:zde a b=0
 ·have hh:za a=0∧za b=0∧a.rel.length=b.rel.length:=by
   unfold zde at h0
   by_cases h1:za a=0
   ·by_cases h2:za b=0
    ·by_cases h3:a.rel.length≠b.rel.length∨a.val.length≠b.val.length
     ·rw [if_neg (not_not_intro h1),if_neg (not_not_intro h2),if_pos h3] at h0;cases h0
     ·exact ⟨h1,h2,by omega⟩
    ·rw [if_neg (not_not_intro h1),if_pos h2] at h0;exact absurd h0 h2
   ·rw [if_pos h1] at h0;exact absurd h0 h1
  obtain ⟨ha,hb,hr⟩:=hh
  have ga:=zq ha
  have gb:=zq hb
  have wa1:=ga.w1
  have wa2:=ga.w2
  have wb1:=gb.w1
  have wb2:=gb.w2
  rw [show zh6 a b=(zgw a b,0) by rw [zh6,if_neg (not_not_intro h0)]]
  rw [h0] at cbo
  (repeat' ((conv=>whnf);first|refine vA ?_|refine vH ?_|refine vK fun hg=>?_|refine vT ?_|(refine vP ?_ ?_;·omega)|refine yD cbo ⟨⟨rfl,rfl⟩,⟨rfl,rfl⟩,rfl⟩ rfl ?_));all_goals try conv=>whnf
  refine zu (fun ((k,zs):Nat×List D)=>[(2,.ptr 0 0),(3,.ptr 1 0),(7,.ptr 3 0),(23,.d (.int .i64 (((List.replicate a.W.toNat (D.u64 0#64)).length:Int)))),(24,.d (.int .i64 ((k:Int))))]) (fun ((k,zs):Nat×List D)=>[(0,some (zao a)),(1,some (zao b)),(2,some (.row 1 zs)),(3,some (.box [.own 2]))]) 4 (fun ((k,zs):Nat×List D)=>k≤a.W.toNat∧zs=(List.range a.W.toNat).map fun u=>if u < k then D.u64 ((1#64 <<< b.W.toNat) - 1#64) else D.u64 0#64) (fun ((k,zs):Nat×List D)=>a.W.toNat - k) ((0,List.replicate a.W.toNat (D.u64 0#64))) [(0,0),(1,1),(2,2),(3,3)] [] (⟨by omega,by simp only [Nat.not_lt_zero,if_false];exact zaa _ _⟩) (by (refine ⟨rfl,rfl,rfl,?_,?_⟩;repeat' first|exact trivial|exact rfl|refine And.intro ?_ ?_|refine ⟨_,rfl,?_⟩|decide)) ?_
  rintro ⟨k,zs⟩ ⟨hk,hz⟩
  have hzl:zs.length=a.W.toNat:=by rw [hz];simp
  by_cases hkl:k < a.W.toNat
  ·(repeat' ((conv=>whnf);first|refine vA ?_|(refine vF ?_ ?_<;>intro hc<;>try simp only [vL] at hc)|refine vT ?_|((first|refine vO ?_ ?_|refine vP ?_ ?_);·omega)|(refine vU ?_ ?_;·kernel_rfl)|fail));all_goals try conv=>whnf
   ·refine ⟨(k+1,_),[(0,0),(1,1),(2,2),(3,3)],[],?_,?_,by (refine ⟨rfl,rfl,rfl,?_,?_⟩;repeat' first|exact trivial|exact rfl|refine And.intro ?_ ?_|refine ⟨_,rfl,?_⟩|decide)⟩
    ·refine ⟨by (omega),?_⟩
     rw [hz];exact zhz (α:=Unit) rfl
    ·((simp only [vM] at *;omega))
   ·exfalso;omega
  ·obtain rfl:k=a.W.toNat:=by omega
   obtain rfl:zs=((List.range a.W.toNat).map fun _=>(1#64 <<< b.W.toNat) - 1#64).map D.u64:=by
    rw [hz,List.map_map]
    exact zL fun u hu=>by rw [if_pos hu];rfl
   clear hz
   (repeat' ((conv=>whnf);first|refine vA ?_|(refine vF ?_ ?_<;>intro hc<;>try simp only [vL] at hc)|refine vT ?_|((first|refine vO ?_ ?_|refine vP ?_ ?_);·omega)|(refine vU ?_ ?_;·kernel_rfl)|fail));all_goals try conv=>whnf
   ·exfalso;omega
   ·refine zu (fun ((p,ch):List (BitVec 64)×Bool)=>[(2,.ptr 0 0),(3,.ptr 1 0),(7,.ptr 3 0),(9,.ptr 4 0)]) (fun ((p,ch):List (BitVec 64)×Bool)=>[(0,some (zao a)),(1,some (zao b)),(2,some (.row 1 (p.map D.u64))),(3,some (.box [.own 2])),(4,some (.box [.d (.bool ch)]))]) 5 (fun ((p,ch):List (BitVec 64)×Bool)=>BtI a b p∧(ch=false → ∀ v w,v < a.W.toNat→(p.getD v 0#64).getLsbD w=true→zd8 a b p v w=true)) (fun ((p,ch):List (BitVec 64)×Bool)=>zex p+(if ch then 1 else 0)) (((List.range a.W.toNat).map fun _=>(1#64 <<< b.W.toNat) - 1#64,true)) [(0,0),(1,1),(2,2),(3,3),(4,4)] [] (⟨.start (by omega),fun h=>by cases h⟩) (by (refine ⟨rfl,rfl,rfl,?_,?_⟩;repeat' first|exact trivial|exact rfl|exact .inr (.inl ⟨rfl,rfl⟩)|refine And.intro ?_ ?_|refine ⟨_,rfl,?_⟩|decide)) ?_
    rintro ⟨p,ch⟩ ⟨hB,hF⟩
    have hpl:=hB.len
    cases ch with
    | false =>
     have hd:=hB.done ga gb hr (hF rfl)
     (repeat' ((conv=>whnf);first|refine vA ?_|refine vH ?_|refine vT ?_));all_goals try conv=>whnf
     rw [← hd]
     rfl
    | true =>
     (repeat' ((conv=>whnf);first|refine vA ?_|refine vG ?_|refine vJ fun hg=>?_|refine vT ?_));all_goals try conv=>whnf
     refine zu (fun ((g,q,c):Nat×List (BitVec 64)×Bool)=>[(2,.ptr 0 0),(3,.ptr 1 0),(7,.ptr 3 0),(9,.ptr 4 0),(36,.own 2),(37,.d (.int .i64 (((p.map D.u64).length:Int)))),(38,.d (.int .i64 ((g:Int))))]) (fun ((g,q,c):Nat×List (BitVec 64)×Bool)=>[(0,some (zao a)),(1,some (zao b)),(2,some (.row 1 (q.map D.u64))),(3,some (.box [.own 2])),(4,some (.box [.d (.bool c)]))]) 5 (fun ((g,q,c):Nat×List (BitVec 64)×Bool)=>g≤a.W.toNat∧BtI a b q∧(c=false→q=p ∧ ∀ v w,v < g→(p.getD v 0#64).getLsbD w=true→zd8 a b p v w=true)∧(c=true→zex q < zex p)) (fun ((g,q,c):Nat×List (BitVec 64)×Bool)=>a.W.toNat - g) ((0,p,false)) [(0,0),(1,1),(2,2),(3,3),(4,4)] [] (⟨by omega,hB,fun _=>⟨rfl,fun v w h=>by omega⟩,fun h=>by cases h⟩) (by (refine ⟨rfl,rfl,rfl,?_,?_⟩;repeat' first|exact trivial|exact rfl|exact .inr (.inr ⟨rfl,rfl⟩)|refine And.intro ?_ ?_|refine ⟨_,rfl,?_⟩|decide)) ?_
     rintro ⟨g,q,c⟩ ⟨hg,hQ,hc0,hc1⟩
     have hql:=hQ.len
     by_cases hgl:g < a.W.toNat
     ·(repeat' ((conv=>whnf);first|refine vA ?_|(refine vF ?_ ?_<;>intro hc<;>try simp only [vL] at hc)|refine vT ?_|(refine vQ ?_ fun x hx=>?_;·omega)|(refine vP ?_ ?_;·(simp only [vM] at *;omega))|fail));all_goals try conv=>whnf
      ·have hqg:q[g]? = some x:=by simpa using hx
       clear hx
       revert x
       rintro X0 hqg
       refine zan.res (zh8 X0) (by (repeat refine ⟨⟨rfl,rfl⟩,?_⟩);rfl) ?_
       (repeat' ((conv=>whnf);refine vT ?_));all_goals try conv=>whnf
       refine zld (zia hT X0) [6] [] (by first|((repeat refine ⟨⟨rfl,rfl⟩,?_⟩);rfl)|(repeat' first|exact rfl|refine And.intro ?_ ?_|refine ⟨_,rfl,?_⟩)) (by (repeat' first|exact rfl|refine And.intro ?_ ?_|refine ⟨_,rfl,?_⟩)) (by rfl) (by rfl) [(2,.ptr 0 0),(3,.ptr 1 0),(7,.ptr 3 0),(9,.ptr 4 0),(10,.ptr 5 0),(36,.own 2),(37,.d (.int .i64 (((p.map D.u64).length:Int)))),(38,.d (.int .i64 ((g:Int))))] (fun ((r,zs,e):List (BitVec 64)×List D×Bool)=>[(0,some (zao a)),(1,some (zao b)),(2,some (.row 1 zs)),(3,some (.box [.own 2])),(4,some (.box [.d (.bool e)])),(5,some (.box [.d (.int .i64 (g:Int))]))]) 6 (fun i ((r,zs,e):List (BitVec 64)×List D×Bool)=>zs=r.map D.u64∧BtI a b r∧(∀ w∈(zn X0).drop i,(r.getD g 0#64).getLsbD w=true)∧(e=false→r=p∧q=p∧(∀ v w,v < g→(p.getD v 0#64).getLsbD w=true→zd8 a b p v w=true) ∧ ∀ j w,j < i→(zn X0)[j]? = some w→zd8 a b p g w=true)∧(e=true→zex r < zex p)) ((q,q.map D.u64,c)) [(0,0),(1,1),(2,2),(3,3),(4,4),(5,5)] [] (⟨rfl,hQ,fun w hw=>by rw [List.drop_zero,zbR] at hw;simpa [List.getD,hqg] using hw,fun h=>⟨(hc0 h).1,(hc0 h).1,(hc0 h).2,fun j w h=>by omega⟩,hc1⟩) (by (refine ⟨rfl,rfl,rfl,?_,?_⟩;repeat' first|exact trivial|exact rfl|exact .inl rfl|refine And.intro ?_ ?_|refine ⟨_,rfl,?_⟩|decide)) ?_ ?_
       ·rintro i y ⟨r,_,e⟩ hy ⟨rfl,hR,hD,he0,he1⟩
        obtain ⟨w,hw,rfl,hxw,hw64⟩:=zkp hy
        have hwb:=hQ.ins g w (by simpa [List.getD,hqg] using hxw)
        have cmo:=zrn (T:=T) hT ha hb hr hR.len hgl hwb
        refine ⟨rfl,?_⟩
        (repeat' ((conv=>whnf);refine vT ?_));all_goals try conv=>whnf
        have hrl:(r.map D.u64).length=a.W.toNat:=by rw [List.length_map];exact hR.len
        refine zan.objs [2] (cmo) (by (repeat' first|exact rfl|refine And.intro ?_ ?_|refine ⟨_,rfl,?_⟩)) (by (repeat' first|exact rfl|refine And.intro ?_ ?_)) (by rfl) (by rfl) (by simp) ?_
        have hdr:(zn X0).drop i=w::(zn X0).drop (i+1):=zW hw
        have hrw:(r.getD g 0#64).getLsbD w=true:=hD w (by rw [hdr];exact List.mem_cons_self)
        cases hmt:zd8 a b r g w with
        | true =>
         (repeat' ((conv=>whnf);first|refine vE ?_|refine vG ?_|refine vT ?_));all_goals try conv=>whnf
         refine ⟨(r,_,e),[(0,0),(1,1),(2,2),(3,3),(4,4),(5,5)],[],?_,by (refine ⟨rfl,rfl,rfl,?_,?_⟩;repeat' first|exact trivial|exact rfl|exact .inl rfl|refine And.intro ?_ ?_|refine ⟨_,rfl,?_⟩|decide)⟩
         refine ⟨rfl,hR,fun u hu=>hD u (by rw [hdr];exact List.mem_cons_of_mem _ hu),fun h=>?_,he1⟩
         obtain ⟨h1,hqp,h2,h3⟩:=he0 h
         refine ⟨h1,hqp,h2,fun j u hj hu=>?_⟩
         by_cases ej:j=i
         ·subst ej
          rw [hw] at hu;cases hu
          rw [← h1];exact hmt
         ·exact h3 j u (by omega) hu
        | false =>
         (repeat' ((conv=>whnf);first|refine vA ?_|refine vE ?_|refine vH ?_|refine vT ?_|(refine vQ ?_ fun x hx=>?_;·(simp only [vM] at *;omega))|(refine vP ?_ ?_;·omega)|(refine vU ?_ ?_;·kernel_rfl)|fail));all_goals try conv=>whnf
         rw [Int.toNat_natCast] at hx
         have hrx:r.getD g 0#64=x:=by simp [List.getD,hx]
         rw [hrx] at hrw
         refine ⟨(r.set g (x &&& ~~~(1#64 <<< w)),_,true),[(0,0),(1,1),(2,2),(3,3),(4,4),(5,5)],[],?_,by (refine ⟨rfl,rfl,rfl,?_,?_⟩;repeat' first|exact trivial|exact rfl|exact .inr (.inl ⟨rfl,rfl⟩)|refine And.intro ?_ ?_|refine ⟨_,rfl,?_⟩|decide)⟩
         have hgr:=(List.getElem?_eq_some_iff.1 hx).1
         refine ⟨by rw [List.map_set];rfl,hR.del ga gb hx hw64 hmt,fun u hu=>?_,fun h=>absurd h (by decide),fun _=>?_⟩
         ·rw [zmV hgr,if_pos rfl,zgg hw64]
          have h1:=hD u (by rw [hdr];exact List.mem_cons_of_mem _ hu)
          rw [hrx] at h1
          refine ⟨h1,fun e=>?_⟩
          subst e
          have hnd:=zk1 X0
          rw [← List.take_append_drop i (zn X0),hdr] at hnd
          exact (List.nodup_cons.1 (List.nodup_append.1 hnd).2.1).1 hu
         ·have h2:=zqX hx (ztT hw64 hrw)
          cases e with
          | false=>rw [(he0 rfl).1] at h2 ⊢;exact h2
          | true=>have:=he1 rfl;omega
       ·rintro ⟨r,_,e⟩ ⟨rfl,hR,hD,he0,he1⟩
        rw [List.length_map] at he0
        (repeat' ((conv=>whnf);first|refine vT ?_|(refine vO ?_ ?_;·omega)|fail));all_goals try conv=>whnf
        refine ⟨(g+1,r,e),[(0,0),(1,1),(2,2),(3,3),(4,4)],[],?_,?_,by (refine ⟨rfl,rfl,rfl,?_,?_⟩;repeat' first|exact trivial|exact rfl|exact .inl rfl|refine And.intro ?_ ?_|refine ⟨_,rfl,?_⟩|decide)⟩
        ·refine ⟨by (omega),hR,fun h=>?_,he1⟩
         obtain ⟨h1,hqp,h2,h3⟩:=he0 h
         refine ⟨h1,fun v w hv hb=>?_⟩
         by_cases ev:v=g
         ·subst ev
          rw [hqp] at hqg
          rw [show p.getD v 0#64=X0 by simp [List.getD,hqg]] at hb
          obtain ⟨j,hj⟩:=List.mem_iff_getElem?.1 (zbR.2 hb)
          exact h3 j w (List.getElem?_eq_some_iff.1 hj).1 hj
         ·exact h2 v w (by omega) hb
        ·((simp only [vM] at *;omega))
      ·exfalso;omega
     ·obtain rfl:g=a.W.toNat:=by omega
      (repeat' ((conv=>whnf);first|refine vA ?_|(refine vF ?_ ?_<;>intro hc<;>try simp only [vL] at hc)|refine vT ?_|(refine vQ ?_ fun x hx=>?_;·omega)|(refine vP ?_ ?_;·omega)|fail));all_goals try conv=>whnf
      ·exfalso;omega
      ·refine ⟨(q,c),[(0,0),(1,1),(2,2),(3,3),(4,5)],[],?_,?_,by (refine ⟨rfl,rfl,rfl,?_,?_⟩;repeat' first|exact trivial|exact rfl|exact .inl rfl|refine And.intro ?_ ?_|refine ⟨_,rfl,?_⟩|decide)⟩
       ·refine ⟨hQ,fun h=>?_⟩
        obtain ⟨h1,h2⟩:=hc0 h
        rw [h1];exact h2
       ·cases c with
        | false =>
         show zex q+0 < zex p+1
         rw [(hc0 rfl).1];omega
        | true =>
         show zex q+1 < zex p+1
         have:=hc1 rfl
         omega
 ·rw [show zh6 a b=([],zde a b) by rw [zh6,if_pos h0]]
  (repeat' ((conv=>whnf);first|refine vA ?_|(refine vD ?_ ?_<;>intro hc)|refine vK fun hg=>?_|refine vT ?_|(refine vP ?_ ?_;·omega)|refine yD cbo ⟨⟨rfl,rfl⟩,⟨rfl,rfl⟩,rfl⟩ rfl ?_));all_goals try conv=>whnf
  ·rfl
  ·exact absurd ‹zde a b=0› h0
end Go.Ab
namespace Go.Ab
open Go Go.Proofs
set_option maxRecDepth 10000
set_option maxHeartbeats 4000000
variable {T:Nat→Obj→Prop}
noncomputable def pbB (a b:KM) (v w:Nat):Bool := @decide (zbZ (ptM a v) (ptM b w)) (Classical.propDecidable _)
theorem zAl {a b:KM} {v w:Nat} : pbB a b v w=true↔zbZ (ptM a v) (ptM b w) := @decide_eq_true_iff _ (Classical.propDecidable _)
noncomputable def zke (a:KM) (v:Int) (b:KM) (w:Int):Bool×Int:=if zde a b≠0 then (false,zde a b) else if v < 0∨a.W≤v∨w < 0∨b.W≤w then (false,2) else (pbB a b v.toNat w.toNat,0)
theorem zzj (hT:zbP T) (a:KM) (v:Int) (b:KM) (w:Int):Fn Tryz.prog T zgF [.d (dKM a),.d (.int .i64 v),.d (dKM b),.d (.int .i64 w)] [] (.d (.tup [.bool (zke a v b w).1,.int .i64 (zke a v b w).2])) []:=by
 have cbt:=zsF (T:=T) hT a b
 refine zj zy zlU (by show 4≤47;decide) ?_
 by_cases h0:zde a b=0
 ·rw [show zh6 a b=(zgw a b,0) by rw [zh6,if_neg (not_not_intro h0)]] at cbt
  by_cases hr:v < 0∨a.W≤v∨w < 0∨b.W≤w
  ·rw [show zke a v b w=(false,2) by rw [zke,if_neg (not_not_intro h0),if_pos hr]]
   (repeat' ((conv=>whnf);first|refine vA ?_|refine vH ?_|(refine vF ?_ ?_<;>intro hc<;>try simp only [vL] at hc)|refine vT ?_|((first|refine vS ?_ fun x hx=>?_|refine vP ?_ ?_);·omega)|refine yN cbt ⟨⟨rfl,rfl⟩,⟨rfl,rfl⟩,rfl⟩ ?_));all_goals try conv=>whnf
   all_goals first|(exfalso;omega)|rfl
  ·rw [show zke a v b w=(pbB a b v.toNat w.toNat,0) by rw [zke,if_neg (not_not_intro h0),if_neg hr]]
   have hv:v.toNat < a.W.toNat:=by omega
   have hw:w.toNat < b.W.toNat:=by omega
   have hlen:(zgw a b).length=a.W.toNat:=by simp [zgw]
   have hb64:b.W≤64:=by
    have hk:za b=0:=by
     unfold zde at h0
     by_cases h1:za a=0
     ·by_cases h2:za b=0
      ·exact h2
      ·rw [if_neg (not_not_intro h1),if_pos h2] at h0;exact absurd h0 h2
     ·rw [if_pos h1] at h0;exact absurd h0 h1
    exact (zq hk).w2
   have hat:(zgw a b)[v.toNat]? = some (zaC (fun w => @decide (zbZ (ptM a v.toNat) (ptM b w)) (Classical.propDecidable _)) b.W.toNat):=by unfold zgw;rw [List.getElem?_map,List.getElem?_range hv];rfl
   have hbit:(zaC (fun w => @decide (zbZ (ptM a v.toNat) (ptM b w)) (Classical.propDecidable _)) b.W.toNat).getLsbD w.toNat=pbB a b v.toNat w.toNat:=by
    rw [Bool.eq_iff_iff,zbU (by omega)]
    exact ⟨fun h=>h.2,fun h=>⟨hw,h⟩⟩
   generalize zaC (fun w => @decide (zbZ (ptM a v.toNat) (ptM b w)) (Classical.propDecidable _)) b.W.toNat=S at *
   (repeat' ((conv=>whnf);first|refine vA ?_|refine vH ?_|(refine vF ?_ ?_<;>intro hc<;>try simp only [vL] at hc)|refine vT ?_|((first|refine vR ?_ ‹_› ?_|refine vP ?_ ?_);·omega)|refine yN cbt ⟨⟨rfl,rfl⟩,⟨rfl,rfl⟩,rfl⟩ ?_));all_goals try conv=>whnf
   all_goals first|(exfalso;omega)|skip
   show some (D.tup [.bool (decide (S >>> w.toNat&&&1#64=1#64)),.int .i64 0])=some (D.tup [.bool (pbB a b v.toNat w.toNat),.int .i64 0])
   rw [show decide (S >>> w.toNat&&&1#64=1#64)=pbB a b v.toNat w.toNat by
    rw [← hbit,Bool.eq_iff_iff,decide_eq_true_eq];exact ze1 _ _]
 ·rw [show zh6 a b=([],zde a b) by rw [zh6,if_pos h0]] at cbt
  rw [show zke a v b w=(false,zde a b) by rw [zke,if_pos h0]]
  (repeat' ((conv=>whnf);first|refine vA ?_|((first|refine vD ?_ ?_|refine vF ?_ ?_)<;>intro hc<;>try simp only [vL] at hc)|refine vT ?_|((first|refine vS ?_ fun x hx=>?_|refine vP ?_ ?_);·omega)|refine yN cbt ⟨⟨rfl,rfl⟩,⟨rfl,rfl⟩,rfl⟩ ?_));all_goals try conv=>whnf
  all_goals first|exact absurd ‹zde a b=0› h0|rfl
end Go.Ab
namespace Go.Ab
open Go Go.Proofs Go.RowKit Go.Lib Go.Sort
theorem zyf:bits BinOp.and IntKind.i64 16 15=0:=by decide
abbrev zdG:UInt8→Value:=fun b=>Value.int .u8 (b.toNat:Int)
theorem zvq {P:Program} (t:TypeId) (ht:P.underlying t=some .string) (k:IntKind) (x:Nat) (hx:x < 16) (w:World) :
  (Instr.index t (.string { data := #[48,49,50,51,52,53,54,55,56,57,97,98,99,100,101,102,103,104,105,106,107,108,109,110,111,112,113,114,115,116,117,118,119,120,121,122] }) (.int k (x:Int))).run P w = .ok (.int .u8 ((zaf x).toNat:Int)) w:=by
 rw [run_index_string w t _ k _ ht,dif_pos ⟨by omega,by show (x:Int) < 36;omega⟩]
 have:x=0∨x=1∨x=2∨x=3∨x=4∨x=5∨x=6∨x=7∨x=8∨x=9∨x=10∨x=11∨x=12∨x=13∨x=14∨x=15:=by omega
 rcases this with rfl|rfl|rfl|rfl|rfl|rfl|rfl|rfl|rfl|rfl|rfl|rfl|rfl|rfl|rfl|rfl<;>rfl
theorem zxf (x:Nat) (hx:x < 16) (h:x < (ByteArray.mk #[48,49,50,51,52,53,54,55,56,57,97,98,99,100,101,102,103,104,105,106,107,108,109,110,111,112,113,114,115,116,117,118,119,120,121,122]).size) :
  (ByteArray.mk #[48,49,50,51,52,53,54,55,56,57,97,98,99,100,101,102,103,104,105,106,107,108,109,110,111,112,113,114,115,116,117,118,119,120,121,122])[x]=zaf x:=by
 have:x=0∨x=1∨x=2∨x=3∨x=4∨x=5∨x=6∨x=7∨x=8∨x=9∨x=10∨x=11∨x=12∨x=13∨x=14∨x=15:=by omega
 rcases this with rfl|rfl|rfl|rfl|rfl|rfl|rfl|rfl|rfl|rfl|rfl|rfl|rfl|rfl|rfl|rfl<;>rfl
theorem zv5 (dk:Array UInt8) (i:Nat) (x:UInt8) (hi:i < dk.size):(dk.setIfInBounds i x)[i]! = x:=by simp [hi]
theorem zv6 (dk:Array UInt8) (i j:Nat) (x:UInt8) (h:i≠j):(dk.setIfInBounds i x)[j]! = dk[j]! := by rw [getElem!_def,getElem!_def,Array.getElem?_setIfInBounds_ne h]
theorem zyL (w:World) (t:TypeId):Holds zdG (w.alloc (.cells Tryz.zeroCells208 t)) w.heap.size 0 (Array.replicate 65 0):=by
 intro j hj
 have hj:j < 65:=by simpa using hj
 refine ⟨?_,World.frozen?_alloc_new _ _ _ _⟩
 rw [World.cell?_alloc_new,Nat.zero_add]
 have h:Tryz.zeroCells208=Array.replicate 65 (Value.int .u8 0):=by kernel_rfl
 rw [h]
 simp [hj]
theorem zvp {w w1:World} {o:Obj} {d:Array UInt8} (h:w.alloc o=w1):w.grownBy (putRow zdG w1 w.heap.size 0 d) none:=by
 subst h
 refine ⟨rfl,rfl,rfl,by simp,fun b hb _=>?_⟩
 have:(putRow zdG (w.alloc o) w.heap.size 0 d).heap[b]? = (w.alloc o).heap[b]? := by
  unfold putRow mapBlock
  rw [Array.getElem?_modify,if_neg (by omega)]
 rw [this]
 exact heap_alloc_old _ _ hb
theorem zyN (w:World):Calls Tryz.prog 216 #[.int .i64 16] w fun e w'=>e = .returned (.bool true)∧w'=w:=by
 have hp:=zyf
 go_enter Tryz.func216,Tryz.ntmps216
 go_wp2
 go_ret
 exact ⟨rfl,rfl⟩
theorem zAh (w:World) (T:Nat→Obj→Prop) (hw : ∀ b o,T b o→w.heap[b]? = some o)
  (hz : ∀ w':World,(∀ b o,T b o→w'.heap[b]? = some o)→Calls Tryz.prog 100 #[.int .u64 16] w' fun e w''=>e = .returned (.int .i64 4)∧w''=w') :
  Calls Tryz.prog 217 #[.int .u64 16] w fun e w'=>e = .returned (.int .i64 4)∧w'=w:=by
 go_enter Tryz.func217,Tryz.ntmps217
 go_wp2_with (go_at_call 100;refine (hz _ hw).mono ?_;rintro e w' ⟨rfl,rfl⟩)
 go_ret
 exact ⟨rfl,rfl⟩
set_option maxHeartbeats 4000000 in
set_option maxRecDepth 100000 in
theorem zzr (u:Nat) (hu:u < 18446744073709551616) (w:World) (T:Nat→Obj→Prop) (hw : ∀ b o,T b o→w.heap[b]? = some o)
  (hz : ∀ w':World,(∀ b o,T b o→w'.heap[b]? = some o)→Calls Tryz.prog 100 #[.int .u64 16] w' fun e w''=>e = .returned (.int .i64 4)∧w''=w') :
  Calls Tryz.prog 207 #[.slice none 0 0,.int .u64 u,.int .i64 16,.bool false,.bool false] w fun e w'=>e = .returned (.tuple #[.slice none 0 0,.string ⟨(zdH 15 u).toArray⟩])∧w.grownBy w' none:=by
 have hp:=zyf
 go_enter Tryz.func207,Tryz.ntmps207
 go_wp2_with (first|(go_at_call 216;refine (zyN _).mono ?_;rintro e w' ⟨rfl,rfl⟩)|(go_at_call 217;refine (zAh _ T ?_ hz).mono ?_;rotate_left;rintro e w' ⟨rfl,rfl⟩))
 ·generalize hw1:w.alloc (Obj.cells Tryz.zeroCells208 208)=w1
  have hH:=zyL w 208
  rw [hw1] at hH
  have hix:=zvq (P:=Tryz.prog) 9 Tryz.underlying9 .u64
  go_loopw [1,13] (fun vu vi wr => ∃ (k v:Nat) (dk:Array UInt8) (ds:List UInt8),vu = .int .u64 v∧vi = .int .i64 (50+k:Nat)∧k≤15∧v < 16 ^ (k+1)∧zdH 15 u=zdH k v++ds∧wr=putRow zdG w1 w.heap.size 0 dk∧dk.size=65∧ds.length=15 - k ∧ ∀ j (hj:j < ds.length),dk[50+k+j]! = ds[j]) (fun _ vi _=>(RowKit.intOf vi).toNat)
  case atStart=>exact ⟨15,u,Array.replicate 65 0,[],rfl,rfl,Nat.le_refl _,by simpa using hu,by simp,(putRow_self _ _ _ _ _ hH).symm,by simp,rfl,fun j hj=>by simp at hj⟩
  case round =>
   obtain ⟨k,v,dk,ds,rfl,rfl,hk,hv,hx,rfl,hs,hdl,hd⟩:=hrel
   have hHk:Holds zdG (putRow zdG w1 w.heap.size 0 dk) w.heap.size 0 dk:=holds_putRow zdG w1 w.heap.size 0 (Array.replicate 65 0) dk hH (by simp [hs])
   obtain ⟨G,hG⟩ : ∃ G:Nat→Int,∀ t,G t=(dk[t]!.toNat:Int):=⟨_,fun _=>rfl⟩
   have hc0 : ∀ t,t < 65→(putRow zdG w1 w.heap.size 0 dk).cell? ⟨w.heap.size,t,none⟩=some (.int .u8 (G t)):=fun t ht=>by have:=(hHk t (by omega)).1;rw [Nat.zero_add] at this;rw [hG];exact this
   have hf0 : ∀ t,t < 65→(putRow zdG w1 w.heap.size 0 dk).frozen? ⟨w.heap.size,t,none⟩=false:=fun t ht=>by have:=(hHk t (by omega)).2;rw [Nat.zero_add] at this;exact this
   by_cases h16:16≤v
   ·obtain ⟨k,rfl⟩ : ∃ k',k=k'+1:=⟨k - 1,by
     rcases Nat.eq_zero_or_pos k with rfl|h
     ·simp at hv;omega
     ·omega⟩
    have hand0:bits BinOp.and IntKind.u64 (v:Int) 15=(v:Int) % 16:=by
     have h0:(0:Int)≤v:=by omega
     have h1:(v:Int) < 18446744073709551616:=by
      have:16 ^ (k+1+1)≤16 ^ 16:=Nat.pow_le_pow_right (by omega) (by omega)
      omega
     go_bits2
    have hand:bits BinOp.and IntKind.u64 (v:Int) 15=((v % 16:Nat):Int):=by rw [hand0];omega
    clear hand0
    have hc1:=hc0 (50+k) (by omega)
    have hf1:=hf0 (50+k) (by omega)
    have hm16:v % 16 < 16:=Nat.mod_lt _ (by omega)
    generalize hW:putRow zdG w1 w.heap.size 0 dk=W at *
    go_wp2
    rw [zxf (v % 16) hm16]
    have hset:W.setCell { block:=w.heap.size,off:=50+k } (Value.int IntKind.u8 ((zaf (v % 16)).toNat:Int))=putRow zdG w1 w.heap.size 0 (dk.setIfInBounds (50+k) (zaf (v % 16))):=by
     rw [← hW,← putRow_set zdG w1 w.heap.size 0 dk (50+k) (zaf (v % 16)) (by omega),Nat.zero_add]
    refine ⟨⟨k,v / 16,dk.setIfInBounds (50+k) (zaf (v % 16)),zaf (v % 16)::ds,by simp,by go_num,by omega,by rw [Nat.pow_succ] at hv;omega,?_,hset,by simp [hs],by simp;omega,fun j hj=>?_⟩,by simp [RowKit.intOf];omega⟩
    ·rw [hx,zdH,if_neg (by omega)];simp
    ·cases j with
     | zero=>rw [Nat.add_zero,zv5 _ _ _ (by omega)];rfl
     | succ j =>
      rw [zv6 _ _ _ _ (by omega)]
      have:=hd j (by simpa using hj)
      rw [show 50+k+(j+1)=50+(k+1)+j by omega,this];rfl
   ·have h15:v < 16:=by omega
    have hc1:=hc0 (49+k) (by omega)
    have hf1:=hf0 (49+k) (by omega)
    have hal:Tryz.prog.arrayLen 208=65:=by kernel_rfl
    generalize hW:putRow zdG w1 w.heap.size 0 dk=W at *
    have hl:(zaf v::ds).length=16 - k:=by simp [hdl];omega
    have hxx:zdH 15 u=zaf v::ds:=by
     rw [hx]
     cases k with
     | zero=>rw [zdH,Nat.mod_eq_of_lt h15];rfl
     | succ k=>rw [zdH,if_pos h15];rfl
    have hsl : ∀ W,(Instr.sliceAt 208 (.pointer (some ⟨w.heap.size,0,none⟩)) (some (.int .i64 (50+(k:Int) - 1))) none none).run Tryz.prog W = .ok (.slice (some ⟨w.heap.size,49+k,none⟩) (16 - k) (16 - k)) W:=fun W=>by
     rw [run_sliceAt_array_l W 208 ⟨w.heap.size,0,none⟩ (by simp [Program.arrayLen,Program.elem,Tryz.underlying208]) .i64 (50+(k:Int) - 1) (by omega) (by rw [hal];omega)]
     go_simp
     rw [show (50+(k:Int)).toNat=50+k by omega,if_neg (by omega)]
     exact ⟨by rw [show 50+k - 1=49+k by omega],by omega⟩
    have hset:W.setCell { block:=w.heap.size,off:=49+k } (Value.int IntKind.u8 ((zaf v).toNat:Int))=putRow zdG w1 w.heap.size 0 (dk.setIfInBounds (49+k) (zaf v)):=by
     rw [← hW,← putRow_set zdG w1 w.heap.size 0 dk (49+k) (zaf v) (by omega),Nat.zero_add]
    have hH2:Holds zdG (putRow zdG w1 w.heap.size 0 (dk.setIfInBounds (49+k) (zaf v))) w.heap.size 0 (dk.setIfInBounds (49+k) (zaf v)):=holds_putRow zdG w1 w.heap.size 0 (Array.replicate 65 0) _ hH (by simp [hs])
    have hcv:(convert 196 9 (.slice (some ⟨w.heap.size,49+k,none⟩) (16 - k) (16 - k))).run Tryz.prog (W.setCell { block:=w.heap.size,off:=49+k } (Value.int IntKind.u8 ((zaf v).toNat:Int))) = .ok (.string ⟨(zaf v::ds).toArray⟩) (W.setCell { block:=w.heap.size,off:=49+k } (Value.int IntKind.u8 ((zaf v).toNat:Int))):=by
     have h:=run_convert_bytes_back (P:=Tryz.prog) (W.setCell { block:=w.heap.size,off:=49+k } (Value.int IntKind.u8 ((zaf v).toNat:Int))) 196 9 5 ⟨w.heap.size,49+k,none⟩ (16 - k) (zaf v::ds) Tryz.underlying196 Tryz.underlying5 Tryz.underlying9 (fun j hj=>by
      rw [Addr.add_lit,hset]
      have h1:=(hH2 (49+k+j) (by simp [hs];omega)).1
      rw [Nat.zero_add] at h1
      rw [h1]
      cases j with
      | zero=>rw [Nat.add_zero,zv5 _ _ _ (by omega)];rfl
      | succ j =>
       rw [zv6 _ _ _ _ (by omega)]
       have:=hd j (by simpa using hj)
       rw [show 49+k+(j+1)=50+k+j by omega,this];rfl)
     rw [hl] at h
     exact h
    rw [hset] at hcv
    go_wp2
    go_ret2
    refine ⟨?_,zvp hw1⟩
    rw [← hx,hxx];rfl
 ·intro b o ht
  exact (heap_alloc_old _ _ (by have:=hw b o ht;exact zo this)).trans (hw b o ht)
theorem zz0 (u:Nat) (hu:u < 18446744073709551616) (w:World) (T:Nat→Obj→Prop) (hw : ∀ b o,T b o→w.heap[b]? = some o)
  (hz : ∀ w':World,(∀ b o,T b o→w'.heap[b]? = some o)→Calls Tryz.prog 100 #[.int .u64 16] w' fun e w''=>e = .returned (.int .i64 4)∧w''=w') :
  Calls Tryz.prog 184 #[.int .u64 u,.int .i64 16] w fun e w'=>e = .returned (.string ⟨(zdH 15 u).toArray⟩)∧w.grownBy w' none:=by
 go_enter Tryz.func184,Tryz.ntmps184
 go_wp2_with (go_at_call 207;refine (zzr u hu _ T hw hz).mono ?_;rintro e w' ⟨rfl,hg⟩)
 go_ret
 exact ⟨rfl,hg⟩
theorem zzx {T:Nat→Obj→Prop} (hz : ∀ w':World,(∀ b o,T b o→w'.heap[b]? = some o)→Calls Tryz.prog 100 #[.int .u64 16] w' fun e w''=>e = .returned (.int .i64 4)∧w''=w') (x:BitVec 64) :
  Fn Tryz.prog T zcM [.d (.u64 x),.d (.int .i64 16)] [] (.d (.str (zfM x))) []:=by
 refine zmk ⟨_,Tryz.func184,by decide,rfl⟩ fun B σ a w args hT hS hsz hargs=>?_
 have ha:args = #[args.getD 0 undef,args.getD 1 undef]:=by
  apply Array.ext
  ·simpa using hsz
  ·intro i h1 h2
   match i,h2 with
   | 0,_=>simp [Array.getD,show 0 < args.size by omega]
   | 1,_=>simp [Array.getD,show 1 < args.size by omega]
 have h0:=hargs 0 (by simp)
 have h1:=hargs 1 (by simp)
 rw [ha]
 have e0:([V.d (D.u64 x),V.d (D.int .i64 16)].getD 0 .undef) = .d (D.u64 x):=rfl
 have e1:([V.d (D.u64 x),V.d (D.int .i64 16)].getD 1 .undef) = .d (D.int .i64 16):=rfl
 rw [e0] at h0
 rw [e1] at h1
 generalize args.getD 0 undef=va at h0
 generalize args.getD 1 undef=vb at h1
 cases h0 with
 | d _ _ hd0 =>
 cases h1 with
 | d _ _ hd1 =>
 cases hd0
 cases hd1
 refine (zz0 x.toNat x.isLt w T (fun b o ht=>hS.pins b o (hT b o ht)) hz).mono ?_
 rintro e w' ⟨he,hg⟩
 refine ⟨_,σ,he,⟨fun t => .undef _,fun id ob h=>by simp [zw] at h,fun i j b h=>absurd (by simp [zw]) h,fun id b h=>absurd (by simp [zw]) h,fun _ _=>by simp [zw],?_,hS.nt,fun b hb=>Nat.lt_of_lt_of_le (hS.olt b hb) hg.size,fun b o hp=>(hg.block b (zo (hS.pins b o hp)) (by simp)).trans (hS.pins b o hp),fun id l h=>by simp [zw] at h⟩,.d _ _ ?_,fun i ob h=>by simp at h⟩
 ·refine ⟨hg.os.trans hS.kept.os,hg.tape.trans hS.kept.tape,hg.output.trans hS.kept.output,Nat.le_trans hS.kept.size hg.size,fun b hb hR=>(hg.block b (Nat.lt_of_lt_of_le hb hS.kept.size) (by simp)).trans (hS.kept.block b hb hR),fun b c e h=>?_⟩
  obtain ⟨c',h1,h2⟩:=hS.kept.cells b c e h
  exact ⟨c',(hg.block b (zo h1) (by simp)).trans h1,h2⟩
 ·exact .str _
end Go.Ab
namespace Go.Ab
open Go Go.Proofs
set_option maxRecDepth 10000
set_option maxHeartbeats 4000000
variable {T:Nat→Obj→Prop}
theorem zqh (x:BitVec 64) (h:Fn Tryz.prog T zcM [.d (.u64 x),.d (.int .i64 16)] [] (.d (.str (zfM x))) []):Fn Tryz.prog T zdm [.d (.u64 x),.d (.int .i64 16)] [] (.d (.str (zfM x))) []:=by
 refine zj zy zjz (by show 2≤8;decide) ?_
 (repeat' ((conv=>whnf);first|refine vA ?_|refine vB fun b hb=>?_|refine vC (fun hl=>?_) fun i kv vv hi=>?_|refine vE ?_|refine vG ?_|refine vH ?_|((first|refine vD ?_ ?_|refine vF ?_ ?_|refine vI ?_ ?_)<;>intro hc<;>try simp only [vL] at hc)|refine vJ fun hg=>?_|refine vK fun hg=>?_|refine vT ?_|refine vN ‹_› ?_|(refine vQ ?_ fun x hx=>?_;·first|omega|(simp only [vM] at *;omega))|((first|refine vO ?_ ?_|refine vR ?_ ‹_› ?_|refine vS ?_ fun x hx=>?_|refine vP ?_ ?_);·first|omega|(simp only [vM] at *;omega))|refine vW ⟨by omega,by omega⟩ ?_|(refine vU ?_ ?_;·kernel_rfl)|refine vX ?_|refine vY ?_|refine vZ ?_|refine yD h (by (repeat refine ⟨⟨rfl,rfl⟩,?_⟩);rfl) rfl ?_|refine yN h (by (repeat refine ⟨⟨rfl,rfl⟩,?_⟩);rfl) ?_|refine zi3.mk _ ‹_› ?_|refine vP (show (_:BitVec 64)≠_ by decide) ?_));all_goals try conv=>whnf
 rfl
end Go.Ab
