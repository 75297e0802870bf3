/- A part of the proofs of this seat: functions and their contracts. -/
import Derived.Test.YtjpgnjhdeikncaaGreatDoorMD
set_option linter.unusedVariables false
set_option linter.unusedSimpArgs false
set_option linter.unusedSectionVars false
namespace Go.Ab
open Go Go.Proofs
set_option maxRecDepth 10000
set_option maxHeartbeats 4000000
variable {T:Nat→Obj→Prop}
theorem zuS:Sort.SWO ltI:=⟨fun x=>by simp [ltI],fun x y z h1 h2=>by simp [ltI] at *;omega,fun x y z h1 h2=>by simp [ltI] at *;omega⟩
theorem zqi (l:List Int):(Sort.sort ltI l.toArray).toList=zc8 l:=by
 obtain ⟨⟨h1,-,h2⟩,h3⟩:=Sort.sort_sorts ltI zuS l.toArray
 have e1:(Sort.sort ltI l.toArray).extract 0 l.toArray.size=Sort.sort ltI l.toArray:=by rw [← h1];simp
 have e2:l.toArray.extract 0 l.toArray.size=l.toArray:=by simp
 rw [e1,e2] at h2
 refine zun ?_ h2
 rw [List.pairwise_iff_getElem]
 intro i j hi hj hij
 rw [Array.length_toList] at hi hj
 have:=h3 i j (Nat.zero_le _) hij (by rw [← h1];exact hj)
 have a1:=(zdv (List.getElem?_eq_getElem (l:=(Sort.sort ltI l.toArray).toList) (by rw [Array.length_toList];exact hi))).1
 have a2:=(zdv (List.getElem?_eq_getElem (l:=(Sort.sort ltI l.toArray).toList) (by rw [Array.length_toList];exact hj))).1
 rw [a1,a2] at this
 have:=of_decide_eq_false this
 omega
theorem zjG (hT:zeh T) (s:BitVec 64):Fn Tryz.prog T zeP [.d (.u64 s)] [] (.d (dN (zy s))) []:=by
 refine zo zw ziL (by show 1≤16;decide) ?_
 (repeat' ((conv=>whnf);first|refine vA ?_|refine vB fun b hb=>?_|refine vC (fun hl=>?_) fun i kv vv hi=>?_|refine vE ?_|refine vG ?_|refine vH ?_|((first|refine vD ?_ ?_|refine vF ?_ ?_|refine vI ?_ ?_)<;>intro hc<;>try simp only [vL] at hc)|refine vJ fun hg=>?_|refine vK fun hg=>?_|refine vT ?_|refine vN ‹_› ?_|(refine vQ ?_ fun x hx=>?_;·first|omega|(simp only [vM] at *;omega))|((first|refine vO ?_ ?_|refine vR ?_ ‹_› ?_|refine vS ?_ fun x hx=>?_|refine vP ?_ ?_);·first|omega|(simp only [vM] at *;omega))|refine vW ⟨by omega,by omega⟩ ?_|(refine vU ?_ ?_;·kernel_rfl)|refine vX ?_|refine vY ?_|refine vZ ?_|refine za.mk _ ‹_› ?_|refine vP (show (_:BitVec 64)≠_ by decide) ?_));all_goals try conv=>whnf
 refine zq (fun ((r,zs):BitVec 64×List D)=>[(0,.d (.u64 (r))),(3,.own 0)]) (fun ((r,zs):BitVec 64×List D)=>[(0,some (.row 1 zs))]) 1 (fun ((r,zs):BitVec 64×List D) => ∃ l:List Nat,zs=l.map (fun (x:Nat)=>D.int .i64 (x:Int))∧zy s=l++zy r) (fun ((r,zs):BitVec 64×List D)=>(zy r).length) ((s,[])) []   [0] (⟨[],rfl,rfl⟩) (by (refine ⟨rfl,rfl,rfl,?_,?_⟩;repeat' first|exact trivial|exact rfl|exact ⟨_,rfl⟩|exact .inl rfl|exact .inr (.inl ⟨rfl,rfl⟩)|exact .inr (.inr ⟨rfl,rfl⟩)|refine And.intro ?_ ?_|refine ⟨_,rfl,?_⟩|decide|exact of_decide_eq_true rfl)) ?_
 rintro ⟨r,zs⟩ ⟨l,rfl,hI⟩
 by_cases hr:r=0#64
 ·subst hr
  (repeat' ((conv=>whnf);first|refine vA ?_|refine vB fun b hb=>?_|refine vC (fun hl=>?_) fun i kv vv hi=>?_|refine vE ?_|refine vG ?_|refine vH ?_|((first|refine vD ?_ ?_|refine vF ?_ ?_|refine vI ?_ ?_)<;>intro hc<;>try simp only [vL] at hc)|refine vJ fun hg=>?_|refine vK fun hg=>?_|refine vT ?_|refine vN ‹_› ?_|(refine vQ ?_ fun x hx=>?_;·first|omega|(simp only [vM] at *;omega))|((first|refine vO ?_ ?_|refine vR ?_ ‹_› ?_|refine vS ?_ fun x hx=>?_|refine vP ?_ ?_);·first|omega|(simp only [vM] at *;omega))|refine vW ⟨by omega,by omega⟩ ?_|(refine vU ?_ ?_;·kernel_rfl)|refine vX ?_|refine vY ?_|refine vZ ?_|refine za.mk _ ‹_› ?_|refine vP (show (_:BitVec 64)≠_ by decide) ?_));all_goals try conv=>whnf
  rw [hI,zom,List.append_nil]
  show some (D.arr 1 _)=some (D.arr 1 _)
  rw [List.map_map];rfl
 ·have hb:=zol r hr
  have hl:=congrArg List.length hI
  have hlen:=zpD s
  rw [List.length_append] at hl
  (repeat' ((conv=>whnf);first|refine vA ?_|refine vB fun b hb=>?_|refine vC (fun hl=>?_) fun i kv vv hi=>?_|refine vE ?_|refine vG ?_|refine vH ?_|((first|refine vD ?_ ?_|refine vF ?_ ?_|refine vI ?_ ?_)<;>intro hc<;>try simp only [vL] at hc)|refine vJ fun hg=>?_|refine vK fun hg=>?_|refine vT ?_|refine vN ‹_› ?_|(refine vQ ?_ fun x hx=>?_;·first|omega|(simp only [vM] at *;omega))|((first|refine vO ?_ ?_|refine vR ?_ ‹_› ?_|refine vS ?_ fun x hx=>?_|refine vP ?_ ?_);·first|omega|(simp only [vM] at *;omega))|refine vW ⟨by omega,by omega⟩ ?_|(refine vU ?_ ?_;·kernel_rfl)|refine vX ?_|refine vY ?_|refine vZ ?_|refine yD (hT r) (by (repeat refine ⟨⟨rfl,rfl⟩,?_⟩);rfl) rfl ?_|refine yN (hT r) (by (repeat refine ⟨⟨rfl,rfl⟩,?_⟩);rfl) ?_|refine za.mk _ ‹_› ?_|refine vP (show (_:BitVec 64)≠_ by decide) ?_));all_goals try conv=>whnf
  ·refine ⟨(r&&&(r - 1#64),_),[(0,2)],[],?_,?_,by (refine ⟨rfl,rfl,rfl,?_,?_⟩;repeat' first|exact trivial|exact rfl|exact ⟨_,rfl⟩|exact .inl rfl|exact .inr (.inl ⟨rfl,rfl⟩)|exact .inr (.inr ⟨rfl,rfl⟩)|refine And.intro ?_ ?_|refine ⟨_,rfl,?_⟩|decide|exact of_decide_eq_true rfl)⟩
   ·exact ⟨l++[Lib.ctz 64 r.toNat],by simp,by rw [hI,hb];simp⟩
   ·show (zy (r&&&(r - 1#64))).length < (zy r).length
    rw [hb];simp
  ·exact absurd ‹r=0› hr
def zbA (q:Nat→Nat) (s:BitVec 64):List Int:=(zy s).map fun v=>(q v:Int)
theorem zth {n:Nat} {s:BitVec 64} (hs : ∀ v,s.getLsbD v=true→v < n):(zy s).length≤n:=ztk hs
theorem zmb (hT:zeh T) (q:Nat→Nat) {n:Nat} (hn:n≤12) {s:BitVec 64} (hs : ∀ v,s.getLsbD v=true→v < n) :
  Fn Tryz.prog T zdp [.d (dI (ptL n q)),.d (.u64 s)] [] (.own 0) [some (.row 1 ((zc8 (zbA q s)).map (D.int .i64)))]:=by
 have hbl:=zth hs
 have hvl:(zbA q s).length=(zy s).length:=by simp [zbA]
 have c1:=zoA (T:=T) (zbA q s).toArray (by simp [hvl];omega)
 rw [show zc5 (Sort.sort ltI (zbA q s).toArray) = .row 1 ((zc8 (zbA q s)).map (D.int .i64)) by rw [zc5,zqi]] at c1
 have hln:(ptL n q).length=n:=zlM
 refine zK zw zjx (by show 2≤26;decide) _ (fun e env mem n h=>h) ?_
 (repeat' ((conv=>whnf);first|refine vA ?_|refine vB fun b hb=>?_|refine vC (fun hl=>?_) fun i kv vv hi=>?_|refine vE ?_|refine vG ?_|refine vH ?_|((first|refine vD ?_ ?_|refine vF ?_ ?_|refine vI ?_ ?_)<;>intro hc<;>try simp only [vL] at hc)|refine vJ fun hg=>?_|refine vK fun hg=>?_|refine vT ?_|refine vN ‹_› ?_|(refine vQ ?_ fun x hx=>?_;·first|omega|(simp only [vM] at *;omega))|((first|refine vO ?_ ?_|refine vR ?_ ‹_› ?_|refine vS ?_ fun x hx=>?_|refine vP ?_ ?_);·first|omega|(simp only [vM] at *;omega))|refine vW ⟨by omega,by omega⟩ ?_|(refine vU ?_ ?_;·kernel_rfl)|refine vX ?_|refine vY ?_|refine vZ ?_|refine yN (zjG hT s) ⟨⟨rfl,rfl⟩,rfl⟩ ?_|refine za.mk _ ‹_› ?_|refine vP (show (_:BitVec 64)≠_ by decide) ?_));all_goals try conv=>whnf
 refine zq (fun ((k,zs):Nat×List D)=>[(0,.d (dI (ptL n q))),(5,.own 0),(9,.d (dN (zy s))),(10,.d (.int .i64 ((zdJ (zy s):Int)))),(11,.d (.int .i64 ((k:Int))))]) (fun ((k,zs):Nat×List D)=>[(0,some (.row 1 zs))]) 1 (fun ((k,zs):Nat×List D)=>k≤(zy s).length∧zs=((zbA q s).take k).map (D.int .i64)) (fun ((k,zs):Nat×List D)=>(zy s).length - k) ((0,[])) []   [0] (⟨by omega,by simp⟩) (by (refine ⟨rfl,rfl,rfl,?_,?_⟩;repeat' first|exact trivial|exact rfl|exact ⟨_,rfl⟩|exact .inl rfl|exact .inr (.inl ⟨rfl,rfl⟩)|exact .inr (.inr ⟨rfl,rfl⟩)|refine And.intro ?_ ?_|refine ⟨_,rfl,?_⟩|decide|exact of_decide_eq_true rfl)) ?_
 rintro ⟨k,zs⟩ ⟨hk,hz⟩
 have hzl:zs.length≤12:=by rw [hz];simp;omega
 have hlD:=zfy (zy s)
 by_cases hkl:k < (zy s).length
 ·have e1:=zhm hkl
  have hw:=hs _ (zd9.1 (zj8 hkl))
  have e2:=zf1 (q:=q) hw
  (repeat' ((conv=>whnf);first|refine vA ?_|refine vB fun b hb=>?_|refine vC (fun hl=>?_) fun i kv vv hi=>?_|refine vE ?_|refine vG ?_|refine vH ?_|((first|refine vD ?_ ?_|refine vF ?_ ?_|refine vI ?_ ?_)<;>intro hc<;>try simp only [vL] at hc)|refine vJ fun hg=>?_|refine vK fun hg=>?_|refine vT ?_|refine vN ‹_› ?_|(refine vQ ?_ fun x hx=>?_;·first|omega|(simp only [vM] at *;omega))|((first|refine vO ?_ ?_|refine vR ?_ ‹_› ?_|refine vS ?_ fun x hx=>?_|refine vP ?_ ?_);·first|omega|(simp only [vM] at *;omega))|refine vW ⟨by omega,by omega⟩ ?_|(refine vU ?_ ?_;·kernel_rfl)|refine vX ?_|refine vY ?_|refine vZ ?_|refine za.mk _ ‹_› ?_|refine vP (show (_:BitVec 64)≠_ by decide) ?_));all_goals try conv=>whnf
  ·refine ⟨(k+1,_),[(0,2)],[],?_,?_,by (refine ⟨rfl,rfl,rfl,?_,?_⟩;repeat' first|exact trivial|exact rfl|exact ⟨_,rfl⟩|exact .inl rfl|exact .inr (.inl ⟨rfl,rfl⟩)|exact .inr (.inr ⟨rfl,rfl⟩)|refine And.intro ?_ ?_|refine ⟨_,rfl,?_⟩|decide|exact of_decide_eq_true rfl)⟩
   ·refine ⟨by omega,?_⟩
    have e3:(zbA q s)[k]? = some ((q ((zy s).getD k 0):Nat):Int):=by
     rw [zbA,List.getElem?_map,zaL (d:=0) hkl];rfl
    rw [List.take_add_one,e3,hz];simp
   ·(first|omega|(simp only [vM] at *;omega))
  ·exfalso;omega
 ·(repeat' ((conv=>whnf);first|refine vA ?_|refine vB fun b hb=>?_|refine vC (fun hl=>?_) fun i kv vv hi=>?_|refine vE ?_|refine vG ?_|refine vH ?_|((first|refine vD ?_ ?_|refine vF ?_ ?_|refine vI ?_ ?_)<;>intro hc<;>try simp only [vL] at hc)|refine vJ fun hg=>?_|refine vK fun hg=>?_|refine vT ?_|refine vN ‹_› ?_|(refine vQ ?_ fun x hx=>?_;·first|omega|(simp only [vM] at *;omega))|((first|refine vO ?_ ?_|refine vR ?_ ‹_› ?_|refine vS ?_ fun x hx=>?_|refine vP ?_ ?_);·first|omega|(simp only [vM] at *;omega))|refine vW ⟨by omega,by omega⟩ ?_|(refine vU ?_ ?_;·kernel_rfl)|refine vX ?_|refine vY ?_|refine vZ ?_|refine za.mk _ ‹_› ?_|refine vP (show (_:BitVec 64)≠_ by decide) ?_));all_goals try conv=>whnf
  ·exfalso;omega
  ·have e0:zs=(zbA q s).map (D.int .i64):=by rw [hz,List.take_of_length_le (by omega)]
   clear hz
   subst e0
   refine zM.objs [0] (c1) (by (repeat' first|exact trivial|exact rfl|exact ⟨_,rfl⟩|exact .inl rfl|exact .inr (.inl ⟨rfl,rfl⟩)|exact .inr (.inr ⟨rfl,rfl⟩)|refine And.intro ?_ ?_|refine ⟨_,rfl,?_⟩|decide|exact of_decide_eq_true rfl)) (by (repeat' first|exact trivial|exact rfl|exact ⟨_,rfl⟩|exact .inl rfl|exact .inr (.inl ⟨rfl,rfl⟩)|exact .inr (.inr ⟨rfl,rfl⟩)|refine And.intro ?_ ?_|refine ⟨_,rfl,?_⟩|decide|exact of_decide_eq_true rfl)) (by rfl) (by rfl) (by simp) ?_
   (repeat' ((conv=>whnf);first|refine vA ?_|refine vB fun b hb=>?_|refine vC (fun hl=>?_) fun i kv vv hi=>?_|refine vE ?_|refine vG ?_|refine vH ?_|((first|refine vD ?_ ?_|refine vF ?_ ?_|refine vI ?_ ?_)<;>intro hc<;>try simp only [vL] at hc)|refine vJ fun hg=>?_|refine vK fun hg=>?_|refine vT ?_|refine vN ‹_› ?_|(refine vQ ?_ fun x hx=>?_;·first|omega|(simp only [vM] at *;omega))|((first|refine vO ?_ ?_|refine vR ?_ ‹_› ?_|refine vS ?_ fun x hx=>?_|refine vP ?_ ?_);·first|omega|(simp only [vM] at *;omega))|refine vW ⟨by omega,by omega⟩ ?_|(refine vU ?_ ?_;·kernel_rfl)|refine vX ?_|refine vY ?_|refine vZ ?_|refine za.mk _ ‹_› ?_|refine vP (show (_:BitVec 64)≠_ by decide) ?_));all_goals try conv=>whnf
   refine ⟨trivial,_,[(0,0)],[],rfl,.inl (by (repeat' first|exact trivial|exact rfl|exact ⟨_,rfl⟩|exact .inl rfl|exact .inr (.inl ⟨rfl,rfl⟩)|exact .inr (.inr ⟨rfl,rfl⟩)|refine And.intro ?_ ?_|refine ⟨_,rfl,?_⟩|decide|exact of_decide_eq_true rfl)),⟨by rfl,by rfl,by rfl,trivial,by (repeat' first|exact trivial|exact rfl|exact ⟨_,rfl⟩|exact .inl rfl|exact .inr (.inl ⟨rfl,rfl⟩)|exact .inr (.inr ⟨rfl,rfl⟩)|refine And.intro ?_ ?_|refine ⟨_,rfl,?_⟩|decide|exact of_decide_eq_true rfl)⟩,by (repeat' first|exact trivial|exact rfl|exact ⟨_,rfl⟩|exact .inl rfl|exact .inr (.inl ⟨rfl,rfl⟩)|exact .inr (.inr ⟨rfl,rfl⟩)|refine And.intro ?_ ?_|refine ⟨_,rfl,?_⟩|decide|exact of_decide_eq_true rfl)⟩
theorem zn9 {n:Nat} {q:Nat→Nat} {s:BitVec 64} (hn:n≤64) (hs : ∀ v,s.getLsbD v=true→v < n) {r:Nat→Nat→Bool} {w:Nat} (hr : ∀ v,v < n→r w v=s.getLsbD v):zc6 n r q w=zbA q s:=by
 unfold zc6 zbA zy
 rw [zgs (n:=n) hs 64 hn]
 congr 1
 exact List.filter_congr fun v hv=>hr v (List.mem_range.1 hv)
def zkl (n:Nat) (r:List (BitVec 64)):List (BitVec 64):=(List.range n).map fun w=>zbc (fun v=>rb r v w) n
theorem zoC (hT:zeh T) {n:Nat} (hn:n≤64) (r:List (BitVec 64)) (hr:r.length=n) (hs : ∀ w v,rb r w v=true→v < n):Fn Tryz.prog T zee [.d (dU r)] [] (.d (dU (zkl n r))) []:=by
 refine zo zw zib (by show 1≤36;decide) ?_
 (repeat' ((conv=>whnf);first|refine vA ?_|refine vB fun b hb=>?_|refine vC (fun hl=>?_) fun i kv vv hi=>?_|refine vE ?_|refine vG ?_|refine vH ?_|((first|refine vD ?_ ?_|refine vF ?_ ?_|refine vI ?_ ?_)<;>intro hc<;>try simp only [vL] at hc)|refine vJ fun hg=>?_|refine vK fun hg=>?_|refine vT ?_|refine vN ‹_› ?_|(refine vQ ?_ fun x hx=>?_;·first|omega|(simp only [vM] at *;omega))|((first|refine vO ?_ ?_|refine vR ?_ ‹_› ?_|refine vS ?_ fun x hx=>?_|refine vP ?_ ?_);·first|omega|(simp only [vM] at *;omega))|refine vW ⟨by omega,by omega⟩ ?_|(refine vU ?_ ?_;·kernel_rfl)|refine vX ?_|refine vY ?_|refine vZ ?_|refine za.mk _ ‹_› ?_|refine vP (show (_:BitVec 64)≠_ by decide) ?_));all_goals try conv=>whnf
 refine zq (fun ((k,zs):Nat×List D)=>[(3,.own 0),(11,.d (dU r)),(12,.d (.int .i64 ((r.map D.u64).length:Int))),(13,.d (.int .i64 ((k:Int))))]) (fun ((k,zs):Nat×List D)=>[(0,some (.row 1 zs))]) 1 (fun ((k,zs):Nat×List D)=>k≤n∧zs=(List.range n).map fun w=>D.u64 (zbc (fun v=>rb r v w) k)) (fun ((k,zs):Nat×List D)=>n - k) ((0,List.replicate (((r.map D.u64).length:Int)).toNat (D.u64 0#64))) [(0,0)] [] (⟨by omega,by rw [List.length_map,Int.toNat_natCast,hr,zbb];rfl⟩) (by (refine ⟨rfl,rfl,rfl,?_,?_⟩;repeat' first|exact trivial|exact rfl|exact ⟨_,rfl⟩|exact .inl rfl|exact .inr (.inl ⟨rfl,rfl⟩)|exact .inr (.inr ⟨rfl,rfl⟩)|refine And.intro ?_ ?_|refine ⟨_,rfl,?_⟩|decide|exact of_decide_eq_true rfl)) ?_
 rintro ⟨k,zs⟩ ⟨hk,hz⟩
 subst hz
 by_cases hkl:k < n
 ·have hx:=zaL (l:=r) (d:=0#64) (show k < r.length by omega)
  have hrb : ∀ v,rb r k v=(r.getD k 0#64).getLsbD v:=fun v=>rfl
  generalize r.getD k 0#64=s at hx hrb
  have hsn : ∀ v,s.getLsbD v=true→v < n:=fun v hv=>hs k v (by rw [hrb];exact hv)
  (repeat' ((conv=>whnf);first|refine vA ?_|refine vB fun b hb=>?_|refine vC (fun hl=>?_) fun i kv vv hi=>?_|refine vE ?_|refine vG ?_|refine vH ?_|((first|refine vD ?_ ?_|refine vF ?_ ?_|refine vI ?_ ?_)<;>intro hc<;>try simp only [vL] at hc)|refine vJ fun hg=>?_|refine vK fun hg=>?_|refine vT ?_|refine vN ‹_› ?_|(refine vQ ?_ fun x hx=>?_;·first|omega|(simp only [vM] at *;omega))|((first|refine vO ?_ ?_|refine vR ?_ ‹_› ?_|refine vS ?_ fun x hx=>?_|refine vP ?_ ?_);·first|omega|(simp only [vM] at *;omega))|refine vW ⟨by omega,by omega⟩ ?_|(refine vU ?_ ?_;·kernel_rfl)|refine vX ?_|refine vY ?_|refine vZ ?_|refine yN (zjG hT s) ⟨⟨rfl,rfl⟩,rfl⟩ ?_|refine za.mk _ ‹_› ?_|refine vP (show (_:BitVec 64)≠_ by decide) ?_));all_goals try conv=>whnf
  ·refine zq (fun ((j,zs):Nat×List D)=>[(3,.own 0),(4,.d (.int .i64 ((k:Int)))),(11,.d (dU r)),(12,.d (.int .i64 ((r.map D.u64).length:Int))),(13,.d (.int .i64 ((k:Int)))),(19,.d (dN (zy s))),(20,.d (.int .i64 ((zdJ (zy s):Int)))),(21,.d (.int .i64 ((j:Int))))]) (fun ((j,zs):Nat×List D)=>[(0,some (.row 1 zs))]) 1 (fun ((j,zs):Nat×List D)=>j≤(zy s).length∧zs=(List.range n).map fun w=>D.u64 (if w∈(zy s).take j then zbc (fun v=>rb r v w) k|||1#64 <<< k else zbc (fun v=>rb r v w) k)) (fun ((j,zs):Nat×List D)=>(zy s).length - j) ((0,(List.range n).map fun w=>D.u64 (zbc (fun v=>rb r v w) k))) [(0,0)] [] (⟨by omega,by simp⟩) (by (refine ⟨rfl,rfl,rfl,?_,?_⟩;repeat' first|exact trivial|exact rfl|exact ⟨_,rfl⟩|exact .inl rfl|exact .inr (.inl ⟨rfl,rfl⟩)|exact .inr (.inr ⟨rfl,rfl⟩)|refine And.intro ?_ ?_|refine ⟨_,rfl,?_⟩|decide|exact of_decide_eq_true rfl)) ?_
   rintro ⟨j,zs⟩ ⟨hj,hz⟩
   subst hz
   have hlD:=zfy (zy s)
   by_cases hjl:j < (zy s).length
   ·have e1:=zhm hjl
    have hw:=hsn _ (zd9.1 (zj8 hjl))
    have er:(List.range n)[(zy s).getD j 0]? = some ((zy s).getD j 0):=List.getElem?_range hw
    have hnt:(zy s).getD j 0 ∉ (zy s).take j:=fun hm=>by
     obtain ⟨i,hi⟩:=List.getElem?_of_mem hm
     rw [List.getElem?_take] at hi
     split at hi
     ·rename_i hij
      obtain ⟨p1,q1⟩:=List.getElem?_eq_some_iff.1 hi
      obtain ⟨p2,q2⟩:=List.getElem?_eq_some_iff.1 (zaL (d:=0) hjl)
      have:=(List.getElem_inj (ziS s)).1 (q1.trans q2.symm)
      omega
     ·cases hi
    have ht : ∀ u,u∈(zy s).take (j+1)↔u∈(zy s).take j∨u=(zy s).getD j 0:=fun u=>by
     rw [List.take_add_one,zaL (d:=0) hjl];simp
    (repeat' ((conv=>whnf);first|refine vA ?_|refine vB fun b hb=>?_|refine vC (fun hl=>?_) fun i kv vv hi=>?_|refine vE ?_|refine vG ?_|refine vH ?_|((first|refine vD ?_ ?_|refine vF ?_ ?_|refine vI ?_ ?_)<;>intro hc<;>try simp only [vL] at hc)|refine vJ fun hg=>?_|refine vK fun hg=>?_|refine vT ?_|refine vN ‹_› ?_|(refine vQ ?_ fun x hx=>?_;·first|omega|(simp only [vM] at *;omega))|((first|refine vO ?_ ?_|refine vR ?_ ‹_› ?_|refine vS ?_ fun x hx=>?_|refine vP ?_ ?_);·first|omega|(simp only [vM] at *;omega))|refine vW ⟨by omega,by omega⟩ ?_|(refine vU ?_ ?_;·kernel_rfl)|refine vX ?_|refine vY ?_|refine vZ ?_|refine za.mk _ ‹_› ?_|refine vP (show (_:BitVec 64)≠_ by decide) ?_));all_goals try conv=>whnf
    ·refine ⟨(j+1,_),[(0,0)],[],?_,?_,by (refine ⟨rfl,rfl,rfl,?_,?_⟩;repeat' first|exact trivial|exact rfl|exact ⟨_,rfl⟩|exact .inl rfl|exact .inr (.inl ⟨rfl,rfl⟩)|exact .inr (.inr ⟨rfl,rfl⟩)|refine And.intro ?_ ?_|refine ⟨_,rfl,?_⟩|decide|exact of_decide_eq_true rfl)⟩
     ·refine ⟨by omega,(zdS _).trans (zS fun u hu=>?_)⟩
      show (if u=(zy s).getD j 0 then _ else _)=_
      by_cases e:u=(zy s).getD j 0
      ·subst e
       rw [if_pos rfl,if_pos ((ht _).2 (.inr rfl)),if_neg hnt];rfl
      ·rw [if_neg e]
       by_cases e2:u∈(zy s).take j
       ·rw [if_pos e2,if_pos ((ht _).2 (.inl e2))]
       ·rw [if_neg e2,if_neg (fun h=>((ht _).1 h).elim e2 e)]
     ·(first|omega|(simp only [vM] at *;omega))
    ·exfalso;omega
   ·(repeat' ((conv=>whnf);first|refine vA ?_|refine vB fun b hb=>?_|refine vC (fun hl=>?_) fun i kv vv hi=>?_|refine vE ?_|refine vG ?_|refine vH ?_|((first|refine vD ?_ ?_|refine vF ?_ ?_|refine vI ?_ ?_)<;>intro hc<;>try simp only [vL] at hc)|refine vJ fun hg=>?_|refine vK fun hg=>?_|refine vT ?_|refine vN ‹_› ?_|(refine vQ ?_ fun x hx=>?_;·first|omega|(simp only [vM] at *;omega))|((first|refine vO ?_ ?_|refine vR ?_ ‹_› ?_|refine vS ?_ fun x hx=>?_|refine vP ?_ ?_);·first|omega|(simp only [vM] at *;omega))|refine vW ⟨by omega,by omega⟩ ?_|(refine vU ?_ ?_;·kernel_rfl)|refine vX ?_|refine vY ?_|refine vZ ?_|refine za.mk _ ‹_› ?_|refine vP (show (_:BitVec 64)≠_ by decide) ?_));all_goals try conv=>whnf
    ·exfalso;omega
    ·refine ⟨(k+1,_),[(0,0)],[],?_,?_,by (refine ⟨rfl,rfl,rfl,?_,?_⟩;repeat' first|exact trivial|exact rfl|exact ⟨_,rfl⟩|exact .inl rfl|exact .inr (.inl ⟨rfl,rfl⟩)|exact .inr (.inr ⟨rfl,rfl⟩)|refine And.intro ?_ ?_|refine ⟨_,rfl,?_⟩|decide|exact of_decide_eq_true rfl)⟩
     ·refine ⟨by omega,zS fun u hu=>?_⟩
      rw [List.take_of_length_le (by omega),zbc,hrb u]
      by_cases e:s.getLsbD u=true
      ·rw [if_pos (zd9.2 e),if_pos e]
      ·rw [if_neg (fun h=>e (zd9.1 h)),if_neg e]
     ·(first|omega|(simp only [vM] at *;omega))
  ·exfalso;omega
 ·(repeat' ((conv=>whnf);first|refine vA ?_|refine vB fun b hb=>?_|refine vC (fun hl=>?_) fun i kv vv hi=>?_|refine vE ?_|refine vG ?_|refine vH ?_|((first|refine vD ?_ ?_|refine vF ?_ ?_|refine vI ?_ ?_)<;>intro hc<;>try simp only [vL] at hc)|refine vJ fun hg=>?_|refine vK fun hg=>?_|refine vT ?_|refine vN ‹_› ?_|(refine vQ ?_ fun x hx=>?_;·first|omega|(simp only [vM] at *;omega))|((first|refine vO ?_ ?_|refine vR ?_ ‹_› ?_|refine vS ?_ fun x hx=>?_|refine vP ?_ ?_);·first|omega|(simp only [vM] at *;omega))|refine vW ⟨by omega,by omega⟩ ?_|(refine vU ?_ ?_;·kernel_rfl)|refine vX ?_|refine vY ?_|refine vZ ?_|refine za.mk _ ‹_› ?_|refine vP (show (_:BitVec 64)≠_ by decide) ?_));all_goals try conv=>whnf
  ·exfalso;omega
  ·have e0:k=n:=by omega
   subst e0
   refine congrArg (fun l=>some (D.arr 1 l)) ?_
   unfold zkl
   rw [List.map_map];rfl
end Go.Ab
namespace Go.Ab
open Go Go.Proofs
set_option maxRecDepth 10000
set_option maxHeartbeats 4000000
variable {T:Nat→Obj→Prop}
abbrev dTs (l:List Tup):D := .arr 1 (l.map dII)
theorem zsy {n:Nat} (t:Nat→Tup):(((List.range n).map t).map (rkN ((List.range n).map t))).map (fun (x:Nat)=>(x:Int))=ptL n fun w=>rkN ((List.range n).map t) (t w):=by
 unfold ptL;simp [Function.comp_def]
theorem zma {n:Nat} (t:Nat→Tup) (h1:1≤n) (h12:n≤12) (hs : ∀ w,w < n→Sml (t w)) :
  Fn Tryz.prog T zdH [.d (dTs ((List.range n).map t))] [] (.d (.tup [dI (ptL n fun w=>rkN ((List.range n).map t) (t w)),.int .i64 (cnN ((List.range n).map t):Int)])) []:=by
 have h:=zqH (T:=T) ((List.range n).map t) (fun h=>by have:=congrArg List.length h;simp at this;omega) (by simpa using h12) (fun x hx=>by
  obtain ⟨w,hw,rfl⟩:=List.mem_map.1 hx
  exact hs w (List.mem_range.1 hw))
 rw [show dN (((List.range n).map t).map (rkN ((List.range n).map t)))=dI (ptL n fun w=>rkN ((List.range n).map t) (t w)) by rw [← zsy]] at h
 exact h
theorem zpV {n:Nat} (h1:1≤n) (h12:n≤12) (g:Nat) (y1 y2:D) (next:(Nat→Nat)→Nat→Tup) (first:Nat→Tup) (hF : ∀ q v w,v < n→w < n→next q v=next q w→q v=q w)
  (hs : ∀ q w,w < n→Sml (next q w)) (hf : ∀ w,w < n→Sml (first w)) (hx : ∀ (q:Nat→Nat) (w:Nat),w < n→Fn Tryz.prog T g [.d (dI (ptL n q)),.d (.int .i64 (w:Int)),.d y1,.d y2] [] (.d (dII (next q w))) []) :
  Fn Tryz.prog T zfc [.d (dTs ((List.range n).map first)),.d (.fn g [y1,y2])] []
   (.d (.tup [dI (ptL n (zc4 n next (n+1) (fun w=>rkN ((List.range n).map first) (first w)) (cnN ((List.range n).map first))).1),.int .i64 ((zc4 n next (n+1) (fun w=>rkN ((List.range n).map first) (first w)) (cnN ((List.range n).map first))).2:Int)])) []:=by
 have c1:=zma (T:=T) first h1 h12 hf
 have c2:=fun q=>zma (T:=T) (next q) h1 h12 (hs q)
 generalize hq0:(fun w=>rkN ((List.range n).map first) (first w))=q0 at c1
 have hd0:cnN ((List.range n).map first)=dcN n q0:=by
  have:=zev (n:=n) (next:=fun _=>first) (fun _=>0)
  unfold zb7 rfT zdA rfT at this
  rw [hq0] at this
  exact this.symm
 rw [hd0] at c1 ⊢
 generalize hR:zc4 n next (n+1) q0 (dcN n q0)=R
 refine zo zw zjw (by show 2≤45;decide) ?_
 (repeat' ((conv=>whnf);first|refine vA ?_|refine vB fun b hb=>?_|refine vC (fun hl=>?_) fun i kv vv hi=>?_|refine vE ?_|refine vG ?_|refine vH ?_|((first|refine vD ?_ ?_|refine vF ?_ ?_|refine vI ?_ ?_)<;>intro hc<;>try simp only [vL] at hc)|refine vJ fun hg=>?_|refine vK fun hg=>?_|refine vT ?_|refine vN ‹_› ?_|(refine vQ ?_ fun x hx=>?_;·first|omega|(simp only [vM] at *;omega))|((first|refine vO ?_ ?_|refine vR ?_ ‹_› ?_|refine vS ?_ fun x hx=>?_|refine vP ?_ ?_);·first|omega|(simp only [vM] at *;omega))|refine vW ⟨by omega,by omega⟩ ?_|(refine vU ?_ ?_;·kernel_rfl)|refine vX ?_|refine vY ?_|refine vZ ?_|refine yN c1 ⟨⟨rfl,rfl⟩,rfl⟩ ?_|refine za.mk _ ‹_› ?_|refine vP (show (_:BitVec 64)≠_ by decide) ?_));all_goals try conv=>whnf
 refine zbR (fun ((q,c):(Nat→Nat)×Nat)=>[(1,.d (.fn g [y1,y2])),(6,.d (dI (ptL n q))),(7,.d (.int .i64 ((c:Int))))]) (fun ((q,c):(Nat→Nat)×Nat)=>c=dcN n q∧zc4 n next (n+1) q (dcN n q)=R) (fun ((q,c):(Nat→Nat)×Nat)=>n+1 - c) ((q0,dcN n q0)) (⟨rfl,hR⟩) (by (repeat' first|exact trivial|exact rfl|exact ⟨_,rfl⟩|exact .inl rfl|exact .inr (.inl ⟨rfl,rfl⟩)|exact .inr (.inr ⟨rfl,rfl⟩)|refine And.intro ?_ ?_|refine ⟨_,rfl,?_⟩|decide|exact of_decide_eq_true rfl)) ?_
 rintro ⟨q,c⟩ ⟨hc0,hI⟩
 have hln:(ptL n q).length=n:=zlM
 (repeat' ((conv=>whnf);first|refine vA ?_|refine vB fun b hb=>?_|refine vC (fun hl=>?_) fun i kv vv hi=>?_|refine vE ?_|refine vG ?_|refine vH ?_|((first|refine vD ?_ ?_|refine vF ?_ ?_|refine vI ?_ ?_)<;>intro hc<;>try simp only [vL] at hc)|refine vJ fun hg=>?_|refine vK fun hg=>?_|refine vT ?_|refine vN ‹_› ?_|(refine vQ ?_ fun x hx=>?_;·first|omega|(simp only [vM] at *;omega))|((first|refine vO ?_ ?_|refine vR ?_ ‹_› ?_|refine vS ?_ fun x hx=>?_|refine vP ?_ ?_);·first|omega|(simp only [vM] at *;omega))|refine vW ⟨by omega,by omega⟩ ?_|(refine vU ?_ ?_;·kernel_rfl)|refine vX ?_|refine vY ?_|refine vZ ?_|refine za.mk _ ‹_› ?_|refine vP (show (_:BitVec 64)≠_ by decide) ?_));all_goals try conv=>whnf
 ·refine zq (fun ((k,zs):Nat×List D)=>[(1,.d (.fn g [y1,y2])),(6,.d (dI (ptL n q))),(7,.d (.int .i64 ((c:Int)))),(8,.own 0),(21,.d (.int .i64 (((List.replicate ((((ptL n q).map (D.int .i64)).length:Int)).toNat (D.arr 1 []))).length:Int))),(22,.d (.int .i64 ((k:Int))))]) (fun ((k,zs):Nat×List D)=>[(0,some (.row 1 zs))]) 1 (fun ((k,zs):Nat×List D)=>k≤n∧zs=(List.range n).map fun w=>if w < k then dII (next q w) else D.arr 1 []) (fun ((k,zs):Nat×List D)=>n - k) ((0,List.replicate ((((ptL n q).map (D.int .i64)).length:Int)).toNat (D.arr 1 []))) [(0,0)] [] (⟨by omega,by simp only [Nat.not_lt_zero,if_false];rw [List.length_map,hln,Int.toNat_natCast];exact zbb _ _⟩) (by (refine ⟨rfl,rfl,rfl,?_,?_⟩;repeat' first|exact trivial|exact rfl|exact ⟨_,rfl⟩|exact .inl rfl|exact .inr (.inl ⟨rfl,rfl⟩)|exact .inr (.inr ⟨rfl,rfl⟩)|refine And.intro ?_ ?_|refine ⟨_,rfl,?_⟩|decide|exact of_decide_eq_true rfl)) ?_
  rintro ⟨k,zs⟩ ⟨hk,hz⟩
  by_cases hkl:k < n
  ·subst hz
   have er:(List.range n)[k]? = some k:=List.getElem?_range hkl
   (repeat' ((conv=>whnf);first|refine vA ?_|refine vB fun b hb=>?_|refine vC (fun hl=>?_) fun i kv vv hi=>?_|refine vE ?_|refine vG ?_|refine vH ?_|((first|refine vD ?_ ?_|refine vF ?_ ?_|refine vI ?_ ?_)<;>intro hc<;>try simp only [vL] at hc)|refine vJ fun hg=>?_|refine vK fun hg=>?_|refine vT ?_|refine vN ‹_› ?_|(refine vQ ?_ fun x hx=>?_;·first|omega|(simp only [vM] at *;omega))|((first|refine vO ?_ ?_|refine vR ?_ ‹_› ?_|refine vS ?_ fun x hx=>?_|refine vP ?_ ?_);·first|omega|(simp only [vM] at *;omega))|refine vW ⟨by omega,by omega⟩ ?_|(refine vU ?_ ?_;·kernel_rfl)|refine vX ?_|refine vY ?_|refine vZ ?_|refine za.mk _ ‹_› ?_|refine vP (show (_:BitVec 64)≠_ by decide) ?_));all_goals try conv=>whnf
   ·refine zM.dataN (hx q k hkl) (by (repeat refine ⟨⟨rfl,rfl⟩,?_⟩);rfl) ?_
    (repeat' ((conv=>whnf);first|refine vA ?_|refine vB fun b hb=>?_|refine vC (fun hl=>?_) fun i kv vv hi=>?_|refine vE ?_|refine vG ?_|refine vH ?_|((first|refine vD ?_ ?_|refine vF ?_ ?_|refine vI ?_ ?_)<;>intro hc<;>try simp only [vL] at hc)|refine vJ fun hg=>?_|refine vK fun hg=>?_|refine vT ?_|refine vN ‹_› ?_|(refine vQ ?_ fun x hx=>?_;·first|omega|(simp only [vM] at *;omega))|((first|refine vO ?_ ?_|refine vR ?_ ‹_› ?_|refine vS ?_ fun x hx=>?_|refine vP ?_ ?_);·first|omega|(simp only [vM] at *;omega))|refine vW ⟨by omega,by omega⟩ ?_|(refine vU ?_ ?_;·kernel_rfl)|refine vX ?_|refine vY ?_|refine vZ ?_|refine za.mk _ ‹_› ?_|refine vP (show (_:BitVec 64)≠_ by decide) ?_));all_goals try conv=>whnf
    refine ⟨(k+1,_),[(0,0)],[],?_,?_,by (refine ⟨rfl,rfl,rfl,?_,?_⟩;repeat' first|exact trivial|exact rfl|exact ⟨_,rfl⟩|exact .inl rfl|exact .inr (.inl ⟨rfl,rfl⟩)|exact .inr (.inr ⟨rfl,rfl⟩)|refine And.intro ?_ ?_|refine ⟨_,rfl,?_⟩|decide|exact of_decide_eq_true rfl)⟩
    ·refine ⟨by omega,(zdS _).trans (zS fun u hu=>?_)⟩
     show (if u=k then _ else _)=_
     by_cases e:u=k
     ·subst e;rw [if_pos rfl,if_pos (by omega)]
     ·rw [if_neg e]
      by_cases e2:u < k
      ·rw [if_pos e2,if_pos (by omega)]
      ·rw [if_neg e2,if_neg (by omega)]
    ·(first|omega|(simp only [vM] at *;omega))
   ·exfalso
    simp only [vM] at *;omega
  ·have hzz:zs=((List.range n).map (next q)).map dII:=by
    rw [hz,List.map_map];exact zS fun u hu=>by rw [if_pos (by omega)];rfl
   clear hz
   subst hzz
   have c3:=c2 q
   (repeat' ((conv=>whnf);first|refine vA ?_|refine vB fun b hb=>?_|refine vC (fun hl=>?_) fun i kv vv hi=>?_|refine vE ?_|refine vG ?_|refine vH ?_|((first|refine vD ?_ ?_|refine vF ?_ ?_|refine vI ?_ ?_)<;>intro hc<;>try simp only [vL] at hc)|refine vJ fun hg=>?_|refine vK fun hg=>?_|refine vT ?_|refine vN ‹_› ?_|(refine vQ ?_ fun x hx=>?_;·first|omega|(simp only [vM] at *;omega))|((first|refine vO ?_ ?_|refine vR ?_ ‹_› ?_|refine vS ?_ fun x hx=>?_|refine vP ?_ ?_);·first|omega|(simp only [vM] at *;omega))|refine vW ⟨by omega,by omega⟩ ?_|(refine vU ?_ ?_;·kernel_rfl)|refine vX ?_|refine vY ?_|refine vZ ?_|refine yD c3 (by (repeat refine ⟨⟨rfl,rfl⟩,?_⟩);rfl) rfl ?_|refine yN c3 (by (repeat refine ⟨⟨rfl,rfl⟩,?_⟩);rfl) ?_|refine za.mk _ ‹_› ?_|refine vP (show (_:BitVec 64)≠_ by decide) ?_));all_goals try conv=>whnf
   ·exfalso;simp only [vM] at *;omega
   ·have e1:zb7 n next q=dcN n q:=by have h:(cnN ((List.range n).map (next q)):Int)=(c:Int):=‹_›;unfold zb7 rfT;omega
    rw [zc4,if_pos e1] at hI
    rw [← hI,hc0];rfl
   ·have e1:zb7 n next q≠dcN n q:=fun e=>by
     have h : ¬(cnN ((List.range n).map (next q)):Int)=(c:Int):=‹_›
     unfold zb7 rfT at e;omega
    have e2:=zqB hF q
    have e3:=zev (n:=n) (next:=next) q
    have e4:=zt8 (n:=n) (next:=next) q
    refine ⟨(zdA n next q,zb7 n next q),[],[],?_,?_,by (refine ⟨rfl,rfl,rfl,?_,?_⟩;repeat' first|exact trivial|exact rfl|exact ⟨_,rfl⟩|exact .inl rfl|exact .inr (.inl ⟨rfl,rfl⟩)|exact .inr (.inr ⟨rfl,rfl⟩)|refine And.intro ?_ ?_|refine ⟨_,rfl,?_⟩|decide|exact of_decide_eq_true rfl)⟩
    ·refine ⟨e3.symm,?_⟩
     rw [zc4,if_neg e1,← e3] at hI
     rw [← hI]
     exact zpm hF _ _ _ (by omega) (by omega)
    ·show n+1 - zb7 n next q < n+1 - c
     omega
end Go.Ab
namespace Go.Ab
open Go Go.Proofs
set_option maxRecDepth 10000
set_option maxHeartbeats 4000000
variable {T:Nat→Obj→Prop}
theorem zsK {n:Nat} (h12:n≤12) {R:zam} (hR:R.length≤8) (q:Nat→Nat) (w:Nat):Sml (zcr n R q w)∧Sml (zgA n R q w):=by
 have hsee : ∀ r:Nat→Nat→Bool,(zc6 n r q w).length≤12:=fun r=>by
  unfold zc6
  rw [List.length_map]
  have:=List.length_filter_le (fun v=>r w v) (List.range n)
  rw [List.length_range] at this;omega
 refine ⟨⟨by simp [zcr];omega,fun x hx=>?_⟩,⟨by simp [zgA];omega,fun x hx=>?_⟩⟩
 ·rcases List.mem_cons.1 hx with rfl|hx
  ·simp
  ·obtain ⟨r,-,rfl⟩:=List.mem_map.1 hx
   have:=hsee r
   rw [(zf5 _).length_eq];omega
 ·rcases List.mem_cons.1 hx with rfl|hx
  ·simp
  ·obtain ⟨r,-,rfl⟩:=List.mem_map.1 hx
   have:=hsee r
   have h2:=zea (zdz (zc6 n r q w)) (l':=zc6 n r q w) fun y hy=>zbn.1 hy
   unfold zof
   rw [(zf5 _).length_eq];omega
theorem zq2 {m:KM} (hk0:zk m=0) {r:List (BitVec 64)} (hr:r∈m.rel) (w:Nat) : ∀ v,(r.getD w 0#64).getLsbD v=true→v < m.W.toNat:=fun v hv=>(zs7 hk0 hr (v:=w) (u:=v) hv).2
abbrev bUU (l:List (List (BitVec 64))):D := .box [dUU l]
def zdZ (m:KM):List (List (BitVec 64)):=m.rel.map (zkl m.W.toNat)
theorem ztK {n:Nat} {r:List (BitVec 64)} {w:Nat} (hw:w < n):(zkl n r)[w]? = some (zbc (fun v=>rb r v w) n):=by unfold zkl;simp [hw]
theorem zpR (hT:zeh T) {m:KM} (hk0:zk m=0) (h12:m.W≤12) (q:Nat→Nat) (w:Nat) (hw:w < m.W.toNat) :
  Fn Tryz.prog T zbx [.d (dI (ptL m.W.toNat q)),.d (.int .i64 (w:Int)),.d (bKM m),.d (bUU (zdZ m))] [] (.d (dII (zcr m.W.toNat (zV m++zd0 (zV m)) q w))) []:=by
 have hg0:=zD hk0
 have n4:=hg0.n4
 have e0:=zf1 (q:=q) hw
 refine zo zw zia (by show 4≤52;decide) ?_
 (repeat' ((conv=>whnf);first|refine vA ?_|refine vB fun b hb=>?_|refine vC (fun hl=>?_) fun i kv vv hi=>?_|refine vE ?_|refine vG ?_|refine vH ?_|((first|refine vD ?_ ?_|refine vF ?_ ?_|refine vI ?_ ?_)<;>intro hc<;>try simp only [vL] at hc)|refine vJ fun hg=>?_|refine vK fun hg=>?_|refine vT ?_|refine vN ‹_› ?_|(refine vQ ?_ fun x hx=>?_;·first|omega|(simp only [vM] at *;omega))|((first|refine vO ?_ ?_|refine vR ?_ ‹_› ?_|refine vS ?_ fun x hx=>?_|refine vP ?_ ?_);·first|omega|(simp only [vM] at *;omega))|refine vW ⟨by omega,by omega⟩ ?_|(refine vU ?_ ?_;·kernel_rfl)|refine vX ?_|refine vY ?_|refine vZ ?_|refine za.mk _ ‹_› ?_|refine vP (show (_:BitVec 64)≠_ by decide) ?_));all_goals try conv=>whnf
 refine zq (fun ((k,zs):Nat×List D)=>[(0,.d (dI (ptL m.W.toNat q))),(1,.d (.int .i64 ((w:Int)))),(3,.d (bUU (zdZ m))),(7,.own 0),(19,.d (dUU m.rel)),(20,.d (.int .i64 ((m.rel.map dU).length:Int))),(21,.d (.int .i64 ((k:Int))))]) (fun ((k,zs):Nat×List D)=>[(0,some (.row 1 zs))]) 1 (fun ((k,zs):Nat×List D)=>k≤m.rel.length∧zs=dI [(q w:Int)]::(m.rel.take k).map fun r=>dI (zc8 (zbA q (r.getD w 0#64)))) (fun ((k,zs):Nat×List D)=>m.rel.length - k) ((0,[dI [(q w:Int)]])) [(0,1)] [] (⟨by omega,by simp⟩) (by (refine ⟨rfl,rfl,rfl,?_,?_⟩;repeat' first|exact trivial|exact rfl|exact ⟨_,rfl⟩|exact .inl rfl|exact .inr (.inl ⟨rfl,rfl⟩)|exact .inr (.inr ⟨rfl,rfl⟩)|refine And.intro ?_ ?_|refine ⟨_,rfl,?_⟩|decide|exact of_decide_eq_true rfl)) ?_
 rintro ⟨k,zs⟩ ⟨hk,hz⟩
 have hzl:zs.length≤5:=by rw [hz];simp;omega
 by_cases hkl:k < m.rel.length
 ·obtain ⟨r,hr⟩ : ∃ r,m.rel[k]? = some r:=⟨_,List.getElem?_eq_getElem hkl⟩
  have hrm:=List.mem_of_getElem? hr
  have hrl:=hg0.len r hrm
  have hx:=zaL (l:=r) (d:=0#64) (show w < r.length by omega)
  (repeat' ((conv=>whnf);first|refine vA ?_|refine vB fun b hb=>?_|refine vC (fun hl=>?_) fun i kv vv hi=>?_|refine vE ?_|refine vG ?_|refine vH ?_|((first|refine vD ?_ ?_|refine vF ?_ ?_|refine vI ?_ ?_)<;>intro hc<;>try simp only [vL] at hc)|refine vJ fun hg=>?_|refine vK fun hg=>?_|refine vT ?_|refine vN ‹_› ?_|(refine vQ ?_ fun x hx=>?_;·first|omega|(simp only [vM] at *;omega))|((first|refine vO ?_ ?_|refine vR ?_ ‹_› ?_|refine vS ?_ fun x hx=>?_|refine vP ?_ ?_);·first|omega|(simp only [vM] at *;omega))|refine vW ⟨by omega,by omega⟩ ?_|(refine vU ?_ ?_;·kernel_rfl)|refine vX ?_|refine vY ?_|refine vZ ?_|refine za.mk _ ‹_› ?_|refine vP (show (_:BitVec 64)≠_ by decide) ?_));all_goals try conv=>whnf
  ·refine zM.res (zmb hT q (n:=m.W.toNat) (by omega) (zq2 hk0 hrm w)) (by (repeat refine ⟨⟨rfl,rfl⟩,?_⟩);rfl) ?_
   (repeat' ((conv=>whnf);first|refine vA ?_|refine vB fun b hb=>?_|refine vC (fun hl=>?_) fun i kv vv hi=>?_|refine vE ?_|refine vG ?_|refine vH ?_|((first|refine vD ?_ ?_|refine vF ?_ ?_|refine vI ?_ ?_)<;>intro hc<;>try simp only [vL] at hc)|refine vJ fun hg=>?_|refine vK fun hg=>?_|refine vT ?_|refine vN ‹_› ?_|(refine vQ ?_ fun x hx=>?_;·first|omega|(simp only [vM] at *;omega))|((first|refine vO ?_ ?_|refine vR ?_ ‹_› ?_|refine vS ?_ fun x hx=>?_|refine vP ?_ ?_);·first|omega|(simp only [vM] at *;omega))|refine vW ⟨by omega,by omega⟩ ?_|(refine vU ?_ ?_;·kernel_rfl)|refine vX ?_|refine vY ?_|refine vZ ?_|refine za.mk _ ‹_› ?_|refine vP (show (_:BitVec 64)≠_ by decide) ?_));all_goals try conv=>whnf
   refine ⟨(k+1,_),[(0,3)],[],?_,?_,by (refine ⟨rfl,rfl,rfl,?_,?_⟩;repeat' first|exact trivial|exact rfl|exact ⟨_,rfl⟩|exact .inl rfl|exact .inr (.inl ⟨rfl,rfl⟩)|exact .inr (.inr ⟨rfl,rfl⟩)|refine And.intro ?_ ?_|refine ⟨_,rfl,?_⟩|decide|exact of_decide_eq_true rfl)⟩
   ·refine ⟨by omega,?_⟩
    rw [List.take_add_one,hr,hz];simp
   ·(first|omega|(simp only [vM] at *;omega))
  ·exfalso;omega
 ·have hzz:zs=dI [(q w:Int)]::m.rel.map fun r=>dI (zc8 (zbA q (r.getD w 0#64))):=by rw [hz,List.take_of_length_le (by omega)]
  clear hz
  (repeat' ((conv=>whnf);first|refine vA ?_|refine vB fun b hb=>?_|refine vC (fun hl=>?_) fun i kv vv hi=>?_|refine vE ?_|refine vG ?_|refine vH ?_|((first|refine vD ?_ ?_|refine vF ?_ ?_|refine vI ?_ ?_)<;>intro hc<;>try simp only [vL] at hc)|refine vJ fun hg=>?_|refine vK fun hg=>?_|refine vT ?_|refine vN ‹_› ?_|(refine vQ ?_ fun x hx=>?_;·first|omega|(simp only [vM] at *;omega))|((first|refine vO ?_ ?_|refine vR ?_ ‹_› ?_|refine vS ?_ fun x hx=>?_|refine vP ?_ ?_);·first|omega|(simp only [vM] at *;omega))|refine vW ⟨by omega,by omega⟩ ?_|(refine vU ?_ ?_;·kernel_rfl)|refine vX ?_|refine vY ?_|refine vZ ?_|refine za.mk _ ‹_› ?_|refine vP (show (_:BitVec 64)≠_ by decide) ?_));all_goals try conv=>whnf
  ·exfalso;omega
  refine zq (fun ((k,ys):Nat×List D)=>[(0,.d (dI (ptL m.W.toNat q))),(1,.d (.int .i64 ((w:Int)))),(7,.own 0),(35,.d (dUU (zdZ m))),(36,.d (.int .i64 (((zdZ m).map dU).length:Int))),(37,.d (.int .i64 ((k:Int))))]) (fun ((k,ys):Nat×List D)=>[(0,some (.row 1 ys))]) 1 (fun ((k,ys):Nat×List D)=>k≤m.rel.length∧ys=zs++(m.rel.take k).map fun r=>dI (zc8 (zbA q (zbc (fun v=>rb r v w) m.W.toNat)))) (fun ((k,ys):Nat×List D)=>m.rel.length - k) ((0,zs)) [(0,0)] [] (⟨by omega,by simp⟩) (by (refine ⟨rfl,rfl,rfl,?_,?_⟩;repeat' first|exact trivial|exact rfl|exact ⟨_,rfl⟩|exact .inl rfl|exact .inr (.inl ⟨rfl,rfl⟩)|exact .inr (.inr ⟨rfl,rfl⟩)|refine And.intro ?_ ?_|refine ⟨_,rfl,?_⟩|decide|exact of_decide_eq_true rfl)) ?_
  rintro ⟨k,ys⟩ ⟨hk,hy⟩
  have hyl:ys.length≤9:=by rw [hy];simp;omega
  have hbl:(zdZ m).length=m.rel.length:=by simp [zdZ]
  by_cases hkl:k < m.rel.length
  ·obtain ⟨r,hr⟩ : ∃ r,m.rel[k]? = some r:=⟨_,List.getElem?_eq_getElem hkl⟩
   have hrm:=List.mem_of_getElem? hr
   have hb:(zdZ m)[k]? = some (zkl m.W.toNat r):=by unfold zdZ;rw [List.getElem?_map,hr];rfl
   have hx:=ztK (r:=r) hw
   (repeat' ((conv=>whnf);first|refine vA ?_|refine vB fun b hb=>?_|refine vC (fun hl=>?_) fun i kv vv hi=>?_|refine vE ?_|refine vG ?_|refine vH ?_|((first|refine vD ?_ ?_|refine vF ?_ ?_|refine vI ?_ ?_)<;>intro hc<;>try simp only [vL] at hc)|refine vJ fun hg=>?_|refine vK fun hg=>?_|refine vT ?_|refine vN ‹_› ?_|(refine vQ ?_ fun x hx=>?_;·first|omega|(simp only [vM] at *;omega))|((first|refine vO ?_ ?_|refine vR ?_ ‹_› ?_|refine vS ?_ fun x hx=>?_|refine vP ?_ ?_);·first|omega|(simp only [vM] at *;omega))|refine vW ⟨by omega,by omega⟩ ?_|(refine vU ?_ ?_;·kernel_rfl)|refine vX ?_|refine vY ?_|refine vZ ?_|refine za.mk _ ‹_› ?_|refine vP (show (_:BitVec 64)≠_ by decide) ?_));all_goals try conv=>whnf
   ·refine zM.res (zmb hT q (n:=m.W.toNat) (by omega) (fun v hv=>((zgC (by omega)).1 hv).1)) (by (repeat refine ⟨⟨rfl,rfl⟩,?_⟩);rfl) ?_
    (repeat' ((conv=>whnf);first|refine vA ?_|refine vB fun b hb=>?_|refine vC (fun hl=>?_) fun i kv vv hi=>?_|refine vE ?_|refine vG ?_|refine vH ?_|((first|refine vD ?_ ?_|refine vF ?_ ?_|refine vI ?_ ?_)<;>intro hc<;>try simp only [vL] at hc)|refine vJ fun hg=>?_|refine vK fun hg=>?_|refine vT ?_|refine vN ‹_› ?_|(refine vQ ?_ fun x hx=>?_;·first|omega|(simp only [vM] at *;omega))|((first|refine vO ?_ ?_|refine vR ?_ ‹_› ?_|refine vS ?_ fun x hx=>?_|refine vP ?_ ?_);·first|omega|(simp only [vM] at *;omega))|refine vW ⟨by omega,by omega⟩ ?_|(refine vU ?_ ?_;·kernel_rfl)|refine vX ?_|refine vY ?_|refine vZ ?_|refine za.mk _ ‹_› ?_|refine vP (show (_:BitVec 64)≠_ by decide) ?_));all_goals try conv=>whnf
    refine ⟨(k+1,_),[(0,3)],[],?_,?_,by (refine ⟨rfl,rfl,rfl,?_,?_⟩;repeat' first|exact trivial|exact rfl|exact ⟨_,rfl⟩|exact .inl rfl|exact .inr (.inl ⟨rfl,rfl⟩)|exact .inr (.inr ⟨rfl,rfl⟩)|refine And.intro ?_ ?_|refine ⟨_,rfl,?_⟩|decide|exact of_decide_eq_true rfl)⟩
    ·refine ⟨by omega,?_⟩
     rw [List.take_add_one,hr,hy];simp
    ·(first|omega|(simp only [vM] at *;omega))
   ·exfalso;omega
  ·(repeat' ((conv=>whnf);first|refine vA ?_|refine vB fun b hb=>?_|refine vC (fun hl=>?_) fun i kv vv hi=>?_|refine vE ?_|refine vG ?_|refine vH ?_|((first|refine vD ?_ ?_|refine vF ?_ ?_|refine vI ?_ ?_)<;>intro hc<;>try simp only [vL] at hc)|refine vJ fun hg=>?_|refine vK fun hg=>?_|refine vT ?_|refine vN ‹_› ?_|(refine vQ ?_ fun x hx=>?_;·first|omega|(simp only [vM] at *;omega))|((first|refine vO ?_ ?_|refine vR ?_ ‹_› ?_|refine vS ?_ fun x hx=>?_|refine vP ?_ ?_);·first|omega|(simp only [vM] at *;omega))|refine vW ⟨by omega,by omega⟩ ?_|(refine vU ?_ ?_;·kernel_rfl)|refine vX ?_|refine vY ?_|refine vZ ?_|refine za.mk _ ‹_› ?_|refine vP (show (_:BitVec 64)≠_ by decide) ?_));all_goals try conv=>whnf
   ·exfalso;omega
   ·have hyy:ys=zs++m.rel.map fun r=>dI (zc8 (zbA q (zbc (fun v=>rb r v w) m.W.toNat))):=by rw [hy,List.take_of_length_le (by omega)]
    refine congrArg some (show D.arr 1 ys=dII (zcr m.W.toNat (zV m++zd0 (zV m)) q w) from ?_)
    rw [hyy,hzz]
    unfold zcr zV zd0
    have a1 : ∀ r∈m.rel,zc6 m.W.toNat (fun v w=>rb r v w) q w=zbA q (r.getD w 0#64):=fun r hr=>zn9 (by omega) (zq2 hk0 hr w) fun v _=>rfl
    have a2 : ∀ r∈m.rel,zc6 m.W.toNat (fun v w=>rb r w v) q w=zbA q (zbc (fun v=>rb r v w) m.W.toNat):=fun r hr=>zn9 (by omega) (fun v hv=>((zgC (by omega)).1 hv).1) fun v hv=>by
     rw [Bool.eq_iff_iff,zgC (by omega)];exact ⟨fun h=>⟨hv,h⟩,fun h=>h.2⟩
    simp only [List.map_append,List.map_map,List.map_cons,List.cons_append]
    refine congrArg (fun l=>D.arr 1 (dI [(q w:Int)]::l)) ?_
    rw [List.map_append,List.map_map,List.map_map]
    refine congr (congrArg _ ?_) ?_
    ·exact List.map_congr_left fun r hr=>by show dI _=dI (zc8 (zc6 _ (fun v w=>rb r v w) q w));rw [a1 r hr]
    ·exact List.map_congr_left fun r hr=>by show dI _=dI (zc8 (zc6 _ (fun v w=>rb r w v) q w));rw [a2 r hr]
def zng (m:KM):List Int:=if zk m≠0 then [] else ptL m.W.toNat (zeZ m.W.toNat (zai m) (zV m)).1
theorem zfm (hT:zeh T) (m:KM) (h12:zk m=0→m.W≤12):Fn Tryz.prog T zfb [.d (dKM m)] [] (.d (.tup [dI (zng m),.int .i64 (zk m)])) []:=by
 by_cases hk0:zk m=0
 ·have h12:=h12 hk0
  have hg0:=zD hk0
  have w1:=hg0.w1
  have n4:=hg0.n4
  have cc:=zcY (T:=T) m
  have cr:=zpV (T:=T) (n:=m.W.toNat) (by omega) (by omega) zbx (bKM m) (bUU (zdZ m)) (zcr m.W.toNat (zV m++zd0 (zV m))) (fun w=>[[zai m w]]) (fun q v w hv hw h=>zp3 q v w hv hw h) (fun q w hw=>(zsK (by omega) (by simp [zV,zd0];omega) q w).1) (fun w hw=>⟨by simp,fun r hr=>by simp at hr;subst hr;simp⟩) (fun q w hw=>zpR hT hk0 h12 q w hw)
  refine zo zw zfe (by show 1≤51;decide) ?_
  rw [hk0] at cc
  (repeat' ((conv=>whnf);first|refine vA ?_|refine vB fun b hb=>?_|refine vC (fun hl=>?_) fun i kv vv hi=>?_|refine vE ?_|refine vG ?_|refine vH ?_|((first|refine vD ?_ ?_|refine vF ?_ ?_|refine vI ?_ ?_)<;>intro hc<;>try simp only [vL] at hc)|refine vJ fun hg=>?_|refine vK fun hg=>?_|refine vT ?_|refine vN ‹_› ?_|(refine vQ ?_ fun x hx=>?_;·first|omega|(simp only [vM] at *;omega))|((first|refine vO ?_ ?_|refine vR ?_ ‹_› ?_|refine vS ?_ fun x hx=>?_|refine vP ?_ ?_);·first|omega|(simp only [vM] at *;omega))|refine vW ⟨by omega,by omega⟩ ?_|(refine vU ?_ ?_;·kernel_rfl)|refine vX ?_|refine vY ?_|refine vZ ?_|refine yD cc ⟨⟨rfl,rfl⟩,rfl⟩ rfl ?_|refine za.mk _ ‹_› ?_|refine vP (show (_:BitVec 64)≠_ by decide) ?_));all_goals try conv=>whnf
  refine zq (fun ((k,zs):Nat×List D)=>[(1,.ptr 0 0),(5,.own 1),(18,.d (.int .i64 (m.W))),(19,.d (.int .i64 ((k:Int))))]) (fun ((k,zs):Nat×List D)=>[(0,some (zZ m)),(1,some (.row 1 zs))]) 2 (fun ((k,zs):Nat×List D)=>k≤m.W.toNat∧zs=((List.range k).map fun w=>([[zai m w]]:Tup)).map dII) (fun ((k,zs):Nat×List D)=>m.W.toNat - k) ((0,[])) [(0,0)]   [1] (⟨by omega,rfl⟩) (by (refine ⟨rfl,rfl,rfl,?_,?_⟩;repeat' first|exact trivial|exact rfl|exact ⟨_,rfl⟩|exact .inl rfl|exact .inr (.inl ⟨rfl,rfl⟩)|exact .inr (.inr ⟨rfl,rfl⟩)|refine And.intro ?_ ?_|refine ⟨_,rfl,?_⟩|decide|exact of_decide_eq_true rfl)) ?_
  rintro ⟨k,zs⟩ ⟨hk,hz⟩
  have hzl:zs.length≤12:=by rw [hz];simp;omega
  by_cases hkl:k < m.W.toNat
  ·have cf:=zgv (T:=T) m (k:Int)
   rw [zlB hk0 hkl] at cf
   (repeat' ((conv=>whnf);first|refine vA ?_|refine vB fun b hb=>?_|refine vC (fun hl=>?_) fun i kv vv hi=>?_|refine vE ?_|refine vG ?_|refine vH ?_|((first|refine vD ?_ ?_|refine vF ?_ ?_|refine vI ?_ ?_)<;>intro hc<;>try simp only [vL] at hc)|refine vJ fun hg=>?_|refine vK fun hg=>?_|refine vT ?_|refine vN ‹_› ?_|(refine vQ ?_ fun x hx=>?_;·first|omega|(simp only [vM] at *;omega))|((first|refine vO ?_ ?_|refine vR ?_ ‹_› ?_|refine vS ?_ fun x hx=>?_|refine vP ?_ ?_);·first|omega|(simp only [vM] at *;omega))|refine vW ⟨by omega,by omega⟩ ?_|(refine vU ?_ ?_;·kernel_rfl)|refine vX ?_|refine vY ?_|refine vZ ?_|refine yD cf ⟨⟨rfl,rfl⟩,⟨rfl,rfl⟩,rfl⟩ rfl ?_|refine za.mk _ ‹_› ?_|refine vP (show (_:BitVec 64)≠_ by decide) ?_));all_goals try conv=>whnf
   ·refine ⟨(k+1,_),[(0,0),(1,5)],[],?_,?_,by (refine ⟨rfl,rfl,rfl,?_,?_⟩;repeat' first|exact trivial|exact rfl|exact ⟨_,rfl⟩|exact .inl rfl|exact .inr (.inl ⟨rfl,rfl⟩)|exact .inr (.inr ⟨rfl,rfl⟩)|refine And.intro ?_ ?_|refine ⟨_,rfl,?_⟩|decide|exact of_decide_eq_true rfl)⟩
    ·exact ⟨by omega,by rw [hz,List.range_succ,List.map_append,List.map_append];rfl⟩
    ·(first|omega|(simp only [vM] at *;omega))
   ·exfalso;omega
  ·have hzz:zs=((List.range m.W.toNat).map fun w=>([[zai m w]]:Tup)).map dII:=by rw [hz,show k=m.W.toNat by omega]
   clear hz
   subst hzz
   (repeat' ((conv=>whnf);first|refine vA ?_|refine vB fun b hb=>?_|refine vC (fun hl=>?_) fun i kv vv hi=>?_|refine vE ?_|refine vG ?_|refine vH ?_|((first|refine vD ?_ ?_|refine vF ?_ ?_|refine vI ?_ ?_)<;>intro hc<;>try simp only [vL] at hc)|refine vJ fun hg=>?_|refine vK fun hg=>?_|refine vT ?_|refine vN ‹_› ?_|(refine vQ ?_ fun x hx=>?_;·first|omega|(simp only [vM] at *;omega))|((first|refine vO ?_ ?_|refine vR ?_ ‹_› ?_|refine vS ?_ fun x hx=>?_|refine vP ?_ ?_);·first|omega|(simp only [vM] at *;omega))|refine vW ⟨by omega,by omega⟩ ?_|(refine vU ?_ ?_;·kernel_rfl)|refine vX ?_|refine vY ?_|refine vZ ?_|refine za.mk _ ‹_› ?_|refine vP (show (_:BitVec 64)≠_ by decide) ?_));all_goals try conv=>whnf
   ·exfalso;omega
   refine zq (fun ((k,ys):Nat×List D)=>[(1,.ptr 0 0),(5,.own 1),(7,.ptr 2 0),(32,.d (dUU m.rel)),(33,.d (.int .i64 ((m.rel.map dU).length:Int))),(34,.d (.int .i64 ((k:Int))))]) (fun ((k,ys):Nat×List D)=>[(0,some (zZ m)),(1,some (.row 1 (((List.range m.W.toNat).map fun w=>([[zai m w]]:Tup)).map dII))),(2,some (.box [.own 3])),(3,some (.row 1 ys))]) 4 (fun ((k,ys):Nat×List D)=>k≤m.rel.length∧ys=(m.rel.take k).map fun r=>dU (zkl m.W.toNat r)) (fun ((k,ys):Nat×List D)=>m.rel.length - k) ((0,[])) [(0,0),(1,1),(2,2)]   [3] (⟨by omega,by simp⟩) (by (refine ⟨rfl,rfl,rfl,?_,?_⟩;repeat' first|exact trivial|exact rfl|exact ⟨_,rfl⟩|exact .inl rfl|exact .inr (.inl ⟨rfl,rfl⟩)|exact .inr (.inr ⟨rfl,rfl⟩)|refine And.intro ?_ ?_|refine ⟨_,rfl,?_⟩|decide|exact of_decide_eq_true rfl)) ?_
   rintro ⟨k,ys⟩ ⟨hk,hy⟩
   have hyl:ys.length≤4:=by rw [hy];simp;omega
   by_cases hkl:k < m.rel.length
   ·obtain ⟨r,hr⟩ : ∃ r,m.rel[k]? = some r:=⟨_,List.getElem?_eq_getElem hkl⟩
    have hrm:=List.mem_of_getElem? hr
    have hrl:=hg0.len r hrm
    (repeat' ((conv=>whnf);first|refine vA ?_|refine vB fun b hb=>?_|refine vC (fun hl=>?_) fun i kv vv hi=>?_|refine vE ?_|refine vG ?_|refine vH ?_|((first|refine vD ?_ ?_|refine vF ?_ ?_|refine vI ?_ ?_)<;>intro hc<;>try simp only [vL] at hc)|refine vJ fun hg=>?_|refine vK fun hg=>?_|refine vT ?_|refine vN ‹_› ?_|(refine vQ ?_ fun x hx=>?_;·first|omega|(simp only [vM] at *;omega))|((first|refine vO ?_ ?_|refine vR ?_ ‹_› ?_|refine vS ?_ fun x hx=>?_|refine vP ?_ ?_);·first|omega|(simp only [vM] at *;omega))|refine vW ⟨by omega,by omega⟩ ?_|(refine vU ?_ ?_;·kernel_rfl)|refine vX ?_|refine vY ?_|refine vZ ?_|refine yN (zoC hT (n:=m.W.toNat) (by omega) r (by omega) (fun w v h=>(zs7 hk0 hrm h).2)) ⟨⟨rfl,rfl⟩,rfl⟩ ?_|refine za.mk _ ‹_› ?_|refine vP (show (_:BitVec 64)≠_ by decide) ?_));all_goals try conv=>whnf
    ·refine ⟨(k+1,_),[(0,0),(1,1),(2,2),(3,5)],[],?_,?_,by (refine ⟨rfl,rfl,rfl,?_,?_⟩;repeat' first|exact trivial|exact rfl|exact ⟨_,rfl⟩|exact .inl rfl|exact .inr (.inl ⟨rfl,rfl⟩)|exact .inr (.inr ⟨rfl,rfl⟩)|refine And.intro ?_ ?_|refine ⟨_,rfl,?_⟩|decide|exact of_decide_eq_true rfl)⟩
     ·refine ⟨by omega,?_⟩
      rw [List.take_add_one,hr,hy];simp
     ·(first|omega|(simp only [vM] at *;omega))
    ·exfalso;omega
   ·have hyy:ys=(zdZ m).map dU:=by rw [hy,List.take_of_length_le (by omega)];unfold zdZ;rw [List.map_map];rfl
    clear hy
    subst hyy
    (repeat' ((conv=>whnf);first|refine vA ?_|refine vB fun b hb=>?_|refine vC (fun hl=>?_) fun i kv vv hi=>?_|refine vE ?_|refine vG ?_|refine vH ?_|((first|refine vD ?_ ?_|refine vF ?_ ?_|refine vI ?_ ?_)<;>intro hc<;>try simp only [vL] at hc)|refine vJ fun hg=>?_|refine vK fun hg=>?_|refine vT ?_|refine vN ‹_› ?_|(refine vQ ?_ fun x hx=>?_;·first|omega|(simp only [vM] at *;omega))|((first|refine vO ?_ ?_|refine vR ?_ ‹_› ?_|refine vS ?_ fun x hx=>?_|refine vP ?_ ?_);·first|omega|(simp only [vM] at *;omega))|refine vW ⟨by omega,by omega⟩ ?_|(refine vU ?_ ?_;·kernel_rfl)|refine vX ?_|refine vY ?_|refine vZ ?_|refine yN cr ⟨⟨rfl,rfl⟩,⟨rfl,rfl⟩,rfl⟩ ?_|refine za.mk _ ‹_› ?_|refine vP (show (_:BitVec 64)≠_ by decide) ?_));all_goals try conv=>whnf
    ·exfalso;omega
    ·rw [zng,if_neg (by omega),hk0];rfl
 ·have cc:=zcY (T:=T) m
  refine zo zw zfe (by show 1≤51;decide) ?_
  (repeat' ((conv=>whnf);first|refine vA ?_|refine vB fun b hb=>?_|refine vC (fun hl=>?_) fun i kv vv hi=>?_|refine vE ?_|refine vG ?_|refine vH ?_|((first|refine vD ?_ ?_|refine vF ?_ ?_|refine vI ?_ ?_)<;>intro hc<;>try simp only [vL] at hc)|refine vJ fun hg=>?_|refine vK fun hg=>?_|refine vT ?_|refine vN ‹_› ?_|(refine vQ ?_ fun x hx=>?_;·first|omega|(simp only [vM] at *;omega))|((first|refine vO ?_ ?_|refine vR ?_ ‹_› ?_|refine vS ?_ fun x hx=>?_|refine vP ?_ ?_);·first|omega|(simp only [vM] at *;omega))|refine vW ⟨by omega,by omega⟩ ?_|(refine vU ?_ ?_;·kernel_rfl)|refine vX ?_|refine vY ?_|refine vZ ?_|refine yD cc ⟨⟨rfl,rfl⟩,rfl⟩ rfl ?_|refine za.mk _ ‹_› ?_|refine vP (show (_:BitVec 64)≠_ by decide) ?_));all_goals try conv=>whnf
  ·rw [zng,if_pos hk0];rfl
  ·exact absurd ‹_› hk0
end Go.Ab
namespace Go.Ab
open Go Go.Proofs
set_option maxRecDepth 10000
set_option maxHeartbeats 4000000
variable {T:Nat→Obj→Prop}
theorem zlD (a b:KM):Fn Tryz.prog T zgp [.d (dKM a),.d (dKM b)] [] (.d (.int .i64 (za5 a b))) []:=by
 refine zo zw zk5 (by show 2≤33;decide) ?_
 (repeat' ((conv=>whnf);first|refine vA ?_|refine vB fun b hb=>?_|refine vC (fun hl=>?_) fun i kv vv hi=>?_|refine vE ?_|refine vG ?_|refine vH ?_|((first|refine vD ?_ ?_|refine vF ?_ ?_|refine vI ?_ ?_)<;>intro hc<;>try simp only [vL] at hc)|refine vJ fun hg=>?_|refine vK fun hg=>?_|refine vT ?_|refine vN ‹_› ?_|(refine vQ ?_ fun x hx=>?_;·first|omega|(simp only [vM] at *;omega))|((first|refine vO ?_ ?_|refine vR ?_ ‹_› ?_|refine vS ?_ fun x hx=>?_|refine vP ?_ ?_);·first|omega|(simp only [vM] at *;omega))|refine vW ⟨by omega,by omega⟩ ?_|(refine vU ?_ ?_;·kernel_rfl)|refine vX ?_|refine vY ?_|refine vZ ?_|refine yD (zcY _) ⟨⟨rfl,rfl⟩,rfl⟩ rfl ?_|refine za.mk _ ‹_› ?_|refine vP (show (_:BitVec 64)≠_ by decide) ?_));all_goals try conv=>whnf
 ·rw [za5,if_pos ‹_›]
 ·rw [za5,if_neg (by omega),if_pos ‹_›]
 ·rw [za5,if_neg (by omega),if_neg (by omega),if_pos (by omega)]
 ·rw [za5,if_neg (by omega),if_neg (by omega),if_pos (by omega)]
 ·rw [za5,if_neg (by omega),if_neg (by omega),if_neg (by omega)]
theorem zo1 {x y:BitVec 64} {u w:Nat} : x >>> u&&&1#64=y >>> w&&&1#64↔x.getLsbD u=y.getLsbD w:=by
 cases hx:x.getLsbD u<;>cases hy:y.getLsbD w
 ·rw [(zdF _ _).2 hx,(zdF _ _).2 hy];simp
 ·rw [(zdF _ _).2 hx,(zaV _ _).2 hy];decide
 ·rw [(zaV _ _).2 hx,(zdF _ _).2 hy];decide
 ·rw [(zaV _ _).2 hx,(zaV _ _).2 hy];simp
def zeX (a b:KM) (f:Nat→Nat) (v:Nat):Prop:=zai a v=zai b (f v) ∧ ∀ (i:Nat) r r',a.rel[i]? = some r→b.rel[i]? = some r' → ∀ u,u≤v→rb r v u=rb r' (f v) (f u)∧rb r u v=rb r' (f u) (f v)
noncomputable def zlC (a b:KM) (f:Nat→Nat) (v:Nat):Bool := @decide (zeX a b f v) (Classical.propDecidable _)
theorem zhF {a b:KM} {f:Nat→Nat} {v:Nat} (h:zeX a b f v):zlC a b f v=true:=by unfold zlC;exact @decide_eq_true _ (Classical.propDecidable _) h
theorem zjh {a b:KM} {f:Nat→Nat} {v:Nat} (h : ¬zeX a b f v):zlC a b f v=false:=by unfold zlC;exact @decide_eq_false _ (Classical.propDecidable _) h
theorem ziD {a b:KM} (hl:b.rel.length=a.rel.length) {f:Nat→Nat} {v:Nat} : zeX a b f v↔zai a v=zai b (f v) ∧ ∀ u,u≤v→zfZ (zV a) (zV b) f v u=true:=by
 have hl':(zV b).length=(zV a).length:=by rw [zhQ,zhQ];exact hl
 unfold zeX
 refine and_congr Iff.rfl ⟨fun h u hu=>(zdV hl').2 fun i r r' h1 h2=>?_,fun h i r r' h1 h2 u hu=>?_⟩
 ·unfold zV at h1 h2
  rw [List.getElem?_map,Option.map_eq_some_iff] at h1 h2
  obtain ⟨s,hs,rfl⟩:=h1
  obtain ⟨s',hs',rfl⟩:=h2
  have:=h i s s' hs hs' u hu
  simp only [Bool.and_eq_true,beq_iff_eq]
  exact this
 ·have:=(zdV hl').1 (h u hu) i (fun v w=>rb r v w) (fun v w=>rb r' v w) (by unfold zV;rw [List.getElem?_map,h1];rfl) (by unfold zV;rw [List.getElem?_map,h2];rfl)
  simp only [Bool.and_eq_true,beq_iff_eq] at this
  exact this
theorem zj6 {a b:KM} (ha:zk a=0) (hb:zk b=0) (hW:a.W=b.W) (hr:a.rel.length=b.rel.length) (x:List Nat) (v:Nat) (hv:v < a.W.toNat) (hx:v < x.length) (hxn : ∀ u,u≤v→x.getD u 0 < a.W.toNat) :
  Fn Tryz.prog T zgq [.d (dKM a),.d (dKM b),.d (dN x),.d (.int .i64 (v:Int))] [] (.d (.bool (zlC a b (fnL x) v))) []:=by
 have ga:=zD ha
 have gb:=zD hb
 have w1:=ga.w1;have w2:=ga.w2;have n4:=ga.n4
 have ca:=zgv (T:=T) a (v:Int)
 rw [zlB ha hv] at ca
 have hxv:=hxn v (Nat.le_refl _)
 have cb:=zgv (T:=T) b ((x.getD v 0:Nat):Int)
 rw [zlB hb (by omega)] at cb
 have ev:=zhm hx
 have hno : ¬zeX a b (fnL x) v→false=zlC a b (fnL x) v:=fun h=>(zjh h).symm
 refine zo zw zk6 (by show 4≤89;decide) ?_
 (repeat' ((conv=>whnf);first|refine vA ?_|refine vB fun b hb=>?_|refine vC (fun hl=>?_) fun i kv vv hi=>?_|refine vE ?_|refine vG ?_|refine vH ?_|((first|refine vD ?_ ?_|refine vF ?_ ?_|refine vI ?_ ?_)<;>intro hc<;>try simp only [vL] at hc)|refine vJ fun hg=>?_|refine vK fun hg=>?_|refine vT ?_|refine vN ‹_› ?_|(refine vQ ?_ fun x hx=>?_;·first|omega|(simp only [vM] at *;omega))|((first|refine vO ?_ ?_|refine vR ?_ ‹_› ?_|refine vS ?_ fun x hx=>?_|refine vP ?_ ?_);·first|omega|(simp only [vM] at *;omega))|refine vW ⟨by omega,by omega⟩ ?_|(refine vU ?_ ?_;·kernel_rfl)|refine vX ?_|refine vY ?_|refine vZ ?_|refine yD ca ⟨⟨rfl,rfl⟩,⟨rfl,rfl⟩,rfl⟩ rfl ?_|refine yD cb ⟨⟨rfl,rfl⟩,⟨rfl,rfl⟩,rfl⟩ rfl ?_|refine za.mk _ ‹_› ?_|refine vP (show (_:BitVec 64)≠_ by decide) ?_));all_goals try conv=>whnf
 ·exact hno fun h=>‹zai a v≠_› h.1
 ·have hfa:zai a v=zai b (fnL x v):=‹_›
  refine zq (fun (k:Nat)=>[(2,.d (dN x)),(3,.d (.int .i64 ((v:Int)))),(5,.ptr 1 0),(23,.d (dUU a.rel)),(24,.d (.int .i64 ((a.rel.map dU).length:Int))),(25,.d (.int .i64 ((k:Int))))]) (fun (k:Nat)=>[(0,some (zZ a)),(1,some (zZ b))]) 2 (fun (k:Nat)=>k≤a.rel.length ∧ ∀ (i:Nat) r r',i < k→a.rel[i]? = some r→b.rel[i]? = some r' → ∀ u,u≤v→rb r v u=rb r' (fnL x v) (fnL x u)∧rb r u v=rb r' (fnL x u) (fnL x v)) (fun (k:Nat)=>a.rel.length - k) (0) [(0,0),(1,1)] [] (⟨by omega,fun i r r' hi=>by omega⟩) (by (refine ⟨rfl,rfl,rfl,?_,?_⟩;repeat' first|exact trivial|exact rfl|exact ⟨_,rfl⟩|exact .inl rfl|exact .inr (.inl ⟨rfl,rfl⟩)|exact .inr (.inr ⟨rfl,rfl⟩)|refine And.intro ?_ ?_|refine ⟨_,rfl,?_⟩|decide|exact of_decide_eq_true rfl)) ?_
  rintro k ⟨hk,hI⟩
  by_cases hkl:k < a.rel.length
  ·obtain ⟨r,har⟩ : ∃ r,a.rel[k]? = some r:=⟨_,List.getElem?_eq_getElem hkl⟩
   obtain ⟨r',hbr⟩ : ∃ r,b.rel[k]? = some r:=⟨_,List.getElem?_eq_getElem (by omega)⟩
   have hrl:=ga.len r (List.mem_of_getElem? har)
   have hrl':=gb.len r' (List.mem_of_getElem? hbr)
   have a1:=zaL (l:=r) (d:=0#64) (show v < r.length by omega)
   have b1:=zaL (l:=r') (d:=0#64) (show x.getD v 0 < r'.length by omega)
   (repeat' ((conv=>whnf);first|refine vA ?_|refine vB fun b hb=>?_|refine vC (fun hl=>?_) fun i kv vv hi=>?_|refine vE ?_|refine vG ?_|refine vH ?_|((first|refine vD ?_ ?_|refine vF ?_ ?_|refine vI ?_ ?_)<;>intro hc<;>try simp only [vL] at hc)|refine vJ fun hg=>?_|refine vK fun hg=>?_|refine vT ?_|refine vN ‹_› ?_|(refine vQ ?_ fun x hx=>?_;·first|omega|(simp only [vM] at *;omega))|((first|refine vO ?_ ?_|refine vR ?_ ‹_› ?_|refine vS ?_ fun x hx=>?_|refine vP ?_ ?_);·first|omega|(simp only [vM] at *;omega))|refine vW ⟨by omega,by omega⟩ ?_|(refine vU ?_ ?_;·kernel_rfl)|refine vX ?_|refine vY ?_|refine vZ ?_|refine za.mk _ ‹_› ?_|refine vP (show (_:BitVec 64)≠_ by decide) ?_));all_goals try conv=>whnf
   ·refine zq (fun (u:Nat)=>[(2,.d (dN x)),(3,.d (.int .i64 ((v:Int)))),(5,.ptr 1 0),(9,.d (.int .i64 ((k:Int)))),(10,.d (dU r)),(23,.d (dUU a.rel)),(24,.d (.int .i64 ((a.rel.map dU).length:Int))),(25,.d (.int .i64 ((k:Int)))),(31,.d (.int .i64 (((v:Int)+1)))),(32,.d (.int .i64 ((u:Int))))]) (fun (u:Nat)=>[(0,some (zZ a)),(1,some (zZ b))]) 2 (fun (u:Nat)=>u≤v+1 ∧ ∀ j,j < u→rb r v j=rb r' (fnL x v) (fnL x j)∧rb r j v=rb r' (fnL x j) (fnL x v)) (fun (u:Nat)=>v+1 - u) (0) [(0,0),(1,1)] [] (⟨by omega,fun j hj=>by omega⟩) (by (refine ⟨rfl,rfl,rfl,?_,?_⟩;repeat' first|exact trivial|exact rfl|exact ⟨_,rfl⟩|exact .inl rfl|exact .inr (.inl ⟨rfl,rfl⟩)|exact .inr (.inr ⟨rfl,rfl⟩)|refine And.intro ?_ ?_|refine ⟨_,rfl,?_⟩|decide|exact of_decide_eq_true rfl)) ?_
    rintro u ⟨hu,hJ⟩
    by_cases hul:u≤v
    ·have eu:=zhm (show u < x.length by omega)
     have hxu:=hxn u hul
     have a2:=zaL (l:=r) (d:=0#64) (show u < r.length by omega)
     have b2:=zaL (l:=r') (d:=0#64) (show x.getD u 0 < r'.length by omega)
     have k1:=zo1 (x:=r.getD v 0#64) (y:=r'.getD (x.getD v 0) 0#64) (u:=u) (w:=x.getD u 0)
     have k2:=zo1 (x:=r.getD u 0#64) (y:=r'.getD (x.getD u 0) 0#64) (u:=v) (w:=x.getD v 0)
     (repeat' ((conv=>whnf);first|refine vA ?_|refine vB fun b hb=>?_|refine vC (fun hl=>?_) fun i kv vv hi=>?_|refine vE ?_|refine vG ?_|refine vH ?_|((first|refine vD ?_ ?_|refine vF ?_ ?_|refine vI ?_ ?_)<;>intro hc<;>try simp only [vL] at hc)|refine vJ fun hg=>?_|refine vK fun hg=>?_|refine vT ?_|refine vN ‹_› ?_|(refine vQ ?_ fun x hx=>?_;·first|omega|(simp only [vM] at *;omega))|((first|refine vO ?_ ?_|refine vR ?_ ‹_› ?_|refine vS ?_ fun x hx=>?_|refine vP ?_ ?_);·first|omega|(simp only [vM] at *;omega))|refine vW ⟨by omega,by omega⟩ ?_|(refine vU ?_ ?_;·kernel_rfl)|refine vX ?_|refine vY ?_|refine vZ ?_|refine za.mk _ ‹_› ?_|refine vP (show (_:BitVec 64)≠_ by decide) ?_));all_goals try conv=>whnf
     ·exact hno fun h=>‹_≠_› (k1.2 (h.2 k r r' har hbr u hul).1)
     ·exact hno fun h=>‹_≠_› (k2.2 (h.2 k r r' har hbr u hul).2)
     ·refine ⟨u+1,[(0,0),(1,1)],[],?_,?_,by (refine ⟨rfl,rfl,rfl,?_,?_⟩;repeat' first|exact trivial|exact rfl|exact ⟨_,rfl⟩|exact .inl rfl|exact .inr (.inl ⟨rfl,rfl⟩)|exact .inr (.inr ⟨rfl,rfl⟩)|refine And.intro ?_ ?_|refine ⟨_,rfl,?_⟩|decide|exact of_decide_eq_true rfl)⟩
      ·refine ⟨by omega,fun j hj=>?_⟩
       by_cases e:j=u
       ·subst e;exact ⟨k1.1 ‹_›,k2.1 ‹_›⟩
       ·exact hJ j (by omega)
      ·(first|omega|(simp only [vM] at *;omega))
     ·exfalso;omega
    ·(repeat' ((conv=>whnf);first|refine vA ?_|refine vB fun b hb=>?_|refine vC (fun hl=>?_) fun i kv vv hi=>?_|refine vE ?_|refine vG ?_|refine vH ?_|((first|refine vD ?_ ?_|refine vF ?_ ?_|refine vI ?_ ?_)<;>intro hc<;>try simp only [vL] at hc)|refine vJ fun hg=>?_|refine vK fun hg=>?_|refine vT ?_|refine vN ‹_› ?_|(refine vQ ?_ fun x hx=>?_;·first|omega|(simp only [vM] at *;omega))|((first|refine vO ?_ ?_|refine vR ?_ ‹_› ?_|refine vS ?_ fun x hx=>?_|refine vP ?_ ?_);·first|omega|(simp only [vM] at *;omega))|refine vW ⟨by omega,by omega⟩ ?_|(refine vU ?_ ?_;·kernel_rfl)|refine vX ?_|refine vY ?_|refine vZ ?_|refine za.mk _ ‹_› ?_|refine vP (show (_:BitVec 64)≠_ by decide) ?_));all_goals try conv=>whnf
     iterate 3 (exfalso;omega)
     refine ⟨k+1,[(0,0),(1,1)],[],?_,?_,by (refine ⟨rfl,rfl,rfl,?_,?_⟩;repeat' first|exact trivial|exact rfl|exact ⟨_,rfl⟩|exact .inl rfl|exact .inr (.inl ⟨rfl,rfl⟩)|exact .inr (.inr ⟨rfl,rfl⟩)|refine And.intro ?_ ?_|refine ⟨_,rfl,?_⟩|decide|exact of_decide_eq_true rfl)⟩
     ·refine ⟨by omega,fun i s s' hi hs hs' j hj=>?_⟩
      by_cases e:i=k
      ·subst e;rw [har] at hs;rw [hbr] at hs';cases hs;cases hs';exact hJ j (by omega)
      ·exact hI i s s' (by omega) hs hs' j hj
     ·(first|omega|(simp only [vM] at *;omega))
   ·exfalso;omega
  ·(repeat' ((conv=>whnf);first|refine vA ?_|refine vB fun b hb=>?_|refine vC (fun hl=>?_) fun i kv vv hi=>?_|refine vE ?_|refine vG ?_|refine vH ?_|((first|refine vD ?_ ?_|refine vF ?_ ?_|refine vI ?_ ?_)<;>intro hc<;>try simp only [vL] at hc)|refine vJ fun hg=>?_|refine vK fun hg=>?_|refine vT ?_|refine vN ‹_› ?_|(refine vQ ?_ fun x hx=>?_;·first|omega|(simp only [vM] at *;omega))|((first|refine vO ?_ ?_|refine vR ?_ ‹_› ?_|refine vS ?_ fun x hx=>?_|refine vP ?_ ?_);·first|omega|(simp only [vM] at *;omega))|refine vW ⟨by omega,by omega⟩ ?_|(refine vU ?_ ?_;·kernel_rfl)|refine vX ?_|refine vY ?_|refine vZ ?_|refine za.mk _ ‹_› ?_|refine vP (show (_:BitVec 64)≠_ by decide) ?_));all_goals try conv=>whnf
   ·exfalso;omega
   ·exact (zhF ⟨hfa,fun i r r' h1 h2 u hu=>hI i r r' (by have:=(List.getElem?_eq_some_iff.1 h1).1;omega) h1 h2 u hu⟩).symm
theorem zrY {to:List Int} (h : ∀ x∈to,0≤x) : ∃ x:List Nat,to=x.map fun (y:Nat)=>(y:Int):=by
 refine ⟨to.map Int.toNat,?_⟩
 rw [List.map_map]
 conv=>lhs;rw [← List.map_id to]
 exact List.map_congr_left fun y hy=>by have:=h y hy;simp;omega
theorem zm7 (x:List Nat) (v:Nat):toF (x.map fun (y:Nat)=>(y:Int)) v=fnL x v:=by
 unfold toF at0 fnL
 by_cases h:v < x.length
 ·simp [List.getD,List.getElem?_map,List.getElem?_eq_getElem h]
 ·simp [List.getD,List.getElem?_map,List.getElem?_eq_none (show x.length≤v by omega)]
structure zgk (to:List Int) (n k:Nat) (s:BitVec 64):Prop where
 le:k≤to.length
 rng : ∀ x∈to.take k,0≤x∧x < n
 nd:(to.take k).Nodup
 bit : ∀ x:Nat,x < 64→(s.getLsbD x=true↔(x:Int)∈to.take k)
theorem zgk.next {to:List Int} {n k:Nat} (h64:n≤64) {s:BitVec 64} (h:zgk to n k s) {x:Nat} (hx:to[k]? = some (x:Int)) (hx1:x < n) (hx2:s.getLsbD x=false):zgk to n (k+1) (s|||1#64 <<< x):=by
 have hkl:=(List.getElem?_eq_some_iff.1 hx).1
 have hn:(x:Int) ∉ to.take k:=fun hm=>by rw [(h.bit x (by omega)).2 hm] at hx2;cases hx2
 have ht:to.take (k+1)=to.take k++[(x:Int)]:=by rw [List.take_add_one,hx];rfl
 refine ⟨by omega,fun y hy=>?_,?_,fun y hy=>?_⟩
 ·rw [ht] at hy
  rcases List.mem_append.1 hy with hy|hy
  ·exact h.rng y hy
  ·simp only [List.mem_singleton] at hy;omega
 ·rw [ht]
  refine List.nodup_append.2 ⟨h.nd,by simp,fun a ha b hb e=>?_⟩
  simp only [List.mem_singleton] at hb
  subst hb;subst e;exact hn ha
 ·rw [ht,zhN (by omega),h.bit y hy,List.mem_append,List.mem_singleton]
  exact ⟨fun h=>h.elim .inl fun e => .inr (by omega),fun h=>h.elim .inl fun e => .inr (by omega)⟩
theorem zgk.bad {to:List Int} {n k:Nat} {s:BitVec 64} (h:zgk to n k s) (h64:n≤64) {x:Int} (hx:to[k]? = some x) (hb:x < 0∨(n:Int)≤x∨s.getLsbD x.toNat=true):zay to n=false:=by
 rw [← Bool.not_eq_true]
 intro hp
 obtain ⟨h1,h2,h3⟩:=zbs.1 hp
 have hr:=h2 x (List.mem_of_getElem? hx)
 rcases hb with hb|hb|hb
 ·omega
 ·omega
 ·have hm:=(h.bit x.toNat (by omega)).1 hb
  rw [show ((x.toNat:Nat):Int)=x by omega] at hm
  obtain ⟨j,hj⟩:=List.getElem?_of_mem hm
  rw [List.getElem?_take] at hj
  split at hj
  ·rename_i hlt
   obtain ⟨a,a'⟩:=List.getElem?_eq_some_iff.1 hj
   obtain ⟨c,c'⟩:=List.getElem?_eq_some_iff.1 hx
   have:=(List.getElem_inj h3).1 (a'.trans c'.symm)
   omega
  ·cases hj
theorem zgk.perm {to:List Int} {n:Nat} {s:BitVec 64} (h:zgk to n to.length s) (hl:to.length=n):zay to n=true:=by
 have h1:=h.rng;have h2:=h.nd
 rw [List.take_length] at h1 h2
 exact zbs.2 ⟨hl,h1,h2⟩
theorem zuK (a b:KM) (to:List Int):Fn Tryz.prog T zfP [.d (dKM a),.d (dKM b),.d (dI to)] [] (.d (.int .i64 (zc0 a b to))) []:=by
 refine zo zw zkc (by show 3≤66;decide) ?_
 (repeat' ((conv=>whnf);first|refine vA ?_|refine vB fun b hb=>?_|refine vC (fun hl=>?_) fun i kv vv hi=>?_|refine vE ?_|refine vG ?_|refine vH ?_|((first|refine vD ?_ ?_|refine vF ?_ ?_|refine vI ?_ ?_)<;>intro hc<;>try simp only [vL] at hc)|refine vJ fun hg=>?_|refine vK fun hg=>?_|refine vT ?_|refine vN ‹_› ?_|(refine vQ ?_ fun x hx=>?_;·first|omega|(simp only [vM] at *;omega))|((first|refine vO ?_ ?_|refine vR ?_ ‹_› ?_|refine vS ?_ fun x hx=>?_|refine vP ?_ ?_);·first|omega|(simp only [vM] at *;omega))|refine vW ⟨by omega,by omega⟩ ?_|(refine vU ?_ ?_;·kernel_rfl)|refine vX ?_|refine vY ?_|refine vZ ?_|refine yD (zlD _ _) ⟨⟨rfl,rfl⟩,⟨rfl,rfl⟩,rfl⟩ rfl ?_|refine za.mk _ ‹_› ?_|refine vP (show (_:BitVec 64)≠_ by decide) ?_));all_goals try conv=>whnf
 ·rw [zc0,if_pos ‹_›]
 ·rw [zc0,if_neg (by omega),if_pos ‹_›]
 ·have he:za5 a b=0:=by omega
  have hW:a.W=b.W:=‹_›
  obtain ⟨ha,hb,hr,hv⟩:=zmg he
  have ga:=zD ha
  have w1:=ga.w1;have w2:=ga.w2
  have hno:zay to a.W.toNat=false→3=zc0 a b to:=fun h=>by rw [zc0,if_neg (by omega),if_neg (by omega),if_pos h]
  refine zq (fun ((k,s):Nat×BitVec 64)=>[(2,.d (dI to)),(3,.ptr 0 0),(4,.ptr 1 0),(8,.d (.u64 (s))),(23,.d (dI to)),(24,.d (.int .i64 ((to.map (D.int .i64)).length:Int))),(25,.d (.int .i64 ((k:Int))))]) (fun ((k,s):Nat×BitVec 64)=>[(0,some (zZ a)),(1,some (zZ b))]) 2 (fun ((k,s):Nat×BitVec 64)=>zgk to a.W.toNat k s) (fun ((k,s):Nat×BitVec 64)=>to.length - k) ((0,0#64)) [(0,0),(1,1)] [] (⟨by omega,by simp,by simp,by simp⟩) (by (refine ⟨rfl,rfl,rfl,?_,?_⟩;repeat' first|exact trivial|exact rfl|exact ⟨_,rfl⟩|exact .inl rfl|exact .inr (.inl ⟨rfl,rfl⟩)|exact .inr (.inr ⟨rfl,rfl⟩)|refine And.intro ?_ ?_|refine ⟨_,rfl,?_⟩|decide|exact of_decide_eq_true rfl)) ?_
  rintro ⟨k,s⟩ hI
  have hle:=hI.le
  by_cases hkl:k < to.length
  ·obtain ⟨x,hx⟩ : ∃ x,to[k]? = some x:=⟨_,List.getElem?_eq_getElem hkl⟩
   (repeat' ((conv=>whnf);first|refine vA ?_|refine vB fun b hb=>?_|refine vC (fun hl=>?_) fun i kv vv hi=>?_|refine vE ?_|refine vG ?_|refine vH ?_|((first|refine vD ?_ ?_|refine vF ?_ ?_|refine vI ?_ ?_)<;>intro hc<;>try simp only [vL] at hc)|refine vJ fun hg=>?_|refine vK fun hg=>?_|refine vT ?_|refine vN ‹_› ?_|(refine vQ ?_ fun x hx=>?_;·first|omega|(simp only [vM] at *;omega))|((first|refine vO ?_ ?_|refine vR ?_ ‹_› ?_|refine vS ?_ fun x hx=>?_|refine vP ?_ ?_);·first|omega|(simp only [vM] at *;omega))|refine vW ⟨by omega,by omega⟩ ?_|(refine vU ?_ ?_;·kernel_rfl)|refine vX ?_|refine vY ?_|refine vZ ?_|refine za.mk _ ‹_› ?_|refine vP (show (_:BitVec 64)≠_ by decide) ?_));all_goals try conv=>whnf
   ·exact hno (hI.bad (by omega) hx (.inl ‹_›))
   ·exact hno (hI.bad (by omega) hx (.inr (.inl (by omega))))
   ·exact hno (hI.bad (by omega) hx (.inr (.inr ((zaV _ _).1 ‹_›))))
   ·obtain ⟨y,rfl⟩ : ∃ y:Nat,x=(y:Int):=⟨x.toNat,by omega⟩
    refine ⟨(k+1,_),[(0,0),(1,1)],[],?_,?_,by (refine ⟨rfl,rfl,rfl,?_,?_⟩;repeat' first|exact trivial|exact rfl|exact ⟨_,rfl⟩|exact .inl rfl|exact .inr (.inl ⟨rfl,rfl⟩)|exact .inr (.inr ⟨rfl,rfl⟩)|refine And.intro ?_ ?_|refine ⟨_,rfl,?_⟩|decide|exact of_decide_eq_true rfl)⟩
    ·exact hI.next (by omega) hx (by omega) (by rw [← Bool.not_eq_true];exact fun h=>absurd ((zaV _ _).2 h) ‹¬_=(1:BitVec 64)›)
    ·(first|omega|(simp only [vM] at *;omega))
   all_goals (exfalso;omega)
  ·have e0:k=to.length:=by omega
   subst e0
   by_cases hl:to.length=a.W.toNat
   ·have hp:=hI.perm hl
    obtain ⟨x,rfl⟩:=zrY fun y hy=>((zbs.1 hp).2.1 y hy).1
    have hxl:x.length=a.W.toNat:=by simpa using hl
    have hxn : ∀ u,u < a.W.toNat→x.getD u 0 < a.W.toNat:=fun u hu=>by
     have:=(zf0 hp).lt u hu
     rwa [zm7] at this
    have hf:toF (x.map fun (y:Nat)=>(y:Int))=fnL x:=funext fun v=>zm7 x v
    have hB:zlF a b (x.map fun (y:Nat)=>(y:Int))=true ↔ ∀ v,v < a.W.toNat→zeX a b (fnL x) v:=by
     unfold zlF
     rw [hf]
     simp only [List.all_eq_true,List.mem_range,Bool.and_eq_true,beq_iff_eq]
     refine forall_congr' fun v=>⟨fun h hv=>(ziD hr.symm).2 ⟨(h hv).1,fun u hu=>(h hv).2 u (by omega)⟩,fun h hv=>?_⟩
     have:=(ziD hr.symm).1 (h hv)
     exact ⟨this.1,fun u hu=>this.2 u (by omega)⟩
    have hres:zc0 a b (x.map fun (y:Nat)=>(y:Int))=if zlF a b (x.map fun (y:Nat)=>(y:Int))=true then 0 else 13:=by
     rw [zc0,if_neg (by omega),if_neg (by omega),if_neg (by rw [hp];decide)]
    (repeat' ((conv=>whnf);first|refine vA ?_|refine vB fun b hb=>?_|refine vC (fun hl=>?_) fun i kv vv hi=>?_|refine vE ?_|refine vG ?_|refine vH ?_|((first|refine vD ?_ ?_|refine vF ?_ ?_|refine vI ?_ ?_)<;>intro hc<;>try simp only [vL] at hc)|refine vJ fun hg=>?_|refine vK fun hg=>?_|refine vT ?_|refine vN ‹_› ?_|(refine vQ ?_ fun x hx=>?_;·first|omega|(simp only [vM] at *;omega))|((first|refine vO ?_ ?_|refine vR ?_ ‹_› ?_|refine vS ?_ fun x hx=>?_|refine vP ?_ ?_);·first|omega|(simp only [vM] at *;omega))|refine vW ⟨by omega,by omega⟩ ?_|(refine vU ?_ ?_;·kernel_rfl)|refine vX ?_|refine vY ?_|refine vZ ?_|refine za.mk _ ‹_› ?_|refine vP (show (_:BitVec 64)≠_ by decide) ?_));all_goals try conv=>whnf
    iterate 5 (exfalso;omega)
    refine zq (fun (k:Nat)=>[(2,.d (dN x)),(3,.ptr 0 0),(4,.ptr 1 0),(55,.d (.int .i64 ((zdJ x:Int)))),(56,.d (.int .i64 ((k:Int))))]) (fun (k:Nat)=>[(0,some (zZ a)),(1,some (zZ b))]) 2 (fun (k:Nat)=>k≤x.length ∧ ∀ v,v < k→zeX a b (fnL x) v) (fun (k:Nat)=>x.length - k) (0) [(0,0),(1,1)] [] (⟨by omega,fun v hv=>by omega⟩) (by (refine ⟨rfl,rfl,rfl,?_,?_⟩;repeat' first|exact trivial|exact rfl|exact ⟨_,rfl⟩|exact .inl rfl|exact .inr (.inl ⟨rfl,rfl⟩)|exact .inr (.inr ⟨rfl,rfl⟩)|refine And.intro ?_ ?_|refine ⟨_,rfl,?_⟩|decide|exact of_decide_eq_true rfl)) ?_
    rintro k ⟨hk,hI⟩
    have hlD:=zfy x
    by_cases hkl:k < x.length
    ·have cf:=zj6 (T:=T) ha hb hW hr x k (by omega) hkl (fun u hu=>hxn u (by omega))
     by_cases hfit:zeX a b (fnL x) k
     ·rw [zhF hfit] at cf
      (repeat' ((conv=>whnf);first|refine vA ?_|refine vB fun b hb=>?_|refine vC (fun hl=>?_) fun i kv vv hi=>?_|refine vE ?_|refine vG ?_|refine vH ?_|((first|refine vD ?_ ?_|refine vF ?_ ?_|refine vI ?_ ?_)<;>intro hc<;>try simp only [vL] at hc)|refine vJ fun hg=>?_|refine vK fun hg=>?_|refine vT ?_|refine vN ‹_› ?_|(refine vQ ?_ fun x hx=>?_;·first|omega|(simp only [vM] at *;omega))|((first|refine vO ?_ ?_|refine vR ?_ ‹_› ?_|refine vS ?_ fun x hx=>?_|refine vP ?_ ?_);·first|omega|(simp only [vM] at *;omega))|refine vW ⟨by omega,by omega⟩ ?_|(refine vU ?_ ?_;·kernel_rfl)|refine vX ?_|refine vY ?_|refine vZ ?_|refine yD cf (by (repeat refine ⟨⟨rfl,rfl⟩,?_⟩);rfl) rfl ?_|refine za.mk _ ‹_› ?_|refine vP (show (_:BitVec 64)≠_ by decide) ?_));all_goals try conv=>whnf
      ·refine ⟨k+1,[(0,0),(1,1)],[],?_,?_,by (refine ⟨rfl,rfl,rfl,?_,?_⟩;repeat' first|exact trivial|exact rfl|exact ⟨_,rfl⟩|exact .inl rfl|exact .inr (.inl ⟨rfl,rfl⟩)|exact .inr (.inr ⟨rfl,rfl⟩)|refine And.intro ?_ ?_|refine ⟨_,rfl,?_⟩|decide|exact of_decide_eq_true rfl)⟩
       ·refine ⟨by omega,fun v hv=>?_⟩
        by_cases e:v=k
        ·subst e;exact hfit
        ·exact hI v (by omega)
       ·(first|omega|(simp only [vM] at *;omega))
      ·exfalso;omega
     ·rw [zjh hfit] at cf
      (repeat' ((conv=>whnf);first|refine vA ?_|refine vB fun b hb=>?_|refine vC (fun hl=>?_) fun i kv vv hi=>?_|refine vE ?_|refine vG ?_|refine vH ?_|((first|refine vD ?_ ?_|refine vF ?_ ?_|refine vI ?_ ?_)<;>intro hc<;>try simp only [vL] at hc)|refine vJ fun hg=>?_|refine vK fun hg=>?_|refine vT ?_|refine vN ‹_› ?_|(refine vQ ?_ fun x hx=>?_;·first|omega|(simp only [vM] at *;omega))|((first|refine vO ?_ ?_|refine vR ?_ ‹_› ?_|refine vS ?_ fun x hx=>?_|refine vP ?_ ?_);·first|omega|(simp only [vM] at *;omega))|refine vW ⟨by omega,by omega⟩ ?_|(refine vU ?_ ?_;·kernel_rfl)|refine vX ?_|refine vY ?_|refine vZ ?_|refine yD cf (by (repeat refine ⟨⟨rfl,rfl⟩,?_⟩);rfl) rfl ?_|refine za.mk _ ‹_› ?_|refine vP (show (_:BitVec 64)≠_ by decide) ?_));all_goals try conv=>whnf
      ·rw [hres,if_neg]
       intro h
       exact hfit (hB.1 h k (by omega))
      ·exfalso;omega
    ·(repeat' ((conv=>whnf);first|refine vA ?_|refine vB fun b hb=>?_|refine vC (fun hl=>?_) fun i kv vv hi=>?_|refine vE ?_|refine vG ?_|refine vH ?_|((first|refine vD ?_ ?_|refine vF ?_ ?_|refine vI ?_ ?_)<;>intro hc<;>try simp only [vL] at hc)|refine vJ fun hg=>?_|refine vK fun hg=>?_|refine vT ?_|refine vN ‹_› ?_|(refine vQ ?_ fun x hx=>?_;·first|omega|(simp only [vM] at *;omega))|((first|refine vO ?_ ?_|refine vR ?_ ‹_› ?_|refine vS ?_ fun x hx=>?_|refine vP ?_ ?_);·first|omega|(simp only [vM] at *;omega))|refine vW ⟨by omega,by omega⟩ ?_|(refine vU ?_ ?_;·kernel_rfl)|refine vX ?_|refine vY ?_|refine vZ ?_|refine za.mk _ ‹_› ?_|refine vP (show (_:BitVec 64)≠_ by decide) ?_));all_goals try conv=>whnf
     ·exfalso;omega
     ·rw [hres,if_pos]
      exact hB.2 fun v hv=>hI v (by omega)
   ·have hnp:zay to a.W.toNat=false:=by rw [← Bool.not_eq_true];intro h;exact hl (zbs.1 h).1
    (repeat' ((conv=>whnf);first|refine vA ?_|refine vB fun b hb=>?_|refine vC (fun hl=>?_) fun i kv vv hi=>?_|refine vE ?_|refine vG ?_|refine vH ?_|((first|refine vD ?_ ?_|refine vF ?_ ?_|refine vI ?_ ?_)<;>intro hc<;>try simp only [vL] at hc)|refine vJ fun hg=>?_|refine vK fun hg=>?_|refine vT ?_|refine vN ‹_› ?_|(refine vQ ?_ fun x hx=>?_;·first|omega|(simp only [vM] at *;omega))|((first|refine vO ?_ ?_|refine vR ?_ ‹_› ?_|refine vS ?_ fun x hx=>?_|refine vP ?_ ?_);·first|omega|(simp only [vM] at *;omega))|refine vW ⟨by omega,by omega⟩ ?_|(refine vU ?_ ?_;·kernel_rfl)|refine vX ?_|refine vY ?_|refine vZ ?_|refine za.mk _ ‹_› ?_|refine vP (show (_:BitVec 64)≠_ by decide) ?_));all_goals try conv=>whnf
    iterate 4 (exfalso;omega)
    ·exact hno hnp
    ·exfalso;omega
end Go.Ab
namespace Go.Ab
open Go Go.Proofs
set_option maxRecDepth 10000
set_option maxHeartbeats 4000000
variable {T:Nat→Obj→Prop}
theorem zl8 (l:List D) (hl:l.length≤1000):Fn Tryz.prog T zbp [.own 0] [.row 1 l] (.own 1) [some (.row 1 l),some (.row 1 l)]:=by
 refine zK zw zfV (by show 1≤8;decide) _ (fun e env mem n h=>h) ?_
 (repeat' ((conv=>whnf);first|refine vA ?_|refine vB fun b hb=>?_|refine vC (fun hl=>?_) fun i kv vv hi=>?_|refine vE ?_|refine vG ?_|refine vH ?_|((first|refine vD ?_ ?_|refine vF ?_ ?_|refine vI ?_ ?_)<;>intro hc<;>try simp only [vL] at hc)|refine vJ fun hg=>?_|refine vK fun hg=>?_|refine vT ?_|refine vN ‹_› ?_|(refine vQ ?_ fun x hx=>?_;·first|omega|(simp only [vM] at *;omega))|((first|refine vO ?_ ?_|refine vR ?_ ‹_› ?_|refine vS ?_ fun x hx=>?_|refine vP ?_ ?_);·first|omega|(simp only [vM] at *;omega))|refine vW ⟨by omega,by omega⟩ ?_|(refine vU ?_ ?_;·kernel_rfl)|refine vX ?_|refine vY ?_|refine vZ ?_|refine za.mk _ ‹_› ?_|refine vP (show (_:BitVec 64)≠_ by decide) ?_));all_goals try conv=>whnf
 ·refine ⟨trivial,_,[(0,0),(1,2)],[],rfl,.inl (by (repeat' first|exact trivial|exact rfl|exact ⟨_,rfl⟩|exact .inl rfl|exact .inr (.inl ⟨rfl,rfl⟩)|exact .inr (.inr ⟨rfl,rfl⟩)|refine And.intro ?_ ?_|refine ⟨_,rfl,?_⟩|decide|exact of_decide_eq_true rfl)),⟨by rfl,by rfl,by rfl,trivial,by (repeat' first|exact trivial|exact rfl|exact ⟨_,rfl⟩|exact .inl rfl|exact .inr (.inl ⟨rfl,rfl⟩)|exact .inr (.inr ⟨rfl,rfl⟩)|refine And.intro ?_ ?_|refine ⟨_,rfl,?_⟩|decide|exact of_decide_eq_true rfl)⟩,by (repeat' first|exact trivial|exact rfl|exact ⟨_,rfl⟩|exact .inl rfl|exact .inr (.inl ⟨rfl,rfl⟩)|exact .inr (.inr ⟨rfl,rfl⟩)|refine And.intro ?_ ?_|refine ⟨_,rfl,?_⟩|decide|exact of_decide_eq_true rfl)⟩
 ·have:l=[]:=hb (by simpa using hc)
  subst this
  refine ⟨trivial,_,[(0,0)] ,  [1],rfl,.inl (by (repeat' first|exact trivial|exact rfl|exact ⟨_,rfl⟩|exact .inl rfl|exact .inr (.inl ⟨rfl,rfl⟩)|exact .inr (.inr ⟨rfl,rfl⟩)|refine And.intro ?_ ?_|refine ⟨_,rfl,?_⟩|decide|exact of_decide_eq_true rfl)),⟨by rfl,by rfl,by rfl,trivial,by (repeat' first|exact trivial|exact rfl|exact ⟨_,rfl⟩|exact .inl rfl|exact .inr (.inl ⟨rfl,rfl⟩)|exact .inr (.inr ⟨rfl,rfl⟩)|refine And.intro ?_ ?_|refine ⟨_,rfl,?_⟩|decide|exact of_decide_eq_true rfl)⟩,by (repeat' first|exact trivial|exact rfl|exact ⟨_,rfl⟩|exact .inl rfl|exact .inr (.inl ⟨rfl,rfl⟩)|exact .inr (.inr ⟨rfl,rfl⟩)|refine And.intro ?_ ?_|refine ⟨_,rfl,?_⟩|decide|exact of_decide_eq_true rfl)⟩
theorem zM.objsZ {P:Program} {M:Nat→Option Ob} {n f:Nat} {vs lvs:List V} {obs:List Ob} {lv:V} {obs':List (Option Ob)} {K:V→Upd→Nat→Prop} (js fz:List Nat) (hf:Fn P T f lvs obs lv obs') (ha:VPasses M js fz 20 lvs vs)
  (ho:zal M js fz obs js) (hnd:nodup js=true) (hdj:zcE fz js=true) (hsj:zcH js (zz M vs)=true) (hsf:zcH fz (zz M vs)=true) (hle:js.length≤obs'.length)
  (hK:K (zgK js n 20 lv) (zeB js fz n obs' false) (obs'.length - js.length)):zM (zcj P T) M n f vs K :=
 ⟨⟨_,_,_,⟨js,fz,false,lvs,obs,lv,obs',hf,ha,ho,hnd,hdj,hsj,hsf,hle,nofun,rfl,rfl,rfl⟩,hK⟩⟩
def zcf (x:List Nat):BitVec 64:=zbc (fun i=>decide (i∈x)) 64
theorem zeu {x:List Nat} {i:Nat} (hi:i < 64):(zcf x).getLsbD i=decide (i∈x):=by
 rw [zcf,zi4];simp [hi]
theorem zf3 {x:List Nat} {w:Nat} (hw:w < 64):zcf x|||1#64 <<< w=zcf (x++[w]):=by
 refine BitVec.eq_of_getLsbD_eq fun i hi=>?_
 rw [Bool.eq_iff_iff,zhN hw,zeu hi,zeu hi]
 simp
theorem zoa {x:List Nat} {w:Nat} (hw:w < 64) (hn:w ∉ x):zcf (x++[w]) &&& ~~~(1#64 <<< w)=zcf x:=by
 refine BitVec.eq_of_getLsbD_eq fun i hi=>?_
 rw [BitVec.getLsbD_and,BitVec.getLsbD_not,zeu hi,zeu hi,zlu]
 simp only [hi,decide_true,Bool.true_and]
 by_cases e:i=w
 ·subst e;simp [hn]
 ·simp [e]
theorem zo6 {ok:List Nat→Nat→Bool} {n:Nat} : ∀ (k:Nat) (x:List Nat),(dfs ok n k x).length≤n ^ k
 | 0,x=>by simp [dfs]
 | k+1,x=>by
  have key : ∀ l:List Nat,(l.flatMap fun w=>if ok x w=true then dfs ok n k (x++[w]) else []).length≤l.length * n ^ k:=fun l=>by
   induction l with
   | nil=>simp
   | cons a l ih =>
    rw [List.flatMap_cons,List.length_append,List.length_cons,Nat.succ_mul]
    have:(if ok x a=true then dfs ok n k (x++[a]) else []).length≤n ^ k:=by
     split
     ·exact zo6 k _
     ·simp
    omega
  have:=key (List.range n)
  rw [List.length_range] at this
  rw [dfs,Nat.pow_succ,Nat.mul_comm];exact this
def zcU (ok:List Nat→Nat→Bool) (n k:Nat) (x:List Nat) (w:Nat):List (List Nat):=(List.range w).flatMap fun w=>if ok x w=true then dfs ok n k (x++[w]) else []
theorem zgl {ok:List Nat→Nat→Bool} {n k:Nat} {x:List Nat} {w:Nat} : zcU ok n k x (w+1)=zcU ok n k x w++if ok x w=true then dfs ok n k (x++[w]) else []:=by
 unfold zcU;rw [List.range_succ,List.flatMap_append];simp
theorem zr1 {ok:List Nat→Nat→Bool} {n k:Nat} {x:List Nat} {w:Nat} (hw:w≤n):(zcU ok n k x w).length≤(dfs ok n (k+1) x).length:=by
 have mono : ∀ d,(zcU ok n k x w).length≤(zcU ok n k x (w+d)).length:=fun d=>by
  induction d with
  | zero=>exact Nat.le_refl _
  | succ d ih=>rw [← Nat.add_assoc,zgl,List.length_append];omega
 have:=mono (n - w)
 rw [show w+(n - w)=n by omega] at this
 exact this
abbrev okM (a b:KM):List Nat→Nat→Bool:=okC a.W.toNat (zai a) (zai b) (zV a) (zV b)
theorem zpd {a b:KM} (hl:b.rel.length=a.rel.length) {x:List Nat} {w:Nat} : okM a b x w=true↔(zeZ a.W.toNat (zai a) (zV a)).1 x.length=(zeZ a.W.toNat (zai b) (zV b)).1 w∧w ∉ x∧zeX a b (fnL (x++[w])) x.length:=by
 unfold okM okC okS
 rw [ziD hl]
 have e:fnL (x++[w]) x.length=w:=by simp [fnL]
 rw [e]
 simp only [Bool.and_eq_true,decide_eq_true_eq,Bool.not_eq_true',List.all_eq_true,List.mem_range,beq_iff_eq]
 constructor
 ·rintro ⟨h1,h2,h3,h4⟩
  exact ⟨h1,by simpa using h2,h3,fun u hu=>h4 u (by omega)⟩
 ·rintro ⟨h1,h2,h3,h4⟩
  exact ⟨h1,by simpa using h2,h3,fun u hu=>h4 u (by omega)⟩
abbrev zji:V := .fn zaT [.ptr 0 0,.ptr 1 0,.ptr 2 0,.ptr 3 0,.ptr 4 0,.ptr 5 0,.ptr 6 0,.ptr 7 0]
abbrev zgO (x:List Nat):Ob := .row 1 ((x.map fun (y:Nat)=>(y:Int)).map (D.int .i64))
section
variable {a b:KM} (ha:zk a=0) (hb:zk b=0) (hW:a.W=b.W) (hr:a.rel.length=b.rel.length)
def zab (m:KM):Nat→Nat:=(zeZ m.W.toNat (zai m) (zV m)).1
abbrev zsr (a b:KM) (x:List Nat) (c:Int):List Ob:=[.box [.own 8],zZ a,.box [.fn zL [.ptr 9 0]],zZ b,.box [.d (.u64 (zcf x))],.box [.d (dI (ptL a.W.toNat (zab a)))],.box [.d (dI (ptL a.W.toNat (zab b)))],.box [zji],zgO x,.box [.d (.int .i64 c)]]
theorem zts (y:List Nat) (c:Int) (h0:0≤c) (h1:c≤1000000000):Fn Tryz.prog T zL [.d (dN y),.ptr 0 0] [.box [.d (.int .i64 c)]] (.d (.bool true)) [some (.box [.d (.int .i64 (c+1))])]:=by
 refine zK zw ze4 (by show 2≤6;decide) _ (fun e env mem n h=>h) ?_
 (repeat' ((conv=>whnf);first|refine vA ?_|refine vB fun b hb=>?_|refine vC (fun hl=>?_) fun i kv vv hi=>?_|refine vE ?_|refine vG ?_|refine vH ?_|((first|refine vD ?_ ?_|refine vF ?_ ?_|refine vI ?_ ?_)<;>intro hc<;>try simp only [vL] at hc)|refine vJ fun hg=>?_|refine vK fun hg=>?_|refine vT ?_|refine vN ‹_› ?_|(refine vQ ?_ fun x hx=>?_;·first|omega|(simp only [vM] at *;omega))|((first|refine vO ?_ ?_|refine vR ?_ ‹_› ?_|refine vS ?_ fun x hx=>?_|refine vP ?_ ?_);·first|omega|(simp only [vM] at *;omega))|refine vW ⟨by omega,by omega⟩ ?_|(refine vU ?_ ?_;·kernel_rfl)|refine vX ?_|refine vY ?_|refine vZ ?_|refine za.mk _ ‹_› ?_|refine vP (show (_:BitVec 64)≠_ by decide) ?_));all_goals try conv=>whnf
 refine ⟨trivial,_,[(0,0)],[],rfl,.inl (by (repeat' first|exact trivial|exact rfl|exact ⟨_,rfl⟩|exact .inl rfl|exact .inr (.inl ⟨rfl,rfl⟩)|exact .inr (.inr ⟨rfl,rfl⟩)|refine And.intro ?_ ?_|refine ⟨_,rfl,?_⟩|decide|exact of_decide_eq_true rfl)),⟨by rfl,by rfl,by rfl,trivial,by (repeat' first|exact trivial|exact rfl|exact ⟨_,rfl⟩|exact .inl rfl|exact .inr (.inl ⟨rfl,rfl⟩)|exact .inr (.inr ⟨rfl,rfl⟩)|refine And.intro ?_ ?_|refine ⟨_,rfl,?_⟩|decide|exact of_decide_eq_true rfl)⟩,by (repeat' first|exact trivial|exact rfl|exact ⟨_,rfl⟩|exact .inl rfl|exact .inr (.inl ⟨rfl,rfl⟩)|exact .inr (.inr ⟨rfl,rfl⟩)|refine And.intro ?_ ?_|refine ⟨_,rfl,?_⟩|decide|exact of_decide_eq_true rfl)⟩
include ha hb hW hr
theorem zoD (k:Nat) : ∀ (x:List Nat) (c:Int),x.length+k=a.W.toNat→(∀ u,u < x.length→x.getD u 0 < a.W.toNat)→0≤c→c+(dfs (okM a b) a.W.toNat k x).length≤1000000000 →
  Fn Tryz.prog T zaT [.ptr 0 0,.ptr 1 0,.ptr 2 0,.ptr 3 0,.ptr 4 0,.ptr 5 0,.ptr 6 0,.ptr 7 0] (zsr a b x c) (.d (.bool true))
   [some (.box [.own 10]),some (zZ a),some (.box [.fn zL [.ptr 9 0]]),some (zZ b),some (.box [.d (.u64 (zcf x))]),some (.box [.d (dI (ptL a.W.toNat (zab a)))]),some (.box [.d (dI (ptL a.W.toNat (zab b)))]),some (.box [zji]),none,some (.box [.d (.int .i64 (c+(dfs (okM a b) a.W.toNat k x).length))]),some (zgO x)]:=by
 have ga:=zD ha
 have w1:=ga.w1;have w2:=ga.w2
 induction k with
 | zero =>
  intro x c hx hxn h0 h1
  have hd:(dfs (okM a b) a.W.toNat 0 x).length=1:=rfl
  rw [hd] at h1 ⊢
  refine zK zw zby (by show 8≤66;decide) _ (fun e env mem n h=>h) ?_
  (repeat' ((conv=>whnf);first|refine vA ?_|refine vB fun b hb=>?_|refine vC (fun hl=>?_) fun i kv vv hi=>?_|refine vE ?_|refine vG ?_|refine vH ?_|((first|refine vD ?_ ?_|refine vF ?_ ?_|refine vI ?_ ?_)<;>intro hc<;>try simp only [vL] at hc)|refine vJ fun hg=>?_|refine vK fun hg=>?_|refine vT ?_|refine vN ‹_› ?_|(refine vQ ?_ fun x hx=>?_;·first|omega|(simp only [vM] at *;omega))|((first|refine vO ?_ ?_|refine vR ?_ ‹_› ?_|refine vS ?_ fun x hx=>?_|refine vP ?_ ?_);·first|omega|(simp only [vM] at *;omega))|refine vW ⟨by omega,by omega⟩ ?_|(refine vU ?_ ?_;·kernel_rfl)|refine vX ?_|refine vY ?_|refine vZ ?_|refine za.mk _ ‹_› ?_|refine vP (show (_:BitVec 64)≠_ by decide) ?_));all_goals try conv=>whnf
  ·refine zM.objs [8] (zl8 ((x.map fun (y:Nat)=>(y:Int)).map (D.int .i64)) (by simp;omega)) (by (repeat' first|exact trivial|exact rfl|exact ⟨_,rfl⟩|exact .inl rfl|exact .inr (.inl ⟨rfl,rfl⟩)|exact .inr (.inr ⟨rfl,rfl⟩)|refine And.intro ?_ ?_|refine ⟨_,rfl,?_⟩|decide|exact of_decide_eq_true rfl)) (by (repeat' first|exact trivial|exact rfl|exact ⟨_,rfl⟩|exact .inl rfl|exact .inr (.inl ⟨rfl,rfl⟩)|exact .inr (.inr ⟨rfl,rfl⟩)|refine And.intro ?_ ?_|refine ⟨_,rfl,?_⟩|decide|exact of_decide_eq_true rfl)) (by rfl) (by rfl) (by simp) ?_
   (repeat' ((conv=>whnf);first|refine vA ?_|refine vB fun b hb=>?_|refine vC (fun hl=>?_) fun i kv vv hi=>?_|refine vE ?_|refine vG ?_|refine vH ?_|((first|refine vD ?_ ?_|refine vF ?_ ?_|refine vI ?_ ?_)<;>intro hc<;>try simp only [vL] at hc)|refine vJ fun hg=>?_|refine vK fun hg=>?_|refine vT ?_|refine vN ‹_› ?_|(refine vQ ?_ fun x hx=>?_;·first|omega|(simp only [vM] at *;omega))|((first|refine vO ?_ ?_|refine vR ?_ ‹_› ?_|refine vS ?_ fun x hx=>?_|refine vP ?_ ?_);·first|omega|(simp only [vM] at *;omega))|refine vW ⟨by omega,by omega⟩ ?_|(refine vU ?_ ?_;·kernel_rfl)|refine vX ?_|refine vY ?_|refine vZ ?_|refine za.mk _ ‹_› ?_|refine vP (show (_:BitVec 64)≠_ by decide) ?_));all_goals try conv=>whnf
   refine zM.objsZ [9] [10] (zts x c h0 (by omega)) (by (repeat' first|exact trivial|exact rfl|exact ⟨_,rfl⟩|exact .inl rfl|exact .inr (.inl ⟨rfl,rfl⟩)|exact .inr (.inr ⟨rfl,rfl⟩)|refine And.intro ?_ ?_|refine ⟨_,rfl,?_⟩|decide|exact of_decide_eq_true rfl)) (by (repeat' first|exact trivial|exact rfl|exact ⟨_,rfl⟩|exact .inl rfl|exact .inr (.inl ⟨rfl,rfl⟩)|exact .inr (.inr ⟨rfl,rfl⟩)|refine And.intro ?_ ?_|refine ⟨_,rfl,?_⟩|decide|exact of_decide_eq_true rfl)) (by rfl) (by rfl) (by kernel_rfl) (by kernel_rfl) (by simp) ?_
   (repeat' ((conv=>whnf);first|refine vA ?_|refine vB fun b hb=>?_|refine vC (fun hl=>?_) fun i kv vv hi=>?_|refine vE ?_|refine vG ?_|refine vH ?_|((first|refine vD ?_ ?_|refine vF ?_ ?_|refine vI ?_ ?_)<;>intro hc<;>try simp only [vL] at hc)|refine vJ fun hg=>?_|refine vK fun hg=>?_|refine vT ?_|refine vN ‹_› ?_|(refine vQ ?_ fun x hx=>?_;·first|omega|(simp only [vM] at *;omega))|((first|refine vO ?_ ?_|refine vR ?_ ‹_› ?_|refine vS ?_ fun x hx=>?_|refine vP ?_ ?_);·first|omega|(simp only [vM] at *;omega))|refine vW ⟨by omega,by omega⟩ ?_|(refine vU ?_ ?_;·kernel_rfl)|refine vX ?_|refine vY ?_|refine vZ ?_|refine za.mk _ ‹_› ?_|refine vP (show (_:BitVec 64)≠_ by decide) ?_));all_goals try conv=>whnf
   refine ⟨trivial,_,[(0,0),(1,1),(2,2),(3,3),(4,4),(5,5),(6,6),(7,7),(9,9),(10,8)],[],rfl,.inl (by (repeat' first|exact trivial|exact rfl|exact ⟨_,rfl⟩|exact .inl rfl|exact .inr (.inl ⟨rfl,rfl⟩)|exact .inr (.inr ⟨rfl,rfl⟩)|refine And.intro ?_ ?_|refine ⟨_,rfl,?_⟩|decide|exact of_decide_eq_true rfl)),⟨by rfl,by rfl,by rfl,trivial,by (repeat' first|exact trivial|exact rfl|exact ⟨_,rfl⟩|exact .inl rfl|exact .inr (.inl ⟨rfl,rfl⟩)|exact .inr (.inr ⟨rfl,rfl⟩)|refine And.intro ?_ ?_|refine ⟨_,rfl,?_⟩|decide|exact of_decide_eq_true rfl)⟩,by (repeat' first|exact trivial|exact rfl|exact ⟨_,rfl⟩|exact .inl rfl|exact .inr (.inl ⟨rfl,rfl⟩)|exact .inr (.inr ⟨rfl,rfl⟩)|refine And.intro ?_ ?_|refine ⟨_,rfl,?_⟩|decide|exact of_decide_eq_true rfl)⟩
  ·exfalso;omega
 | succ k ih =>
  intro x c hx hxn h0 h1
  have hlD:=zfy x
  refine zK zw zby (by show 8≤66;decide) _ (fun e env mem n h=>h) ?_
  (repeat' ((conv=>whnf);first|refine vA ?_|refine vB fun b hb=>?_|refine vC (fun hl=>?_) fun i kv vv hi=>?_|refine vE ?_|refine vG ?_|refine vH ?_|((first|refine vD ?_ ?_|refine vF ?_ ?_|refine vI ?_ ?_)<;>intro hc<;>try simp only [vL] at hc)|refine vJ fun hg=>?_|refine vK fun hg=>?_|refine vT ?_|refine vN ‹_› ?_|(refine vQ ?_ fun x hx=>?_;·first|omega|(simp only [vM] at *;omega))|((first|refine vO ?_ ?_|refine vR ?_ ‹_› ?_|refine vS ?_ fun x hx=>?_|refine vP ?_ ?_);·first|omega|(simp only [vM] at *;omega))|refine vW ⟨by omega,by omega⟩ ?_|(refine vU ?_ ?_;·kernel_rfl)|refine vX ?_|refine vY ?_|refine vZ ?_|refine za.mk _ ‹_› ?_|refine vP (show (_:BitVec 64)≠_ by decide) ?_));all_goals try conv=>whnf
  ·exfalso;omega
  refine zq (fun ((w,c',u,ys):Nat×Int×BitVec 64×List D)=>[(0,.ptr 0 0),(1,.ptr 1 0),(3,.ptr 3 0),(4,.ptr 4 0),(5,.ptr 5 0),(6,.ptr 6 0),(7,.ptr 7 0),(9,.d (.int .i64 ((zdJ x:Int)))),(22,.d (.int .i64 (b.W))),(23,.d (.int .i64 ((w:Int)))),(zb,.ptr 0 0),(zb+1,.ptr 1 0),(zb+2,.ptr 2 0),(zb+3,.ptr 3 0),(zb+4,.ptr 4 0),(zb+5,.ptr 5 0),(zb+6,.ptr 6 0),(zb+7,.ptr 7 0),(zb+9,.ptr 9 0)]) (fun ((w,c',u,ys):Nat×Int×BitVec 64×List D)=>[(0,some (.box [.own 8])),(1,some (zZ a)),(2,some (.box [.fn zL [.ptr 9 0]])),(3,some (zZ b)),(4,some (.box [.d (.u64 u)])),(5,some (.box [.d (dI (ptL a.W.toNat (zab a)))])),(6,some (.box [.d (dI (ptL a.W.toNat (zab b)))])),(7,some (.box [zji])),(8,some (.row 1 ys)),(9,some (.box [.d (.int .i64 c')]))]) 10 (fun ((w,c',u,ys):Nat×Int×BitVec 64×List D)=>w≤a.W.toNat∧c'=c+(zcU (okM a b) a.W.toNat k x w).length∧u=zcf x∧ys=(x.map fun (y:Nat)=>(y:Int)).map (D.int .i64)) (fun ((w,c',u,ys):Nat×Int×BitVec 64×List D)=>a.W.toNat - w) ((0,c,zcf x,(x.map fun (y:Nat)=>(y:Int)).map (D.int .i64))) [(0,0),(1,1),(2,2),(3,3),(4,4),(5,5),(6,6),(7,7),(8,8),(9,9)] [] (⟨by omega,by simp [zcU],rfl,rfl⟩) (by (refine ⟨rfl,rfl,rfl,?_,?_⟩;repeat' first|exact trivial|exact rfl|exact ⟨_,rfl⟩|exact .inl rfl|exact .inr (.inl ⟨rfl,rfl⟩)|exact .inr (.inr ⟨rfl,rfl⟩)|refine And.intro ?_ ?_|refine ⟨_,rfl,?_⟩|decide|exact of_decide_eq_true rfl)) ?_
  rintro ⟨w,c',u,ys⟩ ⟨hw,hcc,hu,hy⟩
  subst hu hy
  by_cases hwl:w < a.W.toNat
  ·have ec:=zf1 (q:=zab a) (n:=a.W.toNat) (w:=x.length) (by omega)
   have ec':=zf1 (q:=zab b) hwl
   have ec2:(ptL a.W.toNat (zab a))[zdJ x]? = some ((zab a x.length:Nat):Int):=by rw [hlD];exact ec
   have hul:=zr1 (ok:=okM a b) (k:=k) (x:=x) (show w+1≤a.W.toNat by omega)
   have hus:=zgl (ok:=okM a b) (n:=a.W.toNat) (k:=k) (x:=x) (w:=w)
   have hbit:=zeu (x:=x) (show w < 64 by omega)
   have hiff:=zpd hr.symm (x:=x) (w:=w)
   have hskip : ¬okM a b x w=true→c'=c+(zcU (okM a b) a.W.toNat k x (w+1)).length:=fun h=>by rw [hus,if_neg h,List.append_nil];exact hcc
   have hrow:dN (x++[w])=D.arr 1 ((x.map fun (y:Nat)=>(y:Int)).map (D.int .i64)++[D.int .i64 (w:Int)]):=by simp
   have hxn' : ∀ u,u < (x++[w]).length→(x++[w]).getD u 0 < a.W.toNat:=fun u hu=>by
    by_cases e:u < x.length
    ·have:=hxn u e;rw [List.getD,List.getElem?_append_left e];exact this
    ·have e1:u=x.length:=by simp at hu;omega
     subst e1;rw [List.getD,List.getElem?_append_right (Nat.le_refl _)];simpa using hwl
   have cf:=zj6 (T:=T) ha hb hW hr (x++[w]) x.length (by omega) (by simp) (fun u hu=>hxn' u (by simp;omega))
   rw [hrow,show ((x.length:Nat):Int)=((zdJ x:Nat):Int) by rw [hlD]] at cf
   by_cases hfit:zeX a b (fnL (x++[w])) x.length
   ·rw [zhF hfit] at cf
    have cr:=fun h=>ih (x++[w]) c' (by simp;omega) hxn' (by omega) h
    dsimp only [zsr] at cr
    rw [← zf3 (by omega),show zgO (x++[w])=Ob.row 1 ((x.map fun (y:Nat)=>(y:Int)).map (D.int .i64)++[D.int .i64 (w:Int)]) by rw [zgO];simp] at cr
    (repeat' ((conv=>whnf);first|refine vA ?_|refine vB fun b hb=>?_|refine vC (fun hl=>?_) fun i kv vv hi=>?_|refine vE ?_|refine vG ?_|refine vH ?_|((first|refine vD ?_ ?_|refine vF ?_ ?_|refine vI ?_ ?_)<;>intro hc<;>try simp only [vL] at hc)|refine vJ fun hg=>?_|refine vK fun hg=>?_|refine vT ?_|refine vN ‹_› ?_|(refine vQ ?_ fun x hx=>?_;·first|omega|(simp only [vM] at *;omega))|((first|refine vO ?_ ?_|refine vR ?_ ‹_› ?_|refine vS ?_ fun x hx=>?_|refine vP ?_ ?_);·first|omega|(simp only [vM] at *;omega))|refine vW ⟨by omega,by omega⟩ ?_|(refine vU ?_ ?_;·kernel_rfl)|refine vX ?_|refine vY ?_|refine vZ ?_|refine yD cf (by (repeat refine ⟨⟨rfl,rfl⟩,?_⟩);rfl) rfl ?_|refine za.mk _ ‹_› ?_|refine vP (show (_:BitVec 64)≠_ by decide) ?_));all_goals try conv=>whnf
    ·refine ⟨(w+1,c',_,_),[(0,0),(1,1),(2,2),(3,3),(4,4),(5,5),(6,6),(7,7),(8,8),(9,9)],[],?_,?_,by (refine ⟨rfl,rfl,rfl,?_,?_⟩;repeat' first|exact trivial|exact rfl|exact ⟨_,rfl⟩|exact .inl rfl|exact .inr (.inl ⟨rfl,rfl⟩)|exact .inr (.inr ⟨rfl,rfl⟩)|refine And.intro ?_ ?_|refine ⟨_,rfl,?_⟩|decide|exact of_decide_eq_true rfl)⟩
     ·refine ⟨by omega,hskip fun h=>?_,rfl,rfl⟩
      have h1:=(zaV _ _).1 hc
      rw [show (w:Int).toNat=w from rfl,hbit] at h1
      exact (hiff.1 h).2.1 (of_decide_eq_true h1)
     ·(first|omega|(simp only [vM] at *;omega))
    ·refine ⟨(w+1,c',_,_),[(0,0),(1,1),(2,2),(3,3),(4,4),(5,5),(6,6),(7,7),(8,8),(9,9)],[],?_,?_,by (refine ⟨rfl,rfl,rfl,?_,?_⟩;repeat' first|exact trivial|exact rfl|exact ⟨_,rfl⟩|exact .inl rfl|exact .inr (.inl ⟨rfl,rfl⟩)|exact .inr (.inr ⟨rfl,rfl⟩)|refine And.intro ?_ ?_|refine ⟨_,rfl,?_⟩|decide|exact of_decide_eq_true rfl)⟩
     ·refine ⟨by omega,hskip fun h=>?_,rfl,rfl⟩
      have h1 : ¬((zab a x.length:Nat):Int)=((zab b w:Nat):Int):=‹_≠_›
      have h2:=(hiff.1 h).1
      unfold zab at h1;rw [← hW] at h1;exact h1 (by rw [h2])
     ·(first|omega|(simp only [vM] at *;omega))
    ·have hbz : ¬zcf x >>> (w:Int).toNat&&&1=1:=‹¬_=(1:BitVec 64)›
     have hnm:w ∉ x:=fun h=>hbz ((zaV _ _).2 (by rw [show (w:Int).toNat=w from rfl,hbit];simp [h]))
     have hok:okM a b x w=true:=hiff.2 ⟨by
      have h1:((zab a x.length:Nat):Int)=((zab b w:Nat):Int):=‹_›
      unfold zab at h1;rw [← hW] at h1;omega,hnm,hfit⟩
     rw [hus,if_pos hok,List.length_append] at hul
     refine zM.objs [0,1,2,3,4,5,6,7,11,9] (cr (by omega)) (by (repeat' first|exact trivial|exact rfl|exact ⟨_,rfl⟩|exact .inl rfl|exact .inr (.inl ⟨rfl,rfl⟩)|exact .inr (.inr ⟨rfl,rfl⟩)|refine And.intro ?_ ?_|refine ⟨_,rfl,?_⟩|decide|exact of_decide_eq_true rfl)) (by (repeat' first|exact trivial|exact rfl|exact ⟨_,rfl⟩|exact .inl rfl|exact .inr (.inl ⟨rfl,rfl⟩)|exact .inr (.inr ⟨rfl,rfl⟩)|refine And.intro ?_ ?_|refine ⟨_,rfl,?_⟩|decide|exact of_decide_eq_true rfl)) (by rfl) (by kernel_rfl) (by simp) ?_
     (repeat' ((conv=>whnf);first|refine vA ?_|refine vB fun b hb=>?_|refine vC (fun hl=>?_) fun i kv vv hi=>?_|refine vE ?_|refine vG ?_|refine vH ?_|((first|refine vD ?_ ?_|refine vF ?_ ?_|refine vI ?_ ?_)<;>intro hc<;>try simp only [vL] at hc)|refine vJ fun hg=>?_|refine vK fun hg=>?_|refine vT ?_|refine vN ‹_› ?_|(refine vQ ?_ fun x hx=>?_;·first|omega|(simp only [vM] at *;omega))|((first|refine vO ?_ ?_|refine vR ?_ ‹_› ?_|refine vS ?_ fun x hx=>?_|refine vP ?_ ?_);·first|omega|(simp only [vM] at *;omega))|refine vW ⟨by omega,by omega⟩ ?_|(refine vU ?_ ?_;·kernel_rfl)|refine vX ?_|refine vY ?_|refine vZ ?_|refine za.mk _ ‹_› ?_|refine vP (show (_:BitVec 64)≠_ by decide) ?_));all_goals try conv=>whnf
     refine ⟨(w+1,c'+(dfs (okM a b) a.W.toNat k (x++[w])).length,_,_),[(0,0),(1,1),(2,2),(3,3),(4,4),(5,5),(6,6),(7,7),(8,13),(9,9)],[],?_,?_,by (refine ⟨rfl,rfl,rfl,?_,?_⟩;repeat' first|exact trivial|exact rfl|exact ⟨_,rfl⟩|exact .inl rfl|exact .inr (.inl ⟨rfl,rfl⟩)|exact .inr (.inr ⟨rfl,rfl⟩)|refine And.intro ?_ ?_|refine ⟨_,rfl,?_⟩|decide|exact of_decide_eq_true rfl)⟩
     ·refine ⟨by omega,?_,?_,?_⟩
      ·rw [hus,if_pos hok,List.length_append];omega
      ·have h2:=zoa (by omega) hnm
       rw [← zf3 (by omega)] at h2
       exact h2
      ·exact List.take_left' rfl
     ·(first|omega|(simp only [vM] at *;omega))
    ·exfalso;omega
   ·rw [zjh hfit] at cf
    (repeat' ((conv=>whnf);first|refine vA ?_|refine vB fun b hb=>?_|refine vC (fun hl=>?_) fun i kv vv hi=>?_|refine vE ?_|refine vG ?_|refine vH ?_|((first|refine vD ?_ ?_|refine vF ?_ ?_|refine vI ?_ ?_)<;>intro hc<;>try simp only [vL] at hc)|refine vJ fun hg=>?_|refine vK fun hg=>?_|refine vT ?_|refine vN ‹_› ?_|(refine vQ ?_ fun x hx=>?_;·first|omega|(simp only [vM] at *;omega))|((first|refine vO ?_ ?_|refine vR ?_ ‹_› ?_|refine vS ?_ fun x hx=>?_|refine vP ?_ ?_);·first|omega|(simp only [vM] at *;omega))|refine vW ⟨by omega,by omega⟩ ?_|(refine vU ?_ ?_;·kernel_rfl)|refine vX ?_|refine vY ?_|refine vZ ?_|refine yD cf (by (repeat refine ⟨⟨rfl,rfl⟩,?_⟩);rfl) rfl ?_|refine za.mk _ ‹_› ?_|refine vP (show (_:BitVec 64)≠_ by decide) ?_));all_goals try conv=>whnf
    ·refine ⟨(w+1,c',_,_),[(0,0),(1,1),(2,2),(3,3),(4,4),(5,5),(6,6),(7,7),(8,8),(9,9)],[],?_,?_,by (refine ⟨rfl,rfl,rfl,?_,?_⟩;repeat' first|exact trivial|exact rfl|exact ⟨_,rfl⟩|exact .inl rfl|exact .inr (.inl ⟨rfl,rfl⟩)|exact .inr (.inr ⟨rfl,rfl⟩)|refine And.intro ?_ ?_|refine ⟨_,rfl,?_⟩|decide|exact of_decide_eq_true rfl)⟩
     ·exact ⟨by omega,hskip fun h=>hfit (hiff.1 h).2.2,rfl,rfl⟩
     ·(first|omega|(simp only [vM] at *;omega))
    ·refine ⟨(w+1,c',_,_),[(0,0),(1,1),(2,2),(3,3),(4,4),(5,5),(6,6),(7,7),(8,8),(9,9)],[],?_,?_,by (refine ⟨rfl,rfl,rfl,?_,?_⟩;repeat' first|exact trivial|exact rfl|exact ⟨_,rfl⟩|exact .inl rfl|exact .inr (.inl ⟨rfl,rfl⟩)|exact .inr (.inr ⟨rfl,rfl⟩)|refine And.intro ?_ ?_|refine ⟨_,rfl,?_⟩|decide|exact of_decide_eq_true rfl)⟩
     ·exact ⟨by omega,hskip fun h=>hfit (hiff.1 h).2.2,rfl,rfl⟩
     ·(first|omega|(simp only [vM] at *;omega))
    ·refine ⟨(w+1,c',_,_),[(0,0),(1,1),(2,2),(3,3),(4,4),(5,5),(6,6),(7,7),(8,12),(9,9)],[],?_,?_,by (refine ⟨rfl,rfl,rfl,?_,?_⟩;repeat' first|exact trivial|exact rfl|exact ⟨_,rfl⟩|exact .inl rfl|exact .inr (.inl ⟨rfl,rfl⟩)|exact .inr (.inr ⟨rfl,rfl⟩)|refine And.intro ?_ ?_|refine ⟨_,rfl,?_⟩|decide|exact of_decide_eq_true rfl)⟩
     ·exact ⟨by omega,hskip fun h=>hfit (hiff.1 h).2.2,rfl,List.take_left' rfl⟩
     ·(first|omega|(simp only [vM] at *;omega))
    ·exfalso;omega
  ·(repeat' ((conv=>whnf);first|refine vA ?_|refine vB fun b hb=>?_|refine vC (fun hl=>?_) fun i kv vv hi=>?_|refine vE ?_|refine vG ?_|refine vH ?_|((first|refine vD ?_ ?_|refine vF ?_ ?_|refine vI ?_ ?_)<;>intro hc<;>try simp only [vL] at hc)|refine vJ fun hg=>?_|refine vK fun hg=>?_|refine vT ?_|refine vN ‹_› ?_|(refine vQ ?_ fun x hx=>?_;·first|omega|(simp only [vM] at *;omega))|((first|refine vO ?_ ?_|refine vR ?_ ‹_› ?_|refine vS ?_ fun x hx=>?_|refine vP ?_ ?_);·first|omega|(simp only [vM] at *;omega))|refine vW ⟨by omega,by omega⟩ ?_|(refine vU ?_ ?_;·kernel_rfl)|refine vX ?_|refine vY ?_|refine vZ ?_|refine za.mk _ ‹_› ?_|refine vP (show (_:BitVec 64)≠_ by decide) ?_));all_goals try conv=>whnf
   iterate 3 (exfalso;omega)
   have e0:w=a.W.toNat:=by omega
   subst e0
   rw [show zcU (okM a b) a.W.toNat k x a.W.toNat=dfs (okM a b) a.W.toNat (k+1) x from rfl] at hcc
   subst hcc
   refine ⟨trivial,_,[(0,0),(1,1),(2,2),(3,3),(4,4),(5,5),(6,6),(7,7),(9,9),(10,8)],[],rfl,.inl (by (repeat' first|exact trivial|exact rfl|exact ⟨_,rfl⟩|exact .inl rfl|exact .inr (.inl ⟨rfl,rfl⟩)|exact .inr (.inr ⟨rfl,rfl⟩)|refine And.intro ?_ ?_|refine ⟨_,rfl,?_⟩|decide|exact of_decide_eq_true rfl)),⟨by rfl,by rfl,by rfl,trivial,by (repeat' first|exact trivial|exact rfl|exact ⟨_,rfl⟩|exact .inl rfl|exact .inr (.inl ⟨rfl,rfl⟩)|exact .inr (.inr ⟨rfl,rfl⟩)|refine And.intro ?_ ?_|refine ⟨_,rfl,?_⟩|decide|exact of_decide_eq_true rfl)⟩,by (repeat' first|exact trivial|exact rfl|exact ⟨_,rfl⟩|exact .inl rfl|exact .inr (.inl ⟨rfl,rfl⟩)|exact .inr (.inr ⟨rfl,rfl⟩)|refine And.intro ?_ ?_|refine ⟨_,rfl,?_⟩|decide|exact of_decide_eq_true rfl)⟩
end
end Go.Ab
namespace Go.Ab
open Go Go.Proofs
set_option maxRecDepth 10000
set_option maxHeartbeats 4000000
variable {T:Nat→Obj→Prop}
inductive zpw (x:List Nat):List (List Nat)→Bool→BitVec 64→List Nat→V→Prop where
 | no:zpw x [] true (zcf x) x (.nils 1)
 | yes (y:List Nat) (l:List (List Nat)):zpw x (y::l) false (zcf y) y (.d (dN y))
abbrev zss (a b:KM) (x:List Nat):List Ob:=[.box [.own 8],zZ a,.box [.fn zQ [.ptr 9 0]],zZ b,.box [.d (.u64 (zcf x))],.box [.d (dI (ptL a.W.toNat (zab a)))],.box [.d (dI (ptL a.W.toNat (zab b)))],.box [zji],zgO x,.box [.nils 1]]
theorem ztx (y:List Nat):Fn Tryz.prog T zQ [.d (dN y),.ptr 0 0] [.box [.nils 1]] (.d (.bool false)) [some (.box [.d (dN y)])]:=by
 refine zK zw zgf (by show 2≤5;decide) _ (fun e env mem n h=>h) ?_
 (repeat' ((conv=>whnf);first|refine vA ?_|refine vB fun b hb=>?_|refine vC (fun hl=>?_) fun i kv vv hi=>?_|refine vE ?_|refine vG ?_|refine vH ?_|((first|refine vD ?_ ?_|refine vF ?_ ?_|refine vI ?_ ?_)<;>intro hc<;>try simp only [vL] at hc)|refine vJ fun hg=>?_|refine vK fun hg=>?_|refine vT ?_|refine vN ‹_› ?_|(refine vQ ?_ fun x hx=>?_;·first|omega|(simp only [vM] at *;omega))|((first|refine vO ?_ ?_|refine vR ?_ ‹_› ?_|refine vS ?_ fun x hx=>?_|refine vP ?_ ?_);·first|omega|(simp only [vM] at *;omega))|refine vW ⟨by omega,by omega⟩ ?_|(refine vU ?_ ?_;·kernel_rfl)|refine vX ?_|refine vY ?_|refine vZ ?_|refine za.mk _ ‹_› ?_|refine vP (show (_:BitVec 64)≠_ by decide) ?_));all_goals try conv=>whnf
 refine ⟨trivial,_,[(0,0)],[],rfl,.inl (by (repeat' first|exact trivial|exact rfl|exact ⟨_,rfl⟩|exact .inl rfl|exact .inr (.inl ⟨rfl,rfl⟩)|exact .inr (.inr ⟨rfl,rfl⟩)|refine And.intro ?_ ?_|refine ⟨_,rfl,?_⟩|decide|exact of_decide_eq_true rfl)),⟨by rfl,by rfl,by rfl,trivial,by (repeat' first|exact trivial|exact rfl|exact ⟨_,rfl⟩|exact .inl rfl|exact .inr (.inl ⟨rfl,rfl⟩)|exact .inr (.inr ⟨rfl,rfl⟩)|refine And.intro ?_ ?_|refine ⟨_,rfl,?_⟩|decide|exact of_decide_eq_true rfl)⟩,by (repeat' first|exact trivial|exact rfl|exact ⟨_,rfl⟩|exact .inl rfl|exact .inr (.inl ⟨rfl,rfl⟩)|exact .inr (.inr ⟨rfl,rfl⟩)|refine And.intro ?_ ?_|refine ⟨_,rfl,?_⟩|decide|exact of_decide_eq_true rfl)⟩
theorem zr2 {ok:List Nat→Nat→Bool} {n k:Nat} {x:List Nat} {w:Nat} (hw:w≤n) : ∃ l,dfs ok n (k+1) x=zcU ok n k x w++l:=by
 have mono : ∀ d,∃ l,zcU ok n k x (w+d)=zcU ok n k x w++l:=fun d=>by
  induction d with
  | zero=>exact ⟨[],by simp⟩
  | succ d ih=>obtain ⟨l,hl⟩:=ih;rw [← Nat.add_assoc,zgl,hl,List.append_assoc];exact ⟨_,rfl⟩
 have:=mono (n - w)
 rw [show w+(n - w)=n by omega] at this
 exact this
section
variable {a b:KM} (ha:zk a=0) (hb:zk b=0) (hW:a.W=b.W) (hr:a.rel.length=b.rel.length)
include ha hb hW hr
theorem zoE (k:Nat) : ∀ (x:List Nat),x.length+k=a.W.toNat→(∀ u,u < x.length→x.getD u 0 < a.W.toNat) → ∀ (bo:Bool) (u':BitVec 64) (r':List Nat) (v':V),zpw x (dfs (okM a b) a.W.toNat k x) bo u' r' v' →
  Fn Tryz.prog T zaT [.ptr 0 0,.ptr 1 0,.ptr 2 0,.ptr 3 0,.ptr 4 0,.ptr 5 0,.ptr 6 0,.ptr 7 0] (zss a b x) (.d (.bool bo))
   [some (.box [.own 10]),some (zZ a),some (.box [.fn zQ [.ptr 9 0]]),some (zZ b),some (.box [.d (.u64 u')]),some (.box [.d (dI (ptL a.W.toNat (zab a)))]),some (.box [.d (dI (ptL a.W.toNat (zab b)))]),some (.box [zji]),none,some (.box [v']),some (zgO r')]:=by
 have ga:=zD ha
 have w1:=ga.w1;have w2:=ga.w2
 induction k with
 | zero =>
  intro x hx hxn bo u' r' v' hres
  have hd:dfs (okM a b) a.W.toNat 0 x=[x]:=rfl
  rw [hd] at hres
  cases hres
  refine zK zw zby (by show 8≤66;decide) _ (fun e env mem n h=>h) ?_
  (repeat' ((conv=>whnf);first|refine vA ?_|refine vB fun b hb=>?_|refine vC (fun hl=>?_) fun i kv vv hi=>?_|refine vE ?_|refine vG ?_|refine vH ?_|((first|refine vD ?_ ?_|refine vF ?_ ?_|refine vI ?_ ?_)<;>intro hc<;>try simp only [vL] at hc)|refine vJ fun hg=>?_|refine vK fun hg=>?_|refine vT ?_|refine vN ‹_› ?_|(refine vQ ?_ fun x hx=>?_;·first|omega|(simp only [vM] at *;omega))|((first|refine vO ?_ ?_|refine vR ?_ ‹_› ?_|refine vS ?_ fun x hx=>?_|refine vP ?_ ?_);·first|omega|(simp only [vM] at *;omega))|refine vW ⟨by omega,by omega⟩ ?_|(refine vU ?_ ?_;·kernel_rfl)|refine vX ?_|refine vY ?_|refine vZ ?_|refine za.mk _ ‹_› ?_|refine vP (show (_:BitVec 64)≠_ by decide) ?_));all_goals try conv=>whnf
  ·refine zM.objs [8] (zl8 ((x.map fun (y:Nat)=>(y:Int)).map (D.int .i64)) (by simp;omega)) (by (repeat' first|exact trivial|exact rfl|exact ⟨_,rfl⟩|exact .inl rfl|exact .inr (.inl ⟨rfl,rfl⟩)|exact .inr (.inr ⟨rfl,rfl⟩)|refine And.intro ?_ ?_|refine ⟨_,rfl,?_⟩|decide|exact of_decide_eq_true rfl)) (by (repeat' first|exact trivial|exact rfl|exact ⟨_,rfl⟩|exact .inl rfl|exact .inr (.inl ⟨rfl,rfl⟩)|exact .inr (.inr ⟨rfl,rfl⟩)|refine And.intro ?_ ?_|refine ⟨_,rfl,?_⟩|decide|exact of_decide_eq_true rfl)) (by rfl) (by rfl) (by simp) ?_
   (repeat' ((conv=>whnf);first|refine vA ?_|refine vB fun b hb=>?_|refine vC (fun hl=>?_) fun i kv vv hi=>?_|refine vE ?_|refine vG ?_|refine vH ?_|((first|refine vD ?_ ?_|refine vF ?_ ?_|refine vI ?_ ?_)<;>intro hc<;>try simp only [vL] at hc)|refine vJ fun hg=>?_|refine vK fun hg=>?_|refine vT ?_|refine vN ‹_› ?_|(refine vQ ?_ fun x hx=>?_;·first|omega|(simp only [vM] at *;omega))|((first|refine vO ?_ ?_|refine vR ?_ ‹_› ?_|refine vS ?_ fun x hx=>?_|refine vP ?_ ?_);·first|omega|(simp only [vM] at *;omega))|refine vW ⟨by omega,by omega⟩ ?_|(refine vU ?_ ?_;·kernel_rfl)|refine vX ?_|refine vY ?_|refine vZ ?_|refine za.mk _ ‹_› ?_|refine vP (show (_:BitVec 64)≠_ by decide) ?_));all_goals try conv=>whnf
   refine zM.objsZ [9] [10] (ztx x) (by (repeat' first|exact trivial|exact rfl|exact ⟨_,rfl⟩|exact .inl rfl|exact .inr (.inl ⟨rfl,rfl⟩)|exact .inr (.inr ⟨rfl,rfl⟩)|refine And.intro ?_ ?_|refine ⟨_,rfl,?_⟩|decide|exact of_decide_eq_true rfl)) (by (repeat' first|exact trivial|exact rfl|exact ⟨_,rfl⟩|exact .inl rfl|exact .inr (.inl ⟨rfl,rfl⟩)|exact .inr (.inr ⟨rfl,rfl⟩)|refine And.intro ?_ ?_|refine ⟨_,rfl,?_⟩|decide|exact of_decide_eq_true rfl)) (by rfl) (by rfl) (by kernel_rfl) (by kernel_rfl) (by simp) ?_
   (repeat' ((conv=>whnf);first|refine vA ?_|refine vB fun b hb=>?_|refine vC (fun hl=>?_) fun i kv vv hi=>?_|refine vE ?_|refine vG ?_|refine vH ?_|((first|refine vD ?_ ?_|refine vF ?_ ?_|refine vI ?_ ?_)<;>intro hc<;>try simp only [vL] at hc)|refine vJ fun hg=>?_|refine vK fun hg=>?_|refine vT ?_|refine vN ‹_› ?_|(refine vQ ?_ fun x hx=>?_;·first|omega|(simp only [vM] at *;omega))|((first|refine vO ?_ ?_|refine vR ?_ ‹_› ?_|refine vS ?_ fun x hx=>?_|refine vP ?_ ?_);·first|omega|(simp only [vM] at *;omega))|refine vW ⟨by omega,by omega⟩ ?_|(refine vU ?_ ?_;·kernel_rfl)|refine vX ?_|refine vY ?_|refine vZ ?_|refine za.mk _ ‹_› ?_|refine vP (show (_:BitVec 64)≠_ by decide) ?_));all_goals try conv=>whnf
   refine ⟨trivial,_,[(0,0),(1,1),(2,2),(3,3),(4,4),(5,5),(6,6),(7,7),(9,9),(10,8)],[],rfl,.inl (by (repeat' first|exact trivial|exact rfl|exact ⟨_,rfl⟩|exact .inl rfl|exact .inr (.inl ⟨rfl,rfl⟩)|exact .inr (.inr ⟨rfl,rfl⟩)|refine And.intro ?_ ?_|refine ⟨_,rfl,?_⟩|decide|exact of_decide_eq_true rfl)),⟨by rfl,by rfl,by rfl,trivial,by (repeat' first|exact trivial|exact rfl|exact ⟨_,rfl⟩|exact .inl rfl|exact .inr (.inl ⟨rfl,rfl⟩)|exact .inr (.inr ⟨rfl,rfl⟩)|refine And.intro ?_ ?_|refine ⟨_,rfl,?_⟩|decide|exact of_decide_eq_true rfl)⟩,by (repeat' first|exact trivial|exact rfl|exact ⟨_,rfl⟩|exact .inl rfl|exact .inr (.inl ⟨rfl,rfl⟩)|exact .inr (.inr ⟨rfl,rfl⟩)|refine And.intro ?_ ?_|refine ⟨_,rfl,?_⟩|decide|exact of_decide_eq_true rfl)⟩
  ·exfalso;omega
 | succ k ih =>
  intro x hx hxn bo u' r' v' hres
  have hlD:=zfy x
  refine zK zw zby (by show 8≤66;decide) _ (fun e env mem n h=>h) ?_
  (repeat' ((conv=>whnf);first|refine vA ?_|refine vB fun b hb=>?_|refine vC (fun hl=>?_) fun i kv vv hi=>?_|refine vE ?_|refine vG ?_|refine vH ?_|((first|refine vD ?_ ?_|refine vF ?_ ?_|refine vI ?_ ?_)<;>intro hc<;>try simp only [vL] at hc)|refine vJ fun hg=>?_|refine vK fun hg=>?_|refine vT ?_|refine vN ‹_› ?_|(refine vQ ?_ fun x hx=>?_;·first|omega|(simp only [vM] at *;omega))|((first|refine vO ?_ ?_|refine vR ?_ ‹_› ?_|refine vS ?_ fun x hx=>?_|refine vP ?_ ?_);·first|omega|(simp only [vM] at *;omega))|refine vW ⟨by omega,by omega⟩ ?_|(refine vU ?_ ?_;·kernel_rfl)|refine vX ?_|refine vY ?_|refine vZ ?_|refine za.mk _ ‹_› ?_|refine vP (show (_:BitVec 64)≠_ by decide) ?_));all_goals try conv=>whnf
  ·exfalso;omega
  refine zq (fun ((w,u,ys):Nat×BitVec 64×List D)=>[(0,.ptr 0 0),(1,.ptr 1 0),(3,.ptr 3 0),(4,.ptr 4 0),(5,.ptr 5 0),(6,.ptr 6 0),(7,.ptr 7 0),(9,.d (.int .i64 ((zdJ x:Int)))),(22,.d (.int .i64 (b.W))),(23,.d (.int .i64 ((w:Int)))),(zb,.ptr 0 0),(zb+1,.ptr 1 0),(zb+2,.ptr 2 0),(zb+3,.ptr 3 0),(zb+4,.ptr 4 0),(zb+5,.ptr 5 0),(zb+6,.ptr 6 0),(zb+7,.ptr 7 0),(zb+9,.ptr 9 0)]) (fun ((w,u,ys):Nat×BitVec 64×List D)=>[(0,some (.box [.own 8])),(1,some (zZ a)),(2,some (.box [.fn zQ [.ptr 9 0]])),(3,some (zZ b)),(4,some (.box [.d (.u64 u)])),(5,some (.box [.d (dI (ptL a.W.toNat (zab a)))])),(6,some (.box [.d (dI (ptL a.W.toNat (zab b)))])),(7,some (.box [zji])),(8,some (.row 1 ys)),(9,some (.box [.nils 1]))]) 10 (fun ((w,u,ys):Nat×BitVec 64×List D)=>w≤a.W.toNat∧zcU (okM a b) a.W.toNat k x w=[]∧u=zcf x∧ys=(x.map fun (y:Nat)=>(y:Int)).map (D.int .i64)) (fun ((w,u,ys):Nat×BitVec 64×List D)=>a.W.toNat - w) ((0,zcf x,(x.map fun (y:Nat)=>(y:Int)).map (D.int .i64))) [(0,0),(1,1),(2,2),(3,3),(4,4),(5,5),(6,6),(7,7),(8,8),(9,9)] [] (⟨by omega,by simp [zcU],rfl,rfl⟩) (by (refine ⟨rfl,rfl,rfl,?_,?_⟩;repeat' first|exact trivial|exact rfl|exact ⟨_,rfl⟩|exact .inl rfl|exact .inr (.inl ⟨rfl,rfl⟩)|exact .inr (.inr ⟨rfl,rfl⟩)|refine And.intro ?_ ?_|refine ⟨_,rfl,?_⟩|decide|exact of_decide_eq_true rfl)) ?_
  rintro ⟨w,u,ys⟩ ⟨hw,hcc,hu,hy⟩
  subst hu hy
  by_cases hwl:w < a.W.toNat
  ·have ec:=zf1 (q:=zab a) (n:=a.W.toNat) (w:=x.length) (by omega)
   have ec':=zf1 (q:=zab b) hwl
   have ec2:(ptL a.W.toNat (zab a))[zdJ x]? = some ((zab a x.length:Nat):Int):=by rw [hlD];exact ec
   have hus:=zgl (ok:=okM a b) (n:=a.W.toNat) (k:=k) (x:=x) (w:=w)
   have hbit:=zeu (x:=x) (show w < 64 by omega)
   have hiff:=zpd hr.symm (x:=x) (w:=w)
   have hskip : ¬okM a b x w=true→zcU (okM a b) a.W.toNat k x (w+1)=[]:=fun h=>by rw [hus,if_neg h,List.append_nil];exact hcc
   have hrow:dN (x++[w])=D.arr 1 ((x.map fun (y:Nat)=>(y:Int)).map (D.int .i64)++[D.int .i64 (w:Int)]):=by simp
   have hxn' : ∀ u,u < (x++[w]).length→(x++[w]).getD u 0 < a.W.toNat:=fun u hu=>by
    by_cases e:u < x.length
    ·have:=hxn u e;rw [List.getD,List.getElem?_append_left e];exact this
    ·have e1:u=x.length:=by simp at hu;omega
     subst e1;rw [List.getD,List.getElem?_append_right (Nat.le_refl _)];simpa using hwl
   have cf:=zj6 (T:=T) ha hb hW hr (x++[w]) x.length (by omega) (by simp) (fun u hu=>hxn' u (by simp;omega))
   rw [hrow,show ((x.length:Nat):Int)=((zdJ x:Nat):Int) by rw [hlD]] at cf
   by_cases hfit:zeX a b (fnL (x++[w])) x.length
   ·rw [zhF hfit] at cf
    have cr:=ih (x++[w]) (by simp;omega) hxn'
    dsimp only [zss] at cr
    rw [← zf3 (by omega),show zgO (x++[w])=Ob.row 1 ((x.map fun (y:Nat)=>(y:Int)).map (D.int .i64)++[D.int .i64 (w:Int)]) by rw [zgO];simp] at cr
    (repeat' ((conv=>whnf);first|refine vA ?_|refine vB fun b hb=>?_|refine vC (fun hl=>?_) fun i kv vv hi=>?_|refine vE ?_|refine vG ?_|refine vH ?_|((first|refine vD ?_ ?_|refine vF ?_ ?_|refine vI ?_ ?_)<;>intro hc<;>try simp only [vL] at hc)|refine vJ fun hg=>?_|refine vK fun hg=>?_|refine vT ?_|refine vN ‹_› ?_|(refine vQ ?_ fun x hx=>?_;·first|omega|(simp only [vM] at *;omega))|((first|refine vO ?_ ?_|refine vR ?_ ‹_› ?_|refine vS ?_ fun x hx=>?_|refine vP ?_ ?_);·first|omega|(simp only [vM] at *;omega))|refine vW ⟨by omega,by omega⟩ ?_|(refine vU ?_ ?_;·kernel_rfl)|refine vX ?_|refine vY ?_|refine vZ ?_|refine yD cf (by (repeat refine ⟨⟨rfl,rfl⟩,?_⟩);rfl) rfl ?_|refine za.mk _ ‹_› ?_|refine vP (show (_:BitVec 64)≠_ by decide) ?_));all_goals try conv=>whnf
    ·refine ⟨(w+1,_,_),[(0,0),(1,1),(2,2),(3,3),(4,4),(5,5),(6,6),(7,7),(8,8),(9,9)],[],?_,?_,by (refine ⟨rfl,rfl,rfl,?_,?_⟩;repeat' first|exact trivial|exact rfl|exact ⟨_,rfl⟩|exact .inl rfl|exact .inr (.inl ⟨rfl,rfl⟩)|exact .inr (.inr ⟨rfl,rfl⟩)|refine And.intro ?_ ?_|refine ⟨_,rfl,?_⟩|decide|exact of_decide_eq_true rfl)⟩
     ·refine ⟨by omega,hskip fun h=>?_,rfl,rfl⟩
      have h1:=(zaV _ _).1 hc
      rw [show (w:Int).toNat=w from rfl,hbit] at h1
      exact (hiff.1 h).2.1 (of_decide_eq_true h1)
     ·(first|omega|(simp only [vM] at *;omega))
    ·refine ⟨(w+1,_,_),[(0,0),(1,1),(2,2),(3,3),(4,4),(5,5),(6,6),(7,7),(8,8),(9,9)],[],?_,?_,by (refine ⟨rfl,rfl,rfl,?_,?_⟩;repeat' first|exact trivial|exact rfl|exact ⟨_,rfl⟩|exact .inl rfl|exact .inr (.inl ⟨rfl,rfl⟩)|exact .inr (.inr ⟨rfl,rfl⟩)|refine And.intro ?_ ?_|refine ⟨_,rfl,?_⟩|decide|exact of_decide_eq_true rfl)⟩
     ·refine ⟨by omega,hskip fun h=>?_,rfl,rfl⟩
      have h1 : ¬((zab a x.length:Nat):Int)=((zab b w:Nat):Int):=‹_≠_›
      have h2:=(hiff.1 h).1
      unfold zab at h1;rw [← hW] at h1;exact h1 (by rw [h2])
     ·(first|omega|(simp only [vM] at *;omega))
    ·have hbz : ¬zcf x >>> (w:Int).toNat&&&1=1:=‹¬_=(1:BitVec 64)›
     have hnm:w ∉ x:=fun h=>hbz ((zaV _ _).2 (by rw [show (w:Int).toNat=w from rfl,hbit];simp [h]))
     have hok:okM a b x w=true:=hiff.2 ⟨by
      have h1:((zab a x.length:Nat):Int)=((zab b w:Nat):Int):=‹_›
      unfold zab at h1;rw [← hW] at h1;omega,hnm,hfit⟩
     have hus':=hus
     rw [if_pos hok,hcc,List.nil_append] at hus'
     cases hD:dfs (okM a b) a.W.toNat k (x++[w]) with
     | nil =>
      rw [hD] at cr hus'
      have cr:=cr _ _ _ _ .no
      rw [← zf3 (by omega),show zgO (x++[w])=Ob.row 1 ((x.map fun (y:Nat)=>(y:Int)).map (D.int .i64)++[D.int .i64 (w:Int)]) by rw [zgO];simp] at cr
      refine zM.objs [0,1,2,3,4,5,6,7,11,9] cr (by (repeat' first|exact trivial|exact rfl|exact ⟨_,rfl⟩|exact .inl rfl|exact .inr (.inl ⟨rfl,rfl⟩)|exact .inr (.inr ⟨rfl,rfl⟩)|refine And.intro ?_ ?_|refine ⟨_,rfl,?_⟩|decide|exact of_decide_eq_true rfl)) (by (repeat' first|exact trivial|exact rfl|exact ⟨_,rfl⟩|exact .inl rfl|exact .inr (.inl ⟨rfl,rfl⟩)|exact .inr (.inr ⟨rfl,rfl⟩)|refine And.intro ?_ ?_|refine ⟨_,rfl,?_⟩|decide|exact of_decide_eq_true rfl)) (by rfl) (by kernel_rfl) (by simp) ?_
      (repeat' ((conv=>whnf);first|refine vA ?_|refine vB fun b hb=>?_|refine vC (fun hl=>?_) fun i kv vv hi=>?_|refine vE ?_|refine vG ?_|refine vH ?_|((first|refine vD ?_ ?_|refine vF ?_ ?_|refine vI ?_ ?_)<;>intro hc<;>try simp only [vL] at hc)|refine vJ fun hg=>?_|refine vK fun hg=>?_|refine vT ?_|refine vN ‹_› ?_|(refine vQ ?_ fun x hx=>?_;·first|omega|(simp only [vM] at *;omega))|((first|refine vO ?_ ?_|refine vR ?_ ‹_› ?_|refine vS ?_ fun x hx=>?_|refine vP ?_ ?_);·first|omega|(simp only [vM] at *;omega))|refine vW ⟨by omega,by omega⟩ ?_|(refine vU ?_ ?_;·kernel_rfl)|refine vX ?_|refine vY ?_|refine vZ ?_|refine za.mk _ ‹_› ?_|refine vP (show (_:BitVec 64)≠_ by decide) ?_));all_goals try conv=>whnf
      refine ⟨(w+1,_,_),[(0,0),(1,1),(2,2),(3,3),(4,4),(5,5),(6,6),(7,7),(8,13),(9,9)],[],?_,?_,by (refine ⟨rfl,rfl,rfl,?_,?_⟩;repeat' first|exact trivial|exact rfl|exact ⟨_,rfl⟩|exact .inl rfl|exact .inr (.inl ⟨rfl,rfl⟩)|exact .inr (.inr ⟨rfl,rfl⟩)|refine And.intro ?_ ?_|refine ⟨_,rfl,?_⟩|decide|exact of_decide_eq_true rfl)⟩
      ·refine ⟨by omega,hus',?_,?_⟩
       ·have h2:=zoa (by omega) hnm
        rw [← zf3 (by omega)] at h2
        exact h2
       ·exact List.take_left' rfl
      ·(first|omega|(simp only [vM] at *;omega))
     | cons y l =>
      rw [hD] at cr hus'
      obtain ⟨l',hl'⟩ : ∃ l',dfs (okM a b) a.W.toNat (k+1) x=y::l':=by
       obtain ⟨l2,h2⟩:=zr2 (ok:=okM a b) (k:=k) (x:=x) (show w+1≤a.W.toNat by omega)
       rw [hus'] at h2
       exact ⟨_,h2⟩
      rw [hl'] at hres
      have cy:=cr _ _ _ _ (.yes y l)
      cases hres
      refine zM.objs [0,1,2,3,4,5,6,7,11,9] cy (by (repeat' first|exact trivial|exact rfl|exact ⟨_,rfl⟩|exact .inl rfl|exact .inr (.inl ⟨rfl,rfl⟩)|exact .inr (.inr ⟨rfl,rfl⟩)|refine And.intro ?_ ?_|refine ⟨_,rfl,?_⟩|decide|exact of_decide_eq_true rfl)) (by (repeat' first|exact trivial|exact rfl|exact ⟨_,rfl⟩|exact .inl rfl|exact .inr (.inl ⟨rfl,rfl⟩)|exact .inr (.inr ⟨rfl,rfl⟩)|refine And.intro ?_ ?_|refine ⟨_,rfl,?_⟩|decide|exact of_decide_eq_true rfl)) (by rfl) (by kernel_rfl) (by simp) ?_
      (repeat' ((conv=>whnf);first|refine vA ?_|refine vB fun b hb=>?_|refine vC (fun hl=>?_) fun i kv vv hi=>?_|refine vE ?_|refine vG ?_|refine vH ?_|((first|refine vD ?_ ?_|refine vF ?_ ?_|refine vI ?_ ?_)<;>intro hc<;>try simp only [vL] at hc)|refine vJ fun hg=>?_|refine vK fun hg=>?_|refine vT ?_|refine vN ‹_› ?_|(refine vQ ?_ fun x hx=>?_;·first|omega|(simp only [vM] at *;omega))|((first|refine vO ?_ ?_|refine vR ?_ ‹_› ?_|refine vS ?_ fun x hx=>?_|refine vP ?_ ?_);·first|omega|(simp only [vM] at *;omega))|refine vW ⟨by omega,by omega⟩ ?_|(refine vU ?_ ?_;·kernel_rfl)|refine vX ?_|refine vY ?_|refine vZ ?_|refine za.mk _ ‹_› ?_|refine vP (show (_:BitVec 64)≠_ by decide) ?_));all_goals try conv=>whnf
      refine ⟨trivial,_,[(0,0),(1,1),(2,2),(3,3),(4,4),(5,5),(6,6),(7,7),(9,9),(10,12)],[],rfl,.inl (by (repeat' first|exact trivial|exact rfl|exact ⟨_,rfl⟩|exact .inl rfl|exact .inr (.inl ⟨rfl,rfl⟩)|exact .inr (.inr ⟨rfl,rfl⟩)|refine And.intro ?_ ?_|refine ⟨_,rfl,?_⟩|decide|exact of_decide_eq_true rfl)),⟨by rfl,by rfl,by rfl,trivial,by (repeat' first|exact trivial|exact rfl|exact ⟨_,rfl⟩|exact .inl rfl|exact .inr (.inl ⟨rfl,rfl⟩)|exact .inr (.inr ⟨rfl,rfl⟩)|refine And.intro ?_ ?_|refine ⟨_,rfl,?_⟩|decide|exact of_decide_eq_true rfl)⟩,by (repeat' first|exact trivial|exact rfl|exact ⟨_,rfl⟩|exact .inl rfl|exact .inr (.inl ⟨rfl,rfl⟩)|exact .inr (.inr ⟨rfl,rfl⟩)|refine And.intro ?_ ?_|refine ⟨_,rfl,?_⟩|decide|exact of_decide_eq_true rfl)⟩
    ·exfalso;omega
   ·rw [zjh hfit] at cf
    (repeat' ((conv=>whnf);first|refine vA ?_|refine vB fun b hb=>?_|refine vC (fun hl=>?_) fun i kv vv hi=>?_|refine vE ?_|refine vG ?_|refine vH ?_|((first|refine vD ?_ ?_|refine vF ?_ ?_|refine vI ?_ ?_)<;>intro hc<;>try simp only [vL] at hc)|refine vJ fun hg=>?_|refine vK fun hg=>?_|refine vT ?_|refine vN ‹_› ?_|(refine vQ ?_ fun x hx=>?_;·first|omega|(simp only [vM] at *;omega))|((first|refine vO ?_ ?_|refine vR ?_ ‹_› ?_|refine vS ?_ fun x hx=>?_|refine vP ?_ ?_);·first|omega|(simp only [vM] at *;omega))|refine vW ⟨by omega,by omega⟩ ?_|(refine vU ?_ ?_;·kernel_rfl)|refine vX ?_|refine vY ?_|refine vZ ?_|refine yD cf (by (repeat refine ⟨⟨rfl,rfl⟩,?_⟩);rfl) rfl ?_|refine za.mk _ ‹_› ?_|refine vP (show (_:BitVec 64)≠_ by decide) ?_));all_goals try conv=>whnf
    ·refine ⟨(w+1,_,_),[(0,0),(1,1),(2,2),(3,3),(4,4),(5,5),(6,6),(7,7),(8,8),(9,9)],[],?_,?_,by (refine ⟨rfl,rfl,rfl,?_,?_⟩;repeat' first|exact trivial|exact rfl|exact ⟨_,rfl⟩|exact .inl rfl|exact .inr (.inl ⟨rfl,rfl⟩)|exact .inr (.inr ⟨rfl,rfl⟩)|refine And.intro ?_ ?_|refine ⟨_,rfl,?_⟩|decide|exact of_decide_eq_true rfl)⟩
     ·exact ⟨by omega,hskip fun h=>hfit (hiff.1 h).2.2,rfl,rfl⟩
     ·(first|omega|(simp only [vM] at *;omega))
    ·refine ⟨(w+1,_,_),[(0,0),(1,1),(2,2),(3,3),(4,4),(5,5),(6,6),(7,7),(8,8),(9,9)],[],?_,?_,by (refine ⟨rfl,rfl,rfl,?_,?_⟩;repeat' first|exact trivial|exact rfl|exact ⟨_,rfl⟩|exact .inl rfl|exact .inr (.inl ⟨rfl,rfl⟩)|exact .inr (.inr ⟨rfl,rfl⟩)|refine And.intro ?_ ?_|refine ⟨_,rfl,?_⟩|decide|exact of_decide_eq_true rfl)⟩
     ·exact ⟨by omega,hskip fun h=>hfit (hiff.1 h).2.2,rfl,rfl⟩
     ·(first|omega|(simp only [vM] at *;omega))
    ·refine ⟨(w+1,_,_),[(0,0),(1,1),(2,2),(3,3),(4,4),(5,5),(6,6),(7,7),(8,12),(9,9)],[],?_,?_,by (refine ⟨rfl,rfl,rfl,?_,?_⟩;repeat' first|exact trivial|exact rfl|exact ⟨_,rfl⟩|exact .inl rfl|exact .inr (.inl ⟨rfl,rfl⟩)|exact .inr (.inr ⟨rfl,rfl⟩)|refine And.intro ?_ ?_|refine ⟨_,rfl,?_⟩|decide|exact of_decide_eq_true rfl)⟩
     ·exact ⟨by omega,hskip fun h=>hfit (hiff.1 h).2.2,rfl,List.take_left' rfl⟩
     ·(first|omega|(simp only [vM] at *;omega))
    ·exfalso;omega
  ·(repeat' ((conv=>whnf);first|refine vA ?_|refine vB fun b hb=>?_|refine vC (fun hl=>?_) fun i kv vv hi=>?_|refine vE ?_|refine vG ?_|refine vH ?_|((first|refine vD ?_ ?_|refine vF ?_ ?_|refine vI ?_ ?_)<;>intro hc<;>try simp only [vL] at hc)|refine vJ fun hg=>?_|refine vK fun hg=>?_|refine vT ?_|refine vN ‹_› ?_|(refine vQ ?_ fun x hx=>?_;·first|omega|(simp only [vM] at *;omega))|((first|refine vO ?_ ?_|refine vR ?_ ‹_› ?_|refine vS ?_ fun x hx=>?_|refine vP ?_ ?_);·first|omega|(simp only [vM] at *;omega))|refine vW ⟨by omega,by omega⟩ ?_|(refine vU ?_ ?_;·kernel_rfl)|refine vX ?_|refine vY ?_|refine vZ ?_|refine za.mk _ ‹_› ?_|refine vP (show (_:BitVec 64)≠_ by decide) ?_));all_goals try conv=>whnf
   iterate 3 (exfalso;omega)
   have e0:w=a.W.toNat:=by omega
   subst e0
   rw [show zcU (okM a b) a.W.toNat k x a.W.toNat=dfs (okM a b) a.W.toNat (k+1) x from rfl] at hcc
   rw [hcc] at hres
   cases hres
   refine ⟨trivial,_,[(0,0),(1,1),(2,2),(3,3),(4,4),(5,5),(6,6),(7,7),(9,9),(10,8)],[],rfl,.inl (by (repeat' first|exact trivial|exact rfl|exact ⟨_,rfl⟩|exact .inl rfl|exact .inr (.inl ⟨rfl,rfl⟩)|exact .inr (.inr ⟨rfl,rfl⟩)|refine And.intro ?_ ?_|refine ⟨_,rfl,?_⟩|decide|exact of_decide_eq_true rfl)),⟨by rfl,by rfl,by rfl,trivial,by (repeat' first|exact trivial|exact rfl|exact ⟨_,rfl⟩|exact .inl rfl|exact .inr (.inl ⟨rfl,rfl⟩)|exact .inr (.inr ⟨rfl,rfl⟩)|refine And.intro ?_ ?_|refine ⟨_,rfl,?_⟩|decide|exact of_decide_eq_true rfl)⟩,by (repeat' first|exact trivial|exact rfl|exact ⟨_,rfl⟩|exact .inl rfl|exact .inr (.inl ⟨rfl,rfl⟩)|exact .inr (.inr ⟨rfl,rfl⟩)|refine And.intro ?_ ?_|refine ⟨_,rfl,?_⟩|decide|exact of_decide_eq_true rfl)⟩
end
end Go.Ab
namespace Go.Ab
open Go Go.Proofs
set_option maxRecDepth 10000
set_option maxHeartbeats 4000000
variable {T:Nat→Obj→Prop}
theorem zob:zcf []=0#64:=by decide
section
variable {a b:KM} (ha:zk a=0) (hb:zk b=0) (hW:a.W=b.W) (hr:a.rel.length=b.rel.length) (h12:a.W≤12)
include ha hb hW hr h12
theorem zmF (hT:zeh T) (c:Int) (h0:0≤c) (h1:c+(dfs (okM a b) a.W.toNat a.W.toNat []).length≤1000000000):Fn Tryz.prog T zdo [.d (dKM a),.d (dKM b),.fn zL [.ptr 0 0]] [.box [.d (.int .i64 c)]] (.tup []) [some (.box [.d (.int .i64 (c+(dfs (okM a b) a.W.toNat a.W.toNat []).length))])]:=by
 have ga:=zD ha
 have w1:=ga.w1
 have c1:=zfm hT a (fun _=>h12)
 have c2:=zfm hT b (fun _=>by omega)
 rw [zng,if_neg (by omega)] at c1 c2
 rw [show (zeZ a.W.toNat (zai a) (zV a)).1=zab a from rfl] at c1
 rw [show (zeZ b.W.toNat (zai b) (zV b)).1=zab b from rfl,← hW] at c2
 have cr:=zoD (T:=T) ha hb hW hr a.W.toNat [] c (by simp) (fun u hu=>by simp at hu) h0 h1
 dsimp only [zsr] at cr
 rw [zob] at cr
 refine zK zw zff (by show 3≤29;decide) _ (fun e env mem n h=>h) ?_
 (repeat' ((conv=>whnf);first|refine vA ?_|refine vB fun b hb=>?_|refine vC (fun hl=>?_) fun i kv vv hi=>?_|refine vE ?_|refine vG ?_|refine vH ?_|((first|refine vD ?_ ?_|refine vF ?_ ?_|refine vI ?_ ?_)<;>intro hc<;>try simp only [vL] at hc)|refine vJ fun hg=>?_|refine vK fun hg=>?_|refine vT ?_|refine vN ‹_› ?_|(refine vQ ?_ fun x hx=>?_;·first|omega|(simp only [vM] at *;omega))|((first|refine vO ?_ ?_|refine vR ?_ ‹_› ?_|refine vS ?_ fun x hx=>?_|refine vP ?_ ?_);·first|omega|(simp only [vM] at *;omega))|refine vW ⟨by omega,by omega⟩ ?_|(refine vU ?_ ?_;·kernel_rfl)|refine vX ?_|refine vY ?_|refine vZ ?_|refine yN c1 ⟨⟨rfl,rfl⟩,rfl⟩ ?_|refine yN c2 ⟨⟨rfl,rfl⟩,rfl⟩ ?_|refine za.mk _ ‹_› ?_|refine vP (show (_:BitVec 64)≠_ by decide) ?_));all_goals try conv=>whnf
 refine zM.objs [7,1,3,2,8,4,5,9,6,0] cr (by (repeat' first|exact trivial|exact rfl|exact ⟨_,rfl⟩|exact .inl rfl|exact .inr (.inl ⟨rfl,rfl⟩)|exact .inr (.inr ⟨rfl,rfl⟩)|refine And.intro ?_ ?_|refine ⟨_,rfl,?_⟩|decide|exact of_decide_eq_true rfl)) (by (repeat' first|exact trivial|exact rfl|exact ⟨_,rfl⟩|exact .inl rfl|exact .inr (.inl ⟨rfl,rfl⟩)|exact .inr (.inr ⟨rfl,rfl⟩)|refine And.intro ?_ ?_|refine ⟨_,rfl,?_⟩|decide|exact of_decide_eq_true rfl)) (by rfl) (by kernel_rfl) (by simp) ?_
 (repeat' ((conv=>whnf);first|refine vA ?_|refine vB fun b hb=>?_|refine vC (fun hl=>?_) fun i kv vv hi=>?_|refine vE ?_|refine vG ?_|refine vH ?_|((first|refine vD ?_ ?_|refine vF ?_ ?_|refine vI ?_ ?_)<;>intro hc<;>try simp only [vL] at hc)|refine vJ fun hg=>?_|refine vK fun hg=>?_|refine vT ?_|refine vN ‹_› ?_|(refine vQ ?_ fun x hx=>?_;·first|omega|(simp only [vM] at *;omega))|((first|refine vO ?_ ?_|refine vR ?_ ‹_› ?_|refine vS ?_ fun x hx=>?_|refine vP ?_ ?_);·first|omega|(simp only [vM] at *;omega))|refine vW ⟨by omega,by omega⟩ ?_|(refine vU ?_ ?_;·kernel_rfl)|refine vX ?_|refine vY ?_|refine vZ ?_|refine za.mk _ ‹_› ?_|refine vP (show (_:BitVec 64)≠_ by decide) ?_));all_goals try conv=>whnf
 refine ⟨trivial,_,[(0,0)],[],rfl,.inl (by (repeat' first|exact trivial|exact rfl|exact ⟨_,rfl⟩|exact .inl rfl|exact .inr (.inl ⟨rfl,rfl⟩)|exact .inr (.inr ⟨rfl,rfl⟩)|refine And.intro ?_ ?_|refine ⟨_,rfl,?_⟩|decide|exact of_decide_eq_true rfl)),⟨by rfl,by rfl,by rfl,trivial,by (repeat' first|exact trivial|exact rfl|exact ⟨_,rfl⟩|exact .inl rfl|exact .inr (.inl ⟨rfl,rfl⟩)|exact .inr (.inr ⟨rfl,rfl⟩)|refine And.intro ?_ ?_|refine ⟨_,rfl,?_⟩|decide|exact of_decide_eq_true rfl)⟩,by (repeat' first|exact trivial|exact rfl|exact ⟨_,rfl⟩|exact .inl rfl|exact .inr (.inl ⟨rfl,rfl⟩)|exact .inr (.inr ⟨rfl,rfl⟩)|refine And.intro ?_ ?_|refine ⟨_,rfl,?_⟩|decide|exact of_decide_eq_true rfl)⟩
theorem zh3 (hT:zeh T) (bo:Bool) (u':BitVec 64) (r':List Nat) (v':V) (hv:v' = .nils 1 ∨ ∃ y,v' = .d (dN y)) (hres:zpw [] (dfs (okM a b) a.W.toNat a.W.toNat []) bo u' r' v'):Fn Tryz.prog T zdo [.d (dKM a),.d (dKM b),.fn zQ [.ptr 0 0]] [.box [.nils 1]] (.tup []) [some (.box [v'])]:=by
 have ga:=zD ha
 have w1:=ga.w1
 have c1:=zfm hT a (fun _=>h12)
 have c2:=zfm hT b (fun _=>by omega)
 rw [zng,if_neg (by omega)] at c1 c2
 rw [show (zeZ a.W.toNat (zai a) (zV a)).1=zab a from rfl] at c1
 rw [show (zeZ b.W.toNat (zai b) (zV b)).1=zab b from rfl,← hW] at c2
 have cr:=zoE (T:=T) ha hb hW hr a.W.toNat [] (by simp) (fun u hu=>by simp at hu) _ _ _ _ hres
 dsimp only [zss] at cr
 rw [zob] at cr
 rcases hv with rfl|⟨y,rfl⟩
 all_goals
  refine zK zw zff (by show 3≤29;decide) _ (fun e env mem n h=>h) ?_
  (repeat' ((conv=>whnf);first|refine vA ?_|refine vB fun b hb=>?_|refine vC (fun hl=>?_) fun i kv vv hi=>?_|refine vE ?_|refine vG ?_|refine vH ?_|((first|refine vD ?_ ?_|refine vF ?_ ?_|refine vI ?_ ?_)<;>intro hc<;>try simp only [vL] at hc)|refine vJ fun hg=>?_|refine vK fun hg=>?_|refine vT ?_|refine vN ‹_› ?_|(refine vQ ?_ fun x hx=>?_;·first|omega|(simp only [vM] at *;omega))|((first|refine vO ?_ ?_|refine vR ?_ ‹_› ?_|refine vS ?_ fun x hx=>?_|refine vP ?_ ?_);·first|omega|(simp only [vM] at *;omega))|refine vW ⟨by omega,by omega⟩ ?_|(refine vU ?_ ?_;·kernel_rfl)|refine vX ?_|refine vY ?_|refine vZ ?_|refine yN c1 ⟨⟨rfl,rfl⟩,rfl⟩ ?_|refine yN c2 ⟨⟨rfl,rfl⟩,rfl⟩ ?_|refine za.mk _ ‹_› ?_|refine vP (show (_:BitVec 64)≠_ by decide) ?_));all_goals try conv=>whnf
  refine zM.objs [7,1,3,2,8,4,5,9,6,0] cr (by (repeat' first|exact trivial|exact rfl|exact ⟨_,rfl⟩|exact .inl rfl|exact .inr (.inl ⟨rfl,rfl⟩)|exact .inr (.inr ⟨rfl,rfl⟩)|refine And.intro ?_ ?_|refine ⟨_,rfl,?_⟩|decide|exact of_decide_eq_true rfl)) (by (repeat' first|exact trivial|exact rfl|exact ⟨_,rfl⟩|exact .inl rfl|exact .inr (.inl ⟨rfl,rfl⟩)|exact .inr (.inr ⟨rfl,rfl⟩)|refine And.intro ?_ ?_|refine ⟨_,rfl,?_⟩|decide|exact of_decide_eq_true rfl)) (by rfl) (by kernel_rfl) (by simp) ?_
  (repeat' ((conv=>whnf);first|refine vA ?_|refine vB fun b hb=>?_|refine vC (fun hl=>?_) fun i kv vv hi=>?_|refine vE ?_|refine vG ?_|refine vH ?_|((first|refine vD ?_ ?_|refine vF ?_ ?_|refine vI ?_ ?_)<;>intro hc<;>try simp only [vL] at hc)|refine vJ fun hg=>?_|refine vK fun hg=>?_|refine vT ?_|refine vN ‹_› ?_|(refine vQ ?_ fun x hx=>?_;·first|omega|(simp only [vM] at *;omega))|((first|refine vO ?_ ?_|refine vR ?_ ‹_› ?_|refine vS ?_ fun x hx=>?_|refine vP ?_ ?_);·first|omega|(simp only [vM] at *;omega))|refine vW ⟨by omega,by omega⟩ ?_|(refine vU ?_ ?_;·kernel_rfl)|refine vX ?_|refine vY ?_|refine vZ ?_|refine za.mk _ ‹_› ?_|refine vP (show (_:BitVec 64)≠_ by decide) ?_));all_goals try conv=>whnf
  refine ⟨trivial,_,[(0,0)],[],rfl,.inl (by (repeat' first|exact trivial|exact rfl|exact ⟨_,rfl⟩|exact .inl rfl|exact .inr (.inl ⟨rfl,rfl⟩)|exact .inr (.inr ⟨rfl,rfl⟩)|refine And.intro ?_ ?_|refine ⟨_,rfl,?_⟩|decide|exact of_decide_eq_true rfl)),⟨by rfl,by rfl,by rfl,trivial,by (repeat' first|exact trivial|exact rfl|exact ⟨_,rfl⟩|exact .inl rfl|exact .inr (.inl ⟨rfl,rfl⟩)|exact .inr (.inr ⟨rfl,rfl⟩)|refine And.intro ?_ ?_|refine ⟨_,rfl,?_⟩|decide|exact of_decide_eq_true rfl)⟩,by (repeat' first|exact trivial|exact rfl|exact ⟨_,rfl⟩|exact .inl rfl|exact .inr (.inl ⟨rfl,rfl⟩)|exact .inr (.inr ⟨rfl,rfl⟩)|refine And.intro ?_ ?_|refine ⟨_,rfl,?_⟩|decide|exact of_decide_eq_true rfl)⟩
end
noncomputable def zfR (a b:KM):List Int×Int:=if za5 a b≠0 then ([],za5 a b) else if 12 < a.W∨12 < b.W then ([],8) else if a.W≠b.W then ([],6) else match dfs (okM a b) a.W.toNat a.W.toNat [] with
 | []=>([],6)
 | y::_=>(y.map fun (x:Nat)=>(x:Int),0)
noncomputable def zig (m:KM):Int×Int:=if zk m≠0 then (0,zk m) else if 8 < m.W then (0,8) else ((dfs (okM m m) m.W.toNat m.W.toNat []).length,0)
theorem zr5 (hT:zeh T) (m:KM):Fn Tryz.prog T zcW [.d (dKM m)] [] (.d (.tup [.int .i64 (zig m).1,.int .i64 (zig m).2])) []:=by
 refine zo zw zfT (by show 1≤19;decide) ?_
 (repeat' ((conv=>whnf);first|refine vA ?_|refine vB fun b hb=>?_|refine vC (fun hl=>?_) fun i kv vv hi=>?_|refine vE ?_|refine vG ?_|refine vH ?_|((first|refine vD ?_ ?_|refine vF ?_ ?_|refine vI ?_ ?_)<;>intro hc<;>try simp only [vL] at hc)|refine vJ fun hg=>?_|refine vK fun hg=>?_|refine vT ?_|refine vN ‹_› ?_|(refine vQ ?_ fun x hx=>?_;·first|omega|(simp only [vM] at *;omega))|((first|refine vO ?_ ?_|refine vR ?_ ‹_› ?_|refine vS ?_ fun x hx=>?_|refine vP ?_ ?_);·first|omega|(simp only [vM] at *;omega))|refine vW ⟨by omega,by omega⟩ ?_|(refine vU ?_ ?_;·kernel_rfl)|refine vX ?_|refine vY ?_|refine vZ ?_|refine yD (zcY _) ⟨⟨rfl,rfl⟩,rfl⟩ rfl ?_|refine za.mk _ ‹_› ?_|refine vP (show (_:BitVec 64)≠_ by decide) ?_));all_goals try conv=>whnf
 ·rw [zig,if_pos ‹_›];rfl
 ·rw [zig,if_neg (by omega),if_pos ‹_›];rfl
 ·have ha:zk m=0:=by omega
  have h8:m.W≤8:=by omega
  have w1:=(zD ha).w1
  have hl:=zo6 (ok:=okM m m) (n:=m.W.toNat) m.W.toNat []
  have hp:m.W.toNat ^ m.W.toNat≤8 ^ 8:=Nat.le_trans (Nat.pow_le_pow_left (by omega) _) (Nat.pow_le_pow_right (by decide) (by omega))
  have h8':(8:Nat) ^ 8=16777216:=by decide
  have cs:=zmF ha ha rfl rfl (by omega) hT 0 (by omega) (by omega)
  refine zM.objs [1] (cs) (by (repeat' first|exact trivial|exact rfl|exact ⟨_,rfl⟩|exact .inl rfl|exact .inr (.inl ⟨rfl,rfl⟩)|exact .inr (.inr ⟨rfl,rfl⟩)|refine And.intro ?_ ?_|refine ⟨_,rfl,?_⟩|decide|exact of_decide_eq_true rfl)) (by (repeat' first|exact trivial|exact rfl|exact ⟨_,rfl⟩|exact .inl rfl|exact .inr (.inl ⟨rfl,rfl⟩)|exact .inr (.inr ⟨rfl,rfl⟩)|refine And.intro ?_ ?_|refine ⟨_,rfl,?_⟩|decide|exact of_decide_eq_true rfl)) (by rfl) (by rfl) (by simp) ?_
  (repeat' ((conv=>whnf);first|refine vA ?_|refine vB fun b hb=>?_|refine vC (fun hl=>?_) fun i kv vv hi=>?_|refine vE ?_|refine vG ?_|refine vH ?_|((first|refine vD ?_ ?_|refine vF ?_ ?_|refine vI ?_ ?_)<;>intro hc<;>try simp only [vL] at hc)|refine vJ fun hg=>?_|refine vK fun hg=>?_|refine vT ?_|refine vN ‹_› ?_|(refine vQ ?_ fun x hx=>?_;·first|omega|(simp only [vM] at *;omega))|((first|refine vO ?_ ?_|refine vR ?_ ‹_› ?_|refine vS ?_ fun x hx=>?_|refine vP ?_ ?_);·first|omega|(simp only [vM] at *;omega))|refine vW ⟨by omega,by omega⟩ ?_|(refine vU ?_ ?_;·kernel_rfl)|refine vX ?_|refine vY ?_|refine vZ ?_|refine za.mk _ ‹_› ?_|refine vP (show (_:BitVec 64)≠_ by decide) ?_));all_goals try conv=>whnf
  rw [zig,if_neg (by omega),if_neg (by omega)]
  refine congrArg (fun z=>some (D.tup [D.int .i64 z,D.int .i64 0])) ?_
  simp
theorem ztY (hT:zeh T) (a b:KM):Fn Tryz.prog T zdP [.d (dKM a),.d (dKM b)] [] (.d (.tup [dI (zfR a b).1,.int .i64 (zfR a b).2])) []:=by
 by_cases he:za5 a b=0
 ·obtain ⟨ha,hb,hr,hv⟩:=zmg he
  have ga:=zD ha
  have w1:=ga.w1
  have cb:=zlD (T:=T) a b
  rw [he] at cb
  by_cases h12:12 < a.W∨12 < b.W
  ·refine zo zw zaz (by show 2≤34;decide) ?_
   (repeat' ((conv=>whnf);first|refine vA ?_|refine vB fun b hb=>?_|refine vC (fun hl=>?_) fun i kv vv hi=>?_|refine vE ?_|refine vG ?_|refine vH ?_|((first|refine vD ?_ ?_|refine vF ?_ ?_|refine vI ?_ ?_)<;>intro hc<;>try simp only [vL] at hc)|refine vJ fun hg=>?_|refine vK fun hg=>?_|refine vT ?_|refine vN ‹_› ?_|(refine vQ ?_ fun x hx=>?_;·first|omega|(simp only [vM] at *;omega))|((first|refine vO ?_ ?_|refine vR ?_ ‹_› ?_|refine vS ?_ fun x hx=>?_|refine vP ?_ ?_);·first|omega|(simp only [vM] at *;omega))|refine vW ⟨by omega,by omega⟩ ?_|(refine vU ?_ ?_;·kernel_rfl)|refine vX ?_|refine vY ?_|refine vZ ?_|refine yD cb ⟨⟨rfl,rfl⟩,⟨rfl,rfl⟩,rfl⟩ rfl ?_|refine za.mk _ ‹_› ?_|refine vP (show (_:BitVec 64)≠_ by decide) ?_));all_goals try conv=>whnf
   iterate 2 (rw [zfR,if_neg (by omega),if_pos h12];rfl)
   all_goals (exfalso;omega)
  ·by_cases hW:a.W=b.W
   ·have hlen : ∀ y∈dfs (okM a b) a.W.toNat a.W.toNat [],y.length=a.W.toNat:=fun y hy=>by have:=(zdN.1 hy).1;simpa using this
    cases hD:dfs (okM a b) a.W.toNat a.W.toNat [] with
    | nil =>
     have cs:=zh3 ha hb hW hr (by omega) hT true (zcf []) [] (.nils 1) (.inl rfl) (by rw [hD];exact .no)
     refine zo zw zaz (by show 2≤34;decide) ?_
     (repeat' ((conv=>whnf);first|refine vA ?_|refine vB fun b hb=>?_|refine vC (fun hl=>?_) fun i kv vv hi=>?_|refine vE ?_|refine vG ?_|refine vH ?_|((first|refine vD ?_ ?_|refine vF ?_ ?_|refine vI ?_ ?_)<;>intro hc<;>try simp only [vL] at hc)|refine vJ fun hg=>?_|refine vK fun hg=>?_|refine vT ?_|refine vN ‹_› ?_|(refine vQ ?_ fun x hx=>?_;·first|omega|(simp only [vM] at *;omega))|((first|refine vO ?_ ?_|refine vR ?_ ‹_› ?_|refine vS ?_ fun x hx=>?_|refine vP ?_ ?_);·first|omega|(simp only [vM] at *;omega))|refine vW ⟨by omega,by omega⟩ ?_|(refine vU ?_ ?_;·kernel_rfl)|refine vX ?_|refine vY ?_|refine vZ ?_|refine yD cb ⟨⟨rfl,rfl⟩,⟨rfl,rfl⟩,rfl⟩ rfl ?_|refine za.mk _ ‹_› ?_|refine vP (show (_:BitVec 64)≠_ by decide) ?_));all_goals try conv=>whnf
     iterate 2 (exfalso;omega)
     ·refine zM.objs [2] (cs) (by (repeat' first|exact trivial|exact rfl|exact ⟨_,rfl⟩|exact .inl rfl|exact .inr (.inl ⟨rfl,rfl⟩)|exact .inr (.inr ⟨rfl,rfl⟩)|refine And.intro ?_ ?_|refine ⟨_,rfl,?_⟩|decide|exact of_decide_eq_true rfl)) (by (repeat' first|exact trivial|exact rfl|exact ⟨_,rfl⟩|exact .inl rfl|exact .inr (.inl ⟨rfl,rfl⟩)|exact .inr (.inr ⟨rfl,rfl⟩)|refine And.intro ?_ ?_|refine ⟨_,rfl,?_⟩|decide|exact of_decide_eq_true rfl)) (by rfl) (by rfl) (by simp) ?_
      (repeat' ((conv=>whnf);first|refine vA ?_|refine vB fun b hb=>?_|refine vC (fun hl=>?_) fun i kv vv hi=>?_|refine vE ?_|refine vG ?_|refine vH ?_|((first|refine vD ?_ ?_|refine vF ?_ ?_|refine vI ?_ ?_)<;>intro hc<;>try simp only [vL] at hc)|refine vJ fun hg=>?_|refine vK fun hg=>?_|refine vT ?_|refine vN ‹_› ?_|(refine vQ ?_ fun x hx=>?_;·first|omega|(simp only [vM] at *;omega))|((first|refine vO ?_ ?_|refine vR ?_ ‹_› ?_|refine vS ?_ fun x hx=>?_|refine vP ?_ ?_);·first|omega|(simp only [vM] at *;omega))|refine vW ⟨by omega,by omega⟩ ?_|(refine vU ?_ ?_;·kernel_rfl)|refine vX ?_|refine vY ?_|refine vZ ?_|refine za.mk _ ‹_› ?_|refine vP (show (_:BitVec 64)≠_ by decide) ?_));all_goals try conv=>whnf
      rw [zfR,if_neg (by omega),if_neg h12,if_neg (by omega),hD];rfl
     ·exact absurd hW ‹_›
    | cons y l =>
     have hyl:=hlen y (by rw [hD];simp)
     have cs:=zh3 ha hb hW hr (by omega) hT false (zcf y) y (.d (dN y)) (.inr ⟨y,rfl⟩) (by rw [hD];exact .yes y l)
     refine zo zw zaz (by show 2≤34;decide) ?_
     (repeat' ((conv=>whnf);first|refine vA ?_|refine vB fun b hb=>?_|refine vC (fun hl=>?_) fun i kv vv hi=>?_|refine vE ?_|refine vG ?_|refine vH ?_|((first|refine vD ?_ ?_|refine vF ?_ ?_|refine vI ?_ ?_)<;>intro hc<;>try simp only [vL] at hc)|refine vJ fun hg=>?_|refine vK fun hg=>?_|refine vT ?_|refine vN ‹_› ?_|(refine vQ ?_ fun x hx=>?_;·first|omega|(simp only [vM] at *;omega))|((first|refine vO ?_ ?_|refine vR ?_ ‹_› ?_|refine vS ?_ fun x hx=>?_|refine vP ?_ ?_);·first|omega|(simp only [vM] at *;omega))|refine vW ⟨by omega,by omega⟩ ?_|(refine vU ?_ ?_;·kernel_rfl)|refine vX ?_|refine vY ?_|refine vZ ?_|refine yD cb ⟨⟨rfl,rfl⟩,⟨rfl,rfl⟩,rfl⟩ rfl ?_|refine za.mk _ ‹_› ?_|refine vP (show (_:BitVec 64)≠_ by decide) ?_));all_goals try conv=>whnf
     iterate 2 (exfalso;omega)
     ·refine zM.objs [2] (cs) (by (repeat' first|exact trivial|exact rfl|exact ⟨_,rfl⟩|exact .inl rfl|exact .inr (.inl ⟨rfl,rfl⟩)|exact .inr (.inr ⟨rfl,rfl⟩)|refine And.intro ?_ ?_|refine ⟨_,rfl,?_⟩|decide|exact of_decide_eq_true rfl)) (by (repeat' first|exact trivial|exact rfl|exact ⟨_,rfl⟩|exact .inl rfl|exact .inr (.inl ⟨rfl,rfl⟩)|exact .inr (.inr ⟨rfl,rfl⟩)|refine And.intro ?_ ?_|refine ⟨_,rfl,?_⟩|decide|exact of_decide_eq_true rfl)) (by rfl) (by rfl) (by simp) ?_
      (repeat' ((conv=>whnf);first|refine vA ?_|refine vB fun b hb=>?_|refine vC (fun hl=>?_) fun i kv vv hi=>?_|refine vE ?_|refine vG ?_|refine vH ?_|((first|refine vD ?_ ?_|refine vF ?_ ?_|refine vI ?_ ?_)<;>intro hc<;>try simp only [vL] at hc)|refine vJ fun hg=>?_|refine vK fun hg=>?_|refine vT ?_|refine vN ‹_› ?_|(refine vQ ?_ fun x hx=>?_;·first|omega|(simp only [vM] at *;omega))|((first|refine vO ?_ ?_|refine vR ?_ ‹_› ?_|refine vS ?_ fun x hx=>?_|refine vP ?_ ?_);·first|omega|(simp only [vM] at *;omega))|refine vW ⟨by omega,by omega⟩ ?_|(refine vU ?_ ?_;·kernel_rfl)|refine vX ?_|refine vY ?_|refine vZ ?_|refine za.mk _ ‹_› ?_|refine vP (show (_:BitVec 64)≠_ by decide) ?_));all_goals try conv=>whnf
      ·rw [zfR,if_neg (by omega),if_neg h12,if_neg (by omega),hD];rfl
      ·have h1:(y.map fun (x:Nat)=>(x:Int)).map (D.int .i64)=[]:=hb (by simpa using hc)
       have h2:=congrArg List.length h1
       simp at h2
       rw [h2] at hyl;simp at hyl;omega
     ·exact absurd hW ‹_›
   ·refine zo zw zaz (by show 2≤34;decide) ?_
    (repeat' ((conv=>whnf);first|refine vA ?_|refine vB fun b hb=>?_|refine vC (fun hl=>?_) fun i kv vv hi=>?_|refine vE ?_|refine vG ?_|refine vH ?_|((first|refine vD ?_ ?_|refine vF ?_ ?_|refine vI ?_ ?_)<;>intro hc<;>try simp only [vL] at hc)|refine vJ fun hg=>?_|refine vK fun hg=>?_|refine vT ?_|refine vN ‹_› ?_|(refine vQ ?_ fun x hx=>?_;·first|omega|(simp only [vM] at *;omega))|((first|refine vO ?_ ?_|refine vR ?_ ‹_› ?_|refine vS ?_ fun x hx=>?_|refine vP ?_ ?_);·first|omega|(simp only [vM] at *;omega))|refine vW ⟨by omega,by omega⟩ ?_|(refine vU ?_ ?_;·kernel_rfl)|refine vX ?_|refine vY ?_|refine vZ ?_|refine yD cb ⟨⟨rfl,rfl⟩,⟨rfl,rfl⟩,rfl⟩ rfl ?_|refine za.mk _ ‹_› ?_|refine vP (show (_:BitVec 64)≠_ by decide) ?_));all_goals try conv=>whnf
    iterate 2 (exfalso;omega)
    ·exact absurd ‹_› hW
    ·rw [zfR,if_neg (by omega),if_neg h12,if_pos hW];rfl
 ·refine zo zw zaz (by show 2≤34;decide) ?_
  (repeat' ((conv=>whnf);first|refine vA ?_|refine vB fun b hb=>?_|refine vC (fun hl=>?_) fun i kv vv hi=>?_|refine vE ?_|refine vG ?_|refine vH ?_|((first|refine vD ?_ ?_|refine vF ?_ ?_|refine vI ?_ ?_)<;>intro hc<;>try simp only [vL] at hc)|refine vJ fun hg=>?_|refine vK fun hg=>?_|refine vT ?_|refine vN ‹_› ?_|(refine vQ ?_ fun x hx=>?_;·first|omega|(simp only [vM] at *;omega))|((first|refine vO ?_ ?_|refine vR ?_ ‹_› ?_|refine vS ?_ fun x hx=>?_|refine vP ?_ ?_);·first|omega|(simp only [vM] at *;omega))|refine vW ⟨by omega,by omega⟩ ?_|(refine vU ?_ ?_;·kernel_rfl)|refine vX ?_|refine vY ?_|refine vZ ?_|refine yD (zlD _ _) ⟨⟨rfl,rfl⟩,⟨rfl,rfl⟩,rfl⟩ rfl ?_|refine za.mk _ ‹_› ?_|refine vP (show (_:BitVec 64)≠_ by decide) ?_));all_goals try conv=>whnf
  ·rw [zfR,if_pos he];rfl
  all_goals exact absurd ‹za5 a b=0› he
end Go.Ab
namespace Go.Ab
open Go Go.Proofs
set_option maxRecDepth 10000
set_option maxHeartbeats 4000000
def zjk:List D→Option (List Int)
 | []=>some []
 | .int .i64 n::r=>match zjk r with
  | some l=>some (n::l)
  | none=>none
 | _=>none
theorem znI : ∀ {ds:List D} {l:List Int},zjk ds=some l→ds=l.map (D.int .i64)
 | [],l,h=>by cases h;rfl
 | .int .i64 n::r,l,h=>by
  unfold zjk at h
  split at h
  ·rename_i l' h';cases h;rw [znI h'];rfl
  ·cases h
def zf8:List D→Option (List (BitVec 64))
 | []=>some []
 | .u64 n::r=>match zf8 r with
  | some l=>some (n::l)
  | none=>none
 | _=>none
theorem zi9 : ∀ {ds:List D} {l:List (BitVec 64)},zf8 ds=some l→ds=l.map D.u64
 | [],l,h=>by cases h;rfl
 | .u64 n::r,l,h=>by
  unfold zf8 at h
  split at h
  ·rename_i l' h';cases h;rw [zi9 h'];rfl
  ·cases h
def zhb:List D→Option (List (List Int))
 | []=>some []
 | .arr 1 x::r=>match zjk x with
  | some a=>match zhb r with
   | some l=>some (a::l)
   | none=>none
  | none=>none
 | _=>none
theorem ziQ : ∀ {ds:List D} {l:List (List Int)},zhb ds=some l→ds=l.map dI
 | [],l,h=>by cases h;rfl
 | .arr 1 x::r,l,h=>by
  replace h:(match zjk x with
   | some a=>match zhb r with
    | some l=>some (a::l)
    | none=>none
   | none=>none)=some l:=h
  cases h1:zjk x with
  | none=>rw [h1] at h;cases h
  | some a =>
   cases h2:zhb r with
   | none=>rw [h1,h2] at h;cases h
   | some l'=>rw [h1,h2] at h;cases h;rw [ziQ h2,znI h1];rfl
def zlh:List D→Option (List (List (BitVec 64)))
 | []=>some []
 | .arr 1 x::r=>match zf8 x with
  | some a=>match zlh r with
   | some l=>some (a::l)
   | none=>none
  | none=>none
 | _=>none
theorem zn1 : ∀ {ds:List D} {l:List (List (BitVec 64))},zlh ds=some l→ds=l.map dU
 | [],l,h=>by cases h;rfl
 | .arr 1 x::r,l,h=>by
  replace h:(match zf8 x with
   | some a=>match zlh r with
    | some l=>some (a::l)
    | none=>none
   | none=>none)=some l:=h
  cases h1:zf8 x with
  | none=>rw [h1] at h;cases h
  | some a =>
   cases h2:zlh r with
   | none=>rw [h1,h2] at h;cases h
   | some l'=>rw [h1,h2] at h;cases h;rw [zn1 h2,zi9 h1];rfl
def zp2:D→Option KM
 | .agg [.int .i64 W,.arr 1 v,.arr 1 r]=>match zf8 v,zlh r with
  | some v,some r=>some ⟨W,v,r⟩
  | _,_=>none
 | _=>none
theorem zpb {d:D} {m:KM} (h:zp2 d=some m):d=dKM m:=by
 unfold zp2 at h
 split at h
 ·split at h
  ·rename_i h1 h2;cases h;rw [zi9 h1,zn1 h2]
  ·cases h
 ·cases h
def zqf (t:Tup):Bool:=Nat.ble t.length 1000&&t.all fun r=>Nat.ble r.length 1000
theorem ztP {t:Tup} (h:zqf t=true):Sml t:=by
 unfold zqf at h
 rw [Bool.and_eq_true,Nat.ble_eq] at h
 exact ⟨h.1,fun r hr=>by have:=List.all_eq_true.1 h.2 r hr;rwa [Nat.ble_eq] at this⟩
def znK:Fs:=fun f vs obs =>
 cond (Nat.beq f zE) (match vs,obs with
  | [.d (.arr 1 a),.d (.arr 1 b)],[]=>match zhb a,zhb b with
   | some a,some b=>cond (zqf a) (some (.d (.int .i64 (zaF a b)),[])) none
   | _,_=>none
  | _,_=>none)
 (cond (Nat.beq f zaq) (match vs,obs with
  | [.d (.u64 w)],[]=>some (.d (.int .i64 (Lib.ctz 64 w.toNat)),[])
  | _,_=>none)
 (cond (Nat.beq f zcJ) (match vs,obs with
  | [.d (.u64 w)],[]=>some (.d (.int .i64 (Sort.bitsLen w.toNat:Int)),[])
  | _,_=>none)
 (cond (Nat.beq f zdD) (match vs,obs with
  | [.d d],[]=>match zp2 d with
   | some m=>some (.d (.int .i64 (zk m)),[])
   | none=>none
  | _,_=>none)
 (cond (Nat.beq f zdE) (match vs,obs with
  | [.d d,.d (.int .i64 w)],[]=>match zp2 d with
   | some m=>some (.d (.int .i64 (ziz m w)),[])
   | none=>none
  | _,_=>none) none))))
def zuR (f:Nat):Bool:=Nat.beq f zR||(Nat.beq f zt||(Nat.beq f zdp||(Nat.beq f ze0||Nat.beq f zbp)))
noncomputable def zt6:Cfg:=⟨zj Tryz.prog,znK,fun _ _ _=>none,zuR,fun f=>Nat.beq f zco,150⟩
variable {T:Nat→Obj→Prop}
theorem zqP (hT:zeh T):zpu Tryz.prog T znK:=by
 intro f vs obs v obs' h
 unfold znK at h
 cases h1:Nat.beq f zE with
 | true =>
  rw [h1,cond_true] at h
  rw [Nat.eq_of_beq_eq_true h1]
  split at h
  ·split at h
   ·rename_i a b ha hb
    rw [ziQ ha,ziQ hb]
    cases hc:zqf a with
    | true=>rw [hc] at h;cases h;exact zfQ _ _ (ztP hc)
    | false=>rw [hc] at h;cases h
   ·cases h
  ·cases h
 | false =>
  rw [h1,cond_false] at h
  cases h2:Nat.beq f zaq with
  | true =>
   rw [h2,cond_true] at h
   rw [Nat.eq_of_beq_eq_true h2]
   split at h
   ·cases h;exact hT _
   ·cases h
  | false =>
   rw [h2,cond_false] at h
   cases h3:Nat.beq f zcJ with
   | true =>
    rw [h3,cond_true] at h
    rw [Nat.eq_of_beq_eq_true h3]
    split at h
    ·cases h;exact znA _
    ·cases h
   | false =>
    rw [h3,cond_false] at h
    cases h4:Nat.beq f zdD with
    | true =>
     rw [h4,cond_true] at h
     rw [Nat.eq_of_beq_eq_true h4]
     split at h
     ·split at h
      ·rename_i hm;cases h;rw [zpb hm];exact zcY _
      ·cases h
     ·cases h
    | false =>
     rw [h4,cond_false] at h
     cases h5:Nat.beq f zdE with
     | true =>
      rw [h5,cond_true] at h
      rw [Nat.eq_of_beq_eq_true h5]
      split at h
      ·split at h
       ·rename_i hm;cases h;rw [zpb hm];exact zgv _ _
       ·cases h
      ·cases h
     | false=>rw [h5] at h;cases h
theorem zti (hT:zeh T):zpt Tryz.prog T zt6:=⟨fun f c h=>h,zqP hT,fun g vs obs xs h=>by cases h⟩
end Go.Ab
namespace Go.Ab
open Go Go.Proofs
set_option maxRecDepth 10000
set_option maxHeartbeats 4000000
variable {T:Nat→Obj→Prop}
abbrev okR (a b:KM):List Nat→Nat→Bool:=okS (zai a) (zai b) (zV a) (zV b)
end Go.Ab
namespace Go.Ab
open Go Go.Proofs
set_option maxRecDepth 10000
set_option maxHeartbeats 4000000
variable {T:Nat→Obj→Prop}
noncomputable def zuW (a b:KM):List Int×Int:=if za5 a b≠0 then ([],za5 a b) else if 12 < a.W∨12 < b.W then ([],8) else if a.W≠b.W then ([],6) else match dfs (okR a b) a.W.toNat a.W.toNat [] with
 | []=>([],6)
 | y::_=>(y.map fun (x:Nat)=>(x:Int),0)
theorem zuO (m:KM):(dfs (okR m m) m.W.toNat m.W.toNat []).length=(dfs (okM m m) m.W.toNat m.W.toNat []).length:=(zqM rfl).symm
end Go.Ab
namespace Go.Ab
open Go Go.Proofs
set_option maxRecDepth 10000
set_option maxHeartbeats 4000000
variable {T:Nat→Obj→Prop}
def zfW (l:List Int) (x:Int):Int:=if x < l.length then l.getD x.toNat 0 else 0
def zlw (l:List Int) (x y:Int):Int:=if zfW l x≠zfW l y then if zfW l x < zfW l y then -1 else 1 else 0
def ltK (l:List Int) (x y:Int):Bool:=decide (zlw l x y < 0)
abbrev zjZ (l:List Int):D := .fn zaC [.box [.fn z2 [.box [dI l]]]]
theorem zo7 (l:List Int) (x:Int) (h0:0≤x):Fn Tryz.prog T z2 [.d (.int .i64 x),.d (.box [dI l])] [] (.d (.int .i64 (zfW l x))) []:=by
 refine zo zw zfp (by show 2≤12;decide) ?_
 by_cases hxl:x < l.length
 ·have e1:=zaL (l:=l) (d:=0) (show x.toNat < l.length by omega)
  (repeat' ((conv=>whnf);first|refine vA ?_|refine vB fun b hb=>?_|refine vC (fun hl=>?_) fun i kv vv hi=>?_|refine vE ?_|refine vG ?_|refine vH ?_|((first|refine vD ?_ ?_|refine vF ?_ ?_|refine vI ?_ ?_)<;>intro hc<;>try simp only [vL] at hc)|refine vJ fun hg=>?_|refine vK fun hg=>?_|refine vT ?_|refine vN ‹_› ?_|(refine vQ ?_ fun x hx=>?_;·first|omega|(simp only [vM] at *;omega))|((first|refine vO ?_ ?_|refine vR ?_ ‹_› ?_|refine vS ?_ fun x hx=>?_|refine vP ?_ ?_);·first|omega|(simp only [vM] at *;omega))|refine vW ⟨by omega,by omega⟩ ?_|(refine vU ?_ ?_;·kernel_rfl)|refine vX ?_|refine vY ?_|refine vZ ?_|refine za.mk _ ‹_› ?_|refine vP (show (_:BitVec 64)≠_ by decide) ?_));all_goals try conv=>whnf
  ·rw [zfW,if_pos hxl]
  all_goals (exfalso;omega)
 ·(repeat' ((conv=>whnf);first|refine vA ?_|refine vB fun b hb=>?_|refine vC (fun hl=>?_) fun i kv vv hi=>?_|refine vE ?_|refine vG ?_|refine vH ?_|((first|refine vD ?_ ?_|refine vF ?_ ?_|refine vI ?_ ?_)<;>intro hc<;>try simp only [vL] at hc)|refine vJ fun hg=>?_|refine vK fun hg=>?_|refine vT ?_|refine vN ‹_› ?_|(refine vQ ?_ fun x hx=>?_;·first|omega|(simp only [vM] at *;omega))|((first|refine vO ?_ ?_|refine vR ?_ ‹_› ?_|refine vS ?_ fun x hx=>?_|refine vP ?_ ?_);·first|omega|(simp only [vM] at *;omega))|refine vW ⟨by omega,by omega⟩ ?_|(refine vU ?_ ?_;·kernel_rfl)|refine vX ?_|refine vY ?_|refine vZ ?_|refine za.mk _ ‹_› ?_|refine vP (show (_:BitVec 64)≠_ by decide) ?_));all_goals try conv=>whnf
  all_goals first|(exfalso;omega)|rw [zfW,if_neg hxl]
theorem ztt (l:List Int) (x y:Int) (h0:0≤x) (h1:0≤y):Fn Tryz.prog T zaC [.d (.int .i64 x),.d (.int .i64 y),.d (.box [.fn z2 [.box [dI l]]])] [] (.d (.int .i64 (zlw l x y))) []:=by
 have cx:=zo7 (T:=T) l x h0
 have cy:=zo7 (T:=T) l y h1
 refine zo zw zfq (by show 3≤20;decide) ?_
 (repeat' ((conv=>whnf);first|refine vA ?_|refine vB fun b hb=>?_|refine vC (fun hl=>?_) fun i kv vv hi=>?_|refine vE ?_|refine vG ?_|refine vH ?_|((first|refine vD ?_ ?_|refine vF ?_ ?_|refine vI ?_ ?_)<;>intro hc<;>try simp only [vL] at hc)|refine vJ fun hg=>?_|refine vK fun hg=>?_|refine vT ?_|refine vN ‹_› ?_|(refine vQ ?_ fun x hx=>?_;·first|omega|(simp only [vM] at *;omega))|((first|refine vO ?_ ?_|refine vR ?_ ‹_› ?_|refine vS ?_ fun x hx=>?_|refine vP ?_ ?_);·first|omega|(simp only [vM] at *;omega))|refine vW ⟨by omega,by omega⟩ ?_|(refine vU ?_ ?_;·kernel_rfl)|refine vX ?_|refine vY ?_|refine vZ ?_|refine yD cx ⟨⟨rfl,rfl⟩,⟨rfl,rfl⟩,rfl⟩ rfl ?_|refine yD cy ⟨⟨rfl,rfl⟩,⟨rfl,rfl⟩,rfl⟩ rfl ?_|refine za.mk _ ‹_› ?_|refine vP (show (_:BitVec 64)≠_ by decide) ?_));all_goals try conv=>whnf
 ·rw [zlw,if_pos ‹_›,if_pos ‹_›]
 ·rw [zlw,if_pos ‹_›,if_neg (by omega)]
 ·rw [zlw,if_neg (by omega)]
abbrev zgN (d:Array Int):Ob := .row 1 (d.toList.map (D.int .i64))
theorem ztv (l:List Int) (d:Array Int) (b:Nat) (hd : ∀ x∈d.toList,0≤x) (hb:b≤d.size) (hs:d.size≤1000) :
  Fn Tryz.prog T zbf [.own 0,.d (.int .i64 0),.d (.int .i64 (b:Int)),.d (zjZ l)] [zgN d] (.tup []) [some (zgN (Sort.insertionSort (ltK l) d 0 b))]:=by
 refine zK zw zdr (by show 4≤53;decide) _ (fun e env mem n h=>h) ?_
 (repeat' ((conv=>whnf);first|refine vA ?_|refine vB fun b hb=>?_|refine vC (fun hl=>?_) fun i kv vv hi=>?_|refine vE ?_|refine vG ?_|refine vH ?_|((first|refine vD ?_ ?_|refine vF ?_ ?_|refine vI ?_ ?_)<;>intro hc<;>try simp only [vL] at hc)|refine vJ fun hg=>?_|refine vK fun hg=>?_|refine vT ?_|refine vN ‹_› ?_|(refine vQ ?_ fun x hx=>?_;·first|omega|(simp only [vM] at *;omega))|((first|refine vO ?_ ?_|refine vR ?_ ‹_› ?_|refine vS ?_ fun x hx=>?_|refine vP ?_ ?_);·first|omega|(simp only [vM] at *;omega))|refine vW ⟨by omega,by omega⟩ ?_|(refine vU ?_ ?_;·kernel_rfl)|refine vX ?_|refine vY ?_|refine vZ ?_|refine za.mk _ ‹_› ?_|refine vP (show (_:BitVec 64)≠_ by decide) ?_));all_goals try conv=>whnf
 refine zq (fun ((ii,xs):Int×List D)=>[(0,.own 0),(1,.d (.int .i64 (0))),(2,.d (.int .i64 ((b:Int)))),(3,.d (zjZ l)),(8,.d (.int .i64 (ii))),(zb,.own 0)]) (fun ((ii,xs):Int×List D)=>[(0,some (.row 1 xs))]) 1 (fun ((ii,xs):Int×List D) => ∃ (i:Nat) (e:Array Int),ii=i∧xs=e.toList.map (D.int .i64)∧0 < i∧i≤b+1∧e.size=d.size∧(∀ x∈e.toList,0≤x)∧Sort.insOuter (ltK l) 0 b i e=Sort.insertionSort (ltK l) d 0 b) (fun ((ii,xs):Int×List D)=>(b - ii).toNat) (((0:Int)+1,d.toList.map (D.int .i64))) [(0,0)] [] (⟨1,d,by omega,rfl,by omega,by omega,rfl,hd,rfl⟩) (by (refine ⟨rfl,rfl,rfl,?_,?_⟩;repeat' first|exact trivial|exact rfl|exact ⟨_,rfl⟩|exact .inl rfl|exact .inr (.inl ⟨rfl,rfl⟩)|exact .inr (.inr ⟨rfl,rfl⟩)|refine And.intro ?_ ?_|refine ⟨_,rfl,?_⟩|decide|exact of_decide_eq_true rfl)) ?_
 rintro ⟨_,_⟩ ⟨i,e,rfl,rfl,hi,hi2,he,hsm,hI⟩
 (repeat' ((conv=>whnf);first|refine vA ?_|refine vB fun b hb=>?_|refine vC (fun hl=>?_) fun i kv vv hi=>?_|refine vE ?_|refine vG ?_|refine vH ?_|((first|refine vD ?_ ?_|refine vF ?_ ?_|refine vI ?_ ?_)<;>intro hc<;>try simp only [vL] at hc)|refine vJ fun hg=>?_|refine vK fun hg=>?_|refine vT ?_|refine vN ‹_› ?_|(refine vQ ?_ fun x hx=>?_;·first|omega|(simp only [vM] at *;omega))|((first|refine vO ?_ ?_|refine vR ?_ ‹_› ?_|refine vS ?_ fun x hx=>?_|refine vP ?_ ?_);·first|omega|(simp only [vM] at *;omega))|refine vW ⟨by omega,by omega⟩ ?_|(refine vU ?_ ?_;·kernel_rfl)|refine vX ?_|refine vY ?_|refine vZ ?_|refine za.mk _ ‹_› ?_|refine vP (show (_:BitVec 64)≠_ by decide) ?_));all_goals try conv=>whnf
 ·refine zq (fun ((jj,xs):Int×List D)=>[(0,.own 0),(1,.d (.int .i64 (0))),(2,.d (.int .i64 ((b:Int)))),(3,.d (zjZ l)),(8,.d (.int .i64 ((i:Int)))),(9,.d (.int .i64 (jj))),(zb,.own 0)]) (fun ((jj,xs):Int×List D)=>[(0,some (.row 1 xs))]) 1 (fun ((jj,xs):Int×List D) => ∃ (j:Nat) (g:Array Int),jj=j∧xs=g.toList.map (D.int .i64)∧j≤i∧g.size=d.size∧(∀ x∈g.toList,0≤x)∧Sort.insInner (ltK l) 0 j g=Sort.insInner (ltK l) 0 i e) (fun ((jj,xs):Int×List D)=>jj.toNat) (((i:Int),e.toList.map (D.int .i64))) [(0,0)] [] (⟨i,e,rfl,rfl,by omega,he,hsm,rfl⟩) (by (refine ⟨rfl,rfl,rfl,?_,?_⟩;repeat' first|exact trivial|exact rfl|exact ⟨_,rfl⟩|exact .inl rfl|exact .inr (.inl ⟨rfl,rfl⟩)|exact .inr (.inr ⟨rfl,rfl⟩)|refine And.intro ?_ ?_|refine ⟨_,rfl,?_⟩|decide|exact of_decide_eq_true rfl)) ?_
  rintro ⟨_,_⟩ ⟨j,g,rfl,rfl,hj,hg,hgm,hJ⟩
  have hgl:g.toList.length=d.size:=by rw [Array.length_toList];exact hg
  have stop : ¬(0 < j∧ltK l g[j]! g[j - 1]! = true)→Sort.insOuter (ltK l) 0 b (i+1) g=Sort.insertionSort (ltK l) d 0 b:=fun h=>by
   rw [← hI,Sort.insOuter.eq_def (ltK l) 0 b i,if_pos (by omega),← hJ,ze3 h]
  by_cases hj0:0 < j
  ·have hx1:g.toList[j]? = some g[j]! := zaU (by omega)
   have hx2:g.toList[((j:Int) - 1).toNat]? = some g[j - 1]! := by rw [show ((j:Int) - 1).toNat=j - 1 by omega];exact zaU (by omega)
   have co:=ztt (T:=T) l g[j]! g[j - 1]! (hgm _ (List.mem_of_getElem? hx1)) (hgm _ (List.mem_of_getElem? hx2))
   (repeat' ((conv=>whnf);first|refine vA ?_|refine vB fun b hb=>?_|refine vC (fun hl=>?_) fun i kv vv hi=>?_|refine vE ?_|refine vG ?_|refine vH ?_|((first|refine vD ?_ ?_|refine vF ?_ ?_|refine vI ?_ ?_)<;>intro hc<;>try simp only [vL] at hc)|refine vJ fun hg=>?_|refine vK fun hg=>?_|refine vT ?_|refine vN ‹_› ?_|(refine vQ ?_ fun x hx=>?_;·first|omega|(simp only [vM] at *;omega))|((first|refine vO ?_ ?_|refine vR ?_ ‹_› ?_|refine vS ?_ fun x hx=>?_|refine vP ?_ ?_);·first|omega|(simp only [vM] at *;omega))|refine vW ⟨by omega,by omega⟩ ?_|(refine vU ?_ ?_;·kernel_rfl)|refine vX ?_|refine vY ?_|refine vZ ?_|refine yD co ⟨⟨rfl,rfl⟩,⟨rfl,rfl⟩,⟨rfl,rfl⟩,rfl⟩ rfl ?_|refine za.mk _ ‹_› ?_|refine vP (show (_:BitVec 64)≠_ by decide) ?_));all_goals try conv=>whnf
   ·refine ⟨(_,_),[(0,0)],[],?_,?_,by (refine ⟨rfl,rfl,rfl,?_,?_⟩;repeat' first|exact trivial|exact rfl|exact ⟨_,rfl⟩|exact .inl rfl|exact .inr (.inl ⟨rfl,rfl⟩)|exact .inr (.inr ⟨rfl,rfl⟩)|refine And.intro ?_ ?_|refine ⟨_,rfl,?_⟩|decide|exact of_decide_eq_true rfl)⟩
    ·refine ⟨j - 1,Sort.swp g j (j - 1),by omega,?_,by omega,by rw [zkq,hg],fun x hx=>hgm x (zps (by omega) (by omega) hx),?_⟩
     ·rw [show ((j:Int) - 1).toNat=j - 1 by omega] at hx2 ⊢
      exact zlR hx1 hx2
     ·exact (ze2 (d:=g) (j:=j) (by omega) (decide_eq_true ‹_›)).symm.trans hJ
    ·(first|omega|(simp only [vM] at *;omega))
   ·refine ⟨(_,_),[(0,0)],[],?_,?_,by (refine ⟨rfl,rfl,rfl,?_,?_⟩;repeat' first|exact trivial|exact rfl|exact ⟨_,rfl⟩|exact .inl rfl|exact .inr (.inl ⟨rfl,rfl⟩)|exact .inr (.inr ⟨rfl,rfl⟩)|refine And.intro ?_ ?_|refine ⟨_,rfl,?_⟩|decide|exact of_decide_eq_true rfl)⟩
    ·exact ⟨i+1,g,by omega,rfl,by omega,by omega,hg,hgm,stop fun h=>by
      have:=of_decide_eq_true h.2;omega⟩
    ·(first|omega|(simp only [vM] at *;omega))
   ·exfalso;omega
  ·(repeat' ((conv=>whnf);first|refine vA ?_|refine vB fun b hb=>?_|refine vC (fun hl=>?_) fun i kv vv hi=>?_|refine vE ?_|refine vG ?_|refine vH ?_|((first|refine vD ?_ ?_|refine vF ?_ ?_|refine vI ?_ ?_)<;>intro hc<;>try simp only [vL] at hc)|refine vJ fun hg=>?_|refine vK fun hg=>?_|refine vT ?_|refine vN ‹_› ?_|(refine vQ ?_ fun x hx=>?_;·first|omega|(simp only [vM] at *;omega))|((first|refine vO ?_ ?_|refine vR ?_ ‹_› ?_|refine vS ?_ fun x hx=>?_|refine vP ?_ ?_);·first|omega|(simp only [vM] at *;omega))|refine vW ⟨by omega,by omega⟩ ?_|(refine vU ?_ ?_;·kernel_rfl)|refine vX ?_|refine vY ?_|refine vZ ?_|refine za.mk _ ‹_› ?_|refine vP (show (_:BitVec 64)≠_ by decide) ?_));all_goals try conv=>whnf
   ·exfalso;omega
   ·refine ⟨(_,_),[(0,0)],[],?_,?_,by (refine ⟨rfl,rfl,rfl,?_,?_⟩;repeat' first|exact trivial|exact rfl|exact ⟨_,rfl⟩|exact .inl rfl|exact .inr (.inl ⟨rfl,rfl⟩)|exact .inr (.inr ⟨rfl,rfl⟩)|refine And.intro ?_ ?_|refine ⟨_,rfl,?_⟩|decide|exact of_decide_eq_true rfl)⟩
    ·exact ⟨i+1,g,by omega,rfl,by omega,by omega,hg,hgm,stop fun h=>by omega⟩
    ·(first|omega|(simp only [vM] at *;omega))
 ·have e0:Sort.insertionSort (ltK l) d 0 b=e:=by
   rw [← hI,Sort.insOuter,if_neg (by omega)]
  rw [e0]
  refine ⟨trivial,_,[(0,0)],[],rfl,.inl (by (repeat' first|exact trivial|exact rfl|exact ⟨_,rfl⟩|exact .inl rfl|exact .inr (.inl ⟨rfl,rfl⟩)|exact .inr (.inr ⟨rfl,rfl⟩)|refine And.intro ?_ ?_|refine ⟨_,rfl,?_⟩|decide|exact of_decide_eq_true rfl)),⟨by rfl,by rfl,by rfl,trivial,by (repeat' first|exact trivial|exact rfl|exact ⟨_,rfl⟩|exact .inl rfl|exact .inr (.inl ⟨rfl,rfl⟩)|exact .inr (.inr ⟨rfl,rfl⟩)|refine And.intro ?_ ?_|refine ⟨_,rfl,?_⟩|decide|exact of_decide_eq_true rfl)⟩,by (repeat' first|exact trivial|exact rfl|exact ⟨_,rfl⟩|exact .inl rfl|exact .inr (.inl ⟨rfl,rfl⟩)|exact .inr (.inr ⟨rfl,rfl⟩)|refine And.intro ?_ ?_|refine ⟨_,rfl,?_⟩|decide|exact of_decide_eq_true rfl)⟩
theorem zpW (l:List Int) (d:Array Int) (hd : ∀ x∈d.toList,0≤x) (hs:d.size≤19) :
  Fn Tryz.prog T zbi [.own 0,.d (zjZ l)] [zgN d] (.tup []) [some (zgN (Sort.insertionSort (ltK l) d 0 d.size))]:=by
 have cs:Fn Tryz.prog T zch [.own 0,.d (.int .i64 (d.size:Int)),.d (zjZ l)] [zgN d] (.tup []) [some (zgN (Sort.insertionSort (ltK l) d 0 d.size))]:=by
  refine zK zw zeT (by show 3≤63;decide) _ (fun e env mem n h=>h) ?_
  (repeat' ((conv=>whnf);first|refine vA ?_|refine vB fun b hb=>?_|refine vC (fun hl=>?_) fun i kv vv hi=>?_|refine vE ?_|refine vG ?_|refine vH ?_|((first|refine vD ?_ ?_|refine vF ?_ ?_|refine vI ?_ ?_)<;>intro hc<;>try simp only [vL] at hc)|refine vJ fun hg=>?_|refine vK fun hg=>?_|refine vT ?_|refine vN ‹_› ?_|(refine vQ ?_ fun x hx=>?_;·first|omega|(simp only [vM] at *;omega))|((first|refine vO ?_ ?_|refine vR ?_ ‹_› ?_|refine vS ?_ fun x hx=>?_|refine vP ?_ ?_);·first|omega|(simp only [vM] at *;omega))|refine vW ⟨by omega,by omega⟩ ?_|(refine vU ?_ ?_;·kernel_rfl)|refine vX ?_|refine vY ?_|refine vZ ?_|refine za.mk _ ‹_› ?_|refine vP (show (_:BitVec 64)≠_ by decide) ?_));all_goals try conv=>whnf
  refine zq (fun (u:Unit)=>[(0,.own 0),(1,.d (.int .i64 ((d.size:Int)))),(2,.d (zjZ l)),(6,.d (.int .i64 (20))),(7,.d (.int .i64 (0))),(8,.d (.int .i64 (20))),(zb,.own 0)]) (fun (u:Unit)=>[(0,some (zgN d))]) 1 (fun (u:Unit)=>True) (fun (u:Unit)=>0) (()) [(0,0)] [] (trivial) (by (refine ⟨rfl,rfl,rfl,?_,?_⟩;repeat' first|exact trivial|exact rfl|exact ⟨_,rfl⟩|exact .inl rfl|exact .inr (.inl ⟨rfl,rfl⟩)|exact .inr (.inr ⟨rfl,rfl⟩)|refine And.intro ?_ ?_|refine ⟨_,rfl,?_⟩|decide|exact of_decide_eq_true rfl)) ?_
  rintro u -
  (repeat' ((conv=>whnf);first|refine vA ?_|refine vB fun b hb=>?_|refine vC (fun hl=>?_) fun i kv vv hi=>?_|refine vE ?_|refine vG ?_|refine vH ?_|((first|refine vD ?_ ?_|refine vF ?_ ?_|refine vI ?_ ?_)<;>intro hc<;>try simp only [vL] at hc)|refine vJ fun hg=>?_|refine vK fun hg=>?_|refine vT ?_|refine vN ‹_› ?_|(refine vQ ?_ fun x hx=>?_;·first|omega|(simp only [vM] at *;omega))|((first|refine vO ?_ ?_|refine vR ?_ ‹_› ?_|refine vS ?_ fun x hx=>?_|refine vP ?_ ?_);·first|omega|(simp only [vM] at *;omega))|refine vW ⟨by omega,by omega⟩ ?_|(refine vU ?_ ?_;·kernel_rfl)|refine vX ?_|refine vY ?_|refine vZ ?_|refine za.mk _ ‹_› ?_|refine vP (show (_:BitVec 64)≠_ by decide) ?_));all_goals try conv=>whnf
  ·exfalso;omega
  refine zM.objs [0] (ztv l d d.size hd (Nat.le_refl _) (by omega)) (by (repeat' first|exact trivial|exact rfl|exact ⟨_,rfl⟩|exact .inl rfl|exact .inr (.inl ⟨rfl,rfl⟩)|exact .inr (.inr ⟨rfl,rfl⟩)|refine And.intro ?_ ?_|refine ⟨_,rfl,?_⟩|decide|exact of_decide_eq_true rfl)) (by (repeat' first|exact trivial|exact rfl|exact ⟨_,rfl⟩|exact .inl rfl|exact .inr (.inl ⟨rfl,rfl⟩)|exact .inr (.inr ⟨rfl,rfl⟩)|refine And.intro ?_ ?_|refine ⟨_,rfl,?_⟩|decide|exact of_decide_eq_true rfl)) (by rfl) (by rfl) (by simp) ?_
  (repeat' ((conv=>whnf);first|refine vA ?_|refine vB fun b hb=>?_|refine vC (fun hl=>?_) fun i kv vv hi=>?_|refine vE ?_|refine vG ?_|refine vH ?_|((first|refine vD ?_ ?_|refine vF ?_ ?_|refine vI ?_ ?_)<;>intro hc<;>try simp only [vL] at hc)|refine vJ fun hg=>?_|refine vK fun hg=>?_|refine vT ?_|refine vN ‹_› ?_|(refine vQ ?_ fun x hx=>?_;·first|omega|(simp only [vM] at *;omega))|((first|refine vO ?_ ?_|refine vR ?_ ‹_› ?_|refine vS ?_ fun x hx=>?_|refine vP ?_ ?_);·first|omega|(simp only [vM] at *;omega))|refine vW ⟨by omega,by omega⟩ ?_|(refine vU ?_ ?_;·kernel_rfl)|refine vX ?_|refine vY ?_|refine vZ ?_|refine za.mk _ ‹_› ?_|refine vP (show (_:BitVec 64)≠_ by decide) ?_));all_goals try conv=>whnf
  refine zq (fun (u:Unit)=>[(0,.own 0),(1,.d (.int .i64 ((d.size:Int)))),(2,.d (zjZ l)),(6,.d (.int .i64 (20))),(zb,.own 0)]) (fun (u:Unit)=>[(0,some (zgN (Sort.insertionSort (ltK l) d 0 d.size)))]) 1 (fun (u:Unit)=>True) (fun (u:Unit)=>0) (()) [(0,0)] [] (trivial) (by (refine ⟨rfl,rfl,rfl,?_,?_⟩;repeat' first|exact trivial|exact rfl|exact ⟨_,rfl⟩|exact .inl rfl|exact .inr (.inl ⟨rfl,rfl⟩)|exact .inr (.inr ⟨rfl,rfl⟩)|refine And.intro ?_ ?_|refine ⟨_,rfl,?_⟩|decide|exact of_decide_eq_true rfl)) ?_
  rintro u -
  (repeat' ((conv=>whnf);first|refine vA ?_|refine vB fun b hb=>?_|refine vC (fun hl=>?_) fun i kv vv hi=>?_|refine vE ?_|refine vG ?_|refine vH ?_|((first|refine vD ?_ ?_|refine vF ?_ ?_|refine vI ?_ ?_)<;>intro hc<;>try simp only [vL] at hc)|refine vJ fun hg=>?_|refine vK fun hg=>?_|refine vT ?_|refine vN ‹_› ?_|(refine vQ ?_ fun x hx=>?_;·first|omega|(simp only [vM] at *;omega))|((first|refine vO ?_ ?_|refine vR ?_ ‹_› ?_|refine vS ?_ fun x hx=>?_|refine vP ?_ ?_);·first|omega|(simp only [vM] at *;omega))|refine vW ⟨by omega,by omega⟩ ?_|(refine vU ?_ ?_;·kernel_rfl)|refine vX ?_|refine vY ?_|refine vZ ?_|refine za.mk _ ‹_› ?_|refine vP (show (_:BitVec 64)≠_ by decide) ?_));all_goals try conv=>whnf
  ·exfalso;omega
  refine ⟨trivial,_,[(0,0)],[],rfl,.inl (by (repeat' first|exact trivial|exact rfl|exact ⟨_,rfl⟩|exact .inl rfl|exact .inr (.inl ⟨rfl,rfl⟩)|exact .inr (.inr ⟨rfl,rfl⟩)|refine And.intro ?_ ?_|refine ⟨_,rfl,?_⟩|decide|exact of_decide_eq_true rfl)),⟨by rfl,by rfl,by rfl,trivial,by (repeat' first|exact trivial|exact rfl|exact ⟨_,rfl⟩|exact .inl rfl|exact .inr (.inl ⟨rfl,rfl⟩)|exact .inr (.inr ⟨rfl,rfl⟩)|refine And.intro ?_ ?_|refine ⟨_,rfl,?_⟩|decide|exact of_decide_eq_true rfl)⟩,by (repeat' first|exact trivial|exact rfl|exact ⟨_,rfl⟩|exact .inl rfl|exact .inr (.inl ⟨rfl,rfl⟩)|exact .inr (.inr ⟨rfl,rfl⟩)|refine And.intro ?_ ?_|refine ⟨_,rfl,?_⟩|decide|exact of_decide_eq_true rfl)⟩
 refine zK zw zdy (by show 2≤9;decide) _ (fun e env mem n h=>h) ?_
 rw [show ((d.size:Nat):Int)=(((d.toList.map (D.int .i64)).length:Nat):Int) by simp] at cs
 (repeat' ((conv=>whnf);first|refine vA ?_|refine vB fun b hb=>?_|refine vC (fun hl=>?_) fun i kv vv hi=>?_|refine vE ?_|refine vG ?_|refine vH ?_|((first|refine vD ?_ ?_|refine vF ?_ ?_|refine vI ?_ ?_)<;>intro hc<;>try simp only [vL] at hc)|refine vJ fun hg=>?_|refine vK fun hg=>?_|refine vT ?_|refine vN ‹_› ?_|(refine vQ ?_ fun x hx=>?_;·first|omega|(simp only [vM] at *;omega))|((first|refine vO ?_ ?_|refine vR ?_ ‹_› ?_|refine vS ?_ fun x hx=>?_|refine vP ?_ ?_);·first|omega|(simp only [vM] at *;omega))|refine vW ⟨by omega,by omega⟩ ?_|(refine vU ?_ ?_;·kernel_rfl)|refine vX ?_|refine vY ?_|refine vZ ?_|refine za.mk _ ‹_› ?_|refine vP (show (_:BitVec 64)≠_ by decide) ?_));all_goals try conv=>whnf
 refine zM.objs [0] (cs) (by (repeat' first|exact trivial|exact rfl|exact ⟨_,rfl⟩|exact .inl rfl|exact .inr (.inl ⟨rfl,rfl⟩)|exact .inr (.inr ⟨rfl,rfl⟩)|refine And.intro ?_ ?_|refine ⟨_,rfl,?_⟩|decide|exact of_decide_eq_true rfl)) (by (repeat' first|exact trivial|exact rfl|exact ⟨_,rfl⟩|exact .inl rfl|exact .inr (.inl ⟨rfl,rfl⟩)|exact .inr (.inr ⟨rfl,rfl⟩)|refine And.intro ?_ ?_|refine ⟨_,rfl,?_⟩|decide|exact of_decide_eq_true rfl)) (by rfl) (by rfl) (by simp) ?_
 (repeat' ((conv=>whnf);first|refine vA ?_|refine vB fun b hb=>?_|refine vC (fun hl=>?_) fun i kv vv hi=>?_|refine vE ?_|refine vG ?_|refine vH ?_|((first|refine vD ?_ ?_|refine vF ?_ ?_|refine vI ?_ ?_)<;>intro hc<;>try simp only [vL] at hc)|refine vJ fun hg=>?_|refine vK fun hg=>?_|refine vT ?_|refine vN ‹_› ?_|(refine vQ ?_ fun x hx=>?_;·first|omega|(simp only [vM] at *;omega))|((first|refine vO ?_ ?_|refine vR ?_ ‹_› ?_|refine vS ?_ fun x hx=>?_|refine vP ?_ ?_);·first|omega|(simp only [vM] at *;omega))|refine vW ⟨by omega,by omega⟩ ?_|(refine vU ?_ ?_;·kernel_rfl)|refine vX ?_|refine vY ?_|refine vZ ?_|refine za.mk _ ‹_› ?_|refine vP (show (_:BitVec 64)≠_ by decide) ?_));all_goals try conv=>whnf
 refine ⟨trivial,_,[(0,0)],[],rfl,.inl (by (repeat' first|exact trivial|exact rfl|exact ⟨_,rfl⟩|exact .inl rfl|exact .inr (.inl ⟨rfl,rfl⟩)|exact .inr (.inr ⟨rfl,rfl⟩)|refine And.intro ?_ ?_|refine ⟨_,rfl,?_⟩|decide|exact of_decide_eq_true rfl)),⟨by rfl,by rfl,by rfl,trivial,by (repeat' first|exact trivial|exact rfl|exact ⟨_,rfl⟩|exact .inl rfl|exact .inr (.inl ⟨rfl,rfl⟩)|exact .inr (.inr ⟨rfl,rfl⟩)|refine And.intro ?_ ?_|refine ⟨_,rfl,?_⟩|decide|exact of_decide_eq_true rfl)⟩,by (repeat' first|exact trivial|exact rfl|exact ⟨_,rfl⟩|exact .inl rfl|exact .inr (.inl ⟨rfl,rfl⟩)|exact .inr (.inr ⟨rfl,rfl⟩)|refine And.intro ?_ ?_|refine ⟨_,rfl,?_⟩|decide|exact of_decide_eq_true rfl)⟩
end Go.Ab
namespace Go.Ab
open Go Go.Proofs
set_option maxRecDepth 10000
set_option maxHeartbeats 4000000
variable {T:Nat→Obj→Prop}
theorem zhd {l:List Int} {x y:Int} : ltK l x y=true↔zfW l x < zfW l y:=by
 unfold ltK zlw
 rw [decide_eq_true_eq]
 split<;>(try split)<;>omega
theorem zuT (l:List Int):Sort.SWO (ltK l):=by
 refine ⟨fun x=>?_,fun x y z h1 h2=>?_,fun x y z h1 h2=>?_⟩
 ·rw [Bool.eq_false_iff];intro h;rw [zhd] at h;omega
 ·rw [zhd] at h1 h2 ⊢;omega
 ·rw [Bool.eq_false_iff] at h1 h2 ⊢
  intro h
  rw [zhd] at h
  by_cases k:zfW l x < zfW l y
  ·exact h1 (zhd.2 k)
  ·exact h2 (zhd.2 (by omega))
abbrev zgM (n:Nat):Array Int:=((List.range n).map fun (i:Nat)=>(i:Int)).toArray
def ze8 (l:List Int) (n:Nat):Array Int:=Sort.insertionSort (ltK l) (zgM n) 0 n
theorem zki (l:List Int) (n:Nat):(ze8 l n).toList.Perm ((List.range n).map fun (i:Nat)=>(i:Int)):=by
 have hs:(zgM n).size=n:=by simp [zgM]
 obtain ⟨⟨h1,-,h2⟩,-⟩:=Sort.insertionSort_holds (lt:=ltK l) (zuT l) (zgM n) 0 n (Nat.zero_le _) (by omega)
 have e : ∀ X:Array Int,X.size=n→(X.extract 0 n).toList=X.toList:=fun X hX=>by subst hX;simp
 rw [e _ (h1.trans hs),e _ hs] at h2
 exact h2
def zgI (l:List Int) (n:Nat) (i:Nat):Nat:=(at0 (ze8 l n).toList i).toNat
theorem zlL (l:List Int) (n:Nat):(ze8 l n).toList.length=n:=by rw [(zki l n).length_eq];simp
theorem zpe {l:List Int} {n:Nat} {x:Int} (h:x∈(ze8 l n).toList) : ∃ i:Nat,i < n∧x=(i:Int):=by
 rw [(zki l n).mem_iff,List.mem_map] at h
 obtain ⟨i,hi,rfl⟩:=h
 exact ⟨i,List.mem_range.1 hi,rfl⟩
theorem zld {l:List Int} {n i:Nat} (hi:i < n):(ze8 l n).toList[i]? = some ((zgI l n i:Nat):Int):=by
 have hl:=zlL l n
 have e:=List.getElem?_eq_getElem (l:=(ze8 l n).toList) (i:=i) (by omega)
 obtain ⟨j,-,hj⟩:=zpe (List.mem_of_getElem? e)
 have h0:at0 (ze8 l n).toList i=(ze8 l n).toList[i]'(by omega):=zm8 e
 rw [e];unfold zgI;rw [h0,hj];rfl
theorem zpf (l:List Int) (n:Nat):Ren n (zgI l n):=by
 have hl:=zlL l n
 have hnd:(ze8 l n).toList.Nodup:=(zki l n).nodup_iff.2 (by
  rw [List.Nodup,List.pairwise_map]
  exact List.Pairwise.imp (fun h e=>h (by omega)) List.nodup_range)
 refine ⟨fun i hi=>?_,fun i j hi hj e=>?_⟩
 ·obtain ⟨k,hk,e⟩:=zpe (List.mem_of_getElem? (zld (l:=l) hi))
  omega
 ·have h1:=zld (l:=l) hi
  have h2:=zld (l:=l) hj
  rw [e] at h1
  exact (List.getElem?_inj (by omega) hnd).1 (h1.trans h2.symm)
noncomputable def toQ (l:List Int) (n:Nat):Nat→Nat:=zen n (zgI l n)
theorem zlS (l:List Int) (n:Nat):Ren n (toQ l n):=(zpf l n).inv
end Go.Ab
namespace Go.Ab
open Go Go.Proofs
set_option maxRecDepth 10000
set_option maxHeartbeats 4000000
variable {T:Nat→Obj→Prop}
theorem zoG {m:KM} (hk0:zk m=0) {to:List Int} (hp:zay to m.W.toNat=true):Fn Tryz.prog T zg0 [.d (dKM m),.own 0] [.row 1 (to.map (D.int .i64))] (.d (dKI (zsA m to))) [some (.row 1 (to.map (D.int .i64)))]:=by
 have cc:=zcY (T:=T) m
 have hg0:=zD hk0
 have w1:=hg0.w1
 have w2:=hg0.w2
 have hlp:=(zbs.1 hp).1
 have h64:to.length≤64:=by omega
 have hW:m.W.toNat=to.length:=by omega
 rw [hk0] at cc
 refine zK zw zlG (by show 2≤61;decide) _ (fun e env mem n h=>h) ?_
 (repeat' ((conv=>whnf);first|refine vA ?_|refine vB fun b hb=>?_|refine vC (fun hl=>?_) fun i kv vv hi=>?_|refine vE ?_|refine vG ?_|refine vH ?_|((first|refine vD ?_ ?_|refine vF ?_ ?_|refine vI ?_ ?_)<;>intro hc<;>try simp only [vL] at hc)|refine vJ fun hg=>?_|refine vK fun hg=>?_|refine vT ?_|refine vN ‹_› ?_|(refine vQ ?_ fun x hx=>?_;·first|omega|(simp only [vM] at *;omega))|((first|refine vO ?_ ?_|refine vR ?_ ‹_› ?_|refine vS ?_ fun x hx=>?_|refine vP ?_ ?_);·first|omega|(simp only [vM] at *;omega))|refine vW ⟨by omega,by omega⟩ ?_|(refine vU ?_ ?_;·kernel_rfl)|refine vX ?_|refine vY ?_|refine vZ ?_|refine yD cc ⟨⟨rfl,rfl⟩,rfl⟩ rfl ?_|refine za.mk _ ‹_› ?_|refine vP (show (_:BitVec 64)≠_ by decide) ?_));all_goals try conv=>whnf
 ·exfalso;omega
 refine zq (fun ((k,s,zs):Nat×BitVec 64×List D)=>[(1,.own 0),(2,.ptr 1 0),(4,.ptr 2 0),(7,.own 3),(8,.d (.u64 (s))),(26,.own 0),(27,.d (.int .i64 ((to.map (D.int .i64)).length:Int))),(28,.d (.int .i64 ((k:Int)))),(zb,.own 0)]) (fun ((k,s,zs):Nat×BitVec 64×List D)=>[(0,some (.row 1 (to.map (D.int .i64)))),(1,some (zZ m)),(2,some (.box [.d (.int .i64 0),.nils 1,.nils 1])),(3,some (.row 1 zs))]) 4 (fun ((k,s,zs):Nat×BitVec 64×List D)=>zie to k s zs) (fun ((k,s,zs):Nat×BitVec 64×List D)=>to.length - k) ((0,0#64,List.replicate (((to.map (D.int .i64)).length:Int)).toNat (D.int .i64 0))) [(0,0),(1,1),(2,2),(3,3)] [] (⟨by simp,by simp,by simp,by simp,by rw [List.length_map,Int.toNat_natCast,zbb];simp⟩) (by (refine ⟨rfl,rfl,rfl,?_,?_⟩;repeat' first|exact trivial|exact rfl|exact ⟨_,rfl⟩|exact .inl rfl|exact .inr (.inl ⟨rfl,rfl⟩)|exact .inr (.inr ⟨rfl,rfl⟩)|refine And.intro ?_ ?_|refine ⟨_,rfl,?_⟩|decide|exact of_decide_eq_true rfl)) ?_
 rintro ⟨k,s,zs⟩ hI
 have hle:=hI.le
 have hzl:zs.length=to.length:=by rw [hI.row];simp
 by_cases hkl:k < to.length
 ·obtain ⟨x,hx⟩ : ∃ x,to[k]? = some x:=⟨_,List.getElem?_eq_getElem hkl⟩
  have hno : ¬(x < 0∨(to.length:Int)≤x∨s.getLsbD x.toNat=true):=fun h=>by
   have:=hI.bad h64 hx h
   rw [hW,this] at hp;cases hp
  (repeat' ((conv=>whnf);first|refine vA ?_|refine vB fun b hb=>?_|refine vC (fun hl=>?_) fun i kv vv hi=>?_|refine vE ?_|refine vG ?_|refine vH ?_|((first|refine vD ?_ ?_|refine vF ?_ ?_|refine vI ?_ ?_)<;>intro hc<;>try simp only [vL] at hc)|refine vJ fun hg=>?_|refine vK fun hg=>?_|refine vT ?_|refine vN ‹_› ?_|(refine vQ ?_ fun x hx=>?_;·first|omega|(simp only [vM] at *;omega))|((first|refine vO ?_ ?_|refine vR ?_ ‹_› ?_|refine vS ?_ fun x hx=>?_|refine vP ?_ ?_);·first|omega|(simp only [vM] at *;omega))|refine vW ⟨by omega,by omega⟩ ?_|(refine vU ?_ ?_;·kernel_rfl)|refine vX ?_|refine vY ?_|refine vZ ?_|refine za.mk _ ‹_› ?_|refine vP (show (_:BitVec 64)≠_ by decide) ?_));all_goals try conv=>whnf
  ·exact absurd (.inl ‹_›) hno
  ·exact absurd (.inr (.inl ‹_›)) hno
  ·exact absurd (.inr (.inr ((zaV _ _).1 ‹_›))) hno
  ·obtain ⟨y,rfl⟩ : ∃ y:Nat,x=(y:Int):=⟨x.toNat,by omega⟩
   refine ⟨(k+1,_,_),[(0,0),(1,1),(2,2),(3,3)],[],?_,?_,by (refine ⟨rfl,rfl,rfl,?_,?_⟩;repeat' first|exact trivial|exact rfl|exact ⟨_,rfl⟩|exact .inl rfl|exact .inr (.inl ⟨rfl,rfl⟩)|exact .inr (.inr ⟨rfl,rfl⟩)|refine And.intro ?_ ?_|refine ⟨_,rfl,?_⟩|decide|exact of_decide_eq_true rfl)⟩
   ·exact hI.next h64 hkl hx (by omega) (by rw [← Bool.not_eq_true];exact fun h=>absurd ((zaV _ _).2 h) ‹¬_=(1:BitVec 64)›)
   ·(first|omega|(simp only [vM] at *;omega))
  ·omega
 ·have e0:k=to.length:=by omega
  subst e0
  obtain ⟨d1,d2⟩:=hI.done
  have ca:=zoB (T:=T) hk0 (l:=zcq to to.length) (by rw [zjl];omega) (fun w hw=>by
   obtain ⟨i,hi,rfl⟩:=zsh hw
   rw [zjl] at hi
   have:=zuc d1 hi;omega)
  have hz:zs=((zcq to to.length).map fun (x:Nat)=>(x:Int)).map (D.int .i64):=by rw [d2,List.map_map];rfl
  clear d2 hI
  subst hz
  rw [zsA,if_neg (by omega),if_pos hp,hW]
  (repeat' ((conv=>whnf);first|refine vA ?_|refine vB fun b hb=>?_|refine vC (fun hl=>?_) fun i kv vv hi=>?_|refine vE ?_|refine vG ?_|refine vH ?_|((first|refine vD ?_ ?_|refine vF ?_ ?_|refine vI ?_ ?_)<;>intro hc<;>try simp only [vL] at hc)|refine vJ fun hg=>?_|refine vK fun hg=>?_|refine vT ?_|refine vN ‹_› ?_|(refine vQ ?_ fun x hx=>?_;·first|omega|(simp only [vM] at *;omega))|((first|refine vO ?_ ?_|refine vR ?_ ‹_› ?_|refine vS ?_ fun x hx=>?_|refine vP ?_ ?_);·first|omega|(simp only [vM] at *;omega))|refine vW ⟨by omega,by omega⟩ ?_|(refine vU ?_ ?_;·kernel_rfl)|refine vX ?_|refine vY ?_|refine vZ ?_|refine yN ca ⟨⟨rfl,rfl⟩,⟨rfl,rfl⟩,rfl⟩ ?_|refine za.mk _ ‹_› ?_|refine vP (show (_:BitVec 64)≠_ by decide) ?_));all_goals try conv=>whnf
  all_goals try (exfalso;omega)
  refine ⟨trivial,_,[(0,0)],[],rfl,.inr (.inl ⟨_,rfl,rfl,by rfl⟩),⟨by rfl,by rfl,by rfl,trivial,by (repeat' first|exact trivial|exact rfl|exact ⟨_,rfl⟩|exact .inl rfl|exact .inr (.inl ⟨rfl,rfl⟩)|exact .inr (.inr ⟨rfl,rfl⟩)|refine And.intro ?_ ?_|refine ⟨_,rfl,?_⟩|decide|exact of_decide_eq_true rfl)⟩,by (repeat' first|exact trivial|exact rfl|exact ⟨_,rfl⟩|exact .inl rfl|exact .inr (.inl ⟨rfl,rfl⟩)|exact .inr (.inr ⟨rfl,rfl⟩)|refine And.intro ?_ ?_|refine ⟨_,rfl,?_⟩|decide|exact of_decide_eq_true rfl)⟩
end Go.Ab
namespace Go.Ab
open Go Go.Proofs
set_option maxRecDepth 10000
set_option maxHeartbeats 4000000
variable {T:Nat→Obj→Prop}
noncomputable def zsz (m:KM) (l:List Int):KM:=zcD m (zcq (ptL m.W.toNat (toQ l m.W.toNat)) m.W.toNat)
theorem zuh {m:KM} (hk0:zk m=0) {l:List Int} : (zsz m l).W=m.W:=by
 have w1:=(zD hk0).w1
 show ((zcq _ _).length:Int)=m.W
 rw [zjl];omega
set_option maxHeartbeats 8000000 in
theorem zuq {m:KM} (hk0:zk m=0) (h19:m.W≤19) (l:List Int):Fn Tryz.prog T zdj [.d (dKM m),.d (dI l)] [] (.d (.tup [dKM (zsz m l),dI (ptL m.W.toNat (toQ l m.W.toNat)),.bool true])) []:=by
 have hg0:=zD hk0
 have w1:=hg0.w1
 have hsz:(zgM m.W.toNat).size=m.W.toNat:=by simp [zgM]
 have cs:=zpW (T:=T) l (zgM m.W.toNat) (fun x hx=>by
  simp [zgM] at hx;obtain ⟨i,-,rfl⟩:=hx;omega) (by omega)
 rw [hsz] at cs
 have hq:=zpf l m.W.toNat
 have hol:=zlL l m.W.toNat
 have c3:=zoG (T:=T) hk0 (zph (zlS l m.W.toNat))
 rw [zsA,if_neg (by omega),if_pos (zph (zlS l m.W.toNat))] at c3
 rw [show zgN (zgM m.W.toNat) = .row 1 (((List.range m.W.toNat).map fun (i:Nat)=>(i:Int)).map (D.int .i64)) from rfl,show Sort.insertionSort (ltK l) (zgM m.W.toNat) 0 m.W.toNat=ze8 l m.W.toNat from rfl] at cs
 refine zo zw zgi (by show 2≤64;decide) ?_
 (repeat' ((conv=>whnf);first|refine vA ?_|refine vB fun b hb=>?_|refine vC (fun hl=>?_) fun i kv vv hi=>?_|refine vE ?_|refine vG ?_|refine vH ?_|((first|refine vD ?_ ?_|refine vF ?_ ?_|refine vI ?_ ?_)<;>intro hc<;>try simp only [vL] at hc)|refine vJ fun hg=>?_|refine vK fun hg=>?_|refine vT ?_|refine vN ‹_› ?_|(refine vQ ?_ fun x hx=>?_;·first|omega|(simp only [vM] at *;omega))|((first|refine vO ?_ ?_|refine vR ?_ ‹_› ?_|refine vS ?_ fun x hx=>?_|refine vP ?_ ?_);·first|omega|(simp only [vM] at *;omega))|refine vW ⟨by omega,by omega⟩ ?_|(refine vU ?_ ?_;·kernel_rfl)|refine vX ?_|refine vY ?_|refine vZ ?_|refine za.mk _ ‹_› ?_|refine vP (show (_:BitVec 64)≠_ by decide) ?_));all_goals try conv=>whnf
 refine zq (fun ((k,zs):Nat×List D)=>[(2,.ptr 0 0),(3,.ptr 1 0),(4,.ptr 2 0),(7,.own 3),(19,.d (.int .i64 (((List.replicate m.W.toNat (D.int .i64 0)).length:Int)))),(20,.d (.int .i64 ((k:Int))))]) (fun ((k,zs):Nat×List D)=>[(0,some (zZ m)),(1,some (.box [.d (dI l)])),(2,some (.box [.d (.int .i64 0),.nils 1,.nils 1])),(3,some (.row 1 zs))]) 4 (fun ((k,zs):Nat×List D)=>k≤m.W.toNat∧zs=(List.range m.W.toNat).map fun i=>D.int .i64 (if i < k then (i:Int) else 0)) (fun ((k,zs):Nat×List D)=>m.W.toNat - k) ((0,List.replicate m.W.toNat (D.int .i64 0))) [(0,0),(1,1),(2,2),(3,3)] [] (⟨by omega,by simp only [Nat.not_lt_zero,if_false];exact zbb _ _⟩) (by (refine ⟨rfl,rfl,rfl,?_,?_⟩;repeat' first|exact trivial|exact rfl|exact ⟨_,rfl⟩|exact .inl rfl|exact .inr (.inl ⟨rfl,rfl⟩)|exact .inr (.inr ⟨rfl,rfl⟩)|refine And.intro ?_ ?_|refine ⟨_,rfl,?_⟩|decide|exact of_decide_eq_true rfl)) ?_
 rintro ⟨k,zs⟩ ⟨hk,hz⟩
 subst hz
 by_cases hkl:k < m.W.toNat
 ·have er:(List.range m.W.toNat)[k]? = some k:=List.getElem?_range hkl
  (repeat' ((conv=>whnf);first|refine vA ?_|refine vB fun b hb=>?_|refine vC (fun hl=>?_) fun i kv vv hi=>?_|refine vE ?_|refine vG ?_|refine vH ?_|((first|refine vD ?_ ?_|refine vF ?_ ?_|refine vI ?_ ?_)<;>intro hc<;>try simp only [vL] at hc)|refine vJ fun hg=>?_|refine vK fun hg=>?_|refine vT ?_|refine vN ‹_› ?_|(refine vQ ?_ fun x hx=>?_;·first|omega|(simp only [vM] at *;omega))|((first|refine vO ?_ ?_|refine vR ?_ ‹_› ?_|refine vS ?_ fun x hx=>?_|refine vP ?_ ?_);·first|omega|(simp only [vM] at *;omega))|refine vW ⟨by omega,by omega⟩ ?_|(refine vU ?_ ?_;·kernel_rfl)|refine vX ?_|refine vY ?_|refine vZ ?_|refine za.mk _ ‹_› ?_|refine vP (show (_:BitVec 64)≠_ by decide) ?_));all_goals try conv=>whnf
  ·refine ⟨(k+1,_),[(0,0),(1,1),(2,2),(3,3)],[],?_,?_,by (refine ⟨rfl,rfl,rfl,?_,?_⟩;repeat' first|exact trivial|exact rfl|exact ⟨_,rfl⟩|exact .inl rfl|exact .inr (.inl ⟨rfl,rfl⟩)|exact .inr (.inr ⟨rfl,rfl⟩)|refine And.intro ?_ ?_|refine ⟨_,rfl,?_⟩|decide|exact of_decide_eq_true rfl)⟩
   ·refine ⟨by omega,(zdS _).trans (zS fun u hu=>?_)⟩
    show (if u=k then _ else _)=_
    by_cases e:u=k
    ·subst e;rw [if_pos rfl,if_pos (by omega)]
    ·rw [if_neg e]
     by_cases e2:u < k
     ·rw [if_pos e2,if_pos (by omega)]
     ·rw [if_neg e2,if_neg (by omega)]
   ·(first|omega|(simp only [vM] at *;omega))
  all_goals (exfalso;omega)
 ·have hzz:((List.range m.W.toNat).map fun i=>D.int .i64 (if i < k then (i:Int) else 0))=((List.range m.W.toNat).map fun (i:Nat)=>(i:Int)).map (D.int .i64):=by
   rw [List.map_map];exact zS fun u hu=>by rw [if_pos (by omega)];rfl
  rw [hzz]
  (repeat' ((conv=>whnf);first|refine vA ?_|refine vB fun b hb=>?_|refine vC (fun hl=>?_) fun i kv vv hi=>?_|refine vE ?_|refine vG ?_|refine vH ?_|((first|refine vD ?_ ?_|refine vF ?_ ?_|refine vI ?_ ?_)<;>intro hc<;>try simp only [vL] at hc)|refine vJ fun hg=>?_|refine vK fun hg=>?_|refine vT ?_|refine vN ‹_› ?_|(refine vQ ?_ fun x hx=>?_;·first|omega|(simp only [vM] at *;omega))|((first|refine vO ?_ ?_|refine vR ?_ ‹_› ?_|refine vS ?_ fun x hx=>?_|refine vP ?_ ?_);·first|omega|(simp only [vM] at *;omega))|refine vW ⟨by omega,by omega⟩ ?_|(refine vU ?_ ?_;·kernel_rfl)|refine vX ?_|refine vY ?_|refine vZ ?_|refine za.mk _ ‹_› ?_|refine vP (show (_:BitVec 64)≠_ by decide) ?_));all_goals try conv=>whnf
  ·exfalso;omega
  refine zM.objsZ [3] [4,1] cs (by (repeat' first|exact trivial|exact rfl|exact ⟨_,rfl⟩|exact .inl rfl|exact .inr (.inl ⟨rfl,rfl⟩)|exact .inr (.inr ⟨rfl,rfl⟩)|refine And.intro ?_ ?_|refine ⟨_,rfl,?_⟩|decide|exact of_decide_eq_true rfl)) (by (repeat' first|exact trivial|exact rfl|exact ⟨_,rfl⟩|exact .inl rfl|exact .inr (.inl ⟨rfl,rfl⟩)|exact .inr (.inr ⟨rfl,rfl⟩)|refine And.intro ?_ ?_|refine ⟨_,rfl,?_⟩|decide|exact of_decide_eq_true rfl)) (by rfl) (by rfl) (by kernel_rfl) (by kernel_rfl) (by simp) ?_
  (repeat' ((conv=>whnf);first|refine vA ?_|refine vB fun b hb=>?_|refine vC (fun hl=>?_) fun i kv vv hi=>?_|refine vE ?_|refine vG ?_|refine vH ?_|((first|refine vD ?_ ?_|refine vF ?_ ?_|refine vI ?_ ?_)<;>intro hc<;>try simp only [vL] at hc)|refine vJ fun hg=>?_|refine vK fun hg=>?_|refine vT ?_|refine vN ‹_› ?_|(refine vQ ?_ fun x hx=>?_;·first|omega|(simp only [vM] at *;omega))|((first|refine vO ?_ ?_|refine vR ?_ ‹_› ?_|refine vS ?_ fun x hx=>?_|refine vP ?_ ?_);·first|omega|(simp only [vM] at *;omega))|refine vW ⟨by omega,by omega⟩ ?_|(refine vU ?_ ?_;·kernel_rfl)|refine vX ?_|refine vY ?_|refine vZ ?_|refine za.mk _ ‹_› ?_|refine vP (show (_:BitVec 64)≠_ by decide) ?_));all_goals try conv=>whnf
  refine zq (fun ((k,zs):Nat×List D)=>[(2,.ptr 0 0),(4,.ptr 1 0),(10,.own 2),(35,.own 3),(36,.d (.int .i64 (((ze8 l m.W.toNat).toList.map (D.int .i64)).length:Int))),(37,.d (.int .i64 ((k:Int))))]) (fun ((k,zs):Nat×List D)=>[(0,some (zZ m)),(1,some (.box [.d (.int .i64 0),.nils 1,.nils 1])),(2,some (.row 1 zs)),(3,some (zgN (ze8 l m.W.toNat)))]) 4 (fun ((k,zs):Nat×List D)=>k≤m.W.toNat∧zs=(List.range m.W.toNat).map fun i=>D.int .i64 (if toQ l m.W.toNat i < k then (toQ l m.W.toNat i:Int) else 0)) (fun ((k,zs):Nat×List D)=>m.W.toNat - k) ((0,List.replicate m.W.toNat (D.int .i64 0))) [(0,0),(1,2),(2,5),(3,3)] [] (⟨by omega,by simp only [Nat.not_lt_zero,if_false];exact zbb _ _⟩) (by (refine ⟨rfl,rfl,rfl,?_,?_⟩;repeat' first|exact trivial|exact rfl|exact ⟨_,rfl⟩|exact .inl rfl|exact .inr (.inl ⟨rfl,rfl⟩)|exact .inr (.inr ⟨rfl,rfl⟩)|refine And.intro ?_ ?_|refine ⟨_,rfl,?_⟩|decide|exact of_decide_eq_true rfl)) ?_
  clear hzz hkl hk
  rintro ⟨k,zs⟩ ⟨hk,hz⟩
  subst hz
  by_cases hkl:k < m.W.toNat
  ·have e1:=zld (l:=l) hkl
   have hqk:=hq.lt k hkl
   have er:(List.range m.W.toNat)[zgI l m.W.toNat k]? = some (zgI l m.W.toNat k):=List.getElem?_range hqk
   (repeat' ((conv=>whnf);first|refine vA ?_|refine vB fun b hb=>?_|refine vC (fun hl=>?_) fun i kv vv hi=>?_|refine vE ?_|refine vG ?_|refine vH ?_|((first|refine vD ?_ ?_|refine vF ?_ ?_|refine vI ?_ ?_)<;>intro hc<;>try simp only [vL] at hc)|refine vJ fun hg=>?_|refine vK fun hg=>?_|refine vT ?_|refine vN ‹_› ?_|(refine vQ ?_ fun x hx=>?_;·first|omega|(simp only [vM] at *;omega))|((first|refine vO ?_ ?_|refine vR ?_ ‹_› ?_|refine vS ?_ fun x hx=>?_|refine vP ?_ ?_);·first|omega|(simp only [vM] at *;omega))|refine vW ⟨by omega,by omega⟩ ?_|(refine vU ?_ ?_;·kernel_rfl)|refine vX ?_|refine vY ?_|refine vZ ?_|refine za.mk _ ‹_› ?_|refine vP (show (_:BitVec 64)≠_ by decide) ?_));all_goals try conv=>whnf
   ·refine ⟨(k+1,_),[(0,0),(1,1),(2,2),(3,3)],[],?_,?_,by (refine ⟨rfl,rfl,rfl,?_,?_⟩;repeat' first|exact trivial|exact rfl|exact ⟨_,rfl⟩|exact .inl rfl|exact .inr (.inl ⟨rfl,rfl⟩)|exact .inr (.inr ⟨rfl,rfl⟩)|refine And.intro ?_ ?_|refine ⟨_,rfl,?_⟩|decide|exact of_decide_eq_true rfl)⟩
    ·refine ⟨by omega,(zdS _).trans (zS fun u hu=>?_)⟩
     show (if u=zgI l m.W.toNat k then _ else _)=_
     unfold toQ
     by_cases e:u=zgI l m.W.toNat k
     ·subst e
      rw [if_pos rfl,zpZ hq hkl,if_pos (by omega)]
     ·rw [if_neg e]
      have hne:zen m.W.toNat (zgI l m.W.toNat) u≠k:=fun e'=>e (by rw [← e'];exact (zeG hq hu).2.symm)
      by_cases e2:zen m.W.toNat (zgI l m.W.toNat) u < k
      ·rw [if_pos e2,if_pos (by omega)]
      ·rw [if_neg e2,if_neg (by omega)]
    ·(first|omega|(simp only [vM] at *;omega))
   all_goals (exfalso;omega)
  ·have hzz:((List.range m.W.toNat).map fun i=>D.int .i64 (if toQ l m.W.toNat i < k then (toQ l m.W.toNat i:Int) else 0))=(ptL m.W.toNat (toQ l m.W.toNat)).map (D.int .i64):=by
    unfold ptL
    rw [List.map_map];exact zS fun u hu=>by rw [if_pos (by have:=(zlS l m.W.toNat).lt u hu;omega)];rfl
   rw [hzz]
   (repeat' ((conv=>whnf);first|refine vA ?_|refine vB fun b hb=>?_|refine vC (fun hl=>?_) fun i kv vv hi=>?_|refine vE ?_|refine vG ?_|refine vH ?_|((first|refine vD ?_ ?_|refine vF ?_ ?_|refine vI ?_ ?_)<;>intro hc<;>try simp only [vL] at hc)|refine vJ fun hg=>?_|refine vK fun hg=>?_|refine vT ?_|refine vN ‹_› ?_|(refine vQ ?_ fun x hx=>?_;·first|omega|(simp only [vM] at *;omega))|((first|refine vO ?_ ?_|refine vR ?_ ‹_› ?_|refine vS ?_ fun x hx=>?_|refine vP ?_ ?_);·first|omega|(simp only [vM] at *;omega))|refine vW ⟨by omega,by omega⟩ ?_|(refine vU ?_ ?_;·kernel_rfl)|refine vX ?_|refine vY ?_|refine vZ ?_|refine za.mk _ ‹_› ?_|refine vP (show (_:BitVec 64)≠_ by decide) ?_));all_goals try conv=>whnf
   ·exfalso;omega
   refine zM.objs [2] c3 (by (repeat' first|exact trivial|exact rfl|exact ⟨_,rfl⟩|exact .inl rfl|exact .inr (.inl ⟨rfl,rfl⟩)|exact .inr (.inr ⟨rfl,rfl⟩)|refine And.intro ?_ ?_|refine ⟨_,rfl,?_⟩|decide|exact of_decide_eq_true rfl)) (by (repeat' first|exact trivial|exact rfl|exact ⟨_,rfl⟩|exact .inl rfl|exact .inr (.inl ⟨rfl,rfl⟩)|exact .inr (.inr ⟨rfl,rfl⟩)|refine And.intro ?_ ?_|refine ⟨_,rfl,?_⟩|decide|exact of_decide_eq_true rfl)) (by rfl) (by kernel_rfl) (by simp) ?_
   (repeat' ((conv=>whnf);first|refine vA ?_|refine vB fun b hb=>?_|refine vC (fun hl=>?_) fun i kv vv hi=>?_|refine vE ?_|refine vG ?_|refine vH ?_|((first|refine vD ?_ ?_|refine vF ?_ ?_|refine vI ?_ ?_)<;>intro hc<;>try simp only [vL] at hc)|refine vJ fun hg=>?_|refine vK fun hg=>?_|refine vT ?_|refine vN ‹_› ?_|(refine vQ ?_ fun x hx=>?_;·first|omega|(simp only [vM] at *;omega))|((first|refine vO ?_ ?_|refine vR ?_ ‹_› ?_|refine vS ?_ fun x hx=>?_|refine vP ?_ ?_);·first|omega|(simp only [vM] at *;omega))|refine vW ⟨by omega,by omega⟩ ?_|(refine vU ?_ ?_;·kernel_rfl)|refine vX ?_|refine vY ?_|refine vZ ?_|refine za.mk _ ‹_› ?_|refine vP (show (_:BitVec 64)≠_ by decide) ?_));all_goals try conv=>whnf
   exact congrArg (fun b=>some (D.tup [dKM (zsz m l),dI (ptL m.W.toNat (toQ l m.W.toNat)),D.bool b])) (decide_eq_true (zuh (l:=l) hk0))
end Go.Ab
