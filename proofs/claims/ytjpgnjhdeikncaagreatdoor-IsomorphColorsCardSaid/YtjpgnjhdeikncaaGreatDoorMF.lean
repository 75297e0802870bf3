/- A part of the proofs of this seat: functions and their contracts. -/
import Derived.Test.YtjpgnjhdeikncaaGreatDoorME
set_option linter.unusedVariables false
set_option linter.unusedSimpArgs false
set_option linter.unusedSectionVars false
namespace Go.Ab
open Go Go.Proofs
set_option maxRecDepth 10000
set_option maxHeartbeats 4000000
variable {T:Nat→Obj→Prop}
theorem zoK (a b:KM):Fn Tryz.prog T zeI [.d (dKM a),.d (dKM b)] [] (.d (.int .i64 (z7 a b))) []:=by
 refine zg zp zje (by show 2≤33;decide) ?_
 (repeat' ((conv=>whnf);first|refine vA ?_|refine vB fun b hb=>?_|refine vC (fun hl=>?_) fun i kv vv hi=>?_|refine vE ?_|refine vG ?_|refine vH ?_|((first|refine vD ?_ ?_|refine vF ?_ ?_|refine vI ?_ ?_)<;>intro hc<;>try simp only [vL] at hc)|refine vJ fun hg=>?_|refine vK fun hg=>?_|refine vT ?_|refine vN ‹_› ?_|(refine vQ ?_ fun x hx=>?_;·first|omega|(simp only [vM] at *;omega))|((first|refine vO ?_ ?_|refine vR ?_ ‹_› ?_|refine vS ?_ fun x hx=>?_|refine vP ?_ ?_);·first|omega|(simp only [vM] at *;omega))|refine vW ⟨by omega,by omega⟩ ?_|(refine vU ?_ ?_;·kernel_rfl)|refine vX ?_|refine vY ?_|refine vZ ?_|refine yD (zd9 _) ⟨⟨rfl,rfl⟩,rfl⟩ rfl ?_|refine za.mk _ ‹_› ?_|refine vP (show (_:BitVec 64)≠_ by decide) ?_));all_goals try conv=>whnf
 ·rw [z7,if_pos ‹_›]
 ·rw [z7,if_neg (by omega),if_pos ‹_›]
 ·rw [z7,if_neg (by omega),if_neg (by omega),if_pos (by omega)]
 ·rw [z7,if_neg (by omega),if_neg (by omega),if_pos (by omega)]
 ·rw [z7,if_neg (by omega),if_neg (by omega),if_neg (by omega)]
theorem zvW (a b:KM) (to:List Int):Fn Tryz.prog T zes [.d (dKM a),.d (dKM b),.d (dI to)] [] (.d (.int .i64 (zaJ a b to))) []:=by
 have cf1:=zoK (T:=T) a b
 have cr2:=zq5 (T:=T) a to
 by_cases h1:z7 a b=0
 ·obtain ⟨ha,hb,hr,hv⟩:=zg0 h1
  rw [h1] at cf1
  by_cases hW:a.W=b.W
  ·cases hp:z1 to a.W.toNat with
   | false =>
    rw [zmT,if_neg (by omega),if_neg (by rw [hp];decide)] at cr2
    refine zg zp zbp (by show 3≤33;decide) ?_
    (repeat' ((conv=>whnf);first|refine vA ?_|refine vB fun b hb=>?_|refine vC (fun hl=>?_) fun i kv vv hi=>?_|refine vE ?_|refine vG ?_|refine vH ?_|((first|refine vD ?_ ?_|refine vF ?_ ?_|refine vI ?_ ?_)<;>intro hc<;>try simp only [vL] at hc)|refine vJ fun hg=>?_|refine vK fun hg=>?_|refine vT ?_|refine vN ‹_› ?_|(refine vQ ?_ fun x hx=>?_;·first|omega|(simp only [vM] at *;omega))|((first|refine vO ?_ ?_|refine vR ?_ ‹_› ?_|refine vS ?_ fun x hx=>?_|refine vP ?_ ?_);·first|omega|(simp only [vM] at *;omega))|refine vW ⟨by omega,by omega⟩ ?_|(refine vU ?_ ?_;·kernel_rfl)|refine vX ?_|refine vY ?_|refine vZ ?_|refine yD cf1 ⟨⟨rfl,rfl⟩,⟨rfl,rfl⟩,rfl⟩ rfl ?_|refine yN cr2 ⟨⟨rfl,rfl⟩,⟨rfl,rfl⟩,rfl⟩ ?_|refine za.mk _ ‹_› ?_|refine vP (show (_:BitVec 64)≠_ by decide) ?_));all_goals try conv=>whnf
    ·exact absurd hW ‹_›
    ·rw [zaJ,if_neg (by omega),if_neg (by omega),if_pos hp]
   | true =>
    rw [zmT,if_neg (by omega),if_pos hp] at cr2
    have cs3:=zq6 (T:=T) (zcq a (zbB to a.W.toNat)) b
    have hs:=ztE ha hb hW hv hr hp
    have hB:=ztD hr.symm hp
    refine zg zp zbp (by show 3≤33;decide) ?_
    (repeat' ((conv=>whnf);first|refine vA ?_|refine vB fun b hb=>?_|refine vC (fun hl=>?_) fun i kv vv hi=>?_|refine vE ?_|refine vG ?_|refine vH ?_|((first|refine vD ?_ ?_|refine vF ?_ ?_|refine vI ?_ ?_)<;>intro hc<;>try simp only [vL] at hc)|refine vJ fun hg=>?_|refine vK fun hg=>?_|refine vT ?_|refine vN ‹_› ?_|(refine vQ ?_ fun x hx=>?_;·first|omega|(simp only [vM] at *;omega))|((first|refine vO ?_ ?_|refine vR ?_ ‹_› ?_|refine vS ?_ fun x hx=>?_|refine vP ?_ ?_);·first|omega|(simp only [vM] at *;omega))|refine vW ⟨by omega,by omega⟩ ?_|(refine vU ?_ ?_;·kernel_rfl)|refine vX ?_|refine vY ?_|refine vZ ?_|refine yD cf1 ⟨⟨rfl,rfl⟩,⟨rfl,rfl⟩,rfl⟩ rfl ?_|refine yN cr2 ⟨⟨rfl,rfl⟩,⟨rfl,rfl⟩,rfl⟩ ?_|refine yD cs3 ⟨⟨rfl,rfl⟩,⟨rfl,rfl⟩,rfl⟩ rfl ?_|refine za.mk _ ‹_› ?_|refine vP (show (_:BitVec 64)≠_ by decide) ?_));all_goals try conv=>whnf
    ·exact absurd hW ‹_›
    ·rw [zaJ,if_neg (by omega),if_neg (by omega),if_neg (by rw [hp];decide),if_pos (hB.2 (hs.1 ‹_›))]
    ·rw [zaJ,if_neg (by omega),if_neg (by omega),if_neg (by rw [hp];decide),if_neg (fun h=>absurd (hs.2 (hB.1 h)) ‹_›)]
  ·refine zg zp zbp (by show 3≤33;decide) ?_
   (repeat' ((conv=>whnf);first|refine vA ?_|refine vB fun b hb=>?_|refine vC (fun hl=>?_) fun i kv vv hi=>?_|refine vE ?_|refine vG ?_|refine vH ?_|((first|refine vD ?_ ?_|refine vF ?_ ?_|refine vI ?_ ?_)<;>intro hc<;>try simp only [vL] at hc)|refine vJ fun hg=>?_|refine vK fun hg=>?_|refine vT ?_|refine vN ‹_› ?_|(refine vQ ?_ fun x hx=>?_;·first|omega|(simp only [vM] at *;omega))|((first|refine vO ?_ ?_|refine vR ?_ ‹_› ?_|refine vS ?_ fun x hx=>?_|refine vP ?_ ?_);·first|omega|(simp only [vM] at *;omega))|refine vW ⟨by omega,by omega⟩ ?_|(refine vU ?_ ?_;·kernel_rfl)|refine vX ?_|refine vY ?_|refine vZ ?_|refine yD cf1 ⟨⟨rfl,rfl⟩,⟨rfl,rfl⟩,rfl⟩ rfl ?_|refine za.mk _ ‹_› ?_|refine vP (show (_:BitVec 64)≠_ by decide) ?_));all_goals try conv=>whnf
   ·rw [zaJ,if_neg (by omega),if_pos hW]
   ·exact absurd ‹a.W=b.W› hW
 ·refine zg zp zbp (by show 3≤33;decide) ?_
  (repeat' ((conv=>whnf);first|refine vA ?_|refine vB fun b hb=>?_|refine vC (fun hl=>?_) fun i kv vv hi=>?_|refine vE ?_|refine vG ?_|refine vH ?_|((first|refine vD ?_ ?_|refine vF ?_ ?_|refine vI ?_ ?_)<;>intro hc<;>try simp only [vL] at hc)|refine vJ fun hg=>?_|refine vK fun hg=>?_|refine vT ?_|refine vN ‹_› ?_|(refine vQ ?_ fun x hx=>?_;·first|omega|(simp only [vM] at *;omega))|((first|refine vO ?_ ?_|refine vR ?_ ‹_› ?_|refine vS ?_ fun x hx=>?_|refine vP ?_ ?_);·first|omega|(simp only [vM] at *;omega))|refine vW ⟨by omega,by omega⟩ ?_|(refine vU ?_ ?_;·kernel_rfl)|refine vX ?_|refine vY ?_|refine vZ ?_|refine yD cf1 ⟨⟨rfl,rfl⟩,⟨rfl,rfl⟩,rfl⟩ rfl ?_|refine za.mk _ ‹_› ?_|refine vP (show (_:BitVec 64)≠_ by decide) ?_));all_goals try conv=>whnf
  ·rw [zaJ,if_pos h1]
  all_goals exact absurd ‹z7 a b=0› h1
end Go.Ab
namespace Go.Ab
open Go Go.Proofs
set_option maxRecDepth 10000
set_option maxHeartbeats 4000000
variable {T:Nat→Obj→Prop}
abbrev zeP (a b:KM) (o1 o2:V) (c:Int) (fl:Bool):Ob := .box [.d (.int .i64 a.W),.d (dU a.val),.d (dUU a.rel),.d (.int .i64 b.W),.d (dU b.val),.d (dUU b.rel),o1,o2,.d (.int .i64 c),.d (.bool fl)]
abbrev okR (a b:KM):List Nat→Nat→Bool:=okS (zS a) (zS b) (zu a) (zu b)
theorem zva {a b:KM} (hl:b.rel.length=a.rel.length) {x:List Nat} {w:Nat} : okR a b x w=true↔w ∉ x∧zei a b (fnL (x++[w])) x.length:=by
 unfold okR okS
 rw [zgV hl]
 have e:fnL (x++[w]) x.length=w:=by simp [fnL]
 rw [e]
 simp only [Bool.and_eq_true,Bool.not_eq_true',List.all_eq_true,List.mem_range,beq_iff_eq]
 constructor
 ·rintro ⟨h2,h3,h4⟩
  exact ⟨by simpa using h2,h3,fun u hu=>h4 u (by omega)⟩
 ·rintro ⟨h2,h3,h4⟩
  exact ⟨by simpa using h2,h3,fun u hu=>h4 u (by omega)⟩
section
variable {a b:KM} (ha:zj a=0) (hb:zj b=0) (hW:a.W=b.W) (hr:a.rel.length=b.rel.length)
include ha hb hW hr
set_option maxHeartbeats 8000000 in
theorem zoL (x:List Nat) (w:Nat) (c:Int) (fl:Bool) (fs:List D) (hxl:x.length < a.W.toNat) (hw:w < a.W.toNat) (hxn : ∀ u,u < x.length→x.getD u 0 < a.W.toNat) :
  Fn Tryz.prog T zet [.ptr 0 0,.d (.int .i64 (x.length:Int)),.d (.int .i64 (w:Int))] [zeP a b (.own 1) (.own 2) c fl,zbd x,.row 1 fs] (.d (.bool (okR a b x w))) [some (zeP a b (.own 1) (.own 2) c fl),some (zbd x),some (.row 1 fs)]:=by
 have ga:=zw ha
 have gb:=zw hb
 have w1:=ga.w1;have w2:=ga.w2;have n4:=ga.n4
 have ca:=ziq (T:=T) a (x.length:Int)
 rw [zfZ ha hxl] at ca
 have cb:=ziq (T:=T) b (w:Int)
 rw [zfZ hb (by omega)] at cb
 have hiff:=zva hr.symm (x:=x) (w:=w)
 have hno : ¬(w ∉ x∧zei a b (fnL (x++[w])) x.length)→okR a b x w=false:=fun h=>by
  cases e:okR a b x w with
  | false=>rfl
  | true=>exact absurd (hiff.1 e) h
 refine zN zp ziA (by show 3≤108;decide) _ (fun e env mem n h=>h) ?_
 (repeat' ((conv=>whnf);first|refine vA ?_|refine vB fun b hb=>?_|refine vC (fun hl=>?_) fun i kv vv hi=>?_|refine vE ?_|refine vG ?_|refine vH ?_|((first|refine vD ?_ ?_|refine vF ?_ ?_|refine vI ?_ ?_)<;>intro hc<;>try simp only [vL] at hc)|refine vJ fun hg=>?_|refine vK fun hg=>?_|refine vT ?_|refine vN ‹_› ?_|(refine vQ ?_ fun x hx=>?_;·first|omega|(simp only [vM] at *;omega))|((first|refine vO ?_ ?_|refine vR ?_ ‹_› ?_|refine vS ?_ fun x hx=>?_|refine vP ?_ ?_);·first|omega|(simp only [vM] at *;omega))|refine vW ⟨by omega,by omega⟩ ?_|(refine vU ?_ ?_;·kernel_rfl)|refine vX ?_|refine vY ?_|refine vZ ?_|refine yD ca ⟨⟨rfl,rfl⟩,⟨rfl,rfl⟩,rfl⟩ rfl ?_|refine yD cb ⟨⟨rfl,rfl⟩,⟨rfl,rfl⟩,rfl⟩ rfl ?_|refine za.mk _ ‹_› ?_|refine vP (show (_:BitVec 64)≠_ by decide) ?_));all_goals try conv=>whnf
 ·rw [hno fun h=>by have:=h.2.1;simp [fnL] at this;exact ‹zS a x.length≠zS b w› this]
  refine ⟨trivial,_,[(0,0),(1,1),(2,2)],[],rfl,.inl (by (repeat' first|exact trivial|exact rfl|exact ⟨_,rfl⟩|exact .inl rfl|exact .inr (.inl ⟨rfl,rfl⟩)|exact .inr (.inr ⟨rfl,rfl⟩)|refine And.intro ?_ ?_|refine ⟨_,rfl,?_⟩|decide|exact of_decide_eq_true rfl)),⟨by rfl,by rfl,by rfl,trivial,by (repeat' first|exact trivial|exact rfl|exact ⟨_,rfl⟩|exact .inl rfl|exact .inr (.inl ⟨rfl,rfl⟩)|exact .inr (.inr ⟨rfl,rfl⟩)|refine And.intro ?_ ?_|refine ⟨_,rfl,?_⟩|decide|exact of_decide_eq_true rfl)⟩,by (repeat' first|exact trivial|exact rfl|exact ⟨_,rfl⟩|exact .inl rfl|exact .inr (.inl ⟨rfl,rfl⟩)|exact .inr (.inr ⟨rfl,rfl⟩)|refine And.intro ?_ ?_|refine ⟨_,rfl,?_⟩|decide|exact of_decide_eq_true rfl)⟩
 ·refine zk (fun (i:Nat)=>[(0,.ptr 0 0),(1,.d (.int .i64 ((x.length:Int)))),(2,.d (.int .i64 ((w:Int)))),(7,.d (.int .i64 ((i:Int)))),(zb,.ptr 0 0),(zb+1,.own 1),(zb+2,.own 2)]) (fun (i:Nat)=>[(0,some (zeP a b (.own 1) (.own 2) c fl)),(1,some (zbd x)),(2,some (.row 1 fs))]) 3 (fun (i:Nat)=>i≤x.length+1∧(∀ j,j < i→j < x.length→x.getD j 0≠w) ∧ ∀ (k:Nat) r r',a.rel[k]? = some r→b.rel[k]? = some r' → ∀ u,u < i→rb r x.length u=rb r' w (fnL (x++[w]) u)∧rb r u x.length=rb r' (fnL (x++[w]) u) w) (fun (i:Nat)=>x.length+1 - i) (0) [(0,0),(1,1),(2,2)] [] (⟨by omega,fun j hj=>by omega,fun k r r' _ _ u hu=>by omega⟩) (by (refine ⟨rfl,rfl,rfl,?_,?_⟩;repeat' first|exact trivial|exact rfl|exact ⟨_,rfl⟩|exact .inl rfl|exact .inr (.inl ⟨rfl,rfl⟩)|exact .inr (.inr ⟨rfl,rfl⟩)|refine And.intro ?_ ?_|refine ⟨_,rfl,?_⟩|decide|exact of_decide_eq_true rfl)) ?_
  rintro i ⟨hi,hI,hJ⟩
  have hfn : ∀ j,j < x.length→fnL (x++[w]) j=x.getD j 0:=fun j hj=>by simp [fnL,List.getElem?_append_left hj]
  have hfw:fnL (x++[w]) x.length=w:=by simp [fnL]
  by_cases hil:i≤x.length
  ·by_cases hix:i < x.length
   ·have ei:=ze1 hix
    have hv:=hxn i hix
    have hfi:=hfn i hix
    obtain ⟨v,hvx⟩ : ∃ v,v=x.getD i 0:=⟨_,rfl⟩
    rw [← hvx] at ei hv hfi
    (repeat' ((conv=>whnf);first|refine vA ?_|refine vB fun b hb=>?_|refine vC (fun hl=>?_) fun i kv vv hi=>?_|refine vE ?_|refine vG ?_|refine vH ?_|((first|refine vD ?_ ?_|refine vF ?_ ?_|refine vI ?_ ?_)<;>intro hc<;>try simp only [vL] at hc)|refine vJ fun hg=>?_|refine vK fun hg=>?_|refine vT ?_|refine vN ‹_› ?_|(refine vQ ?_ fun x hx=>?_;·first|omega|(simp only [vM] at *;omega))|((first|refine vO ?_ ?_|refine vR ?_ ‹_› ?_|refine vS ?_ fun x hx=>?_|refine vP ?_ ?_);·first|omega|(simp only [vM] at *;omega))|refine vW ⟨by omega,by omega⟩ ?_|(refine vU ?_ ?_;·kernel_rfl)|refine vX ?_|refine vY ?_|refine vZ ?_|refine za.mk _ ‹_› ?_|refine vP (show (_:BitVec 64)≠_ by decide) ?_));all_goals try conv=>whnf
    all_goals try (exfalso;omega)
    ·rw [hno fun h=>h.1 (by rw [show w=x.getD i 0 by omega];exact zir hix)]
     refine ⟨trivial,_,[(0,0),(1,1),(2,2)],[],rfl,.inl (by (repeat' first|exact trivial|exact rfl|exact ⟨_,rfl⟩|exact .inl rfl|exact .inr (.inl ⟨rfl,rfl⟩)|exact .inr (.inr ⟨rfl,rfl⟩)|refine And.intro ?_ ?_|refine ⟨_,rfl,?_⟩|decide|exact of_decide_eq_true rfl)),⟨by rfl,by rfl,by rfl,trivial,by (repeat' first|exact trivial|exact rfl|exact ⟨_,rfl⟩|exact .inl rfl|exact .inr (.inl ⟨rfl,rfl⟩)|exact .inr (.inr ⟨rfl,rfl⟩)|refine And.intro ?_ ?_|refine ⟨_,rfl,?_⟩|decide|exact of_decide_eq_true rfl)⟩,by (repeat' first|exact trivial|exact rfl|exact ⟨_,rfl⟩|exact .inl rfl|exact .inr (.inl ⟨rfl,rfl⟩)|exact .inr (.inr ⟨rfl,rfl⟩)|refine And.intro ?_ ?_|refine ⟨_,rfl,?_⟩|decide|exact of_decide_eq_true rfl)⟩
    refine zk (fun (k:Nat)=>[(0,.ptr 0 0),(1,.d (.int .i64 ((x.length:Int)))),(2,.d (.int .i64 ((w:Int)))),(7,.d (.int .i64 ((i:Int)))),(8,.d (.int .i64 ((v:Int)))),(47,.d (.int .i64 ((a.rel.map dU).length:Int))),(48,.d (.int .i64 ((k:Int)))),(zb,.ptr 0 0),(zb+1,.own 1),(zb+2,.own 2)]) (fun (k:Nat)=>[(0,some (zeP a b (.own 1) (.own 2) c fl)),(1,some (zbd x)),(2,some (.row 1 fs))]) 3 (fun (k:Nat)=>k≤a.rel.length ∧ ∀ (j:Nat) r r',j < k→a.rel[j]? = some r→b.rel[j]? = some r'→rb r x.length i=rb r' w v∧rb r i x.length=rb r' v w) (fun (k:Nat)=>a.rel.length - k) (0) [(0,0),(1,1),(2,2)] [] (⟨by omega,fun j r r' hj=>by omega⟩) (by (refine ⟨rfl,rfl,rfl,?_,?_⟩;repeat' first|exact trivial|exact rfl|exact ⟨_,rfl⟩|exact .inl rfl|exact .inr (.inl ⟨rfl,rfl⟩)|exact .inr (.inr ⟨rfl,rfl⟩)|refine And.intro ?_ ?_|refine ⟨_,rfl,?_⟩|decide|exact of_decide_eq_true rfl)) ?_
    rintro k ⟨hk,hK⟩
    by_cases hkl:k < a.rel.length
    ·obtain ⟨r,har⟩ : ∃ r,a.rel[k]? = some r:=⟨_,List.getElem?_eq_getElem hkl⟩
     obtain ⟨r',hbr⟩ : ∃ r,b.rel[k]? = some r:=⟨_,List.getElem?_eq_getElem (by omega)⟩
     have hrl:=ga.len r (List.mem_of_getElem? har)
     have hrl':=gb.len r' (List.mem_of_getElem? hbr)
     have a1:=zV (l:=r) (d:=0#64) (show x.length < r.length by omega)
     have a2:=zV (l:=r) (d:=0#64) (show i < r.length by omega)
     have b1:=zV (l:=r') (d:=0#64) (show w < r'.length by omega)
     have b2:=zV (l:=r') (d:=0#64) (show v < r'.length by omega)
     (repeat' ((conv=>whnf);first|refine vA ?_|refine vB fun b hb=>?_|refine vC (fun hl=>?_) fun i kv vv hi=>?_|refine vE ?_|refine vG ?_|refine vH ?_|((first|refine vD ?_ ?_|refine vF ?_ ?_|refine vI ?_ ?_)<;>intro hc<;>try simp only [vL] at hc)|refine vJ fun hg=>?_|refine vK fun hg=>?_|refine vT ?_|refine vN ‹_› ?_|(refine vQ ?_ fun x hx=>?_;·first|omega|(simp only [vM] at *;omega))|((first|refine vO ?_ ?_|refine vR ?_ ‹_› ?_|refine vS ?_ fun x hx=>?_|refine vP ?_ ?_);·first|omega|(simp only [vM] at *;omega))|refine vW ⟨by omega,by omega⟩ ?_|(refine vU ?_ ?_;·kernel_rfl)|refine vX ?_|refine vY ?_|refine vZ ?_|refine yD (zhA _ _) ⟨⟨rfl,rfl⟩,⟨rfl,rfl⟩,rfl⟩ rfl ?_|refine za.mk _ ‹_› ?_|refine vP (show (_:BitVec 64)≠_ by decide) ?_));all_goals try conv=>whnf
     ·refine ⟨k+1,[(0,0),(1,1),(2,2)],[],?_,?_,by (refine ⟨rfl,rfl,rfl,?_,?_⟩;repeat' first|exact trivial|exact rfl|exact ⟨_,rfl⟩|exact .inl rfl|exact .inr (.inl ⟨rfl,rfl⟩)|exact .inr (.inr ⟨rfl,rfl⟩)|refine And.intro ?_ ?_|refine ⟨_,rfl,?_⟩|decide|exact of_decide_eq_true rfl)⟩
      ·refine ⟨by omega,fun j s s' hj h1 h2=>?_⟩
       by_cases e:j < k
       ·exact hK j s s' e h1 h2
       ·obtain rfl:j=k:=by omega
        rw [har] at h1;rw [hbr] at h2;cases h1;cases h2
        exact ⟨‹(r.getD x.length 0#64).getLsbD i=_›,‹(r.getD i 0#64).getLsbD x.length=_›⟩
      ·(first|omega|(simp only [vM] at *;omega))
     ·rw [hno fun h=>by
       have:=(h.2.2 k r r' har hbr i (by omega)).2
       rw [hfw,hfi] at this
       exact ‹¬(r.getD i 0#64).getLsbD x.length=_› this]
      refine ⟨trivial,_,[(0,0),(1,1),(2,2)],[],rfl,.inl (by (repeat' first|exact trivial|exact rfl|exact ⟨_,rfl⟩|exact .inl rfl|exact .inr (.inl ⟨rfl,rfl⟩)|exact .inr (.inr ⟨rfl,rfl⟩)|refine And.intro ?_ ?_|refine ⟨_,rfl,?_⟩|decide|exact of_decide_eq_true rfl)),⟨by rfl,by rfl,by rfl,trivial,by (repeat' first|exact trivial|exact rfl|exact ⟨_,rfl⟩|exact .inl rfl|exact .inr (.inl ⟨rfl,rfl⟩)|exact .inr (.inr ⟨rfl,rfl⟩)|refine And.intro ?_ ?_|refine ⟨_,rfl,?_⟩|decide|exact of_decide_eq_true rfl)⟩,by (repeat' first|exact trivial|exact rfl|exact ⟨_,rfl⟩|exact .inl rfl|exact .inr (.inl ⟨rfl,rfl⟩)|exact .inr (.inr ⟨rfl,rfl⟩)|refine And.intro ?_ ?_|refine ⟨_,rfl,?_⟩|decide|exact of_decide_eq_true rfl)⟩
     ·rw [hno fun h=>by
       have:=(h.2.2 k r r' har hbr i (by omega)).1
       rw [hfw,hfi] at this
       exact ‹¬(r.getD x.length 0#64).getLsbD i=_› this]
      refine ⟨trivial,_,[(0,0),(1,1),(2,2)],[],rfl,.inl (by (repeat' first|exact trivial|exact rfl|exact ⟨_,rfl⟩|exact .inl rfl|exact .inr (.inl ⟨rfl,rfl⟩)|exact .inr (.inr ⟨rfl,rfl⟩)|refine And.intro ?_ ?_|refine ⟨_,rfl,?_⟩|decide|exact of_decide_eq_true rfl)),⟨by rfl,by rfl,by rfl,trivial,by (repeat' first|exact trivial|exact rfl|exact ⟨_,rfl⟩|exact .inl rfl|exact .inr (.inl ⟨rfl,rfl⟩)|exact .inr (.inr ⟨rfl,rfl⟩)|refine And.intro ?_ ?_|refine ⟨_,rfl,?_⟩|decide|exact of_decide_eq_true rfl)⟩,by (repeat' first|exact trivial|exact rfl|exact ⟨_,rfl⟩|exact .inl rfl|exact .inr (.inl ⟨rfl,rfl⟩)|exact .inr (.inr ⟨rfl,rfl⟩)|refine And.intro ?_ ?_|refine ⟨_,rfl,?_⟩|decide|exact of_decide_eq_true rfl)⟩
     all_goals (exfalso;omega)
    ·(repeat' ((conv=>whnf);first|refine vA ?_|refine vB fun b hb=>?_|refine vC (fun hl=>?_) fun i kv vv hi=>?_|refine vE ?_|refine vG ?_|refine vH ?_|((first|refine vD ?_ ?_|refine vF ?_ ?_|refine vI ?_ ?_)<;>intro hc<;>try simp only [vL] at hc)|refine vJ fun hg=>?_|refine vK fun hg=>?_|refine vT ?_|refine vN ‹_› ?_|(refine vQ ?_ fun x hx=>?_;·first|omega|(simp only [vM] at *;omega))|((first|refine vO ?_ ?_|refine vR ?_ ‹_› ?_|refine vS ?_ fun x hx=>?_|refine vP ?_ ?_);·first|omega|(simp only [vM] at *;omega))|refine vW ⟨by omega,by omega⟩ ?_|(refine vU ?_ ?_;·kernel_rfl)|refine vX ?_|refine vY ?_|refine vZ ?_|refine za.mk _ ‹_› ?_|refine vP (show (_:BitVec 64)≠_ by decide) ?_));all_goals try conv=>whnf
     all_goals try (exfalso;omega)
     ·refine ⟨i+1,[(0,0),(1,1),(2,2)],[],?_,?_,by (refine ⟨rfl,rfl,rfl,?_,?_⟩;repeat' first|exact trivial|exact rfl|exact ⟨_,rfl⟩|exact .inl rfl|exact .inr (.inl ⟨rfl,rfl⟩)|exact .inr (.inr ⟨rfl,rfl⟩)|refine And.intro ?_ ?_|refine ⟨_,rfl,?_⟩|decide|exact of_decide_eq_true rfl)⟩
      ·refine ⟨by omega,fun j hj hjl=>?_,fun kk s s' h1 h2 u hu=>?_⟩
       ·by_cases e:j < i
        ·exact hI j e hjl
        ·obtain rfl:j=i:=by omega
         exact fun e=>‹¬(v:Int)=w› (by omega)
       ·by_cases e:u < i
        ·exact hJ kk s s' h1 h2 u e
        ·obtain rfl:u=i:=by omega
         have hkk:kk < k:=by have:=(List.getElem?_eq_some_iff.1 h1).1;omega
         rw [hfi]
         exact hK kk s s' hkk h1 h2
      ·(first|omega|(simp only [vM] at *;omega))
   ·obtain rfl:i=x.length:=by omega
    (repeat' ((conv=>whnf);first|refine vA ?_|refine vB fun b hb=>?_|refine vC (fun hl=>?_) fun i kv vv hi=>?_|refine vE ?_|refine vG ?_|refine vH ?_|((first|refine vD ?_ ?_|refine vF ?_ ?_|refine vI ?_ ?_)<;>intro hc<;>try simp only [vL] at hc)|refine vJ fun hg=>?_|refine vK fun hg=>?_|refine vT ?_|refine vN ‹_› ?_|(refine vQ ?_ fun x hx=>?_;·first|omega|(simp only [vM] at *;omega))|((first|refine vO ?_ ?_|refine vR ?_ ‹_› ?_|refine vS ?_ fun x hx=>?_|refine vP ?_ ?_);·first|omega|(simp only [vM] at *;omega))|refine vW ⟨by omega,by omega⟩ ?_|(refine vU ?_ ?_;·kernel_rfl)|refine vX ?_|refine vY ?_|refine vZ ?_|refine za.mk _ ‹_› ?_|refine vP (show (_:BitVec 64)≠_ by decide) ?_));all_goals try conv=>whnf
    all_goals try (exfalso;omega)
    refine zk (fun (k:Nat)=>[(0,.ptr 0 0),(1,.d (.int .i64 ((x.length:Int)))),(2,.d (.int .i64 ((w:Int)))),(7,.d (.int .i64 ((x.length:Int)))),(8,.d (.int .i64 ((w:Int)))),(47,.d (.int .i64 ((a.rel.map dU).length:Int))),(48,.d (.int .i64 ((k:Int)))),(zb,.ptr 0 0),(zb+1,.own 1),(zb+2,.own 2)]) (fun (k:Nat)=>[(0,some (zeP a b (.own 1) (.own 2) c fl)),(1,some (zbd x)),(2,some (.row 1 fs))]) 3 (fun (k:Nat)=>k≤a.rel.length ∧ ∀ (j:Nat) r r',j < k→a.rel[j]? = some r→b.rel[j]? = some r'→rb r x.length x.length=rb r' w w∧rb r x.length x.length=rb r' w w) (fun (k:Nat)=>a.rel.length - k) (0) [(0,0),(1,1),(2,2)] [] (⟨by omega,fun j r r' hj=>by omega⟩) (by (refine ⟨rfl,rfl,rfl,?_,?_⟩;repeat' first|exact trivial|exact rfl|exact ⟨_,rfl⟩|exact .inl rfl|exact .inr (.inl ⟨rfl,rfl⟩)|exact .inr (.inr ⟨rfl,rfl⟩)|refine And.intro ?_ ?_|refine ⟨_,rfl,?_⟩|decide|exact of_decide_eq_true rfl)) ?_
    rintro k ⟨hk,hK⟩
    by_cases hkl:k < a.rel.length
    ·obtain ⟨r,har⟩ : ∃ r,a.rel[k]? = some r:=⟨_,List.getElem?_eq_getElem hkl⟩
     obtain ⟨r',hbr⟩ : ∃ r,b.rel[k]? = some r:=⟨_,List.getElem?_eq_getElem (by omega)⟩
     have hrl:=ga.len r (List.mem_of_getElem? har)
     have hrl':=gb.len r' (List.mem_of_getElem? hbr)
     have a1:=zV (l:=r) (d:=0#64) (show x.length < r.length by omega)
     have b1:=zV (l:=r') (d:=0#64) (show w < r'.length by omega)
     (repeat' ((conv=>whnf);first|refine vA ?_|refine vB fun b hb=>?_|refine vC (fun hl=>?_) fun i kv vv hi=>?_|refine vE ?_|refine vG ?_|refine vH ?_|((first|refine vD ?_ ?_|refine vF ?_ ?_|refine vI ?_ ?_)<;>intro hc<;>try simp only [vL] at hc)|refine vJ fun hg=>?_|refine vK fun hg=>?_|refine vT ?_|refine vN ‹_› ?_|(refine vQ ?_ fun x hx=>?_;·first|omega|(simp only [vM] at *;omega))|((first|refine vO ?_ ?_|refine vR ?_ ‹_› ?_|refine vS ?_ fun x hx=>?_|refine vP ?_ ?_);·first|omega|(simp only [vM] at *;omega))|refine vW ⟨by omega,by omega⟩ ?_|(refine vU ?_ ?_;·kernel_rfl)|refine vX ?_|refine vY ?_|refine vZ ?_|refine yD (zhA _ _) ⟨⟨rfl,rfl⟩,⟨rfl,rfl⟩,rfl⟩ rfl ?_|refine za.mk _ ‹_› ?_|refine vP (show (_:BitVec 64)≠_ by decide) ?_));all_goals try conv=>whnf
     ·refine ⟨k+1,[(0,0),(1,1),(2,2)],[],?_,?_,by (refine ⟨rfl,rfl,rfl,?_,?_⟩;repeat' first|exact trivial|exact rfl|exact ⟨_,rfl⟩|exact .inl rfl|exact .inr (.inl ⟨rfl,rfl⟩)|exact .inr (.inr ⟨rfl,rfl⟩)|refine And.intro ?_ ?_|refine ⟨_,rfl,?_⟩|decide|exact of_decide_eq_true rfl)⟩
      ·refine ⟨by omega,fun j s s' hj h1 h2=>?_⟩
       by_cases e:j < k
       ·exact hK j s s' e h1 h2
       ·obtain rfl:j=k:=by omega
        rw [har] at h1;rw [hbr] at h2;cases h1;cases h2
        exact ⟨‹(r.getD x.length 0#64).getLsbD x.length=_›,‹(r.getD x.length 0#64).getLsbD x.length=_›⟩
      ·(first|omega|(simp only [vM] at *;omega))
     ·rw [hno fun h=>by
       have:=(h.2.2 k r r' har hbr x.length (by omega)).2
       rw [hfw] at this
       exact ‹¬(r.getD x.length 0#64).getLsbD x.length=_› this]
      refine ⟨trivial,_,[(0,0),(1,1),(2,2)],[],rfl,.inl (by (repeat' first|exact trivial|exact rfl|exact ⟨_,rfl⟩|exact .inl rfl|exact .inr (.inl ⟨rfl,rfl⟩)|exact .inr (.inr ⟨rfl,rfl⟩)|refine And.intro ?_ ?_|refine ⟨_,rfl,?_⟩|decide|exact of_decide_eq_true rfl)),⟨by rfl,by rfl,by rfl,trivial,by (repeat' first|exact trivial|exact rfl|exact ⟨_,rfl⟩|exact .inl rfl|exact .inr (.inl ⟨rfl,rfl⟩)|exact .inr (.inr ⟨rfl,rfl⟩)|refine And.intro ?_ ?_|refine ⟨_,rfl,?_⟩|decide|exact of_decide_eq_true rfl)⟩,by (repeat' first|exact trivial|exact rfl|exact ⟨_,rfl⟩|exact .inl rfl|exact .inr (.inl ⟨rfl,rfl⟩)|exact .inr (.inr ⟨rfl,rfl⟩)|refine And.intro ?_ ?_|refine ⟨_,rfl,?_⟩|decide|exact of_decide_eq_true rfl)⟩
     ·rw [hno fun h=>by
       have:=(h.2.2 k r r' har hbr x.length (by omega)).1
       rw [hfw] at this
       exact ‹¬(r.getD x.length 0#64).getLsbD x.length=_› this]
      refine ⟨trivial,_,[(0,0),(1,1),(2,2)],[],rfl,.inl (by (repeat' first|exact trivial|exact rfl|exact ⟨_,rfl⟩|exact .inl rfl|exact .inr (.inl ⟨rfl,rfl⟩)|exact .inr (.inr ⟨rfl,rfl⟩)|refine And.intro ?_ ?_|refine ⟨_,rfl,?_⟩|decide|exact of_decide_eq_true rfl)),⟨by rfl,by rfl,by rfl,trivial,by (repeat' first|exact trivial|exact rfl|exact ⟨_,rfl⟩|exact .inl rfl|exact .inr (.inl ⟨rfl,rfl⟩)|exact .inr (.inr ⟨rfl,rfl⟩)|refine And.intro ?_ ?_|refine ⟨_,rfl,?_⟩|decide|exact of_decide_eq_true rfl)⟩,by (repeat' first|exact trivial|exact rfl|exact ⟨_,rfl⟩|exact .inl rfl|exact .inr (.inl ⟨rfl,rfl⟩)|exact .inr (.inr ⟨rfl,rfl⟩)|refine And.intro ?_ ?_|refine ⟨_,rfl,?_⟩|decide|exact of_decide_eq_true rfl)⟩
     all_goals (exfalso;omega)
    ·(repeat' ((conv=>whnf);first|refine vA ?_|refine vB fun b hb=>?_|refine vC (fun hl=>?_) fun i kv vv hi=>?_|refine vE ?_|refine vG ?_|refine vH ?_|((first|refine vD ?_ ?_|refine vF ?_ ?_|refine vI ?_ ?_)<;>intro hc<;>try simp only [vL] at hc)|refine vJ fun hg=>?_|refine vK fun hg=>?_|refine vT ?_|refine vN ‹_› ?_|(refine vQ ?_ fun x hx=>?_;·first|omega|(simp only [vM] at *;omega))|((first|refine vO ?_ ?_|refine vR ?_ ‹_› ?_|refine vS ?_ fun x hx=>?_|refine vP ?_ ?_);·first|omega|(simp only [vM] at *;omega))|refine vW ⟨by omega,by omega⟩ ?_|(refine vU ?_ ?_;·kernel_rfl)|refine vX ?_|refine vY ?_|refine vZ ?_|refine za.mk _ ‹_› ?_|refine vP (show (_:BitVec 64)≠_ by decide) ?_));all_goals try conv=>whnf
     all_goals try (exfalso;omega)
     ·refine ⟨x.length+1,[(0,0),(1,1),(2,2)],[],?_,?_,by (refine ⟨rfl,rfl,rfl,?_,?_⟩;repeat' first|exact trivial|exact rfl|exact ⟨_,rfl⟩|exact .inl rfl|exact .inr (.inl ⟨rfl,rfl⟩)|exact .inr (.inr ⟨rfl,rfl⟩)|refine And.intro ?_ ?_|refine ⟨_,rfl,?_⟩|decide|exact of_decide_eq_true rfl)⟩
      ·refine ⟨by omega,fun j hj hjl=>?_,fun kk s s' h1 h2 u hu=>?_⟩
       ·by_cases e:j < x.length
        ·exact hI j e hjl
        ·obtain rfl:j=x.length:=by omega
         exact absurd hjl (by omega)
       ·by_cases e:u < x.length
        ·exact hJ kk s s' h1 h2 u e
        ·obtain rfl:u=x.length:=by omega
         have hkk:kk < k:=by have:=(List.getElem?_eq_some_iff.1 h1).1;omega
         rw [hfw]
         exact hK kk s s' hkk h1 h2
      ·(first|omega|(simp only [vM] at *;omega))
  ·(repeat' ((conv=>whnf);first|refine vA ?_|refine vB fun b hb=>?_|refine vC (fun hl=>?_) fun i kv vv hi=>?_|refine vE ?_|refine vG ?_|refine vH ?_|((first|refine vD ?_ ?_|refine vF ?_ ?_|refine vI ?_ ?_)<;>intro hc<;>try simp only [vL] at hc)|refine vJ fun hg=>?_|refine vK fun hg=>?_|refine vT ?_|refine vN ‹_› ?_|(refine vQ ?_ fun x hx=>?_;·first|omega|(simp only [vM] at *;omega))|((first|refine vO ?_ ?_|refine vR ?_ ‹_› ?_|refine vS ?_ fun x hx=>?_|refine vP ?_ ?_);·first|omega|(simp only [vM] at *;omega))|refine vW ⟨by omega,by omega⟩ ?_|(refine vU ?_ ?_;·kernel_rfl)|refine vX ?_|refine vY ?_|refine vZ ?_|refine za.mk _ ‹_› ?_|refine vP (show (_:BitVec 64)≠_ by decide) ?_));all_goals try conv=>whnf
   all_goals try (exfalso;omega)
   have hok:okR a b x w=true:=hiff.2 ⟨fun hm=>?_,?_,fun kk s s' h1 h2 u hu=>?_⟩
   ·rw [hok]
    refine ⟨trivial,_,[(0,0),(1,1),(2,2)],[],rfl,.inl (by (repeat' first|exact trivial|exact rfl|exact ⟨_,rfl⟩|exact .inl rfl|exact .inr (.inl ⟨rfl,rfl⟩)|exact .inr (.inr ⟨rfl,rfl⟩)|refine And.intro ?_ ?_|refine ⟨_,rfl,?_⟩|decide|exact of_decide_eq_true rfl)),⟨by rfl,by rfl,by rfl,trivial,by (repeat' first|exact trivial|exact rfl|exact ⟨_,rfl⟩|exact .inl rfl|exact .inr (.inl ⟨rfl,rfl⟩)|exact .inr (.inr ⟨rfl,rfl⟩)|refine And.intro ?_ ?_|refine ⟨_,rfl,?_⟩|decide|exact of_decide_eq_true rfl)⟩,by (repeat' first|exact trivial|exact rfl|exact ⟨_,rfl⟩|exact .inl rfl|exact .inr (.inl ⟨rfl,rfl⟩)|exact .inr (.inr ⟨rfl,rfl⟩)|refine And.intro ?_ ?_|refine ⟨_,rfl,?_⟩|decide|exact of_decide_eq_true rfl)⟩
   ·obtain ⟨j,hj,e⟩:=zoW hm
    exact hI j (by omega) hj e
   ·rw [hfw];omega
   ·have:=hJ kk s s' h1 h2 u (by omega)
    rw [hfw];exact this
end
end Go.Ab
namespace Go.Ab
open Go Go.Proofs
set_option maxRecDepth 10000
set_option maxHeartbeats 4000000
variable {T : Nat → Obj → Prop}
def zc3 (fl : Bool) (s : Int × List Nat) (y : List Nat) : Int × List Nat := if fl = true ∧ 0 < s.1 then s else (s.1 + 1, y)
def zaN (fl : Bool) (s : Int × List Nat) (l : List (List Nat)) : Int × List Nat := l.foldl (zc3 fl) s
theorem zni {fl : Bool} {s : Int × List Nat} {l l' : List (List Nat)} : zaN fl s (l ++ l') = zaN fl (zaN fl s l) l' := List.foldl_append
theorem zfQ {fl : Bool} {s : Int × List Nat} (h : fl = true ∧ 0 < s.1) : ∀ l, zaN fl s l = s
  | [] => rfl
  | y :: l => by
    show zaN fl (zc3 fl s y) l = s
    rw [zc3, if_pos h]; exact zfQ h l
theorem zld {fl : Bool} : ∀ (l : List (List Nat)) (s : Int × List Nat), s.1 ≤ (zaN fl s l).1 ∧ (zaN fl s l).1 ≤ s.1 + l.length
  | [], s => by simp [zaN]
  | y :: l, s => by
    have := zld (fl := fl) l (zc3 fl s y)
    have h2 : s.1 ≤ (zc3 fl s y).1 ∧ (zc3 fl s y).1 ≤ s.1 + 1 := by
      unfold zc3; split <;> simp <;> omega
    show s.1 ≤ (zaN fl (zc3 fl s y) l).1 ∧ (zaN fl (zc3 fl s y) l).1 ≤ s.1 + (l.length + 1 : Nat)
    omega
theorem ziT {a b : KM} (x : List D) (c : Int) (f : List D) (w : Int) (hc0 : 0 < c) : Fn Tryz.prog T zbo [.ptr 0 0, .d (.int .i64 w)] [zeP a b (.own 1) (.own 2) c true, .row 1 x, .row 1 f] (.tup [])
      [some (zeP a b (.own 3) (.own 4) c true), none, none, some (.row 1 x), some (.row 1 f)] := by
  refine zN zp zbq (by show 2 ≤ 76; decide) _ (fun e env mem n h => h) ?_
  (repeat' ((conv=>whnf);first|refine vA ?_|refine vB fun b hb=>?_|refine vC (fun hl=>?_) fun i kv vv hi=>?_|refine vE ?_|refine vG ?_|refine vH ?_|((first|refine vD ?_ ?_|refine vF ?_ ?_|refine vI ?_ ?_)<;>intro hc<;>try simp only [vL] at hc)|refine vJ fun hg=>?_|refine vK fun hg=>?_|refine vT ?_|refine vN ‹_› ?_|(refine vQ ?_ fun x hx=>?_;·first|omega|(simp only [vM] at *;omega))|((first|refine vO ?_ ?_|refine vR ?_ ‹_› ?_|refine vS ?_ fun x hx=>?_|refine vP ?_ ?_);·first|omega|(simp only [vM] at *;omega))|refine vW ⟨by omega,by omega⟩ ?_|(refine vU ?_ ?_;·kernel_rfl)|refine vX ?_|refine vY ?_|refine vZ ?_|refine za.mk _ ‹_› ?_|refine vP (show (_ : BitVec 64) ≠ _ by decide) ?_));all_goals try conv=>whnf
  · refine ⟨trivial, _, [(0, 0), (3, 1), (4, 2)], [], rfl, .inl (by (repeat' first|exact trivial|exact rfl|exact ⟨_,rfl⟩|exact .inl rfl|exact .inr (.inl ⟨rfl,rfl⟩)|exact .inr (.inr ⟨rfl,rfl⟩)|refine And.intro ?_ ?_|refine ⟨_,rfl,?_⟩|decide|exact of_decide_eq_true rfl)), ⟨by rfl, by rfl, by rfl, trivial, by (repeat' first|exact trivial|exact rfl|exact ⟨_,rfl⟩|exact .inl rfl|exact .inr (.inl ⟨rfl,rfl⟩)|exact .inr (.inr ⟨rfl,rfl⟩)|refine And.intro ?_ ?_|refine ⟨_,rfl,?_⟩|decide|exact of_decide_eq_true rfl)⟩, by (repeat' first|exact trivial|exact rfl|exact ⟨_,rfl⟩|exact .inl rfl|exact .inr (.inl ⟨rfl,rfl⟩)|exact .inr (.inr ⟨rfl,rfl⟩)|refine And.intro ?_ ?_|refine ⟨_,rfl,?_⟩|decide|exact of_decide_eq_true rfl)⟩
  all_goals (exfalso; omega)
section
variable {a b : KM} (ha : zj a = 0) (hb : zj b = 0) (hW : a.W = b.W) (hr : a.rel.length = b.rel.length)
include ha hb hW hr
set_option maxHeartbeats 8000000 in
theorem zty (fl : Bool) (k : Nat) : ∀ (x : List Nat) (c : Int) (f : List Nat), x.length + k = a.W.toNat → (∀ u, u < x.length → x.getD u 0 < a.W.toNat) → 0 ≤ c → (fl = false → c + (dfs (okR a b) a.W.toNat k x).length ≤ 1000000000) →
    Fn Tryz.prog T zbo [.ptr 0 0, .d (.int .i64 (x.length : Int))] [zeP a b (.own 1) (.own 2) c fl, zbd x, zbd f] (.tup [])
      [some (zeP a b (.own 3) (.own 4) (zaN fl (c, f) (dfs (okR a b) a.W.toNat k x)).1 fl), none, none, some (zbd x), some (zbd (zaN fl (c, f) (dfs (okR a b) a.W.toNat k x)).2)] := by
  have ga := zw ha
  have w1 := ga.w1; have w2 := ga.w2
  induction k with
  | zero =>
    intro x c f hx hxn h0 h1
    have hd : dfs (okR a b) a.W.toNat 0 x = [x] := rfl
    rw [hd] at h1 ⊢
    by_cases hdn : fl = true ∧ 0 < c
    · rw [zfQ (s := (c, f)) hdn]
      obtain ⟨rfl, hc0⟩ := hdn
      exact ziT _ _ _ _ hc0
    · rw [show zaN fl (c, f) [x] = (c + 1, x) from if_neg hdn]
      have h2 : c + 1 ≤ 1000000000 := by
        cases hfl : fl with
        | false => have := h1 hfl; simpa using this
        | true => have : ¬0 < c := fun h => hdn ⟨hfl, h⟩
                  omega
      refine zN zp zbq (by show 2 ≤ 76; decide) _ (fun e env mem n h => h) ?_
      (repeat' ((conv=>whnf);first|refine vA ?_|refine vB fun b hb=>?_|refine vC (fun hl=>?_) fun i kv vv hi=>?_|refine vE ?_|refine vG ?_|refine vH ?_|((first|refine vD ?_ ?_|refine vF ?_ ?_|refine vI ?_ ?_)<;>intro hc<;>try simp only [vL] at hc)|refine vJ fun hg=>?_|refine vK fun hg=>?_|refine vT ?_|refine vN ‹_› ?_|(refine vQ ?_ fun x hx=>?_;·first|omega|(simp only [vM] at *;omega))|((first|refine vO ?_ ?_|refine vR ?_ ‹_› ?_|refine vS ?_ fun x hx=>?_|refine vP ?_ ?_);·first|omega|(simp only [vM] at *;omega))|refine vW ⟨by omega,by omega⟩ ?_|(refine vU ?_ ?_;·kernel_rfl)|refine vX ?_|refine vY ?_|refine vZ ?_|refine za.mk _ ‹_› ?_|refine vP (show (_ : BitVec 64) ≠ _ by decide) ?_));all_goals try conv=>whnf
      · exact absurd ⟨‹fl = true›, ‹0 < c›⟩ hdn
      · refine ⟨trivial, _, [(0, 0), (3, 1), (4, 3)], [], rfl, .inl (by (repeat' first|exact trivial|exact rfl|exact ⟨_,rfl⟩|exact .inl rfl|exact .inr (.inl ⟨rfl,rfl⟩)|exact .inr (.inr ⟨rfl,rfl⟩)|refine And.intro ?_ ?_|refine ⟨_,rfl,?_⟩|decide|exact of_decide_eq_true rfl)), ⟨by rfl, by rfl, by rfl, trivial, by (repeat' first|exact trivial|exact rfl|exact ⟨_,rfl⟩|exact .inl rfl|exact .inr (.inl ⟨rfl,rfl⟩)|exact .inr (.inr ⟨rfl,rfl⟩)|refine And.intro ?_ ?_|refine ⟨_,rfl,?_⟩|decide|exact of_decide_eq_true rfl)⟩, by (repeat' first|exact trivial|exact rfl|exact ⟨_,rfl⟩|exact .inl rfl|exact .inr (.inl ⟨rfl,rfl⟩)|exact .inr (.inr ⟨rfl,rfl⟩)|refine And.intro ?_ ?_|refine ⟨_,rfl,?_⟩|decide|exact of_decide_eq_true rfl)⟩
      · exfalso; omega
      · refine ⟨trivial, _, [(0, 0), (3, 1), (4, 3)], [], rfl, .inl (by (repeat' first|exact trivial|exact rfl|exact ⟨_,rfl⟩|exact .inl rfl|exact .inr (.inl ⟨rfl,rfl⟩)|exact .inr (.inr ⟨rfl,rfl⟩)|refine And.intro ?_ ?_|refine ⟨_,rfl,?_⟩|decide|exact of_decide_eq_true rfl)), ⟨by rfl, by rfl, by rfl, trivial, by (repeat' first|exact trivial|exact rfl|exact ⟨_,rfl⟩|exact .inl rfl|exact .inr (.inl ⟨rfl,rfl⟩)|exact .inr (.inr ⟨rfl,rfl⟩)|refine And.intro ?_ ?_|refine ⟨_,rfl,?_⟩|decide|exact of_decide_eq_true rfl)⟩, by (repeat' first|exact trivial|exact rfl|exact ⟨_,rfl⟩|exact .inl rfl|exact .inr (.inl ⟨rfl,rfl⟩)|exact .inr (.inr ⟨rfl,rfl⟩)|refine And.intro ?_ ?_|refine ⟨_,rfl,?_⟩|decide|exact of_decide_eq_true rfl)⟩
      · exfalso; omega
  | succ k ih =>
    intro x c f hx hxn h0 h1
    by_cases hdn : fl = true ∧ 0 < c
    · rw [zfQ (s := (c, f)) hdn]
      obtain ⟨rfl, hc0⟩ := hdn
      exact ziT _ _ _ _ hc0
    · refine zN zp zbq (by show 2 ≤ 76; decide) _ (fun e env mem n h => h) ?_
      (repeat' ((conv=>whnf);first|refine vA ?_|refine vB fun b hb=>?_|refine vC (fun hl=>?_) fun i kv vv hi=>?_|refine vE ?_|refine vG ?_|refine vH ?_|((first|refine vD ?_ ?_|refine vF ?_ ?_|refine vI ?_ ?_)<;>intro hc<;>try simp only [vL] at hc)|refine vJ fun hg=>?_|refine vK fun hg=>?_|refine vT ?_|refine vN ‹_› ?_|(refine vQ ?_ fun x hx=>?_;·first|omega|(simp only [vM] at *;omega))|((first|refine vO ?_ ?_|refine vR ?_ ‹_› ?_|refine vS ?_ fun x hx=>?_|refine vP ?_ ?_);·first|omega|(simp only [vM] at *;omega))|refine vW ⟨by omega,by omega⟩ ?_|(refine vU ?_ ?_;·kernel_rfl)|refine vX ?_|refine vY ?_|refine vZ ?_|refine za.mk _ ‹_› ?_|refine vP (show (_ : BitVec 64) ≠ _ by decide) ?_));all_goals try conv=>whnf
      · exact absurd ⟨‹fl = true›, ‹0 < c›⟩ hdn
      · exfalso; omega
      rotate_left
      · exfalso; omega
      all_goals
        refine zk (fun ((w, c', f', ys) : Nat × Int × List Nat × List D) => [(0, .ptr 0 0), (1, .d (.int .i64 ((x.length : Int)))), (5, .d (.int .i64 ((w : Int)))), (zb, .ptr 0 0)]) (fun ((w, c', f', ys) : Nat × Int × List Nat × List D) => [(0, some (zeP a b (.own 1) (.own 2) c' fl)), (1, some (.row 1 ys)), (2, some (zbd f'))]) 3 (fun ((w, c', f', ys) : Nat × Int × List Nat × List D) => w ≤ a.W.toNat ∧ (c', f') = zaN fl (c, f) (zbk (okR a b) a.W.toNat k x w) ∧ ys = (x.map fun (y : Nat) => (y : Int)).map (D.int .i64)) (fun ((w, c', f', ys) : Nat × Int × List Nat × List D) => a.W.toNat - w) ((0, c, f, (x.map fun (y : Nat) => (y : Int)).map (D.int .i64))) [(0, 0), (1, 1), (2, 2)] [] (⟨by omega, by simp [zbk, zaN], rfl⟩) (by (refine ⟨rfl,rfl,rfl,?_,?_⟩;repeat' first|exact trivial|exact rfl|exact ⟨_,rfl⟩|exact .inl rfl|exact .inr (.inl ⟨rfl,rfl⟩)|exact .inr (.inr ⟨rfl,rfl⟩)|refine And.intro ?_ ?_|refine ⟨_,rfl,?_⟩|decide|exact of_decide_eq_true rfl)) ?_
        rintro ⟨w, c', f', ys⟩ ⟨hw, hcf, hy⟩
        subst hy
        by_cases hwl : w < a.W.toNat
        · have hul := zk5 (ok := okR a b) (k := k) (x := x) (show w + 1 ≤ a.W.toNat by omega)
          have hus := zd1 (ok := okR a b) (n := a.W.toNat) (k := k) (x := x) (w := w)
          have hle := zld (fl := fl) (zbk (okR a b) a.W.toNat k x w) (c, f)
          rw [← hcf] at hle
          have hxn' : ∀ u, u < (x ++ [w]).length → (x ++ [w]).getD u 0 < a.W.toNat := fun u hu => by
            by_cases e : u < x.length
            · have := hxn u e; rw [List.getD, List.getElem?_append_left e]; exact this
            · have e1 : u = x.length := by simp at hu; omega
              subst e1; rw [List.getD, List.getElem?_append_right (Nat.le_refl _)]; simpa using hwl
          have cs := zoL (T := T) ha hb hW hr x w c' fl ((f'.map fun (y : Nat) => (y : Int)).map (D.int .i64)) (by omega) hwl hxn
          cases hok : okR a b x w with
          | true =>
            rw [hok] at cs
            rw [hus, if_pos hok, List.length_append] at hul
            have cr := ih (x ++ [w]) c' f' (by simp; omega) hxn' (by omega) (fun h => by have := h1 h; simp only [] at hle; omega)
            rw [show zbd (x ++ [w]) = Ob.row 1 ((x.map fun (y : Nat) => (y : Int)).map (D.int .i64) ++ [D.int .i64 (w : Int)]) by rw [zbd]; simp, show (((x ++ [w]).length : Nat) : Int) = (x.length : Int) + 1 by simp] at cr
            (repeat' ((conv=>whnf);first|refine vA ?_|refine vB fun b hb=>?_|refine vC (fun hl=>?_) fun i kv vv hi=>?_|refine vE ?_|refine vG ?_|refine vH ?_|((first|refine vD ?_ ?_|refine vF ?_ ?_|refine vI ?_ ?_)<;>intro hc<;>try simp only [vL] at hc)|refine vJ fun hg=>?_|refine vK fun hg=>?_|refine vT ?_|refine vN ‹_› ?_|(refine vQ ?_ fun x hx=>?_;·first|omega|(simp only [vM] at *;omega))|((first|refine vO ?_ ?_|refine vR ?_ ‹_› ?_|refine vS ?_ fun x hx=>?_|refine vP ?_ ?_);·first|omega|(simp only [vM] at *;omega))|refine vW ⟨by omega,by omega⟩ ?_|(refine vU ?_ ?_;·kernel_rfl)|refine vX ?_|refine vY ?_|refine vZ ?_|refine za.mk _ ‹_› ?_|refine vP (show (_ : BitVec 64) ≠ _ by decide) ?_));all_goals try conv=>whnf
            · refine zM.objs [0, 1, 2] (cs) (by (repeat' first|exact trivial|exact rfl|exact ⟨_,rfl⟩|exact .inl rfl|exact .inr (.inl ⟨rfl,rfl⟩)|exact .inr (.inr ⟨rfl,rfl⟩)|refine And.intro ?_ ?_|refine ⟨_,rfl,?_⟩|decide|exact of_decide_eq_true rfl)) (by (repeat' first|exact trivial|exact rfl|exact ⟨_,rfl⟩|exact .inl rfl|exact .inr (.inl ⟨rfl,rfl⟩)|exact .inr (.inr ⟨rfl,rfl⟩)|refine And.intro ?_ ?_|refine ⟨_,rfl,?_⟩|decide|exact of_decide_eq_true rfl)) (by rfl) (by rfl) (by simp) ?_
              (repeat' ((conv=>whnf);first|refine vA ?_|refine vB fun b hb=>?_|refine vC (fun hl=>?_) fun i kv vv hi=>?_|refine vE ?_|refine vG ?_|refine vH ?_|((first|refine vD ?_ ?_|refine vF ?_ ?_|refine vI ?_ ?_)<;>intro hc<;>try simp only [vL] at hc)|refine vJ fun hg=>?_|refine vK fun hg=>?_|refine vT ?_|refine vN ‹_› ?_|(refine vQ ?_ fun x hx=>?_;·first|omega|(simp only [vM] at *;omega))|((first|refine vO ?_ ?_|refine vR ?_ ‹_› ?_|refine vS ?_ fun x hx=>?_|refine vP ?_ ?_);·first|omega|(simp only [vM] at *;omega))|refine vW ⟨by omega,by omega⟩ ?_|(refine vU ?_ ?_;·kernel_rfl)|refine vX ?_|refine vY ?_|refine vZ ?_|refine za.mk _ ‹_› ?_|refine vP (show (_ : BitVec 64) ≠ _ by decide) ?_));all_goals try conv=>whnf
              refine zM.objs [0, 4, 2] cr (by (repeat' first|exact trivial|exact rfl|exact ⟨_,rfl⟩|exact .inl rfl|exact .inr (.inl ⟨rfl,rfl⟩)|exact .inr (.inr ⟨rfl,rfl⟩)|refine And.intro ?_ ?_|refine ⟨_,rfl,?_⟩|decide|exact of_decide_eq_true rfl)) (by (repeat' first|exact trivial|exact rfl|exact ⟨_,rfl⟩|exact .inl rfl|exact .inr (.inl ⟨rfl,rfl⟩)|exact .inr (.inr ⟨rfl,rfl⟩)|refine And.intro ?_ ?_|refine ⟨_,rfl,?_⟩|decide|exact of_decide_eq_true rfl)) (by rfl) (by kernel_rfl) (by simp) ?_
              (repeat' ((conv=>whnf);first|refine vA ?_|refine vB fun b hb=>?_|refine vC (fun hl=>?_) fun i kv vv hi=>?_|refine vE ?_|refine vG ?_|refine vH ?_|((first|refine vD ?_ ?_|refine vF ?_ ?_|refine vI ?_ ?_)<;>intro hc<;>try simp only [vL] at hc)|refine vJ fun hg=>?_|refine vK fun hg=>?_|refine vT ?_|refine vN ‹_› ?_|(refine vQ ?_ fun x hx=>?_;·first|omega|(simp only [vM] at *;omega))|((first|refine vO ?_ ?_|refine vR ?_ ‹_› ?_|refine vS ?_ fun x hx=>?_|refine vP ?_ ?_);·first|omega|(simp only [vM] at *;omega))|refine vW ⟨by omega,by omega⟩ ?_|(refine vU ?_ ?_;·kernel_rfl)|refine vX ?_|refine vY ?_|refine vZ ?_|refine za.mk _ ‹_› ?_|refine vP (show (_ : BitVec 64) ≠ _ by decide) ?_));all_goals try conv=>whnf
              refine ⟨(w + 1, _, _, _), [(0, 0), (1, 7), (2, 6)], [], ?_, ?_, by (refine ⟨rfl,rfl,rfl,?_,?_⟩;repeat' first|exact trivial|exact rfl|exact ⟨_,rfl⟩|exact .inl rfl|exact .inr (.inl ⟨rfl,rfl⟩)|exact .inr (.inr ⟨rfl,rfl⟩)|refine And.intro ?_ ?_|refine ⟨_,rfl,?_⟩|decide|exact of_decide_eq_true rfl)⟩
              · refine ⟨by omega, ?_, List.take_left' (by simp)⟩
                rw [hus, if_pos hok, zni, ← hcf]
              · (first|omega|(simp only [vM] at *;omega))
            · exfalso; omega
          | false =>
            rw [hok] at cs
            (repeat' ((conv=>whnf);first|refine vA ?_|refine vB fun b hb=>?_|refine vC (fun hl=>?_) fun i kv vv hi=>?_|refine vE ?_|refine vG ?_|refine vH ?_|((first|refine vD ?_ ?_|refine vF ?_ ?_|refine vI ?_ ?_)<;>intro hc<;>try simp only [vL] at hc)|refine vJ fun hg=>?_|refine vK fun hg=>?_|refine vT ?_|refine vN ‹_› ?_|(refine vQ ?_ fun x hx=>?_;·first|omega|(simp only [vM] at *;omega))|((first|refine vO ?_ ?_|refine vR ?_ ‹_› ?_|refine vS ?_ fun x hx=>?_|refine vP ?_ ?_);·first|omega|(simp only [vM] at *;omega))|refine vW ⟨by omega,by omega⟩ ?_|(refine vU ?_ ?_;·kernel_rfl)|refine vX ?_|refine vY ?_|refine vZ ?_|refine za.mk _ ‹_› ?_|refine vP (show (_ : BitVec 64) ≠ _ by decide) ?_));all_goals try conv=>whnf
            · refine zM.objs [0, 1, 2] (cs) (by (repeat' first|exact trivial|exact rfl|exact ⟨_,rfl⟩|exact .inl rfl|exact .inr (.inl ⟨rfl,rfl⟩)|exact .inr (.inr ⟨rfl,rfl⟩)|refine And.intro ?_ ?_|refine ⟨_,rfl,?_⟩|decide|exact of_decide_eq_true rfl)) (by (repeat' first|exact trivial|exact rfl|exact ⟨_,rfl⟩|exact .inl rfl|exact .inr (.inl ⟨rfl,rfl⟩)|exact .inr (.inr ⟨rfl,rfl⟩)|refine And.intro ?_ ?_|refine ⟨_,rfl,?_⟩|decide|exact of_decide_eq_true rfl)) (by rfl) (by rfl) (by simp) ?_
              (repeat' ((conv=>whnf);first|refine vA ?_|refine vB fun b hb=>?_|refine vC (fun hl=>?_) fun i kv vv hi=>?_|refine vE ?_|refine vG ?_|refine vH ?_|((first|refine vD ?_ ?_|refine vF ?_ ?_|refine vI ?_ ?_)<;>intro hc<;>try simp only [vL] at hc)|refine vJ fun hg=>?_|refine vK fun hg=>?_|refine vT ?_|refine vN ‹_› ?_|(refine vQ ?_ fun x hx=>?_;·first|omega|(simp only [vM] at *;omega))|((first|refine vO ?_ ?_|refine vR ?_ ‹_› ?_|refine vS ?_ fun x hx=>?_|refine vP ?_ ?_);·first|omega|(simp only [vM] at *;omega))|refine vW ⟨by omega,by omega⟩ ?_|(refine vU ?_ ?_;·kernel_rfl)|refine vX ?_|refine vY ?_|refine vZ ?_|refine za.mk _ ‹_› ?_|refine vP (show (_ : BitVec 64) ≠ _ by decide) ?_));all_goals try conv=>whnf
              refine ⟨(w + 1, c', f', _), [(0, 0), (1, 1), (2, 2)], [], ?_, ?_, by (refine ⟨rfl,rfl,rfl,?_,?_⟩;repeat' first|exact trivial|exact rfl|exact ⟨_,rfl⟩|exact .inl rfl|exact .inr (.inl ⟨rfl,rfl⟩)|exact .inr (.inr ⟨rfl,rfl⟩)|refine And.intro ?_ ?_|refine ⟨_,rfl,?_⟩|decide|exact of_decide_eq_true rfl)⟩
              · exact ⟨by omega, by rw [hus, if_neg (by rw [hok]; decide), List.append_nil]; exact hcf, rfl⟩
              · (first|omega|(simp only [vM] at *;omega))
            · exfalso; omega
        · (repeat' ((conv=>whnf);first|refine vA ?_|refine vB fun b hb=>?_|refine vC (fun hl=>?_) fun i kv vv hi=>?_|refine vE ?_|refine vG ?_|refine vH ?_|((first|refine vD ?_ ?_|refine vF ?_ ?_|refine vI ?_ ?_)<;>intro hc<;>try simp only [vL] at hc)|refine vJ fun hg=>?_|refine vK fun hg=>?_|refine vT ?_|refine vN ‹_› ?_|(refine vQ ?_ fun x hx=>?_;·first|omega|(simp only [vM] at *;omega))|((first|refine vO ?_ ?_|refine vR ?_ ‹_› ?_|refine vS ?_ fun x hx=>?_|refine vP ?_ ?_);·first|omega|(simp only [vM] at *;omega))|refine vW ⟨by omega,by omega⟩ ?_|(refine vU ?_ ?_;·kernel_rfl)|refine vX ?_|refine vY ?_|refine vZ ?_|refine za.mk _ ‹_› ?_|refine vP (show (_ : BitVec 64) ≠ _ by decide) ?_));all_goals try conv=>whnf
          · exfalso; omega
          have e0 : w = a.W.toNat := by omega
          subst e0
          rw [show zbk (okR a b) a.W.toNat k x a.W.toNat = dfs (okR a b) a.W.toNat (k + 1) x from rfl] at hcf
          rw [← hcf]
          refine ⟨trivial, _, [(0, 0), (3, 1), (4, 2)], [], rfl, .inl (by (repeat' first|exact trivial|exact rfl|exact ⟨_,rfl⟩|exact .inl rfl|exact .inr (.inl ⟨rfl,rfl⟩)|exact .inr (.inr ⟨rfl,rfl⟩)|refine And.intro ?_ ?_|refine ⟨_,rfl,?_⟩|decide|exact of_decide_eq_true rfl)), ⟨by rfl, by rfl, by rfl, trivial, by (repeat' first|exact trivial|exact rfl|exact ⟨_,rfl⟩|exact .inl rfl|exact .inr (.inl ⟨rfl,rfl⟩)|exact .inr (.inr ⟨rfl,rfl⟩)|refine And.intro ?_ ?_|refine ⟨_,rfl,?_⟩|decide|exact of_decide_eq_true rfl)⟩, by (repeat' first|exact trivial|exact rfl|exact ⟨_,rfl⟩|exact .inl rfl|exact .inr (.inl ⟨rfl,rfl⟩)|exact .inr (.inr ⟨rfl,rfl⟩)|refine And.intro ?_ ?_|refine ⟨_,rfl,?_⟩|decide|exact of_decide_eq_true rfl)⟩
set_option maxHeartbeats 8000000 in
theorem zjG (fl : Bool) (hbd : fl = false → (dfs (okR a b) a.W.toNat a.W.toNat []).length ≤ 1000000000) :
    Fn Tryz.prog T zbo [.ptr 0 0, .d (.int .i64 0)] [zeP a b (.nils 1) (.nils 1) 0 fl] (.tup [])
      [some (zeP a b (.own 1) (.own 2) (zaN fl (0, []) (dfs (okR a b) a.W.toNat a.W.toNat [])).1 fl), some (zbd []), some (zbd (zaN fl (0, []) (dfs (okR a b) a.W.toNat a.W.toNat [])).2)] := by
  have ga := zw ha
  have w1 := ga.w1; have w2 := ga.w2
  obtain ⟨k, hk⟩ : ∃ k, a.W.toNat = k + 1 := ⟨a.W.toNat - 1, by omega⟩
  rw [show dfs (okR a b) a.W.toNat a.W.toNat [] = dfs (okR a b) a.W.toNat (k + 1) [] by rw [← hk]] at hbd ⊢
  refine zN zp zbq (by show 2 ≤ 76; decide) _ (fun e env mem n h => h) ?_
  (repeat' ((conv=>whnf);first|refine vA ?_|refine vB fun b hb=>?_|refine vC (fun hl=>?_) fun i kv vv hi=>?_|refine vE ?_|refine vG ?_|refine vH ?_|((first|refine vD ?_ ?_|refine vF ?_ ?_|refine vI ?_ ?_)<;>intro hc<;>try simp only [vL] at hc)|refine vJ fun hg=>?_|refine vK fun hg=>?_|refine vT ?_|refine vN ‹_› ?_|(refine vQ ?_ fun x hx=>?_;·first|omega|(simp only [vM] at *;omega))|((first|refine vO ?_ ?_|refine vR ?_ ‹_› ?_|refine vS ?_ fun x hx=>?_|refine vP ?_ ?_);·first|omega|(simp only [vM] at *;omega))|refine vW ⟨by omega,by omega⟩ ?_|(refine vU ?_ ?_;·kernel_rfl)|refine vX ?_|refine vY ?_|refine vZ ?_|refine za.mk _ ‹_› ?_|refine vP (show (_ : BitVec 64) ≠ _ by decide) ?_));all_goals try conv=>whnf
  · exfalso; omega
  rotate_left
  · exfalso; omega
  all_goals
    refine zk (fun ((w, c', f', ys) : Nat × Int × List Nat × List D) => [(0, .ptr 0 0), (1, .d (.int .i64 ((0 : Int)))), (5, .d (.int .i64 ((w : Int)))), (zb, .ptr 0 0)]) (fun ((w, c', f', ys) : Nat × Int × List Nat × List D) => [(0, some (zeP a b (.own 1) (.own 2) c' fl)), (1, some (.row 1 ys)), (2, some (zbd f'))]) 3 (fun ((w, c', f', ys) : Nat × Int × List Nat × List D) => w ≤ a.W.toNat ∧ (c', f') = zaN fl (0, []) (zbk (okR a b) a.W.toNat k [] w) ∧ ys = []) (fun ((w, c', f', ys) : Nat × Int × List Nat × List D) => a.W.toNat - w) ((0, 0, [], [])) [(0, 0)]   [1, 2] (⟨by omega, by simp [zbk, zaN], rfl⟩) (by (refine ⟨rfl,rfl,rfl,?_,?_⟩;repeat' first|exact trivial|exact rfl|exact ⟨_,rfl⟩|exact .inl rfl|exact .inr (.inl ⟨rfl,rfl⟩)|exact .inr (.inr ⟨rfl,rfl⟩)|refine And.intro ?_ ?_|refine ⟨_,rfl,?_⟩|decide|exact of_decide_eq_true rfl)) ?_
    rintro ⟨w, c', f', ys⟩ ⟨hw, hcf, hy⟩
    subst hy
    by_cases hwl : w < a.W.toNat
    · have hul := zk5 (ok := okR a b) (k := k) (x := []) (show w + 1 ≤ a.W.toNat by omega)
      have hus := zd1 (ok := okR a b) (n := a.W.toNat) (k := k) (x := []) (w := w)
      have hle := zld (fl := fl) (zbk (okR a b) a.W.toNat k [] w) (0, [])
      rw [← hcf] at hle
      have cs := zoL (T := T) ha hb hW hr [] w c' fl ((f'.map fun (y : Nat) => (y : Int)).map (D.int .i64)) (by show 0 < _; omega) hwl (fun u hu => by simp at hu)
      cases hok : okR a b [] w with
      | true =>
        rw [hok] at cs
        rw [hus, if_pos hok, List.length_append] at hul
        have hx1 : ∀ u, u < ([] ++ [w] : List Nat).length → ([] ++ [w] : List Nat).getD u 0 < a.W.toNat := fun u hu => by
          have h0 : u = 0 := by simpa using hu
          subst h0; exact hwl
        have cr := zty (T := T) ha hb hW hr fl k ([] ++ [w]) c' f' (by simp; omega) hx1 (by simp only [] at hle; omega) (fun h => by have := hbd h; simp only [] at hle; omega)
        rw [show zbd ([] ++ [w]) = Ob.row 1 ([] ++ [D.int .i64 (w : Int)]) from rfl, show ((([] ++ [w] : List Nat).length : Nat) : Int) = 1 from rfl] at cr
        (repeat' ((conv=>whnf);first|refine vA ?_|refine vB fun b hb=>?_|refine vC (fun hl=>?_) fun i kv vv hi=>?_|refine vE ?_|refine vG ?_|refine vH ?_|((first|refine vD ?_ ?_|refine vF ?_ ?_|refine vI ?_ ?_)<;>intro hc<;>try simp only [vL] at hc)|refine vJ fun hg=>?_|refine vK fun hg=>?_|refine vT ?_|refine vN ‹_› ?_|(refine vQ ?_ fun x hx=>?_;·first|omega|(simp only [vM] at *;omega))|((first|refine vO ?_ ?_|refine vR ?_ ‹_› ?_|refine vS ?_ fun x hx=>?_|refine vP ?_ ?_);·first|omega|(simp only [vM] at *;omega))|refine vW ⟨by omega,by omega⟩ ?_|(refine vU ?_ ?_;·kernel_rfl)|refine vX ?_|refine vY ?_|refine vZ ?_|refine za.mk _ ‹_› ?_|refine vP (show (_ : BitVec 64) ≠ _ by decide) ?_));all_goals try conv=>whnf
        · refine zM.objs [0, 1, 2] (cs) (by (repeat' first|exact trivial|exact rfl|exact ⟨_,rfl⟩|exact .inl rfl|exact .inr (.inl ⟨rfl,rfl⟩)|exact .inr (.inr ⟨rfl,rfl⟩)|refine And.intro ?_ ?_|refine ⟨_,rfl,?_⟩|decide|exact of_decide_eq_true rfl)) (by (repeat' first|exact trivial|exact rfl|exact ⟨_,rfl⟩|exact .inl rfl|exact .inr (.inl ⟨rfl,rfl⟩)|exact .inr (.inr ⟨rfl,rfl⟩)|refine And.intro ?_ ?_|refine ⟨_,rfl,?_⟩|decide|exact of_decide_eq_true rfl)) (by rfl) (by rfl) (by simp) ?_
          (repeat' ((conv=>whnf);first|refine vA ?_|refine vB fun b hb=>?_|refine vC (fun hl=>?_) fun i kv vv hi=>?_|refine vE ?_|refine vG ?_|refine vH ?_|((first|refine vD ?_ ?_|refine vF ?_ ?_|refine vI ?_ ?_)<;>intro hc<;>try simp only [vL] at hc)|refine vJ fun hg=>?_|refine vK fun hg=>?_|refine vT ?_|refine vN ‹_› ?_|(refine vQ ?_ fun x hx=>?_;·first|omega|(simp only [vM] at *;omega))|((first|refine vO ?_ ?_|refine vR ?_ ‹_› ?_|refine vS ?_ fun x hx=>?_|refine vP ?_ ?_);·first|omega|(simp only [vM] at *;omega))|refine vW ⟨by omega,by omega⟩ ?_|(refine vU ?_ ?_;·kernel_rfl)|refine vX ?_|refine vY ?_|refine vZ ?_|refine za.mk _ ‹_› ?_|refine vP (show (_ : BitVec 64) ≠ _ by decide) ?_));all_goals try conv=>whnf
          refine zM.objs [0, 4, 2] cr (by (repeat' first|exact trivial|exact rfl|exact ⟨_,rfl⟩|exact .inl rfl|exact .inr (.inl ⟨rfl,rfl⟩)|exact .inr (.inr ⟨rfl,rfl⟩)|refine And.intro ?_ ?_|refine ⟨_,rfl,?_⟩|decide|exact of_decide_eq_true rfl)) (by (repeat' first|exact trivial|exact rfl|exact ⟨_,rfl⟩|exact .inl rfl|exact .inr (.inl ⟨rfl,rfl⟩)|exact .inr (.inr ⟨rfl,rfl⟩)|refine And.intro ?_ ?_|refine ⟨_,rfl,?_⟩|decide|exact of_decide_eq_true rfl)) (by rfl) (by kernel_rfl) (by simp) ?_
          (repeat' ((conv=>whnf);first|refine vA ?_|refine vB fun b hb=>?_|refine vC (fun hl=>?_) fun i kv vv hi=>?_|refine vE ?_|refine vG ?_|refine vH ?_|((first|refine vD ?_ ?_|refine vF ?_ ?_|refine vI ?_ ?_)<;>intro hc<;>try simp only [vL] at hc)|refine vJ fun hg=>?_|refine vK fun hg=>?_|refine vT ?_|refine vN ‹_› ?_|(refine vQ ?_ fun x hx=>?_;·first|omega|(simp only [vM] at *;omega))|((first|refine vO ?_ ?_|refine vR ?_ ‹_› ?_|refine vS ?_ fun x hx=>?_|refine vP ?_ ?_);·first|omega|(simp only [vM] at *;omega))|refine vW ⟨by omega,by omega⟩ ?_|(refine vU ?_ ?_;·kernel_rfl)|refine vX ?_|refine vY ?_|refine vZ ?_|refine za.mk _ ‹_› ?_|refine vP (show (_ : BitVec 64) ≠ _ by decide) ?_));all_goals try conv=>whnf
          refine ⟨(w + 1, _, _, _), [(0, 0), (1, 7), (2, 6)], [], ?_, ?_, by (refine ⟨rfl,rfl,rfl,?_,?_⟩;repeat' first|exact trivial|exact rfl|exact ⟨_,rfl⟩|exact .inl rfl|exact .inr (.inl ⟨rfl,rfl⟩)|exact .inr (.inr ⟨rfl,rfl⟩)|refine And.intro ?_ ?_|refine ⟨_,rfl,?_⟩|decide|exact of_decide_eq_true rfl)⟩
          · refine ⟨by omega, ?_, rfl⟩
            rw [hus, if_pos hok, zni, ← hcf]
          · (first|omega|(simp only [vM] at *;omega))
        · exfalso; omega
      | false =>
        rw [hok] at cs
        (repeat' ((conv=>whnf);first|refine vA ?_|refine vB fun b hb=>?_|refine vC (fun hl=>?_) fun i kv vv hi=>?_|refine vE ?_|refine vG ?_|refine vH ?_|((first|refine vD ?_ ?_|refine vF ?_ ?_|refine vI ?_ ?_)<;>intro hc<;>try simp only [vL] at hc)|refine vJ fun hg=>?_|refine vK fun hg=>?_|refine vT ?_|refine vN ‹_› ?_|(refine vQ ?_ fun x hx=>?_;·first|omega|(simp only [vM] at *;omega))|((first|refine vO ?_ ?_|refine vR ?_ ‹_› ?_|refine vS ?_ fun x hx=>?_|refine vP ?_ ?_);·first|omega|(simp only [vM] at *;omega))|refine vW ⟨by omega,by omega⟩ ?_|(refine vU ?_ ?_;·kernel_rfl)|refine vX ?_|refine vY ?_|refine vZ ?_|refine za.mk _ ‹_› ?_|refine vP (show (_ : BitVec 64) ≠ _ by decide) ?_));all_goals try conv=>whnf
        · refine zM.objs [0, 1, 2] (cs) (by (repeat' first|exact trivial|exact rfl|exact ⟨_,rfl⟩|exact .inl rfl|exact .inr (.inl ⟨rfl,rfl⟩)|exact .inr (.inr ⟨rfl,rfl⟩)|refine And.intro ?_ ?_|refine ⟨_,rfl,?_⟩|decide|exact of_decide_eq_true rfl)) (by (repeat' first|exact trivial|exact rfl|exact ⟨_,rfl⟩|exact .inl rfl|exact .inr (.inl ⟨rfl,rfl⟩)|exact .inr (.inr ⟨rfl,rfl⟩)|refine And.intro ?_ ?_|refine ⟨_,rfl,?_⟩|decide|exact of_decide_eq_true rfl)) (by rfl) (by rfl) (by simp) ?_
          (repeat' ((conv=>whnf);first|refine vA ?_|refine vB fun b hb=>?_|refine vC (fun hl=>?_) fun i kv vv hi=>?_|refine vE ?_|refine vG ?_|refine vH ?_|((first|refine vD ?_ ?_|refine vF ?_ ?_|refine vI ?_ ?_)<;>intro hc<;>try simp only [vL] at hc)|refine vJ fun hg=>?_|refine vK fun hg=>?_|refine vT ?_|refine vN ‹_› ?_|(refine vQ ?_ fun x hx=>?_;·first|omega|(simp only [vM] at *;omega))|((first|refine vO ?_ ?_|refine vR ?_ ‹_› ?_|refine vS ?_ fun x hx=>?_|refine vP ?_ ?_);·first|omega|(simp only [vM] at *;omega))|refine vW ⟨by omega,by omega⟩ ?_|(refine vU ?_ ?_;·kernel_rfl)|refine vX ?_|refine vY ?_|refine vZ ?_|refine za.mk _ ‹_› ?_|refine vP (show (_ : BitVec 64) ≠ _ by decide) ?_));all_goals try conv=>whnf
          refine ⟨(w + 1, c', f', _), [(0, 0), (1, 1), (2, 2)], [], ?_, ?_, by (refine ⟨rfl,rfl,rfl,?_,?_⟩;repeat' first|exact trivial|exact rfl|exact ⟨_,rfl⟩|exact .inl rfl|exact .inr (.inl ⟨rfl,rfl⟩)|exact .inr (.inr ⟨rfl,rfl⟩)|refine And.intro ?_ ?_|refine ⟨_,rfl,?_⟩|decide|exact of_decide_eq_true rfl)⟩
          · exact ⟨by omega, by rw [hus, if_neg (by rw [hok]; decide), List.append_nil]; exact hcf, rfl⟩
          · (first|omega|(simp only [vM] at *;omega))
        · exfalso; omega
    · (repeat' ((conv=>whnf);first|refine vA ?_|refine vB fun b hb=>?_|refine vC (fun hl=>?_) fun i kv vv hi=>?_|refine vE ?_|refine vG ?_|refine vH ?_|((first|refine vD ?_ ?_|refine vF ?_ ?_|refine vI ?_ ?_)<;>intro hc<;>try simp only [vL] at hc)|refine vJ fun hg=>?_|refine vK fun hg=>?_|refine vT ?_|refine vN ‹_› ?_|(refine vQ ?_ fun x hx=>?_;·first|omega|(simp only [vM] at *;omega))|((first|refine vO ?_ ?_|refine vR ?_ ‹_› ?_|refine vS ?_ fun x hx=>?_|refine vP ?_ ?_);·first|omega|(simp only [vM] at *;omega))|refine vW ⟨by omega,by omega⟩ ?_|(refine vU ?_ ?_;·kernel_rfl)|refine vX ?_|refine vY ?_|refine vZ ?_|refine za.mk _ ‹_› ?_|refine vP (show (_ : BitVec 64) ≠ _ by decide) ?_));all_goals try conv=>whnf
      · exfalso; omega
      have e0 : w = a.W.toNat := by omega
      subst e0
      rw [show zbk (okR a b) a.W.toNat k [] a.W.toNat = dfs (okR a b) a.W.toNat (k + 1) [] from rfl] at hcf
      rw [← hcf]
      refine ⟨trivial, _, [(0, 0), (1, 1), (2, 2)], [], rfl, .inl (by (repeat' first|exact trivial|exact rfl|exact ⟨_,rfl⟩|exact .inl rfl|exact .inr (.inl ⟨rfl,rfl⟩)|exact .inr (.inr ⟨rfl,rfl⟩)|refine And.intro ?_ ?_|refine ⟨_,rfl,?_⟩|decide|exact of_decide_eq_true rfl)), ⟨by rfl, by rfl, by rfl, trivial, by (repeat' first|exact trivial|exact rfl|exact ⟨_,rfl⟩|exact .inl rfl|exact .inr (.inl ⟨rfl,rfl⟩)|exact .inr (.inr ⟨rfl,rfl⟩)|refine And.intro ?_ ?_|refine ⟨_,rfl,?_⟩|decide|exact of_decide_eq_true rfl)⟩, by (repeat' first|exact trivial|exact rfl|exact ⟨_,rfl⟩|exact .inl rfl|exact .inr (.inl ⟨rfl,rfl⟩)|exact .inr (.inr ⟨rfl,rfl⟩)|refine And.intro ?_ ?_|refine ⟨_,rfl,?_⟩|decide|exact of_decide_eq_true rfl)⟩
end
end Go.Ab
namespace Go.Ab
open Go Go.Proofs
set_option maxRecDepth 10000
set_option maxHeartbeats 4000000
variable {T:Nat→Obj→Prop}
theorem znj : ∀ (l:List (List Nat)) (s:Int×List Nat),(zaN false s l).1=s.1+l.length
 | [],s=>by simp [zaN]
 | y::l,s=>by
  have:=znj l (zc3 false s y)
  show (zaN false (zc3 false s y) l).1=s.1+(l.length+1:Nat)
  rw [this];unfold zc3;rw [if_neg (by simp)];omega
theorem zrZ (y:List Nat) (l:List (List Nat)):zaN true (0,[]) (y::l)=(1,y):=by
 show zaN true (zc3 true (0,[]) y) l=_
 rw [show zc3 true (0,[]) y=(1,y) from if_neg (by omega)]
 exact zfQ ⟨rfl,by omega⟩ l
noncomputable def zeW (a b:KM):List Int×Int:=if z7 a b≠0 then ([],z7 a b) else if 12 < a.W∨12 < b.W then ([],8) else if a.W≠b.W then ([],6) else match dfs (okR a b) a.W.toNat a.W.toNat [] with
 | []=>([],6)
 | y::_=>(y.map fun (x:Nat)=>(x:Int),0)
theorem ztd (m:KM):(dfs (okR m m) m.W.toNat m.W.toNat []).length=(dfs (okM m m) m.W.toNat m.W.toNat []).length:=(zr4 rfl).symm
theorem zsZ (m:KM):Fn Tryz.prog T zcu [.d (dKM m)] [] (.d (.tup [.int .i64 (zdK m).1,.int .i64 (zdK m).2])) []:=by
 have cc:=zd9 (T:=T) m
 by_cases hk0:zj m=0
 ·have w1:=(zw hk0).w1
  by_cases h8:8 < m.W
  ·refine zg zp za5 (by show 1≤20;decide) ?_
   (repeat' ((conv=>whnf);first|refine vA ?_|refine vB fun b hb=>?_|refine vC (fun hl=>?_) fun i kv vv hi=>?_|refine vE ?_|refine vG ?_|refine vH ?_|((first|refine vD ?_ ?_|refine vF ?_ ?_|refine vI ?_ ?_)<;>intro hc<;>try simp only [vL] at hc)|refine vJ fun hg=>?_|refine vK fun hg=>?_|refine vT ?_|refine vN ‹_› ?_|(refine vQ ?_ fun x hx=>?_;·first|omega|(simp only [vM] at *;omega))|((first|refine vO ?_ ?_|refine vR ?_ ‹_› ?_|refine vS ?_ fun x hx=>?_|refine vP ?_ ?_);·first|omega|(simp only [vM] at *;omega))|refine vW ⟨by omega,by omega⟩ ?_|(refine vU ?_ ?_;·kernel_rfl)|refine vX ?_|refine vY ?_|refine vZ ?_|refine yD cc ⟨⟨rfl,rfl⟩,rfl⟩ rfl ?_|refine za.mk _ ‹_› ?_|refine vP (show (_:BitVec 64)≠_ by decide) ?_));all_goals try conv=>whnf
   ·exact absurd hk0 ‹_›
   ·rw [zdK,if_neg (by omega),if_pos h8];rfl
   ·exfalso;omega
  ·have hl:=zmG (ok:=okR m m) (n:=m.W.toNat) m.W.toNat []
   have hp:m.W.toNat ^ m.W.toNat≤8 ^ 8:=Nat.le_trans (Nat.pow_le_pow_left (by omega) _) (Nat.pow_le_pow_right (by decide) (by omega))
   have h8':(8:Nat) ^ 8=16777216:=by decide
   have cs:=zjG (T:=T) hk0 hk0 rfl rfl false (fun _=>by omega)
   rw [znj,ztd] at cs
   refine zg zp za5 (by show 1≤20;decide) ?_
   (repeat' ((conv=>whnf);first|refine vA ?_|refine vB fun b hb=>?_|refine vC (fun hl=>?_) fun i kv vv hi=>?_|refine vE ?_|refine vG ?_|refine vH ?_|((first|refine vD ?_ ?_|refine vF ?_ ?_|refine vI ?_ ?_)<;>intro hc<;>try simp only [vL] at hc)|refine vJ fun hg=>?_|refine vK fun hg=>?_|refine vT ?_|refine vN ‹_› ?_|(refine vQ ?_ fun x hx=>?_;·first|omega|(simp only [vM] at *;omega))|((first|refine vO ?_ ?_|refine vR ?_ ‹_› ?_|refine vS ?_ fun x hx=>?_|refine vP ?_ ?_);·first|omega|(simp only [vM] at *;omega))|refine vW ⟨by omega,by omega⟩ ?_|(refine vU ?_ ?_;·kernel_rfl)|refine vX ?_|refine vY ?_|refine vZ ?_|refine yD cc ⟨⟨rfl,rfl⟩,rfl⟩ rfl ?_|refine za.mk _ ‹_› ?_|refine vP (show (_:BitVec 64)≠_ by decide) ?_));all_goals try conv=>whnf
   ·exact absurd hk0 ‹_›
   ·exfalso;omega
   ·refine zM.objs [1] (cs) (by (repeat' first|exact trivial|exact rfl|exact ⟨_,rfl⟩|exact .inl rfl|exact .inr (.inl ⟨rfl,rfl⟩)|exact .inr (.inr ⟨rfl,rfl⟩)|refine And.intro ?_ ?_|refine ⟨_,rfl,?_⟩|decide|exact of_decide_eq_true rfl)) (by (repeat' first|exact trivial|exact rfl|exact ⟨_,rfl⟩|exact .inl rfl|exact .inr (.inl ⟨rfl,rfl⟩)|exact .inr (.inr ⟨rfl,rfl⟩)|refine And.intro ?_ ?_|refine ⟨_,rfl,?_⟩|decide|exact of_decide_eq_true rfl)) (by rfl) (by rfl) (by simp) ?_
    (repeat' ((conv=>whnf);first|refine vA ?_|refine vB fun b hb=>?_|refine vC (fun hl=>?_) fun i kv vv hi=>?_|refine vE ?_|refine vG ?_|refine vH ?_|((first|refine vD ?_ ?_|refine vF ?_ ?_|refine vI ?_ ?_)<;>intro hc<;>try simp only [vL] at hc)|refine vJ fun hg=>?_|refine vK fun hg=>?_|refine vT ?_|refine vN ‹_› ?_|(refine vQ ?_ fun x hx=>?_;·first|omega|(simp only [vM] at *;omega))|((first|refine vO ?_ ?_|refine vR ?_ ‹_› ?_|refine vS ?_ fun x hx=>?_|refine vP ?_ ?_);·first|omega|(simp only [vM] at *;omega))|refine vW ⟨by omega,by omega⟩ ?_|(refine vU ?_ ?_;·kernel_rfl)|refine vX ?_|refine vY ?_|refine vZ ?_|refine za.mk _ ‹_› ?_|refine vP (show (_:BitVec 64)≠_ by decide) ?_));all_goals try conv=>whnf
    rw [zdK,if_neg (by omega),if_neg (by omega)]
    refine congrArg (fun z=>some (D.tup [D.int .i64 z,D.int .i64 0])) ?_
    simp
 ·refine zg zp za5 (by show 1≤20;decide) ?_
  (repeat' ((conv=>whnf);first|refine vA ?_|refine vB fun b hb=>?_|refine vC (fun hl=>?_) fun i kv vv hi=>?_|refine vE ?_|refine vG ?_|refine vH ?_|((first|refine vD ?_ ?_|refine vF ?_ ?_|refine vI ?_ ?_)<;>intro hc<;>try simp only [vL] at hc)|refine vJ fun hg=>?_|refine vK fun hg=>?_|refine vT ?_|refine vN ‹_› ?_|(refine vQ ?_ fun x hx=>?_;·first|omega|(simp only [vM] at *;omega))|((first|refine vO ?_ ?_|refine vR ?_ ‹_› ?_|refine vS ?_ fun x hx=>?_|refine vP ?_ ?_);·first|omega|(simp only [vM] at *;omega))|refine vW ⟨by omega,by omega⟩ ?_|(refine vU ?_ ?_;·kernel_rfl)|refine vX ?_|refine vY ?_|refine vZ ?_|refine yD cc ⟨⟨rfl,rfl⟩,rfl⟩ rfl ?_|refine za.mk _ ‹_› ?_|refine vP (show (_:BitVec 64)≠_ by decide) ?_));all_goals try conv=>whnf
  ·rw [zdK,if_pos hk0];rfl
  all_goals exact absurd ‹zj m=0› hk0
theorem zu0 (a b:KM):Fn Tryz.prog T zc0 [.d (dKM a),.d (dKM b)] [] (.d (.tup [dI (zeW a b).1,.int .i64 (zeW a b).2])) []:=by
 have cb:=zoK (T:=T) a b
 by_cases he:z7 a b=0
 ·obtain ⟨ha,hb,hr,hv⟩:=zg0 he
  have ga:=zw ha
  have w1:=ga.w1
  rw [he] at cb
  by_cases h12:12 < a.W∨12 < b.W
  ·refine zg zp zag (by show 2≤36;decide) ?_
   (repeat' ((conv=>whnf);first|refine vA ?_|refine vB fun b hb=>?_|refine vC (fun hl=>?_) fun i kv vv hi=>?_|refine vE ?_|refine vG ?_|refine vH ?_|((first|refine vD ?_ ?_|refine vF ?_ ?_|refine vI ?_ ?_)<;>intro hc<;>try simp only [vL] at hc)|refine vJ fun hg=>?_|refine vK fun hg=>?_|refine vT ?_|refine vN ‹_› ?_|(refine vQ ?_ fun x hx=>?_;·first|omega|(simp only [vM] at *;omega))|((first|refine vO ?_ ?_|refine vR ?_ ‹_› ?_|refine vS ?_ fun x hx=>?_|refine vP ?_ ?_);·first|omega|(simp only [vM] at *;omega))|refine vW ⟨by omega,by omega⟩ ?_|(refine vU ?_ ?_;·kernel_rfl)|refine vX ?_|refine vY ?_|refine vZ ?_|refine yD cb ⟨⟨rfl,rfl⟩,⟨rfl,rfl⟩,rfl⟩ rfl ?_|refine za.mk _ ‹_› ?_|refine vP (show (_:BitVec 64)≠_ by decide) ?_));all_goals try conv=>whnf
   iterate 2 (rw [zeW,if_neg (by omega),if_pos h12];rfl)
   all_goals (exfalso;omega)
  ·by_cases hW:a.W=b.W
   ·have hlen : ∀ y∈dfs (okR a b) a.W.toNat a.W.toNat [],y.length=a.W.toNat:=fun y hy=>by have:=(zdo.1 hy).1;simpa using this
    cases hD:dfs (okR a b) a.W.toNat a.W.toNat [] with
    | nil =>
     have cs:=zjG (T:=T) ha hb hW hr true nofun
     rw [hD] at cs
     refine zg zp zag (by show 2≤36;decide) ?_
     (repeat' ((conv=>whnf);first|refine vA ?_|refine vB fun b hb=>?_|refine vC (fun hl=>?_) fun i kv vv hi=>?_|refine vE ?_|refine vG ?_|refine vH ?_|((first|refine vD ?_ ?_|refine vF ?_ ?_|refine vI ?_ ?_)<;>intro hc<;>try simp only [vL] at hc)|refine vJ fun hg=>?_|refine vK fun hg=>?_|refine vT ?_|refine vN ‹_› ?_|(refine vQ ?_ fun x hx=>?_;·first|omega|(simp only [vM] at *;omega))|((first|refine vO ?_ ?_|refine vR ?_ ‹_› ?_|refine vS ?_ fun x hx=>?_|refine vP ?_ ?_);·first|omega|(simp only [vM] at *;omega))|refine vW ⟨by omega,by omega⟩ ?_|(refine vU ?_ ?_;·kernel_rfl)|refine vX ?_|refine vY ?_|refine vZ ?_|refine yD cb ⟨⟨rfl,rfl⟩,⟨rfl,rfl⟩,rfl⟩ rfl ?_|refine za.mk _ ‹_› ?_|refine vP (show (_:BitVec 64)≠_ by decide) ?_));all_goals try conv=>whnf
     all_goals try (exfalso;omega)
     ·refine zM.objs [2] (cs) (by (repeat' first|exact trivial|exact rfl|exact ⟨_,rfl⟩|exact .inl rfl|exact .inr (.inl ⟨rfl,rfl⟩)|exact .inr (.inr ⟨rfl,rfl⟩)|refine And.intro ?_ ?_|refine ⟨_,rfl,?_⟩|decide|exact of_decide_eq_true rfl)) (by (repeat' first|exact trivial|exact rfl|exact ⟨_,rfl⟩|exact .inl rfl|exact .inr (.inl ⟨rfl,rfl⟩)|exact .inr (.inr ⟨rfl,rfl⟩)|refine And.intro ?_ ?_|refine ⟨_,rfl,?_⟩|decide|exact of_decide_eq_true rfl)) (by rfl) (by rfl) (by simp) ?_
      (repeat' ((conv=>whnf);first|refine vA ?_|refine vB fun b hb=>?_|refine vC (fun hl=>?_) fun i kv vv hi=>?_|refine vE ?_|refine vG ?_|refine vH ?_|((first|refine vD ?_ ?_|refine vF ?_ ?_|refine vI ?_ ?_)<;>intro hc<;>try simp only [vL] at hc)|refine vJ fun hg=>?_|refine vK fun hg=>?_|refine vT ?_|refine vN ‹_› ?_|(refine vQ ?_ fun x hx=>?_;·first|omega|(simp only [vM] at *;omega))|((first|refine vO ?_ ?_|refine vR ?_ ‹_› ?_|refine vS ?_ fun x hx=>?_|refine vP ?_ ?_);·first|omega|(simp only [vM] at *;omega))|refine vW ⟨by omega,by omega⟩ ?_|(refine vU ?_ ?_;·kernel_rfl)|refine vX ?_|refine vY ?_|refine vZ ?_|refine za.mk _ ‹_› ?_|refine vP (show (_:BitVec 64)≠_ by decide) ?_));all_goals try conv=>whnf
      rw [zeW,if_neg (by omega),if_neg h12,if_neg (by omega),hD];rfl
    | cons y l =>
     have hyl:=hlen y (by rw [hD];simp)
     have cs:=zjG (T:=T) ha hb hW hr true nofun
     rw [hD,zrZ] at cs
     refine zg zp zag (by show 2≤36;decide) ?_
     (repeat' ((conv=>whnf);first|refine vA ?_|refine vB fun b hb=>?_|refine vC (fun hl=>?_) fun i kv vv hi=>?_|refine vE ?_|refine vG ?_|refine vH ?_|((first|refine vD ?_ ?_|refine vF ?_ ?_|refine vI ?_ ?_)<;>intro hc<;>try simp only [vL] at hc)|refine vJ fun hg=>?_|refine vK fun hg=>?_|refine vT ?_|refine vN ‹_› ?_|(refine vQ ?_ fun x hx=>?_;·first|omega|(simp only [vM] at *;omega))|((first|refine vO ?_ ?_|refine vR ?_ ‹_› ?_|refine vS ?_ fun x hx=>?_|refine vP ?_ ?_);·first|omega|(simp only [vM] at *;omega))|refine vW ⟨by omega,by omega⟩ ?_|(refine vU ?_ ?_;·kernel_rfl)|refine vX ?_|refine vY ?_|refine vZ ?_|refine yD cb ⟨⟨rfl,rfl⟩,⟨rfl,rfl⟩,rfl⟩ rfl ?_|refine za.mk _ ‹_› ?_|refine vP (show (_:BitVec 64)≠_ by decide) ?_));all_goals try conv=>whnf
     all_goals try (exfalso;omega)
     ·refine zM.objs [2] (cs) (by (repeat' first|exact trivial|exact rfl|exact ⟨_,rfl⟩|exact .inl rfl|exact .inr (.inl ⟨rfl,rfl⟩)|exact .inr (.inr ⟨rfl,rfl⟩)|refine And.intro ?_ ?_|refine ⟨_,rfl,?_⟩|decide|exact of_decide_eq_true rfl)) (by (repeat' first|exact trivial|exact rfl|exact ⟨_,rfl⟩|exact .inl rfl|exact .inr (.inl ⟨rfl,rfl⟩)|exact .inr (.inr ⟨rfl,rfl⟩)|refine And.intro ?_ ?_|refine ⟨_,rfl,?_⟩|decide|exact of_decide_eq_true rfl)) (by rfl) (by rfl) (by simp) ?_
      (repeat' ((conv=>whnf);first|refine vA ?_|refine vB fun b hb=>?_|refine vC (fun hl=>?_) fun i kv vv hi=>?_|refine vE ?_|refine vG ?_|refine vH ?_|((first|refine vD ?_ ?_|refine vF ?_ ?_|refine vI ?_ ?_)<;>intro hc<;>try simp only [vL] at hc)|refine vJ fun hg=>?_|refine vK fun hg=>?_|refine vT ?_|refine vN ‹_› ?_|(refine vQ ?_ fun x hx=>?_;·first|omega|(simp only [vM] at *;omega))|((first|refine vO ?_ ?_|refine vR ?_ ‹_› ?_|refine vS ?_ fun x hx=>?_|refine vP ?_ ?_);·first|omega|(simp only [vM] at *;omega))|refine vW ⟨by omega,by omega⟩ ?_|(refine vU ?_ ?_;·kernel_rfl)|refine vX ?_|refine vY ?_|refine vZ ?_|refine za.mk _ ‹_› ?_|refine vP (show (_:BitVec 64)≠_ by decide) ?_));all_goals try conv=>whnf
      rw [zeW,if_neg (by omega),if_neg h12,if_neg (by omega),hD];rfl
   ·refine zg zp zag (by show 2≤36;decide) ?_
    (repeat' ((conv=>whnf);first|refine vA ?_|refine vB fun b hb=>?_|refine vC (fun hl=>?_) fun i kv vv hi=>?_|refine vE ?_|refine vG ?_|refine vH ?_|((first|refine vD ?_ ?_|refine vF ?_ ?_|refine vI ?_ ?_)<;>intro hc<;>try simp only [vL] at hc)|refine vJ fun hg=>?_|refine vK fun hg=>?_|refine vT ?_|refine vN ‹_› ?_|(refine vQ ?_ fun x hx=>?_;·first|omega|(simp only [vM] at *;omega))|((first|refine vO ?_ ?_|refine vR ?_ ‹_› ?_|refine vS ?_ fun x hx=>?_|refine vP ?_ ?_);·first|omega|(simp only [vM] at *;omega))|refine vW ⟨by omega,by omega⟩ ?_|(refine vU ?_ ?_;·kernel_rfl)|refine vX ?_|refine vY ?_|refine vZ ?_|refine yD cb ⟨⟨rfl,rfl⟩,⟨rfl,rfl⟩,rfl⟩ rfl ?_|refine za.mk _ ‹_› ?_|refine vP (show (_:BitVec 64)≠_ by decide) ?_));all_goals try conv=>whnf
    iterate 2 (exfalso;omega)
    ·rw [zeW,if_neg (by omega),if_neg h12,if_pos hW];rfl
    ·exact absurd ‹_› hW
 ·refine zg zp zag (by show 2≤36;decide) ?_
  (repeat' ((conv=>whnf);first|refine vA ?_|refine vB fun b hb=>?_|refine vC (fun hl=>?_) fun i kv vv hi=>?_|refine vE ?_|refine vG ?_|refine vH ?_|((first|refine vD ?_ ?_|refine vF ?_ ?_|refine vI ?_ ?_)<;>intro hc<;>try simp only [vL] at hc)|refine vJ fun hg=>?_|refine vK fun hg=>?_|refine vT ?_|refine vN ‹_› ?_|(refine vQ ?_ fun x hx=>?_;·first|omega|(simp only [vM] at *;omega))|((first|refine vO ?_ ?_|refine vR ?_ ‹_› ?_|refine vS ?_ fun x hx=>?_|refine vP ?_ ?_);·first|omega|(simp only [vM] at *;omega))|refine vW ⟨by omega,by omega⟩ ?_|(refine vU ?_ ?_;·kernel_rfl)|refine vX ?_|refine vY ?_|refine vZ ?_|refine yD cb ⟨⟨rfl,rfl⟩,⟨rfl,rfl⟩,rfl⟩ rfl ?_|refine za.mk _ ‹_› ?_|refine vP (show (_:BitVec 64)≠_ by decide) ?_));all_goals try conv=>whnf
  ·rw [zeW,if_pos he];rfl
  all_goals exact absurd ‹z7 a b=0› he
end Go.Ab
