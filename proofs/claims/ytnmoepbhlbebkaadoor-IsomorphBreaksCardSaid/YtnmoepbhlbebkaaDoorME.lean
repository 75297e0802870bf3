/- A part of the proofs of this seat: functions and their contracts. -/
import Derived.Test.YtnmoepbhlbebkaaDoorMD
import Derived.Calls
set_option linter.unusedVariables false
set_option linter.unusedSimpArgs false
set_option linter.unusedSectionVars false
namespace Go.Ab
open Go Go.Proofs
set_option maxRecDepth 10000
set_option maxHeartbeats 4000000
variable {T:Nat→Obj→Prop}
abbrev dTs (l:List Tup):D := .arr 1 (l.map dII)
theorem zy9 {n:Nat} (t:Nat→Tup):(((List.range n).map t).map (rkN ((List.range n).map t))).map (fun (x:Nat)=>(x:Int))=ptL n fun w=>rkN ((List.range n).map t) (t w):=by
 unfold ptL;simp [Function.comp_def]
theorem zrm {n:Nat} (t:Nat→Tup) (h1:1≤n) (h12:n≤12) (hs : ∀ w,w < n→Sml (t w)) :
  Fn Tryd.prog T zfg [.d (dTs ((List.range n).map t))] [] (.d (.tup [dI (ptL n fun w=>rkN ((List.range n).map t) (t w)),.int .i64 (cnN ((List.range n).map t):Int)])) []:=by
 have h:=zw4 (T:=T) ((List.range n).map t) (fun h=>by have:=congrArg List.length h;simp at this;omega) (by simpa using h12) (fun x hx=>by
  obtain ⟨w,hw,rfl⟩:=List.mem_map.1 hx
  exact hs w (List.mem_range.1 hw))
 rw [show dN (((List.range n).map t).map (rkN ((List.range n).map t)))=dI (ptL n fun w=>rkN ((List.range n).map t) (t w)) by rw [← zy9]] at h
 exact h
theorem zvX {n:Nat} (h1:1≤n) (h12:n≤12) (g:Nat) (y1 y2:D) (next:(Nat→Nat)→Nat→Tup) (first:Nat→Tup) (hF : ∀ q v w,v < n→w < n→next q v=next q w→q v=q w)
  (hs : ∀ q w,w < n→Sml (next q w)) (hf : ∀ w,w < n→Sml (first w)) (hx : ∀ (q:Nat→Nat) (w:Nat),w < n→Fn Tryd.prog T g [.d (dI (ptL n q)),.d (.int .i64 (w:Int)),.d y1,.d y2] [] (.d (dII (next q w))) []) :
  Fn Tryd.prog T zhf [.d (dTs ((List.range n).map first)),.d (.fn g [y1,y2])] []
   (.d (.tup [dI (ptL n (zex n next (n+1) (fun w=>rkN ((List.range n).map first) (first w)) (cnN ((List.range n).map first))).1),.int .i64 ((zex n next (n+1) (fun w=>rkN ((List.range n).map first) (first w)) (cnN ((List.range n).map first))).2:Int)])) []:=by
 have c1:=zrm (T:=T) first h1 h12 hf
 have c2:=fun q=>zrm (T:=T) (next q) h1 h12 (hs q)
 generalize hq0:(fun w=>rkN ((List.range n).map first) (first w))=q0 at c1
 have hd0:cnN ((List.range n).map first)=dcN n q0:=by
  have:=zgs (n:=n) (next:=fun _=>first) (fun _=>0)
  unfold zdj rfT ze5 rfT at this
  rw [hq0] at this
  exact this.symm
 rw [hd0] at c1 ⊢
 generalize hR:zex n next (n+1) q0 (dcN n q0)=R
 refine zb zk znn (by show 2≤45;decide) ?_
 (repeat' ((conv=>whnf);first|refine vT ?_|refine yN c1 ⟨⟨rfl,rfl⟩,rfl⟩ ?_));all_goals try conv=>whnf
 refine zar (fun ((q,c):(Nat→Nat)×Nat)=>[(1,.d (.fn g [y1,y2])),(6,.d (dI (ptL n q))),(7,.d (.int .i64 ((c:Int))))]) (fun ((q,c):(Nat→Nat)×Nat)=>c=dcN n q∧zex n next (n+1) q (dcN n q)=R) (fun ((q,c):(Nat→Nat)×Nat)=>n+1 - c) ((q0,dcN n q0)) (⟨rfl,hR⟩) (by (repeat' first|exact trivial|exact rfl|refine And.intro ?_ ?_)) ?_
 rintro ⟨q,c⟩ ⟨hc0,hI⟩
 have hln:(ptL n q).length=n:=zqR
 (repeat' ((conv=>whnf);first|refine vA ?_|refine vJ fun hg=>?_|refine vK fun hg=>?_|refine vT ?_|(refine vP ?_ ?_;·(simp only [vM] at *;omega))|fail));all_goals try conv=>whnf
 ·refine zy (fun ((k,zs):Nat×List D)=>[(1,.d (.fn g [y1,y2])),(6,.d (dI (ptL n q))),(7,.d (.int .i64 ((c:Int)))),(8,.own 0),(21,.d (.int .i64 (((List.replicate ((((ptL n q).map (D.int .i64)).length:Int)).toNat (D.arr 1 []))).length:Int))),(22,.d (.int .i64 ((k:Int))))]) (fun ((k,zs):Nat×List D)=>[(0,some (.row 1 zs))]) 1 (fun ((k,zs):Nat×List D)=>k≤n∧zs=(List.range n).map fun w=>if w < k then dII (next q w) else D.arr 1 []) (fun ((k,zs):Nat×List D)=>n - k) ((0,List.replicate ((((ptL n q).map (D.int .i64)).length:Int)).toNat (D.arr 1 []))) [(0,0)] [] (⟨by omega,by simp only [Nat.not_lt_zero,if_false];rw [List.length_map,hln,Int.toNat_natCast];exact zf6 _ _⟩) (by (refine ⟨rfl,rfl,rfl,?_,?_⟩;repeat' first|exact trivial|exact rfl|refine And.intro ?_ ?_|refine ⟨_,rfl,?_⟩|decide)) ?_
  rintro ⟨k,zs⟩ ⟨hk,hz⟩
  by_cases hkl:k < n
  ·subst hz
   have er:(List.range n)[k]? = some k:=List.getElem?_range hkl
   (repeat' ((conv=>whnf);first|refine vA ?_|(refine vF ?_ ?_<;>intro hc<;>try simp only [vL] at hc)|refine vT ?_));all_goals try conv=>whnf
   ·refine zo.dataN (hx q k hkl) (by (repeat refine ⟨⟨rfl,rfl⟩,?_⟩);rfl) ?_
    (repeat' ((conv=>whnf);first|refine vT ?_|((first|refine vO ?_ ?_|refine vP ?_ ?_);·first|omega|(simp only [vM] at *;omega))|fail));all_goals try conv=>whnf
    refine ⟨(k+1,_),[(0,0)],[],?_,?_,by (refine ⟨rfl,rfl,rfl,?_,?_⟩;repeat' first|exact trivial|exact rfl|refine And.intro ?_ ?_|refine ⟨_,rfl,?_⟩|decide)⟩
    ·refine ⟨by omega,(zgU _).trans (zaJ fun u hu=>?_)⟩
     show (if u=k then _ else _)=_
     by_cases e:u=k
     ·subst e;rw [if_pos rfl,if_pos (by omega)]
     ·rw [if_neg e]
      by_cases e2:u < k
      ·rw [if_pos e2,if_pos (by omega)]
      ·rw [if_neg e2,if_neg (by omega)]
    ·((simp only [vM] at *;omega))
   ·exfalso
    simp only [vM] at *;omega
  ·have hzz:zs=((List.range n).map (next q)).map dII:=by
    rw [hz,List.map_map];exact zaJ fun u hu=>by rw [if_pos (by omega)];rfl
   clear hz
   subst hzz
   have c3:=c2 q
   (repeat' ((conv=>whnf);first|refine vA ?_|(refine vF ?_ ?_<;>intro hc<;>try simp only [vL] at hc)|refine vT ?_|refine yN c3 (by (repeat refine ⟨⟨rfl,rfl⟩,?_⟩);rfl) ?_));all_goals try conv=>whnf
   ·exfalso;simp only [vM] at *;omega
   ·have e1:zdj n next q=dcN n q:=by have h:(cnN ((List.range n).map (next q)):Int)=(c:Int):=‹_›;unfold zdj rfT;omega
    rw [zex,if_pos e1] at hI
    rw [← hI,hc0];rfl
   ·have e1:zdj n next q≠dcN n q:=fun e=>by
     have h : ¬(cnN ((List.range n).map (next q)):Int)=(c:Int):=‹_›
     unfold zdj rfT at e;omega
    have e2:=zwJ hF q
    have e3:=zgs (n:=n) (next:=next) q
    have e4:=zA5 (n:=n) (next:=next) q
    refine ⟨(ze5 n next q,zdj n next q),[],[],?_,?_,by (refine ⟨rfl,rfl,rfl,?_,?_⟩;repeat' first|exact trivial|exact rfl|refine And.intro ?_ ?_)⟩
    ·refine ⟨e3.symm,?_⟩
     rw [zex,if_neg e1,← e3] at hI
     rw [← hI]
     exact zvf hF _ _ _ (by omega) (by omega)
    ·show n+1 - zdj n next q < n+1 - c
     omega
end Go.Ab
namespace Go.Ab
open Go Go.Proofs
set_option maxRecDepth 10000
set_option maxHeartbeats 4000000
variable {T:Nat→Obj→Prop}
theorem zzr {n:Nat} (h12:n≤12) {R:zbl} (hR:R.length≤8) (q:Nat→Nat) (w:Nat):Sml (zdI n R q w)∧Sml (ziX n R q w):=by
 have hsee : ∀ r:Nat→Nat→Bool,(zez n r q w).length≤12:=fun r=>by
  unfold zez
  rw [List.length_map]
  have:=List.length_filter_le (fun v=>r w v) (List.range n)
  rw [List.length_range] at this;omega
 refine ⟨⟨by simp [zdI];omega,fun x hx=>?_⟩,⟨by simp [ziX];omega,fun x hx=>?_⟩⟩
 ·rcases List.mem_cons.1 hx with rfl|hx
  ·simp
  ·obtain ⟨r,-,rfl⟩:=List.mem_map.1 hx
   have:=hsee r
   rw [(zij _).length_eq];omega
 ·rcases List.mem_cons.1 hx with rfl|hx
  ·simp
  ·obtain ⟨r,-,rfl⟩:=List.mem_map.1 hx
   have:=hsee r
   have h2:=ze4 (ze3 (zez n r q w)) (l':=zez n r q w) fun y hy=>zck.1 hy
   unfold zt0
   rw [(zij _).length_eq];omega
theorem zxw {m:KM} (hk0:zi m=0) {r:List (BitVec 64)} (hr:r∈m.rel) (w:Nat) : ∀ v,(r.getD w 0#64).getLsbD v=true→v < m.W.toNat:=fun v hv=>(zzQ hk0 hr (v:=w) (u:=v) hv).2
abbrev bUU (l:List (List (BitVec 64))):D := .box [dUU l]
def zfI (m:KM):List (List (BitVec 64)):=m.rel.map (zoE m.W.toNat)
theorem zAu {n:Nat} {r:List (BitVec 64)} {w:Nat} (hw:w < n):(zoE n r)[w]? = some (zbb (fun v=>rb r v w) n):=by unfold zoE;simp [hw]
theorem zvO (hT:zcl T) {m:KM} (hk0:zi m=0) (h12:m.W≤12) (q:Nat→Nat) (w:Nat) (hw:w < m.W.toNat) :
  Fn Tryd.prog T zcw [.d (dI (ptL m.W.toNat q)),.d (.int .i64 (w:Int)),.d (bKM m),.d (bUU (zfI m))] [] (.d (dII (zdI m.W.toNat (z7 m++zfJ (z7 m)) q w))) []:=by
 have hg0:=zw hk0
 have n4:=hg0.n4
 have e0:=zmo (q:=q) hw
 refine zb zk zlq (by show 4≤52;decide) ?_
 (repeat' ((conv=>whnf);first|refine vA ?_|refine vJ fun hg=>?_|refine vT ?_|refine vN ‹_› ?_));all_goals try conv=>whnf
 refine zy (fun ((k,zs):Nat×List D)=>[(0,.d (dI (ptL m.W.toNat q))),(1,.d (.int .i64 ((w:Int)))),(3,.d (bUU (zfI m))),(7,.own 0),(19,.d (dUU m.rel)),(20,.d (.int .i64 ((m.rel.map dU).length:Int))),(21,.d (.int .i64 ((k:Int))))]) (fun ((k,zs):Nat×List D)=>[(0,some (.row 1 zs))]) 1 (fun ((k,zs):Nat×List D)=>k≤m.rel.length∧zs=dI [(q w:Int)]::(m.rel.take k).map fun r=>dI (zeC (zcz q (r.getD w 0#64)))) (fun ((k,zs):Nat×List D)=>m.rel.length - k) ((0,[dI [(q w:Int)]])) [(0,1)] [] (⟨by omega,by simp⟩) (by (refine ⟨rfl,rfl,rfl,?_,?_⟩;repeat' first|exact trivial|exact rfl|refine And.intro ?_ ?_|refine ⟨_,rfl,?_⟩|decide)) ?_
 rintro ⟨k,zs⟩ ⟨hk,hz⟩
 have hzl:zs.length≤5:=by rw [hz];simp;omega
 by_cases hkl:k < m.rel.length
 ·obtain ⟨r,hr⟩ : ∃ r,m.rel[k]? = some r:=⟨_,List.getElem?_eq_getElem hkl⟩
  have hrm:=List.mem_of_getElem? hr
  have hrl:=hg0.len r hrm
  have hx:=zbF (l:=r) (d:=0#64) (show w < r.length by omega)
  (repeat' ((conv=>whnf);first|refine vA ?_|(refine vF ?_ ?_<;>intro hc<;>try simp only [vL] at hc)|refine vJ fun hg=>?_|refine vT ?_|refine vN ‹_› ?_));all_goals try conv=>whnf
  ·refine zo.res (zrn hT q (n:=m.W.toNat) (by omega) (zxw hk0 hrm w)) (by (repeat refine ⟨⟨rfl,rfl⟩,?_⟩);rfl) ?_
   (repeat' ((conv=>whnf);first|refine vT ?_|((first|refine vO ?_ ?_|refine vP ?_ ?_);·first|omega|(simp only [vM] at *;omega))|fail));all_goals try conv=>whnf
   refine ⟨(k+1,_),[(0,3)],[],?_,?_,by (refine ⟨rfl,rfl,rfl,?_,?_⟩;repeat' first|exact trivial|exact rfl|refine And.intro ?_ ?_|refine ⟨_,rfl,?_⟩|decide)⟩
   ·refine ⟨by omega,?_⟩
    rw [List.take_add_one,hr,hz];simp
   ·((simp only [vM] at *;omega))
  ·exfalso;omega
 ·have hzz:zs=dI [(q w:Int)]::m.rel.map fun r=>dI (zeC (zcz q (r.getD w 0#64))):=by rw [hz,List.take_of_length_le (by omega)]
  clear hz
  (repeat' ((conv=>whnf);first|refine vA ?_|(refine vF ?_ ?_<;>intro hc<;>try simp only [vL] at hc)|refine vJ fun hg=>?_|refine vT ?_|(refine vQ ?_ fun x hx=>?_;·omega)|fail));all_goals try conv=>whnf
  ·exfalso;omega
  refine zy (fun ((k,ys):Nat×List D)=>[(0,.d (dI (ptL m.W.toNat q))),(1,.d (.int .i64 ((w:Int)))),(7,.own 0),(35,.d (dUU (zfI m))),(36,.d (.int .i64 (((zfI m).map dU).length:Int))),(37,.d (.int .i64 ((k:Int))))]) (fun ((k,ys):Nat×List D)=>[(0,some (.row 1 ys))]) 1 (fun ((k,ys):Nat×List D)=>k≤m.rel.length∧ys=zs++(m.rel.take k).map fun r=>dI (zeC (zcz q (zbb (fun v=>rb r v w) m.W.toNat)))) (fun ((k,ys):Nat×List D)=>m.rel.length - k) ((0,zs)) [(0,0)] [] (⟨by omega,by simp⟩) (by (refine ⟨rfl,rfl,rfl,?_,?_⟩;repeat' first|exact trivial|exact rfl|refine And.intro ?_ ?_|refine ⟨_,rfl,?_⟩|decide)) ?_
  rintro ⟨k,ys⟩ ⟨hk,hy⟩
  have hyl:ys.length≤9:=by rw [hy];simp;omega
  have hbl:(zfI m).length=m.rel.length:=by simp [zfI]
  by_cases hkl:k < m.rel.length
  ·obtain ⟨r,hr⟩ : ∃ r,m.rel[k]? = some r:=⟨_,List.getElem?_eq_getElem hkl⟩
   have hrm:=List.mem_of_getElem? hr
   have hb:(zfI m)[k]? = some (zoE m.W.toNat r):=by unfold zfI;rw [List.getElem?_map,hr];rfl
   have hx:=zAu (r:=r) hw
   (repeat' ((conv=>whnf);first|refine vA ?_|(refine vF ?_ ?_<;>intro hc<;>try simp only [vL] at hc)|refine vT ?_|refine vN ‹_› ?_));all_goals try conv=>whnf
   ·refine zo.res (zrn hT q (n:=m.W.toNat) (by omega) (fun v hv=>((zeB (by omega)).1 hv).1)) (by (repeat refine ⟨⟨rfl,rfl⟩,?_⟩);rfl) ?_
    (repeat' ((conv=>whnf);first|refine vT ?_|((first|refine vO ?_ ?_|refine vP ?_ ?_);·first|omega|(simp only [vM] at *;omega))|fail));all_goals try conv=>whnf
    refine ⟨(k+1,_),[(0,3)],[],?_,?_,by (refine ⟨rfl,rfl,rfl,?_,?_⟩;repeat' first|exact trivial|exact rfl|refine And.intro ?_ ?_|refine ⟨_,rfl,?_⟩|decide)⟩
    ·refine ⟨by omega,?_⟩
     rw [List.take_add_one,hr,hy];simp
    ·((simp only [vM] at *;omega))
   ·exfalso;omega
  ·(repeat' ((conv=>whnf);first|refine vA ?_|(refine vF ?_ ?_<;>intro hc<;>try simp only [vL] at hc)|refine vT ?_|(refine vQ ?_ fun x hx=>?_;·omega)|fail));all_goals try conv=>whnf
   ·exfalso;omega
   ·have hyy:ys=zs++m.rel.map fun r=>dI (zeC (zcz q (zbb (fun v=>rb r v w) m.W.toNat))):=by rw [hy,List.take_of_length_le (by omega)]
    refine congrArg some (show D.arr 1 ys=dII (zdI m.W.toNat (z7 m++zfJ (z7 m)) q w) from ?_)
    rw [hyy,hzz]
    unfold zdI z7 zfJ
    have a1 : ∀ r∈m.rel,zez m.W.toNat (fun v w=>rb r v w) q w=zcz q (r.getD w 0#64):=fun r hr=>ztU (by omega) (zxw hk0 hr w) fun v _=>rfl
    have a2 : ∀ r∈m.rel,zez m.W.toNat (fun v w=>rb r w v) q w=zcz q (zbb (fun v=>rb r v w) m.W.toNat):=fun r hr=>ztU (by omega) (fun v hv=>((zeB (by omega)).1 hv).1) fun v hv=>by
     rw [Bool.eq_iff_iff,zeB (by omega)];exact ⟨fun h=>⟨hv,h⟩,fun h=>h.2⟩
    simp only [List.map_append,List.map_map,List.map_cons,List.cons_append]
    refine congrArg (fun l=>D.arr 1 (dI [(q w:Int)]::l)) ?_
    rw [List.map_append,List.map_map,List.map_map]
    refine congr (congrArg _ ?_) ?_
    ·exact List.map_congr_left fun r hr=>by show dI _=dI (zeC (zez _ (fun v w=>rb r v w) q w));rw [a1 r hr]
    ·exact List.map_congr_left fun r hr=>by show dI _=dI (zeC (zez _ (fun v w=>rb r w v) q w));rw [a2 r hr]
def zvB (m:KM):List Int:=if zi m≠0 then [] else ptL m.W.toNat (zi5 m.W.toNat (zbE m) (z7 m)).1
theorem zps (hT:zcl T) (m:KM) (h12:zi m=0→m.W≤12):Fn Tryd.prog T zhe [.d (dKM m)] [] (.d (.tup [dI (zvB m),.int .i64 (zi m)])) []:=by
 by_cases hk0:zi m=0
 ·have h12:=h12 hk0
  have hg0:=zw hk0
  have w1:=hg0.w1
  have n4:=hg0.n4
  have cc:=zbU (T:=T) m
  have cr:=zvX (T:=T) (n:=m.W.toNat) (by omega) (by omega) zcw (bKM m) (bUU (zfI m)) (zdI m.W.toNat (z7 m++zfJ (z7 m))) (fun w=>[[zbE m w]]) (fun q v w hv hw h=>zv5 q v w hv hw h) (fun q w hw=>(zzr (by omega) (by simp [z7,zfJ];omega) q w).1) (fun w hw=>⟨by simp,fun r hr=>by simp at hr;subst hr;simp⟩) (fun q w hw=>zvO hT hk0 h12 q w hw)
  refine zb zk zhj (by show 1≤51;decide) ?_
  rw [hk0] at cc
  (repeat' ((conv=>whnf);first|refine vA ?_|refine vH ?_|refine vT ?_|refine yD cc ⟨⟨rfl,rfl⟩,rfl⟩ rfl ?_));all_goals try conv=>whnf
  refine zy (fun ((k,zs):Nat×List D)=>[(1,.ptr 0 0),(5,.own 1),(18,.d (.int .i64 (m.W))),(19,.d (.int .i64 ((k:Int))))]) (fun ((k,zs):Nat×List D)=>[(0,some (zaH m)),(1,some (.row 1 zs))]) 2 (fun ((k,zs):Nat×List D)=>k≤m.W.toNat∧zs=((List.range k).map fun w=>([[zbE m w]]:Tup)).map dII) (fun ((k,zs):Nat×List D)=>m.W.toNat - k) ((0,[])) [(0,0)]   [1] (⟨by omega,rfl⟩) (by (refine ⟨rfl,rfl,rfl,?_,?_⟩;repeat' first|exact trivial|exact rfl|exact ⟨_,rfl⟩|refine And.intro ?_ ?_|refine ⟨_,rfl,?_⟩|decide)) ?_
  rintro ⟨k,zs⟩ ⟨hk,hz⟩
  have hzl:zs.length≤12:=by rw [hz];simp;omega
  by_cases hkl:k < m.W.toNat
  ·have cf:=ziP (T:=T) m (k:Int)
   rw [zqw hk0 hkl] at cf
   (repeat' ((conv=>whnf);first|refine vA ?_|(refine vF ?_ ?_<;>intro hc<;>try simp only [vL] at hc)|refine vJ fun hg=>?_|refine vT ?_|((first|refine vO ?_ ?_|refine vP ?_ ?_);·first|omega|(simp only [vM] at *;omega))|refine yD cf ⟨⟨rfl,rfl⟩,⟨rfl,rfl⟩,rfl⟩ rfl ?_));all_goals try conv=>whnf
   ·refine ⟨(k+1,_),[(0,0),(1,5)],[],?_,?_,by (refine ⟨rfl,rfl,rfl,?_,?_⟩;repeat' first|exact trivial|exact rfl|refine And.intro ?_ ?_|refine ⟨_,rfl,?_⟩|decide)⟩
    ·exact ⟨by omega,by rw [hz,List.range_succ,List.map_append,List.map_append];rfl⟩
    ·((simp only [vM] at *;omega))
   ·exfalso;omega
  ·have hzz:zs=((List.range m.W.toNat).map fun w=>([[zbE m w]]:Tup)).map dII:=by rw [hz,show k=m.W.toNat by omega]
   clear hz
   subst hzz
   (repeat' ((conv=>whnf);first|refine vA ?_|(refine vF ?_ ?_<;>intro hc<;>try simp only [vL] at hc)|refine vJ fun hg=>?_|refine vT ?_));all_goals try conv=>whnf
   ·exfalso;omega
   refine zy (fun ((k,ys):Nat×List D)=>[(1,.ptr 0 0),(5,.own 1),(7,.ptr 2 0),(32,.d (dUU m.rel)),(33,.d (.int .i64 ((m.rel.map dU).length:Int))),(34,.d (.int .i64 ((k:Int))))]) (fun ((k,ys):Nat×List D)=>[(0,some (zaH m)),(1,some (.row 1 (((List.range m.W.toNat).map fun w=>([[zbE m w]]:Tup)).map dII))),(2,some (.box [.own 3])),(3,some (.row 1 ys))]) 4 (fun ((k,ys):Nat×List D)=>k≤m.rel.length∧ys=(m.rel.take k).map fun r=>dU (zoE m.W.toNat r)) (fun ((k,ys):Nat×List D)=>m.rel.length - k) ((0,[])) [(0,0),(1,1),(2,2)]   [3] (⟨by omega,by simp⟩) (by (refine ⟨rfl,rfl,rfl,?_,?_⟩;repeat' first|exact trivial|exact rfl|exact ⟨_,rfl⟩|refine And.intro ?_ ?_|refine ⟨_,rfl,?_⟩|decide)) ?_
   rintro ⟨k,ys⟩ ⟨hk,hy⟩
   have hyl:ys.length≤4:=by rw [hy];simp;omega
   by_cases hkl:k < m.rel.length
   ·obtain ⟨r,hr⟩ : ∃ r,m.rel[k]? = some r:=⟨_,List.getElem?_eq_getElem hkl⟩
    have hrm:=List.mem_of_getElem? hr
    have hrl:=hg0.len r hrm
    (repeat' ((conv=>whnf);first|refine vA ?_|(refine vF ?_ ?_<;>intro hc<;>try simp only [vL] at hc)|refine vT ?_|refine vN ‹_› ?_|((first|refine vO ?_ ?_|refine vP ?_ ?_);·first|omega|(simp only [vM] at *;omega))|(refine vU ?_ ?_;·kernel_rfl)|refine yN (zup hT (n:=m.W.toNat) (by omega) r (by omega) (fun w v h=>(zzQ hk0 hrm h).2)) ⟨⟨rfl,rfl⟩,rfl⟩ ?_));all_goals try conv=>whnf
    ·refine ⟨(k+1,_),[(0,0),(1,1),(2,2),(3,5)],[],?_,?_,by (refine ⟨rfl,rfl,rfl,?_,?_⟩;repeat' first|exact trivial|exact rfl|refine And.intro ?_ ?_|refine ⟨_,rfl,?_⟩|decide)⟩
     ·refine ⟨by omega,?_⟩
      rw [List.take_add_one,hr,hy];simp
     ·((simp only [vM] at *;omega))
    ·exfalso;omega
   ·have hyy:ys=(zfI m).map dU:=by rw [hy,List.take_of_length_le (by omega)];unfold zfI;rw [List.map_map];rfl
    clear hy
    subst hyy
    (repeat' ((conv=>whnf);first|refine vA ?_|(refine vF ?_ ?_<;>intro hc<;>try simp only [vL] at hc)|refine vT ?_|(refine vQ ?_ fun x hx=>?_;·omega)|refine yN cr ⟨⟨rfl,rfl⟩,⟨rfl,rfl⟩,rfl⟩ ?_));all_goals try conv=>whnf
    ·exfalso;omega
    ·rw [zvB,if_neg (by omega),hk0];rfl
 ·have cc:=zbU (T:=T) m
  refine zb zk zhj (by show 1≤51;decide) ?_
  (repeat' ((conv=>whnf);first|refine vA ?_|(refine vD ?_ ?_<;>intro hc)|refine vT ?_|refine yD cc ⟨⟨rfl,rfl⟩,rfl⟩ rfl ?_));all_goals try conv=>whnf
  ·rw [zvB,if_pos hk0];rfl
  ·exact absurd ‹_› hk0
end Go.Ab
namespace Go.Ab
open Go Go.Proofs
set_option maxRecDepth 10000
set_option maxHeartbeats 4000000
variable {T:Nat→Obj→Prop}
theorem zqA (a b:KM):Fn Tryd.prog T ziH [.d (dKM a),.d (dKM b)] [] (.d (.int .i64 (zbr a b))) []:=by
 refine zb zk zpK (by show 2≤33;decide) ?_
 (repeat' ((conv=>whnf);first|refine vA ?_|(refine vD ?_ ?_<;>intro hc<;>try simp only [vL] at hc)|refine vJ fun hg=>?_|refine vT ?_|refine vX ?_|refine yD (zbU _) ⟨⟨rfl,rfl⟩,rfl⟩ rfl ?_));all_goals try conv=>whnf
 ·rw [zbr,if_pos ‹_›]
 ·rw [zbr,if_neg (by omega),if_pos ‹_›]
 ·rw [zbr,if_neg (by omega),if_neg (by omega),if_pos (by omega)]
 ·rw [zbr,if_neg (by omega),if_neg (by omega),if_pos (by omega)]
 ·rw [zbr,if_neg (by omega),if_neg (by omega),if_neg (by omega)]
theorem zuQ {x y:BitVec 64} {u w:Nat} : x >>> u&&&1#64=y >>> w&&&1#64↔x.getLsbD u=y.getLsbD w:=by
 cases hx:x.getLsbD u<;>cases hy:y.getLsbD w
 ·rw [(zek _ _).2 hx,(zek _ _).2 hy];simp
 ·rw [(zek _ _).2 hx,(zcg _ _).2 hy];decide
 ·rw [(zcg _ _).2 hx,(zek _ _).2 hy];decide
 ·rw [(zcg _ _).2 hx,(zcg _ _).2 hy];simp
def zhM (a b:KM) (f:Nat→Nat) (v:Nat):Prop:=zbE a v=zbE b (f v) ∧ ∀ (i:Nat) r r',a.rel[i]? = some r→b.rel[i]? = some r' → ∀ u,u≤v→rb r v u=rb r' (f v) (f u)∧rb r u v=rb r' (f u) (f v)
noncomputable def zqx (a b:KM) (f:Nat→Nat) (v:Nat):Bool := @decide (zhM a b f v) (Classical.propDecidable _)
theorem zod {a b:KM} {f:Nat→Nat} {v:Nat} (h:zhM a b f v):zqx a b f v=true:=by unfold zqx;exact @decide_eq_true _ (Classical.propDecidable _) h
theorem zqy {a b:KM} {f:Nat→Nat} {v:Nat} (h : ¬zhM a b f v):zqx a b f v=false:=by unfold zqx;exact @decide_eq_false _ (Classical.propDecidable _) h
theorem zl0 {a b:KM} (hl:b.rel.length=a.rel.length) {f:Nat→Nat} {v:Nat} : zhM a b f v↔zbE a v=zbE b (f v) ∧ ∀ u,u≤v→zic (z7 a) (z7 b) f v u=true:=by
 have hl':(z7 b).length=(z7 a).length:=by rw [zid,zid];exact hl
 unfold zhM
 refine and_congr Iff.rfl ⟨fun h u hu=>(zfB hl').2 fun i r r' h1 h2=>?_,fun h i r r' h1 h2 u hu=>?_⟩
 ·unfold z7 at h1 h2
  rw [List.getElem?_map,Option.map_eq_some_iff] at h1 h2
  obtain ⟨s,hs,rfl⟩:=h1
  obtain ⟨s',hs',rfl⟩:=h2
  have:=h i s s' hs hs' u hu
  simp only [Bool.and_eq_true,beq_iff_eq]
  exact this
 ·have:=(zfB hl').1 (h u hu) i (fun v w=>rb r v w) (fun v w=>rb r' v w) (by unfold z7;rw [List.getElem?_map,h1];rfl) (by unfold z7;rw [List.getElem?_map,h2];rfl)
  simp only [Bool.and_eq_true,beq_iff_eq] at this
  exact this
theorem ztf {a b:KM} (ha:zi a=0) (hb:zi b=0) (hW:a.W=b.W) (hr:a.rel.length=b.rel.length) (x:List Nat) (v:Nat) (hv:v < a.W.toNat) (hx:v < x.length) (hxn : ∀ u,u≤v→x.getD u 0 < a.W.toNat) :
  Fn Tryd.prog T ziI [.d (dKM a),.d (dKM b),.d (dN x),.d (.int .i64 (v:Int))] [] (.d (.bool (zqx a b (fnL x) v))) []:=by
 have ga:=zw ha
 have gb:=zw hb
 have w1:=ga.w1;have w2:=ga.w2;have n4:=ga.n4
 have ca:=ziP (T:=T) a (v:Int)
 rw [zqw ha hv] at ca
 have hxv:=hxn v (Nat.le_refl _)
 have cb:=ziP (T:=T) b ((x.getD v 0:Nat):Int)
 rw [zqw hb (by omega)] at cb
 have ev:=zj9 hx
 have hno : ¬zhM a b (fnL x) v→false=zqx a b (fnL x) v:=fun h=>(zqy h).symm
 refine zb zk zpL (by show 4≤89;decide) ?_
 (repeat' ((conv=>whnf);first|refine vA ?_|(refine vD ?_ ?_<;>intro hc)|refine vJ fun hg=>?_|refine vT ?_|refine vN ‹_› ?_|(refine vU ?_ ?_;·kernel_rfl)|refine vZ ?_|refine yD ca ⟨⟨rfl,rfl⟩,⟨rfl,rfl⟩,rfl⟩ rfl ?_|refine yD cb ⟨⟨rfl,rfl⟩,⟨rfl,rfl⟩,rfl⟩ rfl ?_));all_goals try conv=>whnf
 ·exact hno fun h=>‹zbE a v≠_› h.1
 ·have hfa:zbE a v=zbE b (fnL x v):=‹_›
  refine zy (fun (k:Nat)=>[(2,.d (dN x)),(3,.d (.int .i64 ((v:Int)))),(5,.ptr 1 0),(23,.d (dUU a.rel)),(24,.d (.int .i64 ((a.rel.map dU).length:Int))),(25,.d (.int .i64 ((k:Int))))]) (fun (k:Nat)=>[(0,some (zaH a)),(1,some (zaH b))]) 2 (fun (k:Nat)=>k≤a.rel.length ∧ ∀ (i:Nat) r r',i < k→a.rel[i]? = some r→b.rel[i]? = some r' → ∀ u,u≤v→rb r v u=rb r' (fnL x v) (fnL x u)∧rb r u v=rb r' (fnL x u) (fnL x v)) (fun (k:Nat)=>a.rel.length - k) (0) [(0,0),(1,1)] [] (⟨by omega,fun i r r' hi=>by omega⟩) (by (refine ⟨rfl,rfl,rfl,?_,?_⟩;repeat' first|exact trivial|exact rfl|refine And.intro ?_ ?_|refine ⟨_,rfl,?_⟩|decide)) ?_
  rintro k ⟨hk,hI⟩
  by_cases hkl:k < a.rel.length
  ·obtain ⟨r,har⟩ : ∃ r,a.rel[k]? = some r:=⟨_,List.getElem?_eq_getElem hkl⟩
   obtain ⟨r',hbr⟩ : ∃ r,b.rel[k]? = some r:=⟨_,List.getElem?_eq_getElem (by omega)⟩
   have hrl:=ga.len r (List.mem_of_getElem? har)
   have hrl':=gb.len r' (List.mem_of_getElem? hbr)
   have a1:=zbF (l:=r) (d:=0#64) (show v < r.length by omega)
   have b1:=zbF (l:=r') (d:=0#64) (show x.getD v 0 < r'.length by omega)
   (repeat' ((conv=>whnf);first|refine vA ?_|(refine vF ?_ ?_<;>intro hc<;>try simp only [vL] at hc)|refine vT ?_|refine vN ‹_› ?_|(refine vO ?_ ?_;·omega)|refine vZ ?_));all_goals try conv=>whnf
   ·refine zy (fun (u:Nat)=>[(2,.d (dN x)),(3,.d (.int .i64 ((v:Int)))),(5,.ptr 1 0),(9,.d (.int .i64 ((k:Int)))),(10,.d (dU r)),(23,.d (dUU a.rel)),(24,.d (.int .i64 ((a.rel.map dU).length:Int))),(25,.d (.int .i64 ((k:Int)))),(31,.d (.int .i64 (((v:Int)+1)))),(32,.d (.int .i64 ((u:Int))))]) (fun (u:Nat)=>[(0,some (zaH a)),(1,some (zaH b))]) 2 (fun (u:Nat)=>u≤v+1 ∧ ∀ j,j < u→rb r v j=rb r' (fnL x v) (fnL x j)∧rb r j v=rb r' (fnL x j) (fnL x v)) (fun (u:Nat)=>v+1 - u) (0) [(0,0),(1,1)] [] (⟨by omega,fun j hj=>by omega⟩) (by (refine ⟨rfl,rfl,rfl,?_,?_⟩;repeat' first|exact trivial|exact rfl|refine And.intro ?_ ?_|refine ⟨_,rfl,?_⟩|decide)) ?_
    rintro u ⟨hu,hJ⟩
    by_cases hul:u≤v
    ·have eu:=zj9 (show u < x.length by omega)
     have hxu:=hxn u hul
     have a2:=zbF (l:=r) (d:=0#64) (show u < r.length by omega)
     have b2:=zbF (l:=r') (d:=0#64) (show x.getD u 0 < r'.length by omega)
     have k1:=zuQ (x:=r.getD v 0#64) (y:=r'.getD (x.getD v 0) 0#64) (u:=u) (w:=x.getD u 0)
     have k2:=zuQ (x:=r.getD u 0#64) (y:=r'.getD (x.getD u 0) 0#64) (u:=v) (w:=x.getD v 0)
     (repeat' ((conv=>whnf);first|refine vA ?_|((first|refine vD ?_ ?_|refine vF ?_ ?_)<;>intro hc<;>try simp only [vL] at hc)|refine vT ?_|refine vN ‹_› ?_|((first|refine vO ?_ ?_|refine vP ?_ ?_);·omega)|(refine vU ?_ ?_;·kernel_rfl)|refine vZ ?_));all_goals try conv=>whnf
     ·exact hno fun h=>‹_≠_› (k1.2 (h.2 k r r' har hbr u hul).1)
     ·exact hno fun h=>‹_≠_› (k2.2 (h.2 k r r' har hbr u hul).2)
     ·refine ⟨u+1,[(0,0),(1,1)],[],?_,?_,by (refine ⟨rfl,rfl,rfl,?_,?_⟩;repeat' first|exact trivial|exact rfl|refine And.intro ?_ ?_|refine ⟨_,rfl,?_⟩|decide)⟩
      ·refine ⟨by omega,fun j hj=>?_⟩
       by_cases e:j=u
       ·subst e;exact ⟨k1.1 ‹_›,k2.1 ‹_›⟩
       ·exact hJ j (by omega)
      ·(omega)
     ·exfalso;omega
    ·(repeat' ((conv=>whnf);first|refine vA ?_|((first|refine vD ?_ ?_|refine vF ?_ ?_)<;>intro hc<;>try simp only [vL] at hc)|refine vT ?_|refine vN ‹_› ?_|(refine vQ ?_ fun x hx=>?_;·omega)|((first|refine vO ?_ ?_|refine vS ?_ fun x hx=>?_|refine vP ?_ ?_);·omega)|(refine vU ?_ ?_;·kernel_rfl)|refine vZ ?_));all_goals try conv=>whnf
     iterate 3 (exfalso;omega)
     refine ⟨k+1,[(0,0),(1,1)],[],?_,?_,by (refine ⟨rfl,rfl,rfl,?_,?_⟩;repeat' first|exact trivial|exact rfl|refine And.intro ?_ ?_|refine ⟨_,rfl,?_⟩|decide)⟩
     ·refine ⟨by omega,fun i s s' hi hs hs' j hj=>?_⟩
      by_cases e:i=k
      ·subst e;rw [har] at hs;rw [hbr] at hs';cases hs;cases hs';exact hJ j (by omega)
      ·exact hI i s s' (by omega) hs hs' j hj
     ·(omega)
   ·exfalso;omega
  ·(repeat' ((conv=>whnf);first|refine vA ?_|(refine vF ?_ ?_<;>intro hc<;>try simp only [vL] at hc)|refine vT ?_|(refine vQ ?_ fun x hx=>?_;·omega)|(refine vO ?_ ?_;·omega)|refine vZ ?_));all_goals try conv=>whnf
   ·exfalso;omega
   ·exact (zod ⟨hfa,fun i r r' h1 h2 u hu=>hI i r r' (by have:=(List.getElem?_eq_some_iff.1 h1).1;omega) h1 h2 u hu⟩).symm
theorem zyt {to:List Int} (h : ∀ x∈to,0≤x) : ∃ x:List Nat,to=x.map fun (y:Nat)=>(y:Int):=by
 refine ⟨to.map Int.toNat,?_⟩
 rw [List.map_map]
 conv=>lhs;rw [← List.map_id to]
 exact List.map_congr_left fun y hy=>by have:=h y hy;simp;omega
theorem zsA (x:List Nat) (v:Nat):toF (x.map fun (y:Nat)=>(y:Int)) v=fnL x v:=by
 unfold toF at0 fnL
 by_cases h:v < x.length
 ·simp [List.getD,List.getElem?_map,List.getElem?_eq_getElem h]
 ·simp [List.getD,List.getElem?_map,List.getElem?_eq_none (show x.length≤v by omega)]
structure zix (to:List Int) (n k:Nat) (s:BitVec 64):Prop where
 le:k≤to.length
 rng : ∀ x∈to.take k,0≤x∧x < n
 nd:(to.take k).Nodup
 bit : ∀ x:Nat,x < 64→(s.getLsbD x=true↔(x:Int)∈to.take k)
theorem zix.next {to:List Int} {n k:Nat} (h64:n≤64) {s:BitVec 64} (h:zix to n k s) {x:Nat} (hx:to[k]? = some (x:Int)) (hx1:x < n) (hx2:s.getLsbD x=false):zix to n (k+1) (s|||1#64 <<< x):=by
 have hkl:=(List.getElem?_eq_some_iff.1 hx).1
 have hn:(x:Int) ∉ to.take k:=fun hm=>by rw [(h.bit x (by omega)).2 hm] at hx2;cases hx2
 have ht:to.take (k+1)=to.take k++[(x:Int)]:=by rw [List.take_add_one,hx];rfl
 refine ⟨by omega,fun y hy=>?_,?_,fun y hy=>?_⟩
 ·rw [ht] at hy
  rcases List.mem_append.1 hy with hy|hy
  ·exact h.rng y hy
  ·simp only [List.mem_singleton] at hy;omega
 ·rw [ht]
  refine List.nodup_append.2 ⟨h.nd,by simp,fun a ha b hb e=>?_⟩
  simp only [List.mem_singleton] at hb
  subst hb;subst e;exact hn ha
 ·rw [ht,zkS (by omega),h.bit y hy,List.mem_append,List.mem_singleton]
  exact ⟨fun h=>h.elim .inl fun e => .inr (by omega),fun h=>h.elim .inl fun e => .inr (by omega)⟩
theorem zix.bad {to:List Int} {n k:Nat} {s:BitVec 64} (h:zix to n k s) (h64:n≤64) {x:Int} (hx:to[k]? = some x) (hb:x < 0∨(n:Int)≤x∨s.getLsbD x.toNat=true):zcp to n=false:=by
 rw [← Bool.not_eq_true]
 intro hp
 obtain ⟨h1,h2,h3⟩:=zew.1 hp
 have hr:=h2 x (List.mem_of_getElem? hx)
 rcases hb with hb|hb|hb
 ·omega
 ·omega
 ·have hm:=(h.bit x.toNat (by omega)).1 hb
  rw [show ((x.toNat:Nat):Int)=x by omega] at hm
  obtain ⟨j,hj⟩:=List.getElem?_of_mem hm
  rw [List.getElem?_take] at hj
  split at hj
  ·rename_i hlt
   obtain ⟨a,a'⟩:=List.getElem?_eq_some_iff.1 hj
   obtain ⟨c,c'⟩:=List.getElem?_eq_some_iff.1 hx
   have:=(List.getElem_inj h3).1 (a'.trans c'.symm)
   omega
  ·cases hj
theorem zix.perm {to:List Int} {n:Nat} {s:BitVec 64} (h:zix to n to.length s) (hl:to.length=n):zcp to n=true:=by
 have h1:=h.rng;have h2:=h.nd
 rw [List.take_length] at h1 h2
 exact zew.2 ⟨hl,h1,h2⟩
theorem zCc (a b:KM) (to:List Int):Fn Tryd.prog T zh2 [.d (dKM a),.d (dKM b),.d (dI to)] [] (.d (.int .i64 (zbV a b to))) []:=by
 refine zb zk zor (by show 3≤66;decide) ?_
 (repeat' ((conv=>whnf);first|refine vA ?_|(refine vD ?_ ?_<;>intro hc)|refine vJ fun hg=>?_|refine vT ?_|refine vX ?_|refine yD (zqA _ _) ⟨⟨rfl,rfl⟩,⟨rfl,rfl⟩,rfl⟩ rfl ?_));all_goals try conv=>whnf
 ·rw [zbV,if_pos ‹_›]
 ·rw [zbV,if_neg (by omega),if_pos ‹_›]
 ·have he:zbr a b=0:=by omega
  have hW:a.W=b.W:=‹_›
  obtain ⟨ha,hb,hr,hv⟩:=zrt he
  have ga:=zw ha
  have w1:=ga.w1;have w2:=ga.w2
  have hno:zcp to a.W.toNat=false→3=zbV a b to:=fun h=>by rw [zbV,if_neg (by omega),if_neg (by omega),if_pos h]
  refine zy (fun ((k,s):Nat×BitVec 64)=>[(2,.d (dI to)),(3,.ptr 0 0),(4,.ptr 1 0),(8,.d (.u64 (s))),(23,.d (dI to)),(24,.d (.int .i64 ((to.map (D.int .i64)).length:Int))),(25,.d (.int .i64 ((k:Int))))]) (fun ((k,s):Nat×BitVec 64)=>[(0,some (zaH a)),(1,some (zaH b))]) 2 (fun ((k,s):Nat×BitVec 64)=>zix to a.W.toNat k s) (fun ((k,s):Nat×BitVec 64)=>to.length - k) ((0,0#64)) [(0,0),(1,1)] [] (⟨by omega,by simp,by simp,by simp⟩) (by (refine ⟨rfl,rfl,rfl,?_,?_⟩;repeat' first|exact trivial|exact rfl|refine And.intro ?_ ?_|refine ⟨_,rfl,?_⟩|decide)) ?_
  rintro ⟨k,s⟩ hI
  have hle:=hI.le
  by_cases hkl:k < to.length
  ·obtain ⟨x,hx⟩ : ∃ x,to[k]? = some x:=⟨_,List.getElem?_eq_getElem hkl⟩
   (repeat' ((conv=>whnf);first|refine vA ?_|((first|refine vD ?_ ?_|refine vF ?_ ?_)<;>intro hc<;>try simp only [vL] at hc)|refine vJ fun hg=>?_|refine vT ?_|refine vN ‹_› ?_|((first|refine vO ?_ ?_|refine vP ?_ ?_);·omega)|refine vX ?_));all_goals try conv=>whnf
   ·exact hno (hI.bad (by omega) hx (.inl ‹_›))
   ·exact hno (hI.bad (by omega) hx (.inr (.inl (by omega))))
   ·exact hno (hI.bad (by omega) hx (.inr (.inr ((zcg _ _).1 ‹_›))))
   ·obtain ⟨y,rfl⟩ : ∃ y:Nat,x=(y:Int):=⟨x.toNat,by omega⟩
    refine ⟨(k+1,_),[(0,0),(1,1)],[],?_,?_,by (refine ⟨rfl,rfl,rfl,?_,?_⟩;repeat' first|exact trivial|exact rfl|refine And.intro ?_ ?_|refine ⟨_,rfl,?_⟩|decide)⟩
    ·exact hI.next (by omega) hx (by omega) (by rw [← Bool.not_eq_true];exact fun h=>absurd ((zcg _ _).2 h) ‹¬_=(1:BitVec 64)›)
    ·((simp only [vM] at *;omega))
   all_goals (exfalso;omega)
  ·have e0:k=to.length:=by omega
   subst e0
   by_cases hl:to.length=a.W.toNat
   ·have hp:=hI.perm hl
    obtain ⟨x,rfl⟩:=zyt fun y hy=>((zew.1 hp).2.1 y hy).1
    have hxl:x.length=a.W.toNat:=by simpa using hl
    have hxn : ∀ u,u < a.W.toNat→x.getD u 0 < a.W.toNat:=fun u hu=>by
     have:=(ztL hp).lt u hu
     rwa [zsA] at this
    have hf:toF (x.map fun (y:Nat)=>(y:Int))=fnL x:=funext fun v=>zsA x v
    have hB:zqE a b (x.map fun (y:Nat)=>(y:Int))=true ↔ ∀ v,v < a.W.toNat→zhM a b (fnL x) v:=by
     unfold zqE
     rw [hf]
     simp only [List.all_eq_true,List.mem_range,Bool.and_eq_true,beq_iff_eq]
     refine forall_congr' fun v=>⟨fun h hv=>(zl0 hr.symm).2 ⟨(h hv).1,fun u hu=>(h hv).2 u (by omega)⟩,fun h hv=>?_⟩
     have:=(zl0 hr.symm).1 (h hv)
     exact ⟨this.1,fun u hu=>this.2 u (by omega)⟩
    have hres:zbV a b (x.map fun (y:Nat)=>(y:Int))=if zqE a b (x.map fun (y:Nat)=>(y:Int))=true then 0 else 13:=by
     rw [zbV,if_neg (by omega),if_neg (by omega),if_neg (by rw [hp];decide)]
    (repeat' ((conv=>whnf);first|refine vA ?_|((first|refine vD ?_ ?_|refine vF ?_ ?_)<;>intro hc<;>try simp only [vL] at hc)|refine vJ fun hg=>?_|refine vT ?_|(refine vQ ?_ fun x hx=>?_;·omega)|((first|refine vO ?_ ?_|refine vP ?_ ?_);·omega)|refine vX ?_));all_goals try conv=>whnf
    iterate 5 (exfalso;omega)
    refine zy (fun (k:Nat)=>[(2,.d (dN x)),(3,.ptr 0 0),(4,.ptr 1 0),(55,.d (.int .i64 ((zg2 x:Int)))),(56,.d (.int .i64 ((k:Int))))]) (fun (k:Nat)=>[(0,some (zaH a)),(1,some (zaH b))]) 2 (fun (k:Nat)=>k≤x.length ∧ ∀ v,v < k→zhM a b (fnL x) v) (fun (k:Nat)=>x.length - k) (0) [(0,0),(1,1)] [] (⟨by omega,fun v hv=>by omega⟩) (by (refine ⟨rfl,rfl,rfl,?_,?_⟩;repeat' first|exact trivial|exact rfl|refine And.intro ?_ ?_|refine ⟨_,rfl,?_⟩|decide)) ?_
    rintro k ⟨hk,hI⟩
    have hlD:=zjW x
    by_cases hkl:k < x.length
    ·have cf:=ztf (T:=T) ha hb hW hr x k (by omega) hkl (fun u hu=>hxn u (by omega))
     by_cases hfit:zhM a b (fnL x) k
     ·rw [zod hfit] at cf
      (repeat' ((conv=>whnf);first|refine vA ?_|refine vE ?_|refine vG ?_|(refine vF ?_ ?_<;>intro hc<;>try simp only [vL] at hc)|refine vT ?_|(refine vO ?_ ?_;·omega)|refine vX ?_|refine yD cf (by (repeat refine ⟨⟨rfl,rfl⟩,?_⟩);rfl) rfl ?_));all_goals try conv=>whnf
      ·refine ⟨k+1,[(0,0),(1,1)],[],?_,?_,by (refine ⟨rfl,rfl,rfl,?_,?_⟩;repeat' first|exact trivial|exact rfl|refine And.intro ?_ ?_|refine ⟨_,rfl,?_⟩|decide)⟩
       ·refine ⟨by omega,fun v hv=>?_⟩
        by_cases e:v=k
        ·subst e;exact hfit
        ·exact hI v (by omega)
       ·(omega)
      ·exfalso;omega
     ·rw [zqy hfit] at cf
      (repeat' ((conv=>whnf);first|refine vA ?_|refine vE ?_|refine vH ?_|(refine vF ?_ ?_<;>intro hc<;>try simp only [vL] at hc)|refine vT ?_|refine vX ?_|refine yD cf (by (repeat refine ⟨⟨rfl,rfl⟩,?_⟩);rfl) rfl ?_));all_goals try conv=>whnf
      ·rw [hres,if_neg]
       intro h
       exact hfit (hB.1 h k (by omega))
      ·exfalso;omega
    ·(repeat' ((conv=>whnf);first|refine vA ?_|(refine vF ?_ ?_<;>intro hc<;>try simp only [vL] at hc)|refine vT ?_|refine vX ?_));all_goals try conv=>whnf
     ·exfalso;omega
     ·rw [hres,if_pos]
      exact hB.2 fun v hv=>hI v (by omega)
   ·have hnp:zcp to a.W.toNat=false:=by rw [← Bool.not_eq_true];intro h;exact hl (zew.1 h).1
    (repeat' ((conv=>whnf);first|refine vA ?_|((first|refine vD ?_ ?_|refine vF ?_ ?_)<;>intro hc<;>try simp only [vL] at hc)|refine vJ fun hg=>?_|refine vT ?_|(refine vQ ?_ fun x hx=>?_;·omega)|((first|refine vO ?_ ?_|refine vP ?_ ?_);·omega)|refine vX ?_));all_goals try conv=>whnf
    iterate 4 (exfalso;omega)
    ·exact hno hnp
    ·exfalso;omega
end Go.Ab
namespace Go.Ab
open Go Go.Proofs
set_option maxRecDepth 10000
set_option maxHeartbeats 4000000
variable {T:Nat→Obj→Prop}
theorem zwS (l:List D) (hl:l.length≤1000):Fn Tryd.prog T zcn [.own 0] [.row 1 l] (.own 1) [some (.row 1 l),some (.row 1 l)]:=by
 refine zB zk zh8 (by show 1≤8;decide) _ (fun e env mem n h=>h) ?_
 (repeat' ((conv=>whnf);first|refine vA ?_|refine vB fun b hb=>?_|refine vC (fun hl=>?_) fun i kv vv hi=>?_|refine vE ?_|refine vG ?_|refine vH ?_|((first|refine vD ?_ ?_|refine vF ?_ ?_|refine vI ?_ ?_)<;>intro hc<;>try simp only [vL] at hc)|refine vJ fun hg=>?_|refine vK fun hg=>?_|refine vT ?_|refine vN ‹_› ?_|(refine vQ ?_ fun x hx=>?_;·first|omega|(simp only [vM] at *;omega))|((first|refine vO ?_ ?_|refine vR ?_ ‹_› ?_|refine vS ?_ fun x hx=>?_|refine vP ?_ ?_);·first|omega|(simp only [vM] at *;omega))|refine vW ⟨by omega,by omega⟩ ?_|(refine vU ?_ ?_;·kernel_rfl)|refine vX ?_|refine vY ?_|refine vZ ?_|refine zT.mk _ ‹_› ?_|refine vP (show (_:BitVec 64)≠_ by decide) ?_));all_goals try conv=>whnf
 ·refine ⟨trivial,_,[(0,0),(1,2)],[],rfl,.inl (by (repeat' first|exact trivial|exact rfl|exact ⟨_,rfl⟩|exact .inl rfl|exact .inr (.inl ⟨rfl,rfl⟩)|exact .inr (.inr ⟨rfl,rfl⟩)|refine And.intro ?_ ?_|refine ⟨_,rfl,?_⟩|decide|exact of_decide_eq_true rfl)),⟨by rfl,by rfl,by rfl,trivial,by (repeat' first|exact trivial|exact rfl|exact ⟨_,rfl⟩|exact .inl rfl|exact .inr (.inl ⟨rfl,rfl⟩)|exact .inr (.inr ⟨rfl,rfl⟩)|refine And.intro ?_ ?_|refine ⟨_,rfl,?_⟩|decide|exact of_decide_eq_true rfl)⟩,by (repeat' first|exact trivial|exact rfl|exact ⟨_,rfl⟩|exact .inl rfl|exact .inr (.inl ⟨rfl,rfl⟩)|exact .inr (.inr ⟨rfl,rfl⟩)|refine And.intro ?_ ?_|refine ⟨_,rfl,?_⟩|decide|exact of_decide_eq_true rfl)⟩
 ·have:l=[]:=hb (by simpa using hc)
  subst this
  refine ⟨trivial,_,[(0,0)] ,  [1],rfl,.inl (by (repeat' first|exact trivial|exact rfl|exact ⟨_,rfl⟩|exact .inl rfl|exact .inr (.inl ⟨rfl,rfl⟩)|exact .inr (.inr ⟨rfl,rfl⟩)|refine And.intro ?_ ?_|refine ⟨_,rfl,?_⟩|decide|exact of_decide_eq_true rfl)),⟨by rfl,by rfl,by rfl,trivial,by (repeat' first|exact trivial|exact rfl|exact ⟨_,rfl⟩|exact .inl rfl|exact .inr (.inl ⟨rfl,rfl⟩)|exact .inr (.inr ⟨rfl,rfl⟩)|refine And.intro ?_ ?_|refine ⟨_,rfl,?_⟩|decide|exact of_decide_eq_true rfl)⟩,by (repeat' first|exact trivial|exact rfl|exact ⟨_,rfl⟩|exact .inl rfl|exact .inr (.inl ⟨rfl,rfl⟩)|exact .inr (.inr ⟨rfl,rfl⟩)|refine And.intro ?_ ?_|refine ⟨_,rfl,?_⟩|decide|exact of_decide_eq_true rfl)⟩
theorem zo.objsZ {P:Program} {M:Nat→Option Ob} {n f:Nat} {vs lvs:List V} {obs:List Ob} {lv:V} {obs':List (Option Ob)} {K:V→Upd→Nat→Prop} (js fz:List Nat) (hf:Fn P T f lvs obs lv obs') (ha:VPasses M js fz 20 lvs vs)
  (ho:zaN M js fz obs js) (hnd:nodup js=true) (hdj:zd1 fz js=true) (hsj:zdM js (zL M vs)=true) (hsf:zdM fz (zL M vs)=true) (hle:js.length≤obs'.length)
  (hK:K (zje js n 20 lv) (zfO js fz n obs' false) (obs'.length - js.length)):zo (zdf P T) M n f vs K :=
 ⟨⟨_,_,_,⟨js,fz,false,lvs,obs,lv,obs',hf,ha,ho,hnd,hdj,hsj,hsf,hle,nofun,rfl,rfl,rfl⟩,hK⟩⟩
def zfn (x:List Nat):BitVec 64:=zbb (fun i=>decide (i∈x)) 64
theorem zig {x:List Nat} {i:Nat} (hi:i < 64):(zfn x).getLsbD i=decide (i∈x):=by
 rw [zfn,zmx];simp [hi]
theorem zoI {x:List Nat} {w:Nat} (hw:w < 64):zfn x|||1#64 <<< w=zfn (x++[w]):=by
 refine BitVec.eq_of_getLsbD_eq fun i hi=>?_
 rw [Bool.eq_iff_iff,zkS hw,zig hi,zig hi]
 simp
theorem zzl {x:List Nat} {w:Nat} (hw:w < 64) (hn:w ∉ x):zfn (x++[w]) &&& ~~~(1#64 <<< w)=zfn x:=by
 refine BitVec.eq_of_getLsbD_eq fun i hi=>?_
 rw [BitVec.getLsbD_and,BitVec.getLsbD_not,zig hi,zig hi,zqg]
 simp only [hi,decide_true,Bool.true_and]
 by_cases e:i=w
 ·subst e;simp [hn]
 ·simp [e]
def zi8 (ok:List Nat→Nat→Bool) (n k:Nat) (x:List Nat) (w:Nat):List (List Nat):=(List.range w).flatMap fun w=>if ok x w=true then dfs ok n k (x++[w]) else []
theorem zq8 {ok:List Nat→Nat→Bool} {n k:Nat} {x:List Nat} {w:Nat} : zi8 ok n k x (w+1)=zi8 ok n k x w++if ok x w=true then dfs ok n k (x++[w]) else []:=by
 unfold zi8;rw [List.range_succ,List.flatMap_append];simp
abbrev okM (a b:KM):List Nat→Nat→Bool:=okC a.W.toNat (zbE a) (zbE b) (z7 a) (z7 b)
theorem zAo {a b:KM} (hl:b.rel.length=a.rel.length) {x:List Nat} {w:Nat} : okM a b x w=true↔(zi5 a.W.toNat (zbE a) (z7 a)).1 x.length=(zi5 a.W.toNat (zbE b) (z7 b)).1 w∧w ∉ x∧zhM a b (fnL (x++[w])) x.length:=by
 unfold okM okC okS
 rw [zl0 hl]
 have e:fnL (x++[w]) x.length=w:=by simp [fnL]
 rw [e]
 simp only [Bool.and_eq_true,decide_eq_true_eq,Bool.not_eq_true',List.all_eq_true,List.mem_range,beq_iff_eq]
 constructor
 ·rintro ⟨h1,h2,h3,h4⟩
  exact ⟨h1,by simpa using h2,h3,fun u hu=>h4 u (by omega)⟩
 ·rintro ⟨h1,h2,h3,h4⟩
  exact ⟨h1,by simpa using h2,h3,fun u hu=>h4 u (by omega)⟩
abbrev zvZ:V := .fn zcx [.ptr 0 0,.ptr 1 0,.ptr 2 0,.ptr 3 0,.ptr 4 0,.ptr 5 0,.ptr 6 0,.ptr 7 0]
abbrev zqV (x:List Nat):Ob := .row 1 ((x.map fun (y:Nat)=>(y:Int)).map (D.int .i64))
section
variable {a b:KM} (ha:zi a=0) (hb:zi b=0) (hW:a.W=b.W) (hr:a.rel.length=b.rel.length)
def zd0 (m:KM):Nat→Nat:=(zi5 m.W.toNat (zbE m) (z7 m)).1
include ha hb hW hr
end
end Go.Ab
namespace Go.Ab
open Go Go.Proofs
set_option maxRecDepth 10000
set_option maxHeartbeats 4000000
variable {T:Nat→Obj→Prop}
inductive zvq (x:List Nat):List (List Nat)→Bool→BitVec 64→List Nat→V→Prop where
 | no:zvq x [] true (zfn x) x (.nils 1)
 | yes (y:List Nat) (l:List (List Nat)):zvq x (y::l) false (zfn y) y (.d (dN y))
abbrev zy2 (a b:KM) (x:List Nat):List Ob:=[.box [.own 8],zaH a,.box [.fn zao [.ptr 9 0]],zaH b,.box [.d (.u64 (zfn x))],.box [.d (dI (ptL a.W.toNat (zd0 a)))],.box [.d (dI (ptL a.W.toNat (zd0 b)))],.box [zvZ],zqV x,.box [.nils 1]]
theorem zAd (y:List Nat):Fn Tryd.prog T zao [.d (dN y),.ptr 0 0] [.box [.nils 1]] (.d (.bool false)) [some (.box [.d (dN y)])]:=by
 refine zB zk zit (by show 2≤5;decide) _ (fun e env mem n h=>h) ?_
 (repeat' ((conv=>whnf);refine vT ?_));all_goals try conv=>whnf
 refine ⟨trivial,_,[(0,0)],[],rfl,.inl (by (repeat' exact .inr (.inr ⟨rfl,rfl⟩))),⟨by rfl,by rfl,by rfl,trivial,by (repeat' first|exact trivial|exact rfl|refine And.intro ?_ ?_|refine ⟨_,rfl,?_⟩|exact of_decide_eq_true rfl)⟩,by (repeat' first|exact trivial|exact rfl|refine And.intro ?_ ?_|refine ⟨_,rfl,?_⟩)⟩
theorem zyw {ok:List Nat→Nat→Bool} {n k:Nat} {x:List Nat} {w:Nat} (hw:w≤n) : ∃ l,dfs ok n (k+1) x=zi8 ok n k x w++l:=by
 have mono : ∀ d,∃ l,zi8 ok n k x (w+d)=zi8 ok n k x w++l:=fun d=>by
  induction d with
  | zero=>exact ⟨[],by simp⟩
  | succ d ih=>obtain ⟨l,hl⟩:=ih;rw [← Nat.add_assoc,zq8,hl,List.append_assoc];exact ⟨_,rfl⟩
 have:=mono (n - w)
 rw [show w+(n - w)=n by omega] at this
 exact this
section
variable {a b:KM} (ha:zi a=0) (hb:zi b=0) (hW:a.W=b.W) (hr:a.rel.length=b.rel.length)
include ha hb hW hr
theorem zur (k:Nat) : ∀ (x:List Nat),x.length+k=a.W.toNat→(∀ u,u < x.length→x.getD u 0 < a.W.toNat) → ∀ (bo:Bool) (u':BitVec 64) (r':List Nat) (v':V),zvq x (dfs (okM a b) a.W.toNat k x) bo u' r' v' →
  Fn Tryd.prog T zcx [.ptr 0 0,.ptr 1 0,.ptr 2 0,.ptr 3 0,.ptr 4 0,.ptr 5 0,.ptr 6 0,.ptr 7 0] (zy2 a b x) (.d (.bool bo))
   [some (.box [.own 10]),some (zaH a),some (.box [.fn zao [.ptr 9 0]]),some (zaH b),some (.box [.d (.u64 u')]),some (.box [.d (dI (ptL a.W.toNat (zd0 a)))]),some (.box [.d (dI (ptL a.W.toNat (zd0 b)))]),some (.box [zvZ]),none,some (.box [v']),some (zqV r')]:=by
 have ga:=zw ha
 have w1:=ga.w1;have w2:=ga.w2
 induction k with
 | zero =>
  intro x hx hxn bo u' r' v' hres
  have hd:dfs (okM a b) a.W.toNat 0 x=[x]:=rfl
  rw [hd] at hres
  cases hres
  refine zB zk zge (by show 8≤66;decide) _ (fun e env mem n h=>h) ?_
  (repeat' ((conv=>whnf);first|refine vA ?_|(refine vF ?_ ?_<;>intro hc<;>try simp only [vL] at hc)|refine vJ fun hg=>?_|refine vT ?_));all_goals try conv=>whnf
  ·refine zo.objs [8] (zwS ((x.map fun (y:Nat)=>(y:Int)).map (D.int .i64)) (by simp;omega)) (by (repeat' first|exact rfl|refine And.intro ?_ ?_|refine ⟨_,rfl,?_⟩)) (by (repeat' first|exact rfl|refine And.intro ?_ ?_)) (by rfl) (by rfl) (by simp) ?_
   (repeat' ((conv=>whnf);refine vT ?_));all_goals try conv=>whnf
   refine zo.objsZ [9] [10] (zAd x) (by (repeat' first|exact rfl|refine And.intro ?_ ?_|refine ⟨_,rfl,?_⟩)) (by (repeat' first|exact rfl|refine And.intro ?_ ?_|refine ⟨_,rfl,?_⟩)) (by rfl) (by rfl) (by kernel_rfl) (by kernel_rfl) (by simp) ?_
   (repeat' ((conv=>whnf);first|refine vT ?_|(refine vU ?_ ?_;·kernel_rfl)|fail));all_goals try conv=>whnf
   refine ⟨trivial,_,[(0,0),(1,1),(2,2),(3,3),(4,4),(5,5),(6,6),(7,7),(9,9),(10,8)],[],rfl,.inl (by (repeat' exact .inl rfl)),⟨by rfl,by rfl,by rfl,trivial,by (repeat' first|exact trivial|exact rfl|refine And.intro ?_ ?_|refine ⟨_,rfl,?_⟩|exact of_decide_eq_true rfl)⟩,by (repeat' first|exact trivial|exact rfl|refine And.intro ?_ ?_|refine ⟨_,rfl,?_⟩)⟩
  ·exfalso;omega
 | succ k ih =>
  intro x hx hxn bo u' r' v' hres
  have hlD:=zjW x
  refine zB zk zge (by show 8≤66;decide) _ (fun e env mem n h=>h) ?_
  (repeat' ((conv=>whnf);first|refine vA ?_|(refine vF ?_ ?_<;>intro hc<;>try simp only [vL] at hc)|refine vJ fun hg=>?_|refine vT ?_));all_goals try conv=>whnf
  ·exfalso;omega
  refine zy (fun ((w,u,ys):Nat×BitVec 64×List D)=>[(0,.ptr 0 0),(1,.ptr 1 0),(3,.ptr 3 0),(4,.ptr 4 0),(5,.ptr 5 0),(6,.ptr 6 0),(7,.ptr 7 0),(9,.d (.int .i64 ((zg2 x:Int)))),(22,.d (.int .i64 (b.W))),(23,.d (.int .i64 ((w:Int)))),(zc,.ptr 0 0),(zc+1,.ptr 1 0),(zc+2,.ptr 2 0),(zc+3,.ptr 3 0),(zc+4,.ptr 4 0),(zc+5,.ptr 5 0),(zc+6,.ptr 6 0),(zc+7,.ptr 7 0),(zc+9,.ptr 9 0)]) (fun ((w,u,ys):Nat×BitVec 64×List D)=>[(0,some (.box [.own 8])),(1,some (zaH a)),(2,some (.box [.fn zao [.ptr 9 0]])),(3,some (zaH b)),(4,some (.box [.d (.u64 u)])),(5,some (.box [.d (dI (ptL a.W.toNat (zd0 a)))])),(6,some (.box [.d (dI (ptL a.W.toNat (zd0 b)))])),(7,some (.box [zvZ])),(8,some (.row 1 ys)),(9,some (.box [.nils 1]))]) 10 (fun ((w,u,ys):Nat×BitVec 64×List D)=>w≤a.W.toNat∧zi8 (okM a b) a.W.toNat k x w=[]∧u=zfn x∧ys=(x.map fun (y:Nat)=>(y:Int)).map (D.int .i64)) (fun ((w,u,ys):Nat×BitVec 64×List D)=>a.W.toNat - w) ((0,zfn x,(x.map fun (y:Nat)=>(y:Int)).map (D.int .i64))) [(0,0),(1,1),(2,2),(3,3),(4,4),(5,5),(6,6),(7,7),(8,8),(9,9)] [] (⟨by omega,by simp [zi8],rfl,rfl⟩) (by (refine ⟨rfl,rfl,rfl,?_,?_⟩;repeat' first|exact trivial|exact rfl|refine And.intro ?_ ?_|refine ⟨_,rfl,?_⟩|decide)) ?_
  rintro ⟨w,u,ys⟩ ⟨hw,hcc,hu,hy⟩
  subst hu hy
  by_cases hwl:w < a.W.toNat
  ·have ec:=zmo (q:=zd0 a) (n:=a.W.toNat) (w:=x.length) (by omega)
   have ec':=zmo (q:=zd0 b) hwl
   have ec2:(ptL a.W.toNat (zd0 a))[zg2 x]? = some ((zd0 a x.length:Nat):Int):=by rw [hlD];exact ec
   have hus:=zq8 (ok:=okM a b) (n:=a.W.toNat) (k:=k) (x:=x) (w:=w)
   have hbit:=zig (x:=x) (show w < 64 by omega)
   have hiff:=zAo hr.symm (x:=x) (w:=w)
   have hskip : ¬okM a b x w=true→zi8 (okM a b) a.W.toNat k x (w+1)=[]:=fun h=>by rw [hus,if_neg h,List.append_nil];exact hcc
   have hrow:dN (x++[w])=D.arr 1 ((x.map fun (y:Nat)=>(y:Int)).map (D.int .i64)++[D.int .i64 (w:Int)]):=by simp
   have hxn' : ∀ u,u < (x++[w]).length→(x++[w]).getD u 0 < a.W.toNat:=fun u hu=>by
    by_cases e:u < x.length
    ·have:=hxn u e;rw [List.getD,List.getElem?_append_left e];exact this
    ·have e1:u=x.length:=by simp at hu;omega
     subst e1;rw [List.getD,List.getElem?_append_right (Nat.le_refl _)];simpa using hwl
   have cf:=ztf (T:=T) ha hb hW hr (x++[w]) x.length (by omega) (by simp) (fun u hu=>hxn' u (by simp;omega))
   rw [hrow,show ((x.length:Nat):Int)=((zg2 x:Nat):Int) by rw [hlD]] at cf
   by_cases hfit:zhM a b (fnL (x++[w])) x.length
   ·rw [zod hfit] at cf
    have cr:=ih (x++[w]) (by simp;omega) hxn'
    dsimp only [zy2] at cr
    rw [← zoI (by omega),show zqV (x++[w])=Ob.row 1 ((x.map fun (y:Nat)=>(y:Int)).map (D.int .i64)++[D.int .i64 (w:Int)]) by rw [zqV];simp] at cr
    (repeat' ((conv=>whnf);first|refine vA ?_|refine vG ?_|((first|refine vD ?_ ?_|refine vF ?_ ?_)<;>intro hc<;>try simp only [vL] at hc)|refine vT ?_|refine vN ‹_› ?_|((first|refine vO ?_ ?_|refine vP ?_ ?_);·first|omega|(simp only [vM] at *;omega))|(refine vU ?_ ?_;·kernel_rfl)|refine yD cf (by (repeat refine ⟨⟨rfl,rfl⟩,?_⟩);rfl) rfl ?_));all_goals try conv=>whnf
    ·refine ⟨(w+1,_,_),[(0,0),(1,1),(2,2),(3,3),(4,4),(5,5),(6,6),(7,7),(8,8),(9,9)],[],?_,?_,by (refine ⟨rfl,rfl,rfl,?_,?_⟩;repeat' first|exact trivial|exact rfl|refine And.intro ?_ ?_|refine ⟨_,rfl,?_⟩|decide)⟩
     ·refine ⟨by omega,hskip fun h=>?_,rfl,rfl⟩
      have h1:=(zcg _ _).1 hc
      rw [show (w:Int).toNat=w from rfl,hbit] at h1
      exact (hiff.1 h).2.1 (of_decide_eq_true h1)
     ·((simp only [vM] at *;omega))
    ·refine ⟨(w+1,_,_),[(0,0),(1,1),(2,2),(3,3),(4,4),(5,5),(6,6),(7,7),(8,8),(9,9)],[],?_,?_,by (refine ⟨rfl,rfl,rfl,?_,?_⟩;repeat' first|exact trivial|exact rfl|refine And.intro ?_ ?_|refine ⟨_,rfl,?_⟩|decide)⟩
     ·refine ⟨by omega,hskip fun h=>?_,rfl,rfl⟩
      have h1 : ¬((zd0 a x.length:Nat):Int)=((zd0 b w:Nat):Int):=‹_≠_›
      have h2:=(hiff.1 h).1
      unfold zd0 at h1;rw [← hW] at h1;exact h1 (by rw [h2])
     ·((simp only [vM] at *;omega))
    ·have hbz : ¬zfn x >>> (w:Int).toNat&&&1=1:=‹¬_=(1:BitVec 64)›
     have hnm:w ∉ x:=fun h=>hbz ((zcg _ _).2 (by rw [show (w:Int).toNat=w from rfl,hbit];simp [h]))
     have hok:okM a b x w=true:=hiff.2 ⟨by
      have h1:((zd0 a x.length:Nat):Int)=((zd0 b w:Nat):Int):=‹_›
      unfold zd0 at h1;rw [← hW] at h1;omega,hnm,hfit⟩
     have hus':=hus
     rw [if_pos hok,hcc,List.nil_append] at hus'
     cases hD:dfs (okM a b) a.W.toNat k (x++[w]) with
     | nil =>
      rw [hD] at cr hus'
      have cr:=cr _ _ _ _ .no
      rw [← zoI (by omega),show zqV (x++[w])=Ob.row 1 ((x.map fun (y:Nat)=>(y:Int)).map (D.int .i64)++[D.int .i64 (w:Int)]) by rw [zqV];simp] at cr
      refine zo.objs [0,1,2,3,4,5,6,7,11,9] cr (by (repeat' first|exact rfl|refine And.intro ?_ ?_|refine ⟨_,rfl,?_⟩)) (by (repeat' first|exact rfl|refine And.intro ?_ ?_|refine ⟨_,rfl,?_⟩)) (by rfl) (by kernel_rfl) (by simp) ?_
      (repeat' ((conv=>whnf);first|refine vE ?_|refine vG ?_|refine vT ?_|((first|refine vO ?_ ?_|refine vP ?_ ?_);·first|omega|(simp only [vM] at *;omega))|(refine vU ?_ ?_;·kernel_rfl)|fail));all_goals try conv=>whnf
      refine ⟨(w+1,_,_),[(0,0),(1,1),(2,2),(3,3),(4,4),(5,5),(6,6),(7,7),(8,13),(9,9)],[],?_,?_,by (refine ⟨rfl,rfl,rfl,?_,?_⟩;repeat' first|exact trivial|exact rfl|refine And.intro ?_ ?_|refine ⟨_,rfl,?_⟩|decide)⟩
      ·refine ⟨by omega,hus',?_,?_⟩
       ·have h2:=zzl (by omega) hnm
        rw [← zoI (by omega)] at h2
        exact h2
       ·exact List.take_left' rfl
      ·((simp only [vM] at *;omega))
     | cons y l =>
      rw [hD] at cr hus'
      obtain ⟨l',hl'⟩ : ∃ l',dfs (okM a b) a.W.toNat (k+1) x=y::l':=by
       obtain ⟨l2,h2⟩:=zyw (ok:=okM a b) (k:=k) (x:=x) (show w+1≤a.W.toNat by omega)
       rw [hus'] at h2
       exact ⟨_,h2⟩
      rw [hl'] at hres
      have cy:=cr _ _ _ _ (.yes y l)
      cases hres
      refine zo.objs [0,1,2,3,4,5,6,7,11,9] cy (by (repeat' first|exact rfl|refine And.intro ?_ ?_|refine ⟨_,rfl,?_⟩)) (by (repeat' first|exact rfl|refine And.intro ?_ ?_|refine ⟨_,rfl,?_⟩)) (by rfl) (by kernel_rfl) (by simp) ?_
      (repeat' ((conv=>whnf);first|refine vE ?_|refine vH ?_|refine vT ?_));all_goals try conv=>whnf
      refine ⟨trivial,_,[(0,0),(1,1),(2,2),(3,3),(4,4),(5,5),(6,6),(7,7),(9,9),(10,12)],[],rfl,.inl (by (repeat' exact .inr (.inr ⟨rfl,rfl⟩))),⟨by rfl,by rfl,by rfl,trivial,by (repeat' first|exact trivial|exact rfl|refine And.intro ?_ ?_|refine ⟨_,rfl,?_⟩|exact of_decide_eq_true rfl)⟩,by (repeat' first|exact trivial|exact rfl|refine And.intro ?_ ?_|refine ⟨_,rfl,?_⟩)⟩
    ·exfalso;omega
   ·rw [zqy hfit] at cf
    (repeat' ((conv=>whnf);first|refine vA ?_|refine vH ?_|((first|refine vD ?_ ?_|refine vF ?_ ?_)<;>intro hc<;>try simp only [vL] at hc)|refine vT ?_|refine vN ‹_› ?_|((first|refine vO ?_ ?_|refine vP ?_ ?_);·first|omega|(simp only [vM] at *;omega))|(refine vU ?_ ?_;·kernel_rfl)|refine yD cf (by (repeat refine ⟨⟨rfl,rfl⟩,?_⟩);rfl) rfl ?_));all_goals try conv=>whnf
    ·refine ⟨(w+1,_,_),[(0,0),(1,1),(2,2),(3,3),(4,4),(5,5),(6,6),(7,7),(8,8),(9,9)],[],?_,?_,by (refine ⟨rfl,rfl,rfl,?_,?_⟩;repeat' first|exact trivial|exact rfl|refine And.intro ?_ ?_|refine ⟨_,rfl,?_⟩|decide)⟩
     ·exact ⟨by omega,hskip fun h=>hfit (hiff.1 h).2.2,rfl,rfl⟩
     ·((simp only [vM] at *;omega))
    ·refine ⟨(w+1,_,_),[(0,0),(1,1),(2,2),(3,3),(4,4),(5,5),(6,6),(7,7),(8,8),(9,9)],[],?_,?_,by (refine ⟨rfl,rfl,rfl,?_,?_⟩;repeat' first|exact trivial|exact rfl|refine And.intro ?_ ?_|refine ⟨_,rfl,?_⟩|decide)⟩
     ·exact ⟨by omega,hskip fun h=>hfit (hiff.1 h).2.2,rfl,rfl⟩
     ·((simp only [vM] at *;omega))
    ·refine ⟨(w+1,_,_),[(0,0),(1,1),(2,2),(3,3),(4,4),(5,5),(6,6),(7,7),(8,12),(9,9)],[],?_,?_,by (refine ⟨rfl,rfl,rfl,?_,?_⟩;repeat' first|exact trivial|exact rfl|refine And.intro ?_ ?_|refine ⟨_,rfl,?_⟩|decide)⟩
     ·exact ⟨by omega,hskip fun h=>hfit (hiff.1 h).2.2,rfl,List.take_left' rfl⟩
     ·((simp only [vM] at *;omega))
    ·exfalso;omega
  ·(repeat' ((conv=>whnf);first|refine vA ?_|((first|refine vD ?_ ?_|refine vF ?_ ?_)<;>intro hc<;>try simp only [vL] at hc)|refine vT ?_|(refine vQ ?_ fun x hx=>?_;·omega)|((first|refine vO ?_ ?_|refine vP ?_ ?_);·omega)|(refine vU ?_ ?_;·kernel_rfl)|fail));all_goals try conv=>whnf
   iterate 3 (exfalso;omega)
   have e0:w=a.W.toNat:=by omega
   subst e0
   rw [show zi8 (okM a b) a.W.toNat k x a.W.toNat=dfs (okM a b) a.W.toNat (k+1) x from rfl] at hcc
   rw [hcc] at hres
   cases hres
   refine ⟨trivial,_,[(0,0),(1,1),(2,2),(3,3),(4,4),(5,5),(6,6),(7,7),(9,9),(10,8)],[],rfl,.inl (by (repeat' exact .inr (.inl ⟨rfl,rfl⟩))),⟨by rfl,by rfl,by rfl,trivial,by (repeat' first|exact trivial|exact rfl|refine And.intro ?_ ?_|refine ⟨_,rfl,?_⟩|exact of_decide_eq_true rfl)⟩,by (repeat' first|exact trivial|exact rfl|refine And.intro ?_ ?_|refine ⟨_,rfl,?_⟩)⟩
end
end Go.Ab
namespace Go.Ab
open Go Go.Proofs
set_option maxRecDepth 10000
set_option maxHeartbeats 4000000
variable {T:Nat→Obj→Prop}
theorem zzm:zfn []=0#64:=by decide
section
variable {a b:KM} (ha:zi a=0) (hb:zi b=0) (hW:a.W=b.W) (hr:a.rel.length=b.rel.length) (h12:a.W≤12)
include ha hb hW hr h12
theorem zlb (hT:zcl T) (bo:Bool) (u':BitVec 64) (r':List Nat) (v':V) (hv:v' = .nils 1 ∨ ∃ y,v' = .d (dN y)) (hres:zvq [] (dfs (okM a b) a.W.toNat a.W.toNat []) bo u' r' v'):Fn Tryd.prog T zhg [.d (dKM a),.d (dKM b),.fn zao [.ptr 0 0]] [.box [.nils 1]] (.tup []) [some (.box [v'])]:=by
 have ga:=zw ha
 have w1:=ga.w1
 have c1:=zps hT a (fun _=>h12)
 have c2:=zps hT b (fun _=>by omega)
 rw [zvB,if_neg (by omega)] at c1 c2
 rw [show (zi5 a.W.toNat (zbE a) (z7 a)).1=zd0 a from rfl] at c1
 rw [show (zi5 b.W.toNat (zbE b) (z7 b)).1=zd0 b from rfl,← hW] at c2
 have cr:=zur (T:=T) ha hb hW hr a.W.toNat [] (by simp) (fun u hu=>by simp at hu) _ _ _ _ hres
 dsimp only [zy2] at cr
 rw [zzm] at cr
 rcases hv with rfl|⟨y,rfl⟩
 all_goals
  refine zB zk zno (by show 3≤29;decide) _ (fun e env mem n h=>h) ?_
  (repeat' ((conv=>whnf);first|refine vA ?_|refine vB fun b hb=>?_|refine vC (fun hl=>?_) fun i kv vv hi=>?_|refine vE ?_|refine vG ?_|refine vH ?_|((first|refine vD ?_ ?_|refine vF ?_ ?_|refine vI ?_ ?_)<;>intro hc<;>try simp only [vL] at hc)|refine vJ fun hg=>?_|refine vK fun hg=>?_|refine vT ?_|refine vN ‹_› ?_|(refine vQ ?_ fun x hx=>?_;·first|omega|(simp only [vM] at *;omega))|((first|refine vO ?_ ?_|refine vR ?_ ‹_› ?_|refine vS ?_ fun x hx=>?_|refine vP ?_ ?_);·first|omega|(simp only [vM] at *;omega))|refine vW ⟨by omega,by omega⟩ ?_|(refine vU ?_ ?_;·kernel_rfl)|refine vX ?_|refine vY ?_|refine vZ ?_|refine yN c1 ⟨⟨rfl,rfl⟩,rfl⟩ ?_|refine yN c2 ⟨⟨rfl,rfl⟩,rfl⟩ ?_|refine zT.mk _ ‹_› ?_|refine vP (show (_:BitVec 64)≠_ by decide) ?_));all_goals try conv=>whnf
  refine zo.objs [7,1,3,2,8,4,5,9,6,0] cr (by (repeat' first|exact trivial|exact rfl|exact ⟨_,rfl⟩|exact .inl rfl|exact .inr (.inl ⟨rfl,rfl⟩)|exact .inr (.inr ⟨rfl,rfl⟩)|refine And.intro ?_ ?_|refine ⟨_,rfl,?_⟩|decide|exact of_decide_eq_true rfl)) (by (repeat' first|exact trivial|exact rfl|exact ⟨_,rfl⟩|exact .inl rfl|exact .inr (.inl ⟨rfl,rfl⟩)|exact .inr (.inr ⟨rfl,rfl⟩)|refine And.intro ?_ ?_|refine ⟨_,rfl,?_⟩|decide|exact of_decide_eq_true rfl)) (by rfl) (by kernel_rfl) (by simp) ?_
  (repeat' ((conv=>whnf);first|refine vA ?_|refine vB fun b hb=>?_|refine vC (fun hl=>?_) fun i kv vv hi=>?_|refine vE ?_|refine vG ?_|refine vH ?_|((first|refine vD ?_ ?_|refine vF ?_ ?_|refine vI ?_ ?_)<;>intro hc<;>try simp only [vL] at hc)|refine vJ fun hg=>?_|refine vK fun hg=>?_|refine vT ?_|refine vN ‹_› ?_|(refine vQ ?_ fun x hx=>?_;·first|omega|(simp only [vM] at *;omega))|((first|refine vO ?_ ?_|refine vR ?_ ‹_› ?_|refine vS ?_ fun x hx=>?_|refine vP ?_ ?_);·first|omega|(simp only [vM] at *;omega))|refine vW ⟨by omega,by omega⟩ ?_|(refine vU ?_ ?_;·kernel_rfl)|refine vX ?_|refine vY ?_|refine vZ ?_|refine zT.mk _ ‹_› ?_|refine vP (show (_:BitVec 64)≠_ by decide) ?_));all_goals try conv=>whnf
  refine ⟨trivial,_,[(0,0)],[],rfl,.inl (by (repeat' first|exact trivial|exact rfl|exact ⟨_,rfl⟩|exact .inl rfl|exact .inr (.inl ⟨rfl,rfl⟩)|exact .inr (.inr ⟨rfl,rfl⟩)|refine And.intro ?_ ?_|refine ⟨_,rfl,?_⟩|decide|exact of_decide_eq_true rfl)),⟨by rfl,by rfl,by rfl,trivial,by (repeat' first|exact trivial|exact rfl|exact ⟨_,rfl⟩|exact .inl rfl|exact .inr (.inl ⟨rfl,rfl⟩)|exact .inr (.inr ⟨rfl,rfl⟩)|refine And.intro ?_ ?_|refine ⟨_,rfl,?_⟩|decide|exact of_decide_eq_true rfl)⟩,by (repeat' first|exact trivial|exact rfl|exact ⟨_,rfl⟩|exact .inl rfl|exact .inr (.inl ⟨rfl,rfl⟩)|exact .inr (.inr ⟨rfl,rfl⟩)|refine And.intro ?_ ?_|refine ⟨_,rfl,?_⟩|decide|exact of_decide_eq_true rfl)⟩
end
noncomputable def zf2 (a b:KM):List Int×Int:=if zbr a b≠0 then ([],zbr a b) else if 12 < a.W∨12 < b.W then ([],8) else if a.W≠b.W then ([],6) else match dfs (okM a b) a.W.toNat a.W.toNat [] with
 | []=>([],6)
 | y::_=>(y.map fun (x:Nat)=>(x:Int),0)
theorem zAO (hT:zcl T) (a b:KM):Fn Tryd.prog T zfs [.d (dKM a),.d (dKM b)] [] (.d (.tup [dI (zf2 a b).1,.int .i64 (zf2 a b).2])) []:=by
 by_cases he:zbr a b=0
 ·obtain ⟨ha,hb,hr,hv⟩:=zrt he
  have ga:=zw ha
  have w1:=ga.w1
  have cb:=zqA (T:=T) a b
  rw [he] at cb
  by_cases h12:12 < a.W∨12 < b.W
  ·refine zb zk zbe (by show 2≤34;decide) ?_
   (repeat' ((conv=>whnf);first|refine vA ?_|refine vB fun b hb=>?_|refine vC (fun hl=>?_) fun i kv vv hi=>?_|refine vE ?_|refine vG ?_|refine vH ?_|((first|refine vD ?_ ?_|refine vF ?_ ?_|refine vI ?_ ?_)<;>intro hc<;>try simp only [vL] at hc)|refine vJ fun hg=>?_|refine vK fun hg=>?_|refine vT ?_|refine vN ‹_› ?_|(refine vQ ?_ fun x hx=>?_;·first|omega|(simp only [vM] at *;omega))|((first|refine vO ?_ ?_|refine vR ?_ ‹_› ?_|refine vS ?_ fun x hx=>?_|refine vP ?_ ?_);·first|omega|(simp only [vM] at *;omega))|refine vW ⟨by omega,by omega⟩ ?_|(refine vU ?_ ?_;·kernel_rfl)|refine vX ?_|refine vY ?_|refine vZ ?_|refine yD cb ⟨⟨rfl,rfl⟩,⟨rfl,rfl⟩,rfl⟩ rfl ?_|refine zT.mk _ ‹_› ?_|refine vP (show (_:BitVec 64)≠_ by decide) ?_));all_goals try conv=>whnf
   iterate 2 (rw [zf2,if_neg (by omega),if_pos h12];rfl)
   all_goals (exfalso;omega)
  ·by_cases hW:a.W=b.W
   ·have hlen : ∀ y∈dfs (okM a b) a.W.toNat a.W.toNat [],y.length=a.W.toNat:=fun y hy=>by have:=(zhx.1 hy).1;simpa using this
    cases hD:dfs (okM a b) a.W.toNat a.W.toNat [] with
    | nil =>
     have cs:=zlb ha hb hW hr (by omega) hT true (zfn []) [] (.nils 1) (.inl rfl) (by rw [hD];exact .no)
     refine zb zk zbe (by show 2≤34;decide) ?_
     (repeat' ((conv=>whnf);first|refine vA ?_|refine vB fun b hb=>?_|refine vC (fun hl=>?_) fun i kv vv hi=>?_|refine vE ?_|refine vG ?_|refine vH ?_|((first|refine vD ?_ ?_|refine vF ?_ ?_|refine vI ?_ ?_)<;>intro hc<;>try simp only [vL] at hc)|refine vJ fun hg=>?_|refine vK fun hg=>?_|refine vT ?_|refine vN ‹_› ?_|(refine vQ ?_ fun x hx=>?_;·first|omega|(simp only [vM] at *;omega))|((first|refine vO ?_ ?_|refine vR ?_ ‹_› ?_|refine vS ?_ fun x hx=>?_|refine vP ?_ ?_);·first|omega|(simp only [vM] at *;omega))|refine vW ⟨by omega,by omega⟩ ?_|(refine vU ?_ ?_;·kernel_rfl)|refine vX ?_|refine vY ?_|refine vZ ?_|refine yD cb ⟨⟨rfl,rfl⟩,⟨rfl,rfl⟩,rfl⟩ rfl ?_|refine zT.mk _ ‹_› ?_|refine vP (show (_:BitVec 64)≠_ by decide) ?_));all_goals try conv=>whnf
     iterate 2 (exfalso;omega)
     ·refine zo.objs [2] (cs) (by (repeat' first|exact trivial|exact rfl|exact ⟨_,rfl⟩|exact .inl rfl|exact .inr (.inl ⟨rfl,rfl⟩)|exact .inr (.inr ⟨rfl,rfl⟩)|refine And.intro ?_ ?_|refine ⟨_,rfl,?_⟩|decide|exact of_decide_eq_true rfl)) (by (repeat' first|exact trivial|exact rfl|exact ⟨_,rfl⟩|exact .inl rfl|exact .inr (.inl ⟨rfl,rfl⟩)|exact .inr (.inr ⟨rfl,rfl⟩)|refine And.intro ?_ ?_|refine ⟨_,rfl,?_⟩|decide|exact of_decide_eq_true rfl)) (by rfl) (by rfl) (by simp) ?_
      (repeat' ((conv=>whnf);first|refine vA ?_|refine vB fun b hb=>?_|refine vC (fun hl=>?_) fun i kv vv hi=>?_|refine vE ?_|refine vG ?_|refine vH ?_|((first|refine vD ?_ ?_|refine vF ?_ ?_|refine vI ?_ ?_)<;>intro hc<;>try simp only [vL] at hc)|refine vJ fun hg=>?_|refine vK fun hg=>?_|refine vT ?_|refine vN ‹_› ?_|(refine vQ ?_ fun x hx=>?_;·first|omega|(simp only [vM] at *;omega))|((first|refine vO ?_ ?_|refine vR ?_ ‹_› ?_|refine vS ?_ fun x hx=>?_|refine vP ?_ ?_);·first|omega|(simp only [vM] at *;omega))|refine vW ⟨by omega,by omega⟩ ?_|(refine vU ?_ ?_;·kernel_rfl)|refine vX ?_|refine vY ?_|refine vZ ?_|refine zT.mk _ ‹_› ?_|refine vP (show (_:BitVec 64)≠_ by decide) ?_));all_goals try conv=>whnf
      rw [zf2,if_neg (by omega),if_neg h12,if_neg (by omega),hD];rfl
     ·exact absurd hW ‹_›
    | cons y l =>
     have hyl:=hlen y (by rw [hD];simp)
     have cs:=zlb ha hb hW hr (by omega) hT false (zfn y) y (.d (dN y)) (.inr ⟨y,rfl⟩) (by rw [hD];exact .yes y l)
     refine zb zk zbe (by show 2≤34;decide) ?_
     (repeat' ((conv=>whnf);first|refine vA ?_|refine vB fun b hb=>?_|refine vC (fun hl=>?_) fun i kv vv hi=>?_|refine vE ?_|refine vG ?_|refine vH ?_|((first|refine vD ?_ ?_|refine vF ?_ ?_|refine vI ?_ ?_)<;>intro hc<;>try simp only [vL] at hc)|refine vJ fun hg=>?_|refine vK fun hg=>?_|refine vT ?_|refine vN ‹_› ?_|(refine vQ ?_ fun x hx=>?_;·first|omega|(simp only [vM] at *;omega))|((first|refine vO ?_ ?_|refine vR ?_ ‹_› ?_|refine vS ?_ fun x hx=>?_|refine vP ?_ ?_);·first|omega|(simp only [vM] at *;omega))|refine vW ⟨by omega,by omega⟩ ?_|(refine vU ?_ ?_;·kernel_rfl)|refine vX ?_|refine vY ?_|refine vZ ?_|refine yD cb ⟨⟨rfl,rfl⟩,⟨rfl,rfl⟩,rfl⟩ rfl ?_|refine zT.mk _ ‹_› ?_|refine vP (show (_:BitVec 64)≠_ by decide) ?_));all_goals try conv=>whnf
     iterate 2 (exfalso;omega)
     ·refine zo.objs [2] (cs) (by (repeat' first|exact trivial|exact rfl|exact ⟨_,rfl⟩|exact .inl rfl|exact .inr (.inl ⟨rfl,rfl⟩)|exact .inr (.inr ⟨rfl,rfl⟩)|refine And.intro ?_ ?_|refine ⟨_,rfl,?_⟩|decide|exact of_decide_eq_true rfl)) (by (repeat' first|exact trivial|exact rfl|exact ⟨_,rfl⟩|exact .inl rfl|exact .inr (.inl ⟨rfl,rfl⟩)|exact .inr (.inr ⟨rfl,rfl⟩)|refine And.intro ?_ ?_|refine ⟨_,rfl,?_⟩|decide|exact of_decide_eq_true rfl)) (by rfl) (by rfl) (by simp) ?_
      (repeat' ((conv=>whnf);first|refine vA ?_|refine vB fun b hb=>?_|refine vC (fun hl=>?_) fun i kv vv hi=>?_|refine vE ?_|refine vG ?_|refine vH ?_|((first|refine vD ?_ ?_|refine vF ?_ ?_|refine vI ?_ ?_)<;>intro hc<;>try simp only [vL] at hc)|refine vJ fun hg=>?_|refine vK fun hg=>?_|refine vT ?_|refine vN ‹_› ?_|(refine vQ ?_ fun x hx=>?_;·first|omega|(simp only [vM] at *;omega))|((first|refine vO ?_ ?_|refine vR ?_ ‹_› ?_|refine vS ?_ fun x hx=>?_|refine vP ?_ ?_);·first|omega|(simp only [vM] at *;omega))|refine vW ⟨by omega,by omega⟩ ?_|(refine vU ?_ ?_;·kernel_rfl)|refine vX ?_|refine vY ?_|refine vZ ?_|refine zT.mk _ ‹_› ?_|refine vP (show (_:BitVec 64)≠_ by decide) ?_));all_goals try conv=>whnf
      ·rw [zf2,if_neg (by omega),if_neg h12,if_neg (by omega),hD];rfl
      ·have h1:(y.map fun (x:Nat)=>(x:Int)).map (D.int .i64)=[]:=hb (by simpa using hc)
       have h2:=congrArg List.length h1
       simp at h2
       rw [h2] at hyl;simp at hyl;omega
     ·exact absurd hW ‹_›
   ·refine zb zk zbe (by show 2≤34;decide) ?_
    (repeat' ((conv=>whnf);first|refine vA ?_|refine vB fun b hb=>?_|refine vC (fun hl=>?_) fun i kv vv hi=>?_|refine vE ?_|refine vG ?_|refine vH ?_|((first|refine vD ?_ ?_|refine vF ?_ ?_|refine vI ?_ ?_)<;>intro hc<;>try simp only [vL] at hc)|refine vJ fun hg=>?_|refine vK fun hg=>?_|refine vT ?_|refine vN ‹_› ?_|(refine vQ ?_ fun x hx=>?_;·first|omega|(simp only [vM] at *;omega))|((first|refine vO ?_ ?_|refine vR ?_ ‹_› ?_|refine vS ?_ fun x hx=>?_|refine vP ?_ ?_);·first|omega|(simp only [vM] at *;omega))|refine vW ⟨by omega,by omega⟩ ?_|(refine vU ?_ ?_;·kernel_rfl)|refine vX ?_|refine vY ?_|refine vZ ?_|refine yD cb ⟨⟨rfl,rfl⟩,⟨rfl,rfl⟩,rfl⟩ rfl ?_|refine zT.mk _ ‹_› ?_|refine vP (show (_:BitVec 64)≠_ by decide) ?_));all_goals try conv=>whnf
    iterate 2 (exfalso;omega)
    ·exact absurd ‹_› hW
    ·rw [zf2,if_neg (by omega),if_neg h12,if_pos hW];rfl
 ·refine zb zk zbe (by show 2≤34;decide) ?_
  (repeat' ((conv=>whnf);first|refine vA ?_|refine vB fun b hb=>?_|refine vC (fun hl=>?_) fun i kv vv hi=>?_|refine vE ?_|refine vG ?_|refine vH ?_|((first|refine vD ?_ ?_|refine vF ?_ ?_|refine vI ?_ ?_)<;>intro hc<;>try simp only [vL] at hc)|refine vJ fun hg=>?_|refine vK fun hg=>?_|refine vT ?_|refine vN ‹_› ?_|(refine vQ ?_ fun x hx=>?_;·first|omega|(simp only [vM] at *;omega))|((first|refine vO ?_ ?_|refine vR ?_ ‹_› ?_|refine vS ?_ fun x hx=>?_|refine vP ?_ ?_);·first|omega|(simp only [vM] at *;omega))|refine vW ⟨by omega,by omega⟩ ?_|(refine vU ?_ ?_;·kernel_rfl)|refine vX ?_|refine vY ?_|refine vZ ?_|refine yD (zqA _ _) ⟨⟨rfl,rfl⟩,⟨rfl,rfl⟩,rfl⟩ rfl ?_|refine zT.mk _ ‹_› ?_|refine vP (show (_:BitVec 64)≠_ by decide) ?_));all_goals try conv=>whnf
  ·rw [zf2,if_pos he];rfl
  all_goals exact absurd ‹zbr a b=0› he
end Go.Ab
namespace Go.Ab
open Go Go.Proofs
set_option maxRecDepth 10000
set_option maxHeartbeats 4000000
def zmS:List D→Option (List Int)
 | []=>some []
 | .int .i64 n::r=>match zmS r with
  | some l=>some (n::l)
  | none=>none
 | _=>none
theorem ztm : ∀ {ds:List D} {l:List Int},zmS ds=some l→ds=l.map (D.int .i64)
 | [],l,h=>by cases h;rfl
 | .int .i64 n::r,l,h=>by
  unfold zmS at h
  split at h
  ·rename_i l' h';cases h;rw [ztm h'];rfl
  ·cases h
def zim:List D→Option (List (BitVec 64))
 | []=>some []
 | .u64 n::r=>match zim r with
  | some l=>some (n::l)
  | none=>none
 | _=>none
theorem zmD : ∀ {ds:List D} {l:List (BitVec 64)},zim ds=some l→ds=l.map D.u64
 | [],l,h=>by cases h;rfl
 | .u64 n::r,l,h=>by
  unfold zim at h
  split at h
  ·rename_i l' h';cases h;rw [zmD h'];rfl
  ·cases h
def zjX:List D→Option (List (List Int))
 | []=>some []
 | .arr 1 x::r=>match zmS x with
  | some a=>match zjX r with
   | some l=>some (a::l)
   | none=>none
  | none=>none
 | _=>none
theorem zmi : ∀ {ds:List D} {l:List (List Int)},zjX ds=some l→ds=l.map dI
 | [],l,h=>by cases h;rfl
 | .arr 1 x::r,l,h=>by
  replace h:(match zmS x with
   | some a=>match zjX r with
    | some l=>some (a::l)
    | none=>none
   | none=>none)=some l:=h
  cases h1:zmS x with
  | none=>rw [h1] at h;cases h
  | some a =>
   cases h2:zjX r with
   | none=>rw [h1,h2] at h;cases h
   | some l'=>rw [h1,h2] at h;cases h;rw [zmi h2,ztm h1];rfl
def zp1:List D→Option (List (List (BitVec 64)))
 | []=>some []
 | .arr 1 x::r=>match zim x with
  | some a=>match zp1 r with
   | some l=>some (a::l)
   | none=>none
  | none=>none
 | _=>none
theorem ztO : ∀ {ds:List D} {l:List (List (BitVec 64))},zp1 ds=some l→ds=l.map dU
 | [],l,h=>by cases h;rfl
 | .arr 1 x::r,l,h=>by
  replace h:(match zim x with
   | some a=>match zp1 r with
    | some l=>some (a::l)
    | none=>none
   | none=>none)=some l:=h
  cases h1:zim x with
  | none=>rw [h1] at h;cases h
  | some a =>
   cases h2:zp1 r with
   | none=>rw [h1,h2] at h;cases h
   | some l'=>rw [h1,h2] at h;cases h;rw [ztO h2,zmD h1];rfl
def zv3:D→Option KM
 | .agg [.int .i64 W,.arr 1 v,.arr 1 r]=>match zim v,zp1 r with
  | some v,some r=>some ⟨W,v,r⟩
  | _,_=>none
 | _=>none
theorem zu7 {d:D} {m:KM} (h:zv3 d=some m):d=dKM m:=by
 unfold zv3 at h
 split at h
 ·split at h
  ·rename_i h1 h2;cases h;rw [zmD h1,ztO h2]
  ·cases h
 ·cases h
def zwh (t:Tup):Bool:=Nat.ble t.length 1000&&t.all fun r=>Nat.ble r.length 1000
theorem zAC {t:Tup} (h:zwh t=true):Sml t:=by
 unfold zwh at h
 rw [Bool.and_eq_true,Nat.ble_eq] at h
 exact ⟨h.1,fun r hr=>by have:=List.all_eq_true.1 h.2 r hr;rwa [Nat.ble_eq] at this⟩
def ztt:Fs:=fun f vs obs =>
 cond (Nat.beq f zU) (match vs,obs with
  | [.d (.arr 1 a),.d (.arr 1 b)],[]=>match zjX a,zjX b with
   | some a,some b=>cond (zwh a) (some (.d (.int .i64 (zbi a b)),[])) none
   | _,_=>none
  | _,_=>none)
 (cond (Nat.beq f zan) (match vs,obs with
  | [.d (.u64 w)],[]=>some (.d (.int .i64 (Lib.ctz 64 w.toNat)),[])
  | _,_=>none)
 (cond (Nat.beq f zd7) (match vs,obs with
  | [.d (.u64 w)],[]=>some (.d (.int .i64 (Sort.bitsLen w.toNat:Int)),[])
  | _,_=>none)
 (cond (Nat.beq f ze9) (match vs,obs with
  | [.d d],[]=>match zv3 d with
   | some m=>some (.d (.int .i64 (zi m)),[])
   | none=>none
  | _,_=>none)
 (cond (Nat.beq f zfa) (match vs,obs with
  | [.d d,.d (.int .i64 w)],[]=>match zv3 d with
   | some m=>some (.d (.int .i64 (zlW m w)),[])
   | none=>none
  | _,_=>none) none))))
def zCo (f:Nat):Bool:=Nat.beq f zap||(Nat.beq f zD||(Nat.beq f zeU||(Nat.beq f zg0||Nat.beq f zcn)))
noncomputable def zA3:Cfg:=⟨ze Tryd.prog,ztt,fun _ _ _=>none,zCo,fun f=>Nat.beq f zdG,150⟩
variable {T:Nat→Obj→Prop}
theorem zxg (hT:zcl T):zss Tryd.prog T ztt:=by
 intro f vs obs v obs' h
 unfold ztt at h
 cases h1:Nat.beq f zU with
 | true =>
  rw [h1,cond_true] at h
  rw [Nat.eq_of_beq_eq_true h1]
  split at h
  ·split at h
   ·rename_i a b ha hb
    rw [zmi ha,zmi hb]
    cases hc:zwh a with
    | true=>rw [hc] at h;cases h;exact zh5 _ _ (zAC hc)
    | false=>rw [hc] at h;cases h
   ·cases h
  ·cases h
 | false =>
  rw [h1,cond_false] at h
  cases h2:Nat.beq f zan with
  | true =>
   rw [h2,cond_true] at h
   rw [Nat.eq_of_beq_eq_true h2]
   split at h
   ·cases h;exact hT _
   ·cases h
  | false =>
   rw [h2,cond_false] at h
   cases h3:Nat.beq f zd7 with
   | true =>
    rw [h3,cond_true] at h
    rw [Nat.eq_of_beq_eq_true h3]
    split at h
    ·cases h;exact zs9 _
    ·cases h
   | false =>
    rw [h3,cond_false] at h
    cases h4:Nat.beq f ze9 with
    | true =>
     rw [h4,cond_true] at h
     rw [Nat.eq_of_beq_eq_true h4]
     split at h
     ·split at h
      ·rename_i hm;cases h;rw [zu7 hm];exact zbU _
      ·cases h
     ·cases h
    | false =>
     rw [h4,cond_false] at h
     cases h5:Nat.beq f zfa with
     | true =>
      rw [h5,cond_true] at h
      rw [Nat.eq_of_beq_eq_true h5]
      split at h
      ·split at h
       ·rename_i hm;cases h;rw [zu7 hm];exact ziP _ _
       ·cases h
      ·cases h
     | false=>rw [h5] at h;cases h
theorem zzZ (hT:zcl T):zr9 Tryd.prog T zA3:=⟨fun f c h=>h,zxg hT,fun g vs obs xs h=>by cases h⟩
end Go.Ab
namespace Go.Ab
open Go Go.Proofs
set_option maxRecDepth 10000
set_option maxHeartbeats 4000000
variable {T:Nat→Obj→Prop}
abbrev zCh (x:KM×List Int×Int):D := .tup [dKM x.1,dI x.2.1,.int .i64 x.2.2]
end Go.Ab
namespace Go.Ab
structure Nd where
 op:Int
 i:Int
 e:Int
 g:Int
 x:Int
 y:Int
 deriving DecidableEq,Inhabited
structure Hd where
 op:Int
 i:Int
 e:Int
 g:Int
 deriving DecidableEq,Inhabited
def Nd.hd (n:Nd):Hd:=⟨n.op,n.i,n.e,n.g⟩
def zc9 (op:Int):Bool:=decide (1≤op∧op≤21)
def zG (op:Int):Bool:=decide (4≤op∧op≤21)
def zH (op:Int):Bool:=decide (5≤op∧op≤8∨op=13∨op=14∨op=16∨op=19∨op=21)
def zae (op:Int):Bool:=decide (op=3)
def zP (op:Int):Bool:=decide (op=9∨op=10∨op=14∨op=15)
def zQ (op:Int):Bool:=decide (op=17)
def zR (op:Int):Bool:=decide (11≤op∧op≤13)
def zaR (op:Int):Int :=
 if op=9∨op=10 then 1 else if op=11 then 2 else if op=12 then 4 else if op=13 then 8 else if op=14 then 16 else if op=15 then 32 else if op=16 then 64 else if op=17 then 128 else
 if 18≤op∧op≤21 then 256 else 0
theorem zal {op:Int} (h:zH op=true):zG op=true:=by
 simp only [zG,zH,decide_eq_true_eq] at h ⊢;omega
def ziY (used:Bool) (f at_:Int):Bool:=used&&decide (0≤f)&&decide (f < at_) || !used&&decide (f=0)
def zb0 (used:Bool) (v lo hi:Int):Bool:=used&&(decide (v < lo)||decide (hi < v))
def zbW (n:Nd) (at_:Int):Int :=
 if zc9 n.op=false then 10 else
 if ziY (zG n.op) n.x at_=false∨ziY (zH n.op) n.y at_=false then 3 else
 if (!(zae n.op||zP n.op||zQ n.op)&&decide (n.i≠0)||(!zQ n.op&&decide (n.e≠0))||(!zR n.op&&decide (n.g≠0)))=true then 3 else
 if (zb0 (zae n.op) n.i 0 7||zb0 (zP n.op) n.i 0 3||zb0 (zQ n.op) n.i 0 7||zb0 (zQ n.op) n.e 0 7||zb0 (zR n.op) n.g 1 15)=true then 2 else 0
def zgM:List Nd→Nat→Int
 | [],_=>0
 | n::r,k=>if zbW n k≠0 then zbW n k else zgM r (k+1)
def zbq (f:List Nd):Int:=if f.length=0 then 3 else if 200 < f.length then 8 else zgM f 0
def zaf (f:List Nd):Prop := ∀ (k:Nat) n,f[k]? = some n→zbW n k=0
theorem zlS : ∀ (f:List Nd) (k:Nat),zgM f k=0 ↔ ∀ (j:Nat) n,f[j]? = some n→zbW n (k+j:Nat)=0
 | [],k=>by simp [zgM]
 | n::r,k=>by
  unfold zgM
  constructor
  ·intro h
   split at h
   ·contradiction
   ·rename_i h0
    intro j m hj
    cases j with
    | zero=>simp at hj;subst hj;simpa using h0
    | succ j =>
     have:=(zlS r (k+1)).1 h j m (by simpa using hj)
     rwa [show k+1+j=k+(j+1) by omega] at this
  ·intro h
   have h0:=h 0 n (by simp)
   rw [if_neg (by simpa using h0)]
   refine (zlS r (k+1)).2 fun j m hj=>?_
   have:=h (j+1) m (by simpa using hj)
   rwa [show k+(j+1)=k+1+j by omega] at this
theorem zds {f:List Nd} : zbq f=0↔0 < f.length∧f.length≤200∧zaf f:=by
 unfold zbq zaf
 have:=zlS f 0
 simp only [Nat.zero_add] at this
 by_cases h1:f.length=0
 ·rw [if_pos h1];omega
 ·rw [if_neg h1]
  by_cases h2:200 < f.length
  ·rw [if_pos h2];omega
  ·rw [if_neg h2,this]
   exact ⟨fun h=>⟨by omega,by omega,h⟩,fun h=>h.2.2⟩
theorem zqO {n:Nd} {a:Int} (h:zbW n a=0):zc9 n.op=true∧(zG n.op=true→0≤n.x∧n.x < a)∧(zG n.op=false→n.x=0)∧(zH n.op=true→0≤n.y∧n.y < a)∧(zH n.op=false→n.y=0) ∧
  (zae n.op=true→0≤n.i∧n.i≤7)∧(zP n.op=true→0≤n.i∧n.i≤3)∧(zQ n.op=true→0≤n.i∧n.i≤7∧0≤n.e∧n.e≤7)∧(zR n.op=true→1≤n.g∧n.g≤15) ∧
  (zae n.op=false→zP n.op=false→zQ n.op=false→n.i=0)∧(zQ n.op=false→n.e=0)∧(zR n.op=false→n.g=0):=by
 unfold zbW at h
 split at h
 ·cases h
 ·rename_i h1
  split at h
  ·cases h
  ·rename_i h2
   split at h
   ·cases h
   ·rename_i h3
    split at h
    ·cases h
    ·rename_i h4
     generalize zG n.op=a1 at *
     generalize zH n.op=a2 at *
     generalize zae n.op=a3 at *
     generalize zP n.op=a4 at *
     generalize zQ n.op=a5 at *
     generalize zR n.op=a6 at *
     refine ⟨by simpa using h1,?_⟩
     simp only [ziY,zb0] at h2 h3 h4
     cases a1<;>cases a2<;>cases a3<;>cases a4<;>cases a5<;>cases a6<;>simp at h2 h3 h4 ⊢ <;> omega
theorem zAj {n:Nd} {a:Int} (h:zc9 n.op=true∧(zG n.op=true→0≤n.x∧n.x < a)∧(zG n.op=false→n.x=0)∧(zH n.op=true→0≤n.y∧n.y < a)∧(zH n.op=false→n.y=0) ∧
  (zae n.op=true→0≤n.i∧n.i≤7)∧(zP n.op=true→0≤n.i∧n.i≤3)∧(zQ n.op=true→0≤n.i∧n.i≤7∧0≤n.e∧n.e≤7)∧(zR n.op=true→1≤n.g∧n.g≤15) ∧
  (zae n.op=false→zP n.op=false→zQ n.op=false→n.i=0)∧(zQ n.op=false→n.e=0)∧(zR n.op=false→n.g=0)):zbW n a=0:=by
 unfold zbW
 generalize zG n.op=a1 at *
 generalize zH n.op=a2 at *
 generalize zae n.op=a3 at *
 generalize zP n.op=a4 at *
 generalize zQ n.op=a5 at *
 generalize zR n.op=a6 at *
 rw [if_neg (by simp [h.1]),if_neg,if_neg,if_neg]
 all_goals
  try simp only [ziY,zb0]
  cases a1<;>cases a2<;>cases a3<;>cases a4<;>cases a5<;>cases a6<;>simp at h ⊢ <;> omega
structure FSt where
 out:List Nd
 done:List (Nat×Nat)
def put (l:List Nd) (x:Nd):Nat×List Nd:=match l.idxOf? x with
 | some k=>(k,l)
 | none=>(l.length,l++[x])
def fin (f:List Nd):Nat→Nat→FSt→Nat×FSt
 | 0,_,s=>(0,s)
 | k+1,i,s=>match s.done.lookup i with
  | some r=>(r,s)
  | none =>
   let n:=f.getD i default
   let a:=cond (zG n.op) (fin f k n.x.toNat s) (n.x.toNat,s)
   let b:=cond (zH n.op) (fin f k n.y.toNat a.2) (n.y.toNat,a.2)
   let p:=put b.2.out { n with x:=a.1,y:=b.1 }
   (p.1,⟨p.2,b.2.done++[(i,p.1)]⟩)
def zbo (f:List Nd) (root:Nat):List Nd:=(fin f (root+1) root ⟨[],[]⟩).2.out
inductive Tm where
 | z (h:Hd)
 | u (h:Hd) (x:Tm)
 | b (h:Hd) (x y:Tm)
def tm (f:List Nd):Nat→Nat→Tm
 | 0,_ => .z default
 | k+1,i =>
  let n:=f.getD i default
  cond (zH n.op) (.b n.hd (tm f k n.x.toNat) (tm f k n.y.toNat)) (cond (zG n.op) (.u n.hd (tm f k n.x.toNat)) (.z n.hd))
def zt (f:List Nd) (i:Nat):Tm:=tm f (i+1) i
theorem zhC {f:List Nd} (hf:zaf f) {i:Nat} (hi:i < f.length):zbW (f.getD i default) i=0:=hf i _ (by simp [hi])
theorem zax {f:List Nd} (hf:zaf f) {i:Nat} (hi:i < f.length) (h:zG (f.getD i default).op=true):0≤(f.getD i default).x∧(f.getD i default).x.toNat < i:=by
 have:=(zqO (zhC hf hi)).2.1 h;omega
theorem zb7 {f:List Nd} (hf:zaf f) {i:Nat} (hi:i < f.length) (h:zH (f.getD i default).op=true):0≤(f.getD i default).y∧(f.getD i default).y.toNat < i:=by
 have:=(zqO (zhC hf hi)).2.2.2.1 h;omega
theorem zhF {f:List Nd} (hf:zaf f) : ∀ (k k' i:Nat),i < f.length→i < k→i < k'→tm f k i=tm f k' i
 | 0,_,_,_,h,_=>by omega
 | _+1,0,_,_,_,h=>by omega
 | k+1,k'+1,i,hi,h1,h2=>by
  unfold tm
  simp only
  cases hy:zH (f.getD i default).op with
  | true =>
   have e1:=zax hf hi (zal hy)
   have e2:=zb7 hf hi hy
   simp only [cond_true]
   rw [zhF hf k k' _ (by omega) (by omega) (by omega),zhF hf k k' (f.getD i default).y.toNat (by omega) (by omega) (by omega)]
  | false =>
   simp only [cond_false]
   cases hx:zG (f.getD i default).op with
   | true =>
    have e1:=zax hf hi hx
    simp only [cond_true]
    rw [zhF hf k k' _ (by omega) (by omega) (by omega)]
   | false=>rfl
theorem zdx {f:List Nd} (hf:zaf f) {i:Nat} (hi:i < f.length):zt f i=cond (zH (f.getD i default).op) (.b (f.getD i default).hd (zt f (f.getD i default).x.toNat) (zt f (f.getD i default).y.toNat)) (cond (zG (f.getD i default).op) (.u (f.getD i default).hd (zt f (f.getD i default).x.toNat)) (.z (f.getD i default).hd)):=by
 unfold zt
 rw [tm]
 try simp only
 cases hy:zH (f.getD i default).op with
 | true =>
  have e1:=zax hf hi (zal hy)
  have e2:=zb7 hf hi hy
  simp only [cond_true]
  rw [zhF hf i _ _ (by omega) (by omega) (Nat.lt_succ_self _),zhF hf i _ (f.getD i default).y.toNat (by omega) (by omega) (Nat.lt_succ_self _)]
 | false =>
  simp only [cond_false]
  cases hx:zG (f.getD i default).op with
  | true =>
   have e1:=zax hf hi hx
   simp only [cond_true]
   rw [zhF hf i _ _ (by omega) (by omega) (Nat.lt_succ_self _)]
  | false=>rfl
theorem zi2 {f g:List Nd} (hf:zaf f) : ∀ (k i:Nat),i < f.length→tm (f++g) k i=tm f k i
 | 0,_,_=>rfl
 | k+1,i,hi=>by
  unfold tm
  simp only
  have e:(f++g).getD i default=f.getD i default:=by simp [List.getD,List.getElem?_append_left hi]
  rw [e]
  cases hy:zH (f.getD i default).op with
  | true =>
   have e1:=zax hf hi (zal hy)
   have e2:=zb7 hf hi hy
   simp only [cond_true]
   rw [zi2 hf k _ (by omega),zi2 hf k (f.getD i default).y.toNat (by omega)]
  | false =>
   simp only [cond_false]
   cases hx:zG (f.getD i default).op with
   | true =>
    have e1:=zax hf hi hx
    simp only [cond_true]
    rw [zi2 hf k _ (by omega)]
   | false=>rfl
theorem zaT {f g:List Nd} (hf:zaf f) {i:Nat} (hi:i < f.length):zt (f++g) i=zt f i:=zi2 hf _ _ hi
def Tm.all (p:Hd→Prop):Tm→Prop
 | .z h=>p h
 | .u h x=>p h∧x.all p
 | .b h x y=>p h∧x.all p∧y.all p
def Tm.size:Tm→Nat
 | .z _=>1
 | .u _ x=>x.size+1
 | .b _ x y=>x.size+y.size+1
structure zi3 (h:Hd):Prop where
 op:zc9 h.op=true
 fact:zae h.op=true→0≤h.i∧h.i≤7
 agent:zP h.op=true→0≤h.i∧h.i≤3
 event:zQ h.op=true→0≤h.i∧h.i≤7∧0≤h.e∧h.e≤7
 group:zR h.op=true→1≤h.g∧h.g≤15
 i0:zae h.op=false→zP h.op=false→zQ h.op=false→h.i=0
 e0:zQ h.op=false→h.e=0
 g0:zR h.op=false→h.g=0
theorem zaG {n:Nd} {a:Int} : zbW n a=0↔zi3 n.hd∧(zG n.op=true→0≤n.x∧n.x < a)∧(zG n.op=false→n.x=0)∧(zH n.op=true→0≤n.y∧n.y < a)∧(zH n.op=false→n.y=0):=by
 constructor
 ·intro h
  obtain ⟨h1,h2,h3,h4,h5,h6,h7,h8,h9,h10,h11,h12⟩:=zqO h
  exact ⟨⟨h1,h6,h7,h8,h9,h10,h11,h12⟩,h2,h3,h4,h5⟩
 ·rintro ⟨⟨h1,h6,h7,h8,h9,h10,h11,h12⟩,h2,h3,h4,h5⟩
  exact zAj ⟨h1,h2,h3,h4,h5,h6,h7,h8,h9,h10,h11,h12⟩
def Tm.ok:Tm→Prop
 | .z h=>zi3 h∧zG h.op=false∧zH h.op=false
 | .u h x=>zi3 h∧zG h.op=true∧zH h.op=false∧x.ok
 | .b h x y=>zi3 h∧zG h.op=true∧zH h.op=true∧x.ok∧y.ok
theorem zfz {f:List Nd} (hf:zaf f) : ∀ (n i:Nat),i < n→i < f.length→(zt f i).ok
 | 0,_,h,_=>by omega
 | n+1,i,h,hi=>by
  rw [zdx hf hi]
  have h0:=(zaG.1 (zhC hf hi)).1
  cases hy:zH (f.getD i default).op with
  | true =>
   have e1:=zax hf hi (zal hy)
   have e2:=zb7 hf hi hy
   exact ⟨h0,zal hy,hy,zfz hf n _ (by omega) (by omega),zfz hf n _ (by omega) (by omega)⟩
  | false =>
   cases hx:zG (f.getD i default).op with
   | true =>
    have e1:=zax hf hi hx
    exact ⟨h0,hx,hy,zfz hf n _ (by omega) (by omega)⟩
   | false=>exact ⟨h0,hx,hy⟩
def nd (h:Hd) (x y:Nat):Nd:=⟨h.op,h.i,h.e,h.g,x,y⟩
def zf:Tm→List Nd→Nat×List Nd
 | .z h,l=>put l (nd h 0 0)
 | .u h x,l=>put (zf x l).2 (nd h (zf x l).1 0)
 | .b h x y,l=>put (zf y (zf x l).2).2 (nd h (zf x l).1 (zf y (zf x l).2).1)
theorem zaj {l:List Nd} {x:Nd} {k:Nat} (h:l.idxOf? x=some k):put l x=(k,l):=by unfold put;rw [h]
theorem zbv {l:List Nd} {x:Nd} (h:l.idxOf? x=none):put l x=(l.length,l++[x]):=by unfold put;rw [h]
theorem zkK {l m:List Nd} {x:Nd} {k:Nat} (h:l.idxOf? x=some k):(l++m).idxOf? x=some k:=by
 simp only [List.idxOf?] at h ⊢
 rw [List.findIdx?_append,h];rfl
theorem zqD {l:List Nd} {x:Nd} {k:Nat} (h:l.idxOf? x=some k):l[k]? = some x:=by
 simp only [List.idxOf?] at h
 obtain ⟨h1,h2,h3⟩:=List.findIdx?_eq_some_iff_getElem.1 h
 simp at h2
 simp [h1,h2]
theorem zyN {l:List Nd} {x:Nd} (h:l.idxOf? x=none):(l++[x]).idxOf? x=some l.length:=by
 simp only [List.idxOf?] at h ⊢
 rw [List.findIdx?_append,h]
 simp
theorem zbf (l:List Nd) (x:Nd):(∃ m,(put l x).2=l++m)∧(put l x).2.idxOf? x=some (put l x).1:=by
 cases h:l.idxOf? x with
 | some k=>rw [zaj h];exact ⟨⟨[],by simp⟩,h⟩
 | none=>rw [zbv h];exact ⟨⟨[x],rfl⟩,zyN h⟩
theorem zb3 : ∀ (t:Tm) (l:List Nd),∃ m,(zf t l).2=l++m
 | .z h,l=>(zbf _ _).1
 | .u h x,l=>by
  obtain ⟨m,hm⟩:=zb3 x l
  obtain ⟨m',hm'⟩:=(zbf (zf x l).2 (nd h (zf x l).1 0)).1
  exact ⟨m++m',by rw [zf,hm',hm,List.append_assoc]⟩
 | .b h x y,l=>by
  obtain ⟨m,hm⟩:=zb3 x l
  obtain ⟨m2,hm2⟩:=zb3 y (zf x l).2
  obtain ⟨m',hm'⟩:=(zbf (zf y (zf x l).2).2 (nd h (zf x l).1 (zf y (zf x l).2).1)).1
  exact ⟨m++m2++m',by rw [zf,hm',hm2,hm,List.append_assoc,List.append_assoc,List.append_assoc]⟩
def zdm (t:Tm) (l:List Nd) (r:Nat):Prop:=zf t l=(r,l)
theorem zdm.mono : ∀ {t:Tm} {l:List Nd} {r:Nat} (m:List Nd),zdm t l r→zdm t (l++m) r
 | .z h,l,r,m,hh=>by
  unfold zdm zf at *
  cases hi:l.idxOf? (nd h 0 0) with
  | some k=>rw [zaj hi] at hh;cases hh;rw [zaj (zkK hi)]
  | none=>rw [zbv hi] at hh;have:=congrArg (fun p=>p.2.length) hh;simp at this
 | .u h x,l,r,m,hh=>by
  unfold zdm at *
  obtain ⟨a,ha⟩:=zb3 x l
  obtain ⟨b,hb⟩:=(zbf (zf x l).2 (nd h (zf x l).1 0)).1
  have e:a=[]∧b=[]:=by
   have:(zf (.u h x) l).2=l++a++b:=by rw [zf,hb,ha]
   rw [hh] at this
   have:=congrArg List.length this
   simp only [List.length_append] at this
   exact ⟨List.length_eq_zero_iff.1 (by omega),List.length_eq_zero_iff.1 (by omega)⟩
  obtain ⟨rfl,rfl⟩:=e
  rw [List.append_nil] at ha
  have hx:zdm x l (zf x l).1:=Prod.ext rfl ha
  have hx':=zdm.mono m hx
  unfold zdm at hx'
  rw [zf,ha] at hh
  rw [zf,hx']
  cases hi:l.idxOf? (nd h (zf x l).1 0) with
  | some k=>rw [zaj hi] at hh;cases hh;exact zaj (zkK hi)
  | none=>rw [zbv hi] at hh;have:=congrArg (fun p=>p.2.length) hh;simp at this
 | .b h x y,l,r,m,hh=>by
  unfold zdm at *
  obtain ⟨a,ha⟩:=zb3 x l
  obtain ⟨c,hc⟩:=zb3 y (zf x l).2
  obtain ⟨b,hb⟩:=(zbf (zf y (zf x l).2).2 (nd h (zf x l).1 (zf y (zf x l).2).1)).1
  have e:a=[]∧c=[]∧b=[]:=by
   have:(zf (.b h x y) l).2=l++a++c++b:=by rw [zf,hb,hc,ha]
   rw [hh] at this
   have:=congrArg List.length this
   simp only [List.length_append] at this
   exact ⟨List.length_eq_zero_iff.1 (by omega),List.length_eq_zero_iff.1 (by omega),List.length_eq_zero_iff.1 (by omega)⟩
  obtain ⟨rfl,rfl,rfl⟩:=e
  rw [List.append_nil] at ha hc
  rw [ha] at hc
  have hx:zdm x l (zf x l).1:=Prod.ext rfl ha
  have hy:zdm y l (zf y l).1:=Prod.ext rfl hc
  have hx':=zdm.mono m hx
  have hy':=zdm.mono m hy
  unfold zdm at hx' hy'
  rw [zf,ha,hc] at hh
  rw [zf,hx']
  simp only
  rw [hy']
  cases hi:l.idxOf? (nd h (zf x l).1 (zf y l).1) with
  | some k=>rw [zaj hi] at hh;cases hh;exact zaj (zkK hi)
  | none=>rw [zbv hi] at hh;have:=congrArg (fun p=>p.2.length) hh;simp at this
theorem zkC : ∀ (t:Tm) (l:List Nd),zdm t (zf t l).2 (zf t l).1
 | .z h,l=>by
  unfold zdm zf
  exact zaj (zbf _ _).2
 | .u h x,l=>by
  obtain ⟨m,hm⟩:=(zbf (zf x l).2 (nd h (zf x l).1 0)).1
  have h1:=(zkC x l).mono m
  rw [← hm] at h1
  unfold zdm at *
  rw [zf,zf,h1]
  exact zaj (zbf _ _).2
 | .b h x y,l=>by
  obtain ⟨m,hm⟩:=(zbf (zf y (zf x l).2).2 (nd h (zf x l).1 (zf y (zf x l).2).1)).1
  obtain ⟨m2,hm2⟩:=zb3 y (zf x l).2
  have h1:=((zkC x l).mono m2).mono m
  rw [← hm2] at h1
  have h2:=(zkC y (zf x l).2).mono m
  rw [← hm] at h1 h2
  unfold zdm at *
  rw [zf,zf,h1]
  simp only
  rw [h2]
  exact zaj (zbf _ _).2
theorem zka (l:List Nd) (x:Nd):(put l x).1 < (put l x).2.length:=by
 have:=zqD (zbf l x).2
 exact (List.getElem?_eq_some_iff.1 this).1
theorem zmN : ∀ (t:Tm) (l:List Nd),(zf t l).1 < (zf t l).2.length
 | .z _,_=>zka _ _
 | .u _ _,_=>zka _ _
 | .b _ _ _,_=>zka _ _
theorem zoA {l:List Nd} {x:Nd} (hl:zaf l) (h:zbW x l.length=0):zaf (put l x).2:=by
 cases hi:l.idxOf? x with
 | some k=>rw [zaj hi];exact hl
 | none =>
  rw [zbv hi]
  intro k n hk
  simp only [List.getElem?_append] at hk
  split at hk
  ·exact hl k n hk
  ·rename_i h1
   have:k=l.length:=by
    have:=(List.getElem?_eq_some_iff.1 hk).1;simp at this;omega
   subst this
   simp at hk;subst hk;exact h
theorem zoB {l:List Nd} {x:Nd} (hl:zaf l) (h:zbW x l.length=0):(put l x).2.getD (put l x).1 default=x:=by
 have:=zqD (zbf l x).2
 simp [List.getD,this]
theorem zxj {k:Nat} : ((k:Nat):Int).toNat=k:=by omega
theorem zbT : ∀ (t:Tm) (l:List Nd),t.ok→zaf l→zaf (zf t l).2∧zt (zf t l).2 (zf t l).1=t
 | .z h,l,ht,hl=>by
  have hn:zbW (nd h 0 0) l.length=0:=zaG.2 ⟨ht.1,fun e=>by have:=ht.2.1;simp [nd] at e;simp [this] at e,fun _=>rfl,fun e=>by have:=ht.2.2;simp [nd] at e;simp [this] at e,fun _=>rfl⟩
  have h1:=zoA hl hn
  refine ⟨h1,?_⟩
  have h2:=zdx h1 (zka l (nd h 0 0))
  rw [zoB hl hn] at h2
  rw [zf,h2]
  simp only [nd,ht.2.1,ht.2.2,cond_false,Nd.hd]
 | .u h x,l,ht,hl=>by
  obtain ⟨a1,a2⟩:=zbT x l ht.2.2.2 hl
  have a3:=zmN x l
  have hn:zbW (nd h (zf x l).1 0) (zf x l).2.length=0:=zaG.2 ⟨ht.1,fun e=>⟨by simp [nd],by simp only [nd];omega⟩,fun e=>by have:=ht.2.1;simp [nd] at e;simp [this] at e,fun e=>by have:=ht.2.2.1;simp [nd] at e;simp [this] at e,fun _=>rfl⟩
  have h1:=zoA a1 hn
  refine ⟨h1,?_⟩
  have h2:=zdx h1 (zka (zf x l).2 (nd h (zf x l).1 0))
  rw [zoB a1 hn] at h2
  obtain ⟨m,hm⟩:=(zbf (zf x l).2 (nd h (zf x l).1 0)).1
  rw [zf,h2]
  simp only [nd,ht.2.1,ht.2.2.1,cond_false,cond_true,Nd.hd,zxj]
  have h3:zt (put (zf x l).2 (nd h (zf x l).1 0)).2 (zf x l).1=x:=by rw [hm,zaT a1 a3,a2]
  simp only [nd] at h3
  rw [h3]
 | .b h x y,l,ht,hl=>by
  obtain ⟨a1,a2⟩:=zbT x l ht.2.2.2.1 hl
  have a3:=zmN x l
  obtain ⟨b1,b2⟩:=zbT y (zf x l).2 ht.2.2.2.2 a1
  have b3:=zmN y (zf x l).2
  obtain ⟨m2,hm2⟩:=zb3 y (zf x l).2
  have hn:zbW (nd h (zf x l).1 (zf y (zf x l).2).1) (zf y (zf x l).2).2.length=0:=zaG.2 ⟨ht.1,fun e=>⟨by simp [nd],by simp only [nd];rw [hm2,List.length_append];omega⟩,
   fun e=>by have:=ht.2.1;simp [nd] at e;simp [this] at e,fun e=>⟨by simp [nd],by simp only [nd];omega⟩,fun e=>by have:=ht.2.2.1;simp [nd] at e;simp [this] at e⟩
  have h1:=zoA b1 hn
  refine ⟨h1,?_⟩
  have h2:=zdx h1 (zka (zf y (zf x l).2).2 (nd h (zf x l).1 (zf y (zf x l).2).1))
  rw [zoB b1 hn] at h2
  obtain ⟨m,hm⟩:=(zbf (zf y (zf x l).2).2 (nd h (zf x l).1 (zf y (zf x l).2).1)).1
  rw [zf,h2]
  simp only [nd,ht.2.1,ht.2.2.1,cond_false,cond_true,Nd.hd,zxj]
  have h3:zt (put (zf y (zf x l).2).2 (nd h (zf x l).1 (zf y (zf x l).2).1)).2 (zf x l).1=x:=by
   rw [hm,zaT b1 (by rw [hm2,List.length_append];omega),hm2,zaT a1 a3,a2]
  have h4:zt (put (zf y (zf x l).2).2 (nd h (zf x l).1 (zf y (zf x l).2).1)).2 (zf y (zf x l).2).1=y:=by
   rw [hm,zaT b1 b3,b2]
  simp only [nd] at h3 h4
  rw [h3,h4]
theorem zqS (p:Hd→Prop) (l:List Nd) (x:Nd):(∀ n∈(put l x).2,p n.hd)↔(∀ n∈l,p n.hd)∧p x.hd:=by
 cases hi:l.idxOf? x with
 | some k =>
  rw [zaj hi]
  have:=List.mem_of_getElem? (zqD hi)
  exact ⟨fun h=>⟨h,h x this⟩,fun h=>h.1⟩
 | none =>
  rw [zbv hi]
  simp only [List.mem_append,List.mem_singleton]
  exact ⟨fun h=>⟨fun n hn=>h n (.inl hn),h x (.inr rfl)⟩,fun h n hn=>hn.elim (h.1 n) (fun e=>e▸h.2)⟩
theorem zkB (p:Hd→Prop) : ∀ (t:Tm) (l:List Nd),(∀ n∈(zf t l).2,p n.hd)↔(∀ n∈l,p n.hd)∧t.all p
 | .z h,l=>zqS p l _
 | .u h x,l=>by
  rw [zf,zqS,zkB p x l,Tm.all]
  exact ⟨fun ⟨⟨a,b⟩,c⟩=>⟨a,c,b⟩,fun ⟨a,c,b⟩=>⟨⟨a,b⟩,c⟩⟩
 | .b h x y,l=>by
  rw [zf,zqS,zkB p y _,zkB p x l,Tm.all]
  exact ⟨fun ⟨⟨⟨a,b⟩,d⟩,c⟩=>⟨a,c,b,d⟩,fun ⟨a,c,b,d⟩=>⟨⟨⟨a,b⟩,d⟩,c⟩⟩
theorem zkp : ∀ (t:Tm) (l:List Nd) (r:Nat),t.ok→zaf l→l.length≤r→r < (zf t l).2.length→(zt (zf t l).2 r).size≤t.size∧(r+1 < (zf t l).2.length→(zt (zf t l).2 r).size < t.size)
 | .z h,l,r,ht,hl,h1,h2=>by
  obtain ⟨o1,o2⟩:=zbT (.z h) l ht hl
  have:(zf (.z h) l).1=r ∧ ¬ r+1 < (zf (.z h) l).2.length:=by
   unfold zf at h2 ⊢
   cases hi:l.idxOf? (nd h 0 0) with
   | some k=>rw [zaj hi] at h2;simp at h2;omega
   | none=>rw [zbv hi] at h2 ⊢;simp at h2 ⊢;omega
  rw [← this.1,o2]
  rw [this.1]
  exact ⟨Nat.le_refl _,fun h=>absurd h this.2⟩
 | .u h x,l,r,ht,hl,h1,h2=>by
  obtain ⟨o1,o2⟩:=zbT (.u h x) l ht hl
  obtain ⟨a1,a2⟩:=zbT x l ht.2.2.2 hl
  have ih:=zkp x l r ht.2.2.2 hl h1
  by_cases hr:r < (zf x l).2.length
  ·obtain ⟨m,hm⟩:=(zbf (zf x l).2 (nd h (zf x l).1 0)).1
   have e:zt (zf (.u h x) l).2 r=zt (zf x l).2 r:=by rw [zf,hm,zaT a1 hr]
   rw [e]
   have:=(ih hr).1
   simp only [Tm.size]
   omega
  ·have:(zf (.u h x) l).1=r ∧ ¬ r+1 < (zf (.u h x) l).2.length:=by
    unfold zf at h2 ⊢
    cases hi:(zf x l).2.idxOf? (nd h (zf x l).1 0) with
    | some k=>rw [zaj hi] at h2;simp at h2;omega
    | none=>rw [zbv hi] at h2 ⊢;simp at h2 ⊢;omega
   rw [← this.1,o2,this.1]
   exact ⟨Nat.le_refl _,fun h=>absurd h this.2⟩
 | .b h x y,l,r,ht,hl,h1,h2=>by
  obtain ⟨o1,o2⟩:=zbT (.b h x y) l ht hl
  obtain ⟨a1,a2⟩:=zbT x l ht.2.2.2.1 hl
  obtain ⟨b1,b2⟩:=zbT y (zf x l).2 ht.2.2.2.2 a1
  have ih:=zkp x l r ht.2.2.2.1 hl h1
  obtain ⟨m2,hm2⟩:=zb3 y (zf x l).2
  obtain ⟨m,hm⟩:=(zbf (zf y (zf x l).2).2 (nd h (zf x l).1 (zf y (zf x l).2).1)).1
  by_cases hr:r < (zf x l).2.length
  ·have e:zt (zf (.b h x y) l).2 r=zt (zf x l).2 r:=by
    rw [zf,hm,zaT b1 (by rw [hm2,List.length_append];omega),hm2,zaT a1 hr]
   rw [e]
   have:=(ih hr).1
   simp only [Tm.size]
   omega
  ·have ih2:=zkp y (zf x l).2 r ht.2.2.2.2 a1 (by omega)
   by_cases hr2:r < (zf y (zf x l).2).2.length
   ·have e:zt (zf (.b h x y) l).2 r=zt (zf y (zf x l).2).2 r:=by
     rw [zf,hm,zaT b1 hr2]
    rw [e]
    have:=(ih2 hr2).1
    simp only [Tm.size]
    omega
   ·have:(zf (.b h x y) l).1=r ∧ ¬ r+1 < (zf (.b h x y) l).2.length:=by
     unfold zf at h2 ⊢
     cases hi:(zf y (zf x l).2).2.idxOf? (nd h (zf x l).1 (zf y (zf x l).2).1) with
     | some k=>rw [zaj hi] at h2;simp at h2;omega
     | none=>rw [zbv hi] at h2 ⊢;simp at h2 ⊢;omega
    rw [← this.1,o2,this.1]
    exact ⟨Nat.le_refl _,fun h=>absurd h this.2⟩
theorem zcr:zaf []:=fun k n h=>by simp at h
theorem zrd {t:Tm} (ht:t.ok):(zf t []).1+1=(zf t []).2.length:=by
 have h1:=zmN t []
 have h2:=(zbT t [] ht zcr).2
 by_cases h:(zf t []).1+1 < (zf t []).2.length
 ·have:=(zkp t [] (zf t []).1 ht zcr (by simp) h1).2 h
  rw [h2] at this;omega
 ·omega
end Go.Ab
namespace Go.Ab
structure zkk (f:List Nd) (s:FSt):Prop where
 has : ∀ i r,s.done.lookup i=some r→zdm (zt f i) s.out r
 rng : ∀ p∈s.done,p.1 < f.length
 keys:(s.done.map Prod.fst).Nodup
 len:s.out.length≤s.done.length
theorem zuC {d:List (Nat×Nat)} {i:Nat} (h : ∀ p∈d,p.1≠i):d.lookup i=none:=by
 induction d with
 | nil=>rfl
 | cons p d ih =>
  obtain ⟨a,b⟩:=p
  have h0:=h (a,b) (by simp)
  have:(i==a)=false:=by simpa using fun e=>h0 e.symm
  simp only [List.lookup,this]
  exact ih fun q hq=>h q (by simp [hq])
theorem zpS {d:List (Nat×Nat)} {i:Nat} (h:d.lookup i=none) : ∀ p∈d,p.1≠i:=by
 induction d with
 | nil=>simp
 | cons p d ih =>
  obtain ⟨a,b⟩:=p
  simp only [List.lookup] at h
  split at h
  ·cases h
  ·rename_i e
   intro q hq
   rcases List.mem_cons.1 hq with rfl|hq
   ·intro h';subst h';simp at e
   ·exact ih h q hq
theorem zr6 {d:List (Nat×Nat)} {i j r q:Nat} (h:(d++[(i,r)]).lookup j=some q):d.lookup j=some q∨(j=i∧q=r∧d.lookup j=none):=by
 induction d with
 | nil =>
  simp only [List.nil_append,List.lookup] at h
  split at h
  ·rename_i e;simp at e;cases h;exact .inr ⟨e,rfl,rfl⟩
  ·cases h
 | cons p d ih =>
  obtain ⟨a,b⟩:=p
  simp only [List.cons_append,List.lookup] at h ⊢
  split at h
  ·exact .inl h
  ·exact ih h
theorem zh4 {f:List Nd} (hf:zaf f) : ∀ (k i:Nat) (s:FSt),i < k→i < f.length→zkk f s →
  zkk f (fin f k i s).2∧(fin f k i s).1=(zf (zt f i) s.out).1∧(fin f k i s).2.out=(zf (zt f i) s.out).2∧(∃ l,(fin f k i s).2.done=s.done++l ∧ ∀ p∈l,p.1≤i)
 | 0,i,s,h,_,_=>by omega
 | k+1,i,s,hk,hi,hs=>by
  unfold fin
  cases hd:s.done.lookup i with
  | some r =>
   have:=hs.has i r hd
   unfold zdm at this
   refine ⟨hs,?_,?_,[],by simp,by simp⟩
   ·rw [this]
   ·rw [this]
  | none =>
   simp only
   have key : ∀ (a b:Nat) (s2:FSt),zkk f s2→(∃ l,s2.done=s.done++l ∧ ∀ p∈l,p.1 < i)→zf (zt f i) s.out=put s2.out (nd (f.getD i default).hd a b) →
     (∃ m,s2.out=s.out++m) →
     zkk f ⟨(put s2.out (nd (f.getD i default).hd a b)).2,s2.done++[(i,(put s2.out (nd (f.getD i default).hd a b)).1)]⟩∧(put s2.out (nd (f.getD i default).hd a b)).1=(zf (zt f i) s.out).1 ∧
     (put s2.out (nd (f.getD i default).hd a b)).2=(zf (zt f i) s.out).2∧(∃ l,s2.done++[(i,(put s2.out (nd (f.getD i default).hd a b)).1)]=s.done++l ∧ ∀ p∈l,p.1≤i):=by
    intro a b s2 h2 hl hT hm
    obtain ⟨l,hl1,hl2⟩:=hl
    obtain ⟨m,hm⟩:=(zbf s2.out (nd (f.getD i default).hd a b)).1
    have hni : ∀ p∈s2.done,p.1≠i:=by
     intro p hp
     rw [hl1,List.mem_append] at hp
     rcases hp with hp|hp
     ·exact zpS hd p hp
     ·have:=hl2 p hp;omega
    refine ⟨⟨fun j r hj=>?_,fun p hp=>?_,?_,?_⟩,by rw [hT],by rw [hT],l++[(i,(put s2.out (nd (f.getD i default).hd a b)).1)],by rw [hl1,List.append_assoc],fun p hp=>?_⟩
    ·rcases zr6 hj with h|⟨rfl,rfl,-⟩
     ·have:=(h2.has j r h).mono m
      rw [← hm] at this;exact this
     ·rw [← hT];exact zkC _ _
    ·rcases List.mem_append.1 hp with hp|hp
     ·exact h2.rng p hp
     ·simp at hp;subst hp;exact hi
    ·simp only [List.map_append,List.map_cons,List.map_nil]
     rw [List.nodup_append]
     refine ⟨h2.keys,by simp,fun x hx y hy=>?_⟩
     simp at hy;subst hy
     obtain ⟨p,hp,rfl⟩:=List.mem_map.1 hx
     exact hni p hp
    ·have:=h2.len
     simp only [List.length_append,List.length_cons,List.length_nil]
     cases hx:s2.out.idxOf? (nd (f.getD i default).hd a b) with
     | some k=>rw [zaj hx];simp only;omega
     | none=>rw [zbv hx];simp only [List.length_append,List.length_cons,List.length_nil];omega
    ·rcases List.mem_append.1 hp with hp|hp
     ·have:=hl2 p hp;omega
     ·simp at hp;subst hp;exact Nat.le_refl _
   have hT:=zdx hf hi
   have hn:=zaG.1 (zhC hf hi)
   cases hy:zH (f.getD i default).op with
   | true =>
    have hx:=zal hy
    have e1:=zax hf hi hx
    have e2:=zb7 hf hi hy
    simp only [hy,hx,cond_true] at hT ⊢
    obtain ⟨a1,a2,a3,la,a4,a5⟩:=zh4 hf k (f.getD i default).x.toNat s (by omega) (by omega) hs
    obtain ⟨b1,b2,b3,lb,b4,b5⟩:=zh4 hf k (f.getD i default).y.toNat (fin f k (f.getD i default).x.toNat s).2 (by omega) (by omega) a1
    obtain ⟨m1,hm1⟩:=zb3 (zt f (f.getD i default).x.toNat) s.out
    obtain ⟨m2,hm2⟩:=zb3 (zt f (f.getD i default).y.toNat) (fin f k (f.getD i default).x.toNat s).2.out
    refine key _ _ _ b1 ⟨la++lb,by rw [b4,a4,List.append_assoc],fun p hp=>?_⟩ ?_ ⟨m1++m2,by rw [b3,hm2,a3,hm1,List.append_assoc]⟩
    ·rcases List.mem_append.1 hp with hp|hp
     ·have:=a5 p hp;omega
     ·have:=b5 p hp;omega
    ·rw [hT,zf,b3,b2,a3,a2]
   | false =>
    cases hx:zG (f.getD i default).op with
    | true =>
     have e1:=zax hf hi hx
     simp only [hy,hx,cond_true,cond_false] at hT ⊢
     obtain ⟨a1,a2,a3,la,a4,a5⟩:=zh4 hf k (f.getD i default).x.toNat s (by omega) (by omega) hs
     obtain ⟨m1,hm1⟩:=zb3 (zt f (f.getD i default).x.toNat) s.out
     have e0:(f.getD i default).y.toNat=0:=by rw [hn.2.2.2.2 hy];rfl
     refine key _ _ _ a1 ⟨la,a4,fun p hp=>by have:=a5 p hp;omega⟩ ?_ ⟨m1,by rw [a3,hm1]⟩
     rw [hT,zf,a2,a3,e0]
    | false =>
     simp only [hy,hx,cond_true,cond_false] at hT ⊢
     have e0:(f.getD i default).y.toNat=0:=by rw [hn.2.2.2.2 hy];rfl
     have e1:(f.getD i default).x.toNat=0:=by rw [hn.2.2.1 hx];rfl
     refine key _ _ _ hs ⟨[],by simp,by simp⟩ ?_ ⟨[],by simp⟩
     rw [hT,zf,e0,e1]
theorem zgl {f:List Nd} (hf:zaf f) : ∀ (k k' i:Nat) (s:FSt),i < k→i < k'→i < f.length→fin f k i s=fin f k' i s
 | 0,_,_,_,h,_,_=>by omega
 | _+1,0,_,_,_,h,_=>by omega
 | k+1,k'+1,i,s,h1,h2,hi=>by
  unfold fin
  cases hd:s.done.lookup i with
  | some r=>rfl
  | none =>
   simp only
   cases hy:zH (f.getD i default).op with
   | true =>
    have hx:=zal hy
    have e1:=zax hf hi hx
    have e2:=zb7 hf hi hy
    simp only [hx,cond_true]
    rw [zgl hf k k' (f.getD i default).x.toNat s (by omega) (by omega) (by omega),zgl hf k k' (f.getD i default).y.toNat _ (by omega) (by omega) (by omega)]
   | false =>
    cases hx:zG (f.getD i default).op with
    | true =>
     have e1:=zax hf hi hx
     simp only [cond_true,cond_false]
     rw [zgl hf k k' (f.getD i default).x.toNat s (by omega) (by omega) (by omega)]
    | false=>rfl
theorem zu5 (f:List Nd):zkk f ⟨[],[]⟩:=⟨fun i r h=>by simp at h,by simp,by simp,by simp⟩
theorem zro {l:List Nat} {n:Nat} (h:l.Nodup) (hn : ∀ x∈l,x < n):l.length≤n:=by
 have h2:l ⊆ List.range n:=fun x hx=>List.mem_range.2 (hn x hx)
 have:=List.Nodup.length_le_of_subset h h2
 simpa using this
structure zr8 (t:Tm) (c:List Nd):Prop where
 ok:zaf c
 pos:0 < c.length
 tree:zt c (c.length - 1)=t
 all : ∀ p:Hd→Prop,(∀ n∈c,p n.hd)↔t.all p
theorem zA2 {t:Tm} (ht:t.ok):zr8 t (zf t []).2:=by
 have h1:=zrd ht
 obtain ⟨h2,h3⟩:=zbT t [] ht zcr
 refine ⟨h2,by omega,by rw [← h1,Nat.add_sub_cancel];exact h3,fun p=>?_⟩
 rw [zkB p t []];simp
theorem zi7 {f:List Nd} (hf:zaf f) {i:Nat} (hi:i < f.length):zbo f i=(zf (zt f i) []).2∧(zbo f i).length≤f.length∧(fin f (i+1) i ⟨[],[]⟩).1+1=(zbo f i).length:=by
 obtain ⟨a1,a2,a3,a4⟩:=zh4 hf (i+1) i ⟨[],[]⟩ (by omega) hi (zu5 f)
 refine ⟨a3,?_,?_⟩
 ·have h1:=a1.len
  have h2:=zro a1.keys (n:=f.length) (fun x hx=>by obtain ⟨p,hp,rfl⟩:=List.mem_map.1 hx;exact a1.rng p hp)
  rw [List.length_map] at h2
  unfold zbo;omega
 ·unfold zbo
  rw [a2,a3]
  exact zrd (zfz hf (i+1) i (by omega) hi)
theorem zjr {f:List Nd} (hf:zaf f) {i:Nat} (hi:i < f.length):zr8 (zt f i) (zbo f i):=by
 rw [(zi7 hf hi).1];exact zA2 (zfz hf (i+1) i (by omega) hi)
def zdc {β:Type} (v:Hd→β→β→β) (d:β):List Nd→List β→List β
 | [],acc=>acc
 | n::r,acc=>zdc v d r (acc++[v n.hd (acc.getD n.x.toNat d) (acc.getD n.y.toNat d)])
def ev {β:Type} (v:Hd→β→β→β) (d:β):Tm→β
 | .z h=>v h d d
 | .u h x=>v h (ev v d x) d
 | .b h x y=>v h (ev v d x) (ev v d y)
structure zAZ {β:Type} (v:Hd→β→β→β):Prop where
 x : ∀ h a b c,zG h.op=false→v h a c=v h b c
 y : ∀ h a b c,zH h.op=false→v h c a=v h c b
theorem zih {β:Type} (v:Hd→β→β→β) (d:β) : ∀ (l:List Nd) (acc:List β),(zdc v d l acc).length=acc.length+l.length
 | [],acc=>by simp [zdc]
 | n::r,acc=>by rw [zdc,zih v d r];simp;omega
theorem zqZ {β:Type} {v:Hd→β→β→β} {d:β} (hv:zAZ v) {f:List Nd} (hf:zaf f) : ∀ (l:List Nd) (acc:List β),f.drop acc.length=l→acc.length≤f.length→(∀ i,i < acc.length→acc.getD i d=ev v d (zt f i)) →
  ∀ i,i < f.length→(zdc v d l acc).getD i d=ev v d (zt f i)
 | [],acc,h1,h2,h3,i,hi=>by
  have:acc.length=f.length:=by
   have:=congrArg List.length h1;simp at this;omega
  exact h3 i (by omega)
 | n::r,acc,h1,h2,h3,i,hi=>by
  have hlt:acc.length < f.length:=by
   have:=congrArg List.length h1;simp at this;omega
  have hn:f.getD acc.length default=n:=by
   have:=congrArg (fun l=>l[0]?) h1
   simp at this
   simp [List.getD,this]
  rw [zdc]
  refine zqZ hv hf r _ ?_ (by simp;omega) (fun j hj=>?_) i hi
  ·simp only [List.length_append,List.length_cons,List.length_nil]
   have:=congrArg List.tail h1
   simpa using this
  ·by_cases hj2:j < acc.length
   ·rw [show (acc++[v n.hd (acc.getD n.x.toNat d) (acc.getD n.y.toNat d)]).getD j d=acc.getD j d by simp [List.getD,List.getElem?_append_left hj2]]
    exact h3 j hj2
   ·simp at hj
    have e:j=acc.length:=by omega
    subst e
    rw [show (acc++[v n.hd (acc.getD n.x.toNat d) (acc.getD n.y.toNat d)]).getD acc.length d=v n.hd (acc.getD n.x.toNat d) (acc.getD n.y.toNat d) by simp [List.getD]]
    rw [zdx hf hlt,hn]
    cases hy:zH n.op with
    | true =>
     have hx:=zal hy
     have e1:=zax hf hlt (by rw [hn];exact hx)
     have e2:=zb7 hf hlt (by rw [hn];exact hy)
     rw [hn] at e1 e2
     simp only [cond_true,ev]
     rw [h3 _ e1.2,h3 _ e2.2]
    | false =>
     cases hx:zG n.op with
     | true =>
      have e1:=zax hf hlt (by rw [hn];exact hx)
      rw [hn] at e1
      simp only [cond_true,cond_false,ev]
      rw [h3 _ e1.2]
      exact hv.y _ _ _ _ hy
     | false =>
      simp only [cond_false,ev]
      rw [hv.x _ _ d _ hx,hv.y _ _ d _ hy]
end Go.Ab
namespace Go.Ab
def zfl (R:zbl) (a:Nat) (w u:Nat):Prop := ∃ r,R[a]? = some r∧r w u=true
def zoC (n:Nat) (R:zbl) (g:Nat) (w u:Nat):Prop:=u < n ∧ ∃ a,g.testBit a=true∧zfl R a w u
inductive CPt (S:Nat→Nat→Prop) (c:Nat→Prop):Nat→Nat→Prop where
 | one {v u:Nat} : S v u→c u→CPt S c v u
 | more {v x u:Nat} : CPt S c v x→S x u→c u→CPt S c v u
def zBz (n:Nat) (R:zbl) (fc:Nat→Nat→Prop) (h:Hd) (X Y:Nat→Prop) (w:Nat):Prop :=
 if h.op=1 then True else if h.op=3 then fc h.i.toNat w else if h.op=4 then ¬X w else if h.op=5 then X w∧Y w else if h.op=6 then X w∨Y w else if h.op=7 then (X w→Y w) else if h.op=8 then (X w↔Y w) else
 if h.op=9 then ∀ u,u < n→zfl R h.i.toNat w u→X u else if h.op=10 then ∃ u,u < n∧zfl R h.i.toNat w u∧X u else if h.op=11 then ∀ u,zoC n R h.g.toNat w u→X u else
 if h.op=12 then ∀ u,u < n→(∀ a,h.g.toNat.testBit a=true→zfl R a w u)→X u else if h.op=13 then ∀ u,CPt (zoC n R h.g.toNat) X w u→Y u else False
end Go.Ab
namespace Go.Ab
open Go Go.Proofs
set_option maxRecDepth 10000
set_option maxHeartbeats 4000000
variable {T:Nat→Obj→Prop}
def zcC (r:List (BitVec 64)) (s:BitVec 64):BitVec 64:=zbb (fun w=>decide (r.getD w 0#64 &&& ~~~s=0#64)) r.length
theorem zcS {r:List (BitVec 64)} (s:BitVec 64) (hc0:zai r=0):Fn Tryd.prog T zjF [.d (dU r),.d (.u64 s)] [] (.d (.u64 (zcC r s))) []:=by
 have hl:=(zbM.1 hc0).1
 have crc:=znF (T:=T) r
 rw [hc0] at crc
 refine zb zk zqK (by show 2≤30;decide) ?_
 (repeat' ((conv=>whnf);first|refine vA ?_|refine vJ fun hg=>?_|refine vT ?_));all_goals try conv=>whnf
 refine zo.data (crc) (by (repeat refine ⟨⟨rfl,rfl⟩,?_⟩);rfl) rfl ?_
 (repeat' ((conv=>whnf);first|refine vA ?_|refine vH ?_|refine vJ fun hg=>?_|refine vT ?_));all_goals try conv=>whnf
 refine zar (fun ((k,o):Nat×BitVec 64)=>[(0,.d (dU r)),(1,.d (.u64 (s))),(5,.d (.u64 (o))),(13,.d (.int .i64 ((r.map D.u64).length:Int))),(14,.d (.int .i64 ((k:Int))))]) (fun ((k,o):Nat×BitVec 64)=>k≤r.length∧o=zbb (fun w=>decide (r.getD w 0#64 &&& ~~~s=0#64)) k) (fun ((k,o):Nat×BitVec 64)=>r.length - k) ((0,0#64)) (⟨by omega,rfl⟩) (by (repeat' first|exact trivial|exact rfl|refine And.intro ?_ ?_)) ?_
 rintro ⟨k,o⟩ ⟨hk,ho⟩
 (repeat' ((conv=>whnf);first|refine vA ?_|(refine vF ?_ ?_<;>intro hc<;>try simp only [vL] at hc)|refine vT ?_|(refine vQ ?_ fun x hx=>?_;·omega)|((first|refine vO ?_ ?_|refine vP ?_ ?_);·omega)|refine vY ?_));all_goals try conv=>whnf
 ·refine ⟨(k+1,_),[],[],?_,?_,by (refine ⟨rfl,rfl,rfl,?_,?_⟩;repeat' first|exact trivial|exact rfl|refine And.intro ?_ ?_)⟩
  ·refine ⟨by (omega),?_⟩
   have hrk:r.getD k 0#64=x:=by simp [List.getD,hx]
   rw [zbb,if_pos (decide_eq_true (by rw [hrk];exact hc)),← ho];rfl
  ·((simp only [vM] at *;omega))
 ·refine ⟨(k+1,o),[],[],?_,?_,by (refine ⟨rfl,rfl,rfl,?_,?_⟩;repeat' first|exact trivial|exact rfl|refine And.intro ?_ ?_)⟩
  ·refine ⟨by (omega),?_⟩
   have hrk:r.getD k 0#64=x:=by simp [List.getD,hx]
   rw [zbb,if_neg (by rw [hrk,decide_eq_true_eq];exact hc),← ho]
  ·((simp only [vM] at *;omega))
 ·obtain rfl:k=r.length:=by omega
  rw [ho];rfl
def zkw (r:List (BitVec 64)) (s:BitVec 64):BitVec 64:=z2 r.length &&& ~~~(zcC r (~~~s))
theorem zla {r:List (BitVec 64)} (s:BitVec 64) (hc0:zai r=0):Fn Tryd.prog T zgO [.d (dU r),.d (.u64 s)] [] (.d (.u64 (zkw r s))) []:=by
 have crc:=znF (T:=T) r
 rw [hc0] at crc
 have cra:=ziQ (T:=T) ((r.map D.u64).length:Int) (by omega)
 have crb:=zcS (T:=T) (r:=r) (~~~s) hc0
 refine zb zk zmf (by show 2≤18;decide) ?_
 (repeat' ((conv=>whnf);first|refine vA ?_|refine vJ fun hg=>?_|refine vT ?_));all_goals try conv=>whnf
 refine zo.data (crc) (by (repeat refine ⟨⟨rfl,rfl⟩,?_⟩);rfl) rfl ?_
 (repeat' ((conv=>whnf);first|refine vH ?_|refine vJ fun hg=>?_|refine vT ?_|refine vY ?_|refine yD cra ⟨⟨rfl,rfl⟩,rfl⟩ rfl ?_|refine yD crb ⟨⟨rfl,rfl⟩,⟨rfl,rfl⟩,rfl⟩ rfl ?_));all_goals try conv=>whnf
 rw [zkw,List.length_map]
def zx9 (r:List (BitVec 64)) (c s:BitVec 64) (w:Nat):Prop := ∀ u,CPt (fun a b=>rb r a b=true) (fun u=>c.getLsbD u=true) w u→s.getLsbD u=true
noncomputable def zi6 (r:List (BitVec 64)) (c s:BitVec 64):BitVec 64:=zbb (fun w => @decide (zx9 r c s w) (Classical.propDecidable _)) r.length
theorem CPt.pre {S:Nat→Nat→Prop} {c:Nat→Prop} {w u v:Nat} (h1:S w u) (h2:c u) (h:CPt S c u v):CPt S c w v:=by
 induction h with
 | one a b=>exact .more (.one h1 h2) a b
 | more _ a b ih=>exact .more ih a b
theorem znX {r:List (BitVec 64)} {s:BitVec 64} (hl:r.length≤64) {w:Nat} : (zcC r s).getLsbD w=true↔w < r.length ∧ ∀ u,rb r w u=true→s.getLsbD u=true:=by
 unfold zcC
 rw [zeB hl,decide_eq_true_eq,zt8];rfl
def zfP (r:List (BitVec 64)) (c s o:BitVec 64):BitVec 64:=zcC r ((z2 r.length &&& ~~~c)|||(s&&&o))
theorem zfd {r:List (BitVec 64)} {c s o:BitVec 64} (hc0:zai r=0) {w:Nat} : (zfP r c s o).getLsbD w=true↔w < r.length ∧ ∀ u,rb r w u=true→c.getLsbD u=true→s.getLsbD u=true∧o.getLsbD u=true:=by
 obtain ⟨hl,hin⟩:=zbM.1 hc0
 unfold zfP
 rw [znX hl]
 refine and_congr Iff.rfl (forall_congr' fun u=>forall_congr' fun hu=>?_)
 have hul:=hin w u hu
 have ha:(z2 r.length).getLsbD u=true:=by rw [zc4 (by omega) (by omega),decide_eq_true_eq];omega
 rw [BitVec.getLsbD_or,BitVec.getLsbD_and,BitVec.getLsbD_and,BitVec.getLsbD_not,ha,decide_eq_true (show u < 64 by omega)]
 cases c.getLsbD u<;>simp
structure zgX (r:List (BitVec 64)) (c s o:BitVec 64):Prop where
 sup : ∀ w,w < r.length→zx9 r c s w→o.getLsbD w=true
 dec : ∀ w,(zfP r c s o).getLsbD w=true→o.getLsbD w=true
 ins : ∀ w,o.getLsbD w=true→w < r.length
theorem zgX.start {r:List (BitVec 64)} (c s:BitVec 64) (hc0:zai r=0):zgX r c s (z2 r.length):=by
 obtain ⟨hl,hin⟩:=zbM.1 hc0
 have ha : ∀ w,w < r.length→(z2 r.length).getLsbD w=true:=fun w hw=>by rw [zc4 (by omega) (by omega),decide_eq_true_eq];omega
 refine ⟨fun w hw _=>ha w hw,fun w h=>ha w ((zfd hc0).1 h).1,fun w h=>?_⟩
 have hw64:w < 64:=by
  refine Nat.lt_of_not_le fun h2=>?_
  rw [BitVec.getLsbD_of_ge _ _ h2] at h;exact absurd h (by decide)
 rw [zc4 (by omega) hw64,decide_eq_true_eq] at h
 omega
theorem zgX.next {r:List (BitVec 64)} {c s o:BitVec 64} (hc0:zai r=0) (h:zgX r c s o):zgX r c s (zfP r c s o):=by
 obtain ⟨hl,hin⟩:=zbM.1 hc0
 refine ⟨fun w hw hp=>(zfd hc0).2 ⟨hw,fun u hu hcu=>⟨hp u (.one hu hcu),h.sup u (hin w u hu) fun v hv=>hp v (hv.pre hu hcu)⟩⟩,fun w hw=>?_,fun w hw=>((zfd hc0).1 hw).1⟩
 obtain ⟨h1,h2⟩:=(zfd hc0).1 hw
 exact (zfd hc0).2 ⟨h1,fun u hu hcu=>⟨(h2 u hu hcu).1,h.dec u (h2 u hu hcu).2⟩⟩
theorem zgX.done {r:List (BitVec 64)} {c s o:BitVec 64} (hc0:zai r=0) (h:zgX r c s o) (e:zfP r c s o=o):o=zi6 r c s:=by
 obtain ⟨hl,hin⟩:=zbM.1 hc0
 refine BitVec.eq_of_getLsbD_eq fun w _=>?_
 rw [Bool.eq_iff_iff,zi6,zeB hl,@decide_eq_true_eq _ (Classical.propDecidable _)]
 constructor
 ·intro hw
  refine ⟨h.ins w hw,fun u hu=>?_⟩
  have key : ∀ u,CPt (fun a b=>rb r a b=true) (fun u=>c.getLsbD u=true) w u→s.getLsbD u=true∧o.getLsbD u=true:=fun u hu=>by
   induction hu with
   | one a b=>rw [← e] at hw;exact ((zfd hc0).1 hw).2 _ a b
   | more _ a b ih =>
    have:=ih.2
    rw [← e] at this
    exact ((zfd hc0).1 this).2 _ a b
  exact (key u hu).1
 ·rintro ⟨h1,h2⟩
  exact h.sup w h1 h2
theorem zgX.less {r:List (BitVec 64)} {c s o:BitVec 64} (h:zgX r c s o) (e:zfP r c s o≠o):(za (zfP r c s o)).length < (za o).length:=by
 unfold za
 refine (zrc (fun i hi=>h.dec i hi) _).2 ?_
 refine Classical.byContradiction fun hn=>e (BitVec.eq_of_getLsbD_eq fun i hi=>?_)
 cases ho:o.getLsbD i with
 | true =>
  cases hf:(zfP r c s o).getLsbD i with
  | true=>rfl
  | false=>exact absurd ⟨i,List.mem_range.2 hi,hf,ho⟩ hn
 | false =>
  cases hf:(zfP r c s o).getLsbD i with
  | true=>rw [h.dec i hf] at ho;cases ho
  | false=>rfl
theorem zwX {r:List (BitVec 64)} (c s:BitVec 64) (hc0:zai r=0):Fn Tryd.prog T zh0 [.d (dU r),.d (.u64 (z2 r.length)),.d (.u64 c),.d (.u64 s)] [] (.d (.u64 (zi6 r c s))) []:=by
 have cb:=fun x=>zcS (T:=T) (r:=r) x hc0
 refine zb zk zoo (by show 4≤26;decide) ?_
 (repeat' ((conv=>whnf);refine vT ?_));all_goals try conv=>whnf
 refine zar (fun (o:BitVec 64)=>[(0,.d (dU r)),(1,.d (.u64 ((z2 r.length)))),(2,.d (.u64 (c))),(3,.d (.u64 (s))),(9,.d (.u64 (o)))]) (fun (o:BitVec 64)=>zgX r c s o) (fun (o:BitVec 64)=>(za o).length) (z2 r.length) (.start c s hc0) (by (repeat' first|exact trivial|exact rfl|refine And.intro ?_ ?_)) ?_
 rintro o hI
 (repeat' ((conv=>whnf);first|refine vA ?_|(refine vF ?_ ?_<;>intro hc)|refine vT ?_|refine vY ?_|refine yD (cb _) (by (repeat refine ⟨⟨rfl,rfl⟩,?_⟩);rfl) rfl ?_));all_goals try conv=>whnf
 ·exact hI.done hc0 hc
 ·refine ⟨zfP r c s o,[],[],?_,?_,by (refine ⟨rfl,rfl,rfl,?_,?_⟩;repeat' first|exact trivial|exact rfl|refine And.intro ?_ ?_)⟩
  ·exact hI.next hc0
  ·exact hI.less hc
end Go.Ab
namespace Go.Ab
open Go Go.Proofs
set_option maxRecDepth 10000
set_option maxHeartbeats 4000000
variable {T:Nat→Obj→Prop}
def zmV (m:KM) (i v:Nat):BitVec 64:=(m.rel.getD i []).getD v 0#64
end Go.Ab
namespace Go.Ab
open Go
theorem zxv {m:KM} {i v u:Nat} {r:Nat→Nat→Bool} (h:(z7 m)[i]? = some r):(zmV m i v).getLsbD u=r v u:=by
 unfold z7 at h
 rw [List.getElem?_map,Option.map_eq_some_iff] at h
 obtain ⟨s,hs,rfl⟩:=h
 unfold zmV rb
 simp [List.getD,hs]
theorem zkH {m:KM} (g:zd5 m) {i v u:Nat} (h:(zmV m i v).getLsbD u=true):u < m.W.toNat:=by
 have w1:=g.w1
 unfold zmV at h
 by_cases hi:i < m.rel.length
 ·by_cases hv:v < (m.rel[i]).length
  ·have e:(m.rel.getD i []).getD v 0#64=(m.rel[i])[v]:=by simp [List.getD,hi,hv]
   rw [e] at h
   exact (zfr (by omega)).1 (g.rel _ (List.getElem_mem hi) _ (List.getElem_mem hv)) u h
  ·simp [List.getD,hi,hv] at h
 ·simp [List.getD,hi] at h
end Go.Ab
namespace Go.Ab
open Go Go.Proofs
set_option maxRecDepth 10000
set_option maxHeartbeats 4000000
variable {T:Nat→Obj→Prop}
theorem zwU (l:List (BitVec 64)) (h:l≠[]) (hl:l.length≤1000):Fn Tryd.prog T zcR [.d (dU l)] [] (.own 0) [some (.row 1 (l.map D.u64))]:=by
 refine zB zk zf4 (by show 1≤8;decide) _ (fun e env mem n h=>h) ?_
 (repeat' ((conv=>whnf);first|refine vA ?_|refine vB fun b hb=>?_|refine vE ?_|(refine vF ?_ ?_<;>intro hc)|refine vT ?_|(refine vP ?_ ?_;·(simp only [vM] at *;omega))|fail));all_goals try conv=>whnf
 ·refine ⟨trivial,_,[(0,1)],[],rfl,.inl (by (repeat' exact rfl)),⟨by rfl,by rfl,by rfl,trivial,by (repeat' first|exact trivial|exact rfl|refine And.intro ?_ ?_|refine ⟨_,rfl,?_⟩|exact of_decide_eq_true rfl)⟩,by (repeat' exact trivial)⟩
 ·exact absurd (List.map_eq_nil_iff.1 (hb (by simpa using hc))) h
end Go.Ab
namespace Go.Ab
open Go Go.Proofs
set_option maxRecDepth 10000
set_option maxHeartbeats 4000000
variable {T:Nat→Obj→Prop}
theorem zaz.yes {b:Bool} {p q:Prop} (hb:b=true) (h:p):zaz b p q:=⟨fun _=>h,fun e=>by rw [hb] at e;cases e⟩
theorem zaz.no {b:Bool} {p q:Prop} (hb:b=false) (h:q):zaz b p q:=⟨fun e=>(by rw [hb] at e;cases e),fun _=>h⟩
theorem zaz.decY {x:Prop} [Decidable x] {p q:Prop} (hx:x) (h:p):zaz (decide x) p q := .yes (decide_eq_true hx) h
theorem zaz.decN {x:Prop} [Decidable x] {p q:Prop} (hx : ¬x) (h:q):zaz (decide x) p q := .no (decide_eq_false hx) h
abbrev dNd (n:Nd):D := .agg [.int .i64 n.op,.int .i64 n.i,.int .i64 n.e,.int .i64 n.g,.int .i64 n.x,.int .i64 n.y]
abbrev dF (f:List Nd):D := .arr 6 (f.map dNd)
abbrev zn7 (op:Int):D := .agg [.bool (zG op),.bool (zH op),.bool (zae op),.bool (zP op),.bool (zR op),.bool (zQ op),.int .i64 (zaR op)]
theorem zqC (op:Int):Fn Tryd.prog T z1 [.d (.int .i64 op)] [] (.d (.tup [zn7 op,.bool (zc9 op)])) []:=by
 by_cases h:1≤op∧op≤21
 ·have:op=1∨op=2∨op=3∨op=4∨op=5∨op=6∨op=7∨op=8∨op=9∨op=10∨op=11∨op=12∨op=13∨op=14∨op=15∨op=16∨op=17∨op=18∨op=19∨op=20∨op=21:=by omega
  clear h
  rcases this with rfl|rfl|rfl|rfl|rfl|rfl|rfl|rfl|rfl|rfl|rfl|rfl|rfl|rfl|rfl|rfl|rfl|rfl|rfl|rfl|rfl
  all_goals refine zb zk zjQ (by show 1≤55;decide) ?_
  all_goals (repeat' ((conv=>whnf);first|refine zaz.decN (by omega) ?_|refine zaz.decY (by omega) ?_|refine vA ?_|refine vT ?_));all_goals try conv=>whnf
  all_goals first|rfl|kernel_rfl|skip
 ·refine zb zk zjQ (by show 1≤55;decide) ?_
  (repeat' ((conv=>whnf);first|refine zaz.decN (by omega) ?_|refine vA ?_|refine vT ?_));all_goals try conv=>whnf
  have e1:zc9 op=false:=by simp only [zc9,decide_eq_false_iff_not];omega
  have e2:zG op=false:=by simp only [zG,decide_eq_false_iff_not];omega
  have e3:zH op=false:=by simp only [zH,decide_eq_false_iff_not];omega
  have e4:zae op=false:=by simp only [zae,decide_eq_false_iff_not];omega
  have e5:zP op=false:=by simp only [zP,decide_eq_false_iff_not];omega
  have e6:zR op=false:=by simp only [zR,decide_eq_false_iff_not];omega
  have e7:zQ op=false:=by simp only [zQ,decide_eq_false_iff_not];omega
  have e8:zaR op=0:=by unfold zaR; (repeat' rw [if_neg (by omega)])
  rw [e1,zn7,e2,e3,e4,e5,e6,e7,e8]
  first|rfl|skip
theorem zvU (u:Bool) (f a:Int):Fn Tryd.prog T zhd [.d (.bool u),.d (.int .i64 f),.d (.int .i64 a)] [] (.d (.bool (ziY u f a))) []:=by
 refine zb zk znm (by show 3≤25;decide) ?_
 (repeat' ((conv=>whnf);first|refine vA ?_|refine vE ?_|((first|refine vF ?_ ?_|refine vI ?_ ?_)<;>intro hc<;>try simp only [vL] at hc)|refine vT ?_|refine vZ ?_));all_goals try conv=>whnf
 all_goals (cases u<;>simp_all [ziY]<;>omega)
theorem zvV (u:Bool) (v lo hi:Int):Fn Tryd.prog T zdt [.d (.bool u),.d (.int .i64 v),.d (.int .i64 lo),.d (.int .i64 hi)] [] (.d (.bool (zb0 u v lo hi))) []:=by
 refine zb zk zjP (by show 4≤20;decide) ?_
 (repeat' ((conv=>whnf);first|refine vA ?_|((first|refine vF ?_ ?_|refine vI ?_ ?_)<;>intro hc<;>try simp only [vL] at hc)|refine vT ?_|refine vZ ?_));all_goals try conv=>whnf
 all_goals (cases u<;>simp_all [zb0]<;>omega)
def zzO (ok ux uy fa ag ev gr:Bool) (n:Nd) (at_:Int):Int :=
 if ok=false then 10 else
 if ziY ux n.x at_=false∨ziY uy n.y at_=false then 3 else
 if (!(fa||ag||ev)&&decide (n.i≠0)||(!ev&&decide (n.e≠0))||(!gr&&decide (n.g≠0)))=true then 3 else
 if (zb0 fa n.i 0 7||zb0 ag n.i 0 3||zb0 ev n.i 0 7||zb0 ev n.e 0 7||zb0 gr n.g 1 15)=true then 2 else 0
set_option maxHeartbeats 40000000 in
theorem zuu (ok ux uy fa ag ev gr:Bool) (fr:Int) (n:Nd) (a:Int) (hu:Fn Tryd.prog T z1 [.d (.int .i64 n.op)] [] (.d (.tup [.agg [.bool ux,.bool uy,.bool fa,.bool ag,.bool gr,.bool ev,.int .i64 fr],.bool ok])) []) :
  Fn Tryd.prog T zd2 [.d (dNd n),.d (.int .i64 a)] [] (.d (.int .i64 (zzO ok ux uy fa ag ev gr n a))) []:=by
 refine zb zk zlp (by show 2≤106;decide) ?_
 (repeat' ((conv=>whnf);first|refine vA ?_|refine vE ?_|((first|refine vD ?_ ?_|refine vI ?_ ?_)<;>intro hc)|refine vT ?_|refine vX ?_|refine yD hu (by (repeat refine ⟨⟨rfl,rfl⟩,?_⟩);rfl) rfl ?_|refine yD (zvU _ _ _) ⟨⟨rfl,rfl⟩,⟨rfl,rfl⟩,⟨rfl,rfl⟩,rfl⟩ rfl ?_|refine yD (zvV _ _ _ _) (by (repeat refine ⟨⟨rfl,rfl⟩,?_⟩);rfl) rfl ?_));all_goals try conv=>whnf
 all_goals (clear hu;simp_all [zzO])
theorem zl3 (n:Nd) (a:Int):Fn Tryd.prog T zd2 [.d (dNd n),.d (.int .i64 a)] [] (.d (.int .i64 (zbW n a))) []:=by
 exact zuu _ _ _ _ _ _ _ _ n a (zqC n.op)
theorem zgR (f:List Nd):Fn Tryd.prog T ziC [.d (dF f)] [] (.d (.int .i64 (zbq f))) []:=by
 refine zb zk zpF (by show 1≤26;decide) ?_
 (repeat' ((conv=>whnf);first|refine vA ?_|(refine vF ?_ ?_<;>intro hc<;>try simp only [vL] at hc)|refine vJ fun hg=>?_|refine vT ?_|refine vX ?_));all_goals try conv=>whnf
 ·simp_all [zbq]
 ·rw [zbq,if_neg (by omega),if_pos (by omega)]
 ·have h0 : ¬f.length=0:=by omega
  refine zar (fun (k:Nat)=>[(12,.d (dF f)),(13,.d (.int .i64 ((f.map dNd).length:Int))),(14,.d (.int .i64 ((k:Int))))]) (fun (k:Nat)=>k≤f.length∧zbq f=zgM (f.drop k) k) (fun (k:Nat)=>f.length - k) (0) (⟨by simp,by rw [zbq,if_neg (by omega),if_neg (by omega)];rfl⟩) (by (repeat' first|exact trivial|exact rfl|refine And.intro ?_ ?_)) ?_
  rintro k ⟨hk,hI⟩
  (repeat' ((conv=>whnf);first|refine vA ?_|((first|refine vD ?_ ?_|refine vF ?_ ?_)<;>intro hc<;>try simp only [vL] at hc)|refine vT ?_|(refine vQ ?_ fun x hx=>?_;·omega)|(refine vO ?_ ?_;·omega)|refine vX ?_|refine yD (zl3 _ _) ⟨⟨rfl,rfl⟩,⟨rfl,rfl⟩,rfl⟩ rfl ?_));all_goals try conv=>whnf
  ·rw [hI,zab hx,zgM,if_pos hc]
  ·exact ⟨k+1,[],[],⟨by (omega),by rw [hI,zab hx,zgM,if_neg (by simpa using hc)]⟩,by (omega),by (refine ⟨rfl,rfl,rfl,?_,?_⟩;repeat' first|exact trivial|exact rfl|refine And.intro ?_ ?_)⟩
  ·rw [hI,List.drop_eq_nil_of_le (by omega)];rfl
end Go.Ab
namespace Go.Ab
open Go Go.Proofs
set_option maxRecDepth 10000
set_option maxHeartbeats 4000000
variable {T:Nat→Obj→Prop}
abbrev zI (d:List (Nat×Nat)):List (D×D):=d.map fun p=>(D.int .i64 (p.1:Int),D.int .i64 (p.2:Int))
def zak (l:List Nd) (k:Nat):List (D×D):=match l with
 | []=>[]
 | n::r=>(dNd n,.int .i64 (k:Int))::zak r (k+1)
theorem zAx (a b:Nd):D.eqk (dNd a) (dNd b)=some (decide (a=b)):=by
 obtain ⟨a1,a2,a3,a4,a5,a6⟩:=a
 obtain ⟨b1,b2,b3,b4,b5,b6⟩:=b
 show some (decide (a1=b1)&&(decide (a2=b2)&&(decide (a3=b3)&&(decide (a4=b4)&&(decide (a5=b5)&&(decide (a6=b6)&&true))))))=_
 simp only [Nd.mk.injEq,Bool.decide_and,Bool.and_true]
theorem zrg (d:List (Nat×Nat)) (i:Nat):zF (zI d) (.int .i64 (i:Int))=some ((d.lookup i).map fun r=>D.int .i64 (r:Int)):=by
 induction d with
 | nil=>rfl
 | cons p d ih =>
  obtain ⟨a,b⟩:=p
  show (match some (decide ((i:Int)=(a:Int))) with
   | some true=>some (some (D.int .i64 (b:Int)))
   | some false=>zF (zI d) (.int .i64 (i:Int))
   | none=>none)=_
  by_cases h:i=a
  ·subst h;simp [List.lookup]
  ·have h1:decide ((i:Int)=(a:Int))=false:=by simp only [decide_eq_false_iff_not];omega
   have h2:(i==a)=false:=by simpa using h
   rw [h1]
   simp only [List.lookup,h2]
   exact ih
theorem zoc (x:Nd) : ∀ (l:List Nd) (k:Nat),zF (zak l k) (dNd x)=some ((l.idxOf? x).map fun r=>D.int .i64 ((k+r:Nat):Int))
 | [],k=>rfl
 | n::r,k=>by
  have ih:=zoc x r (k+1)
  show (match D.eqk (dNd x) (dNd n) with
   | some true=>some (some (D.int .i64 (k:Int)))
   | some false=>zF (zak r (k+1)) (dNd x)
   | none=>none)=_
  rw [zAx]
  by_cases h:x=n
  ·subst h;simp [List.idxOf?,List.findIdx?_cons]
  ·have h2:(n==x)=false:=by simpa using fun e=>h e.symm
   simp only [h,decide_false,ih,List.idxOf?,List.findIdx?_cons,h2]
   cases r.findIdx? (· == x) with
   | none=>rfl
   | some j=>simp;omega
theorem znw (x:Nd) : ∀ (l:List Nd) (k:Nat),zak (l++[x]) k=zak l k++[(dNd x,.int .i64 ((k+l.length:Nat):Int))]
 | [],k=>rfl
 | n::r,k=>by
  show (dNd n,D.int .i64 (k:Int))::zak (r++[x]) (k+1)=_
  rw [znw x r (k+1),show k+1+r.length=k+(n::r).length by simp;omega]
  rfl
theorem zdq (x:Nd) (l:List Nd):zak (l++[x]) 0=zak l 0++[(dNd x,.int .i64 (((l.map dNd).length:Nat):Int))]:=by
 rw [znw,List.length_map,Nat.zero_add]
abbrev za1:V := .fn zn [.ptr 0 0,.ptr 1 0,.ptr 2 0,.ptr 3 0,.ptr 4 0]
abbrev za7 (f:List Nd) (out:V) (s:FSt):List Ob:=[.box [.map 5],.box [.d (dF f)],.box [za1],.box [.map 6],.box [out],.map (zI s.done),.map (zak s.out 0)]
abbrev za8 (i:Int):List V:=[.d (.int .i64 i),.ptr 0 0,.ptr 1 0,.ptr 2 0,.ptr 3 0,.ptr 4 0]
abbrev zdH (f:List Nd) (s:FSt):List (Option Ob):=[some (.box [.map 5]),some (.box [.d (dF f)]),some (.box [za1]),some (.box [.map 6]),some (.box [.own 8]),some (.map (zI s.done)),some (.map (zak s.out 0)),none,some (.row 6 (s.out.map dNd))]
abbrev ze0 (f:List Nd) (s:FSt):List (Option Ob):=[some (.box [.map 5]),some (.box [.d (dF f)]),some (.box [za1]),some (.box [.map 6]),some (.box [.own 7]),some (.map (zI s.done)),some (.map (zak s.out 0)),some (.row 6 (s.out.map dNd))]
theorem zeL {op:Int} {x y:Bool} (hx:zG op=x) (hy:zH op=y):Fn Tryd.prog T z1 [.d (.int .i64 op)] [] (.d (.tup [.agg [.bool x,.bool y,.bool (zae op),.bool (zP op),.bool (zR op),.bool (zQ op),.int .i64 (zaR op)],.bool (zc9 op)])) []:=by
 subst hx;subst hy
 exact zqC op
theorem zaQ (d:List (Nat×Nat)) (i r:Nat):zI (d++[(i,r)])=zI d++[(.int .i64 (i:Int),.int .i64 (r:Int))]:=by simp
theorem zdT {x:Nd} {l:List Nd} {j:Nat} (h:l.idxOf? x=some j):zF (zak l 0) (dNd x)=some (some (.int .i64 (j:Int))):=by
 rw [zoc,h];simp
theorem zcH {x:Nd} {l:List Nd} (h:l.idxOf? x=none):zF (zak l 0) (dNd x)=some none:=by
 rw [zoc,h];rfl
theorem zC {d:List (Nat×Nat)} {i:Nat} (h:d.lookup i=none):zF (zI d) (.int .i64 (i:Int))=some none:=by
 rw [zrg,h];rfl
theorem zwN {f:List Nd} (hf:zaf f) {k:Nat} {s:FSt} (hk:k < f.length) (hd:s.done.lookup k=none) (hx:zG (f.getD k default).op=false) (hy:zH (f.getD k default).op=false) :
  fin f (k+1) k s=((put s.out (f.getD k default)).1,⟨(put s.out (f.getD k default)).2,s.done++[(k,(put s.out (f.getD k default)).1)]⟩):=by
 have hn:=zaG.1 (zhC hf hk)
 rw [fin,hd]
 simp only [hx,hy,cond_false]
 have e0:(((f.getD k default).y.toNat:Nat):Int)=(f.getD k default).y:=by rw [hn.2.2.2.2 hy];rfl
 have e1:(((f.getD k default).x.toNat:Nat):Int)=(f.getD k default).x:=by rw [hn.2.2.1 hx];rfl
 rw [e0,e1]
theorem zwO {f:List Nd} (hf:zaf f) {k:Nat} {s:FSt} (hk:k < f.length) (hd:s.done.lookup k=none) {n:Nd} (hn:f.getD k default=n) (hx:zG n.op=true) (hy:zH n.op=false) {r:Nat} {s1:FSt} (h1:fin f (n.x.toNat+1) n.x.toNat s=(r,s1)) :
  fin f (k+1) k s=((put s1.out ⟨n.op,n.i,n.e,n.g,(r:Int),n.y⟩).1,⟨(put s1.out ⟨n.op,n.i,n.e,n.g,(r:Int),n.y⟩).2,s1.done++[(k,(put s1.out ⟨n.op,n.i,n.e,n.g,(r:Int),n.y⟩).1)]⟩):=by
 subst hn
 have hn:=zaG.1 (zhC hf hk)
 have e1:=zax hf hk hx
 rw [fin,hd]
 simp only [hx,hy,cond_false,cond_true]
 rw [zgl hf k ((f.getD k default).x.toNat+1) _ _ (by omega) (by omega) (by omega),h1]
 have e0:(((f.getD k default).y.toNat:Nat):Int)=(f.getD k default).y:=by rw [hn.2.2.2.2 hy];rfl
 simp only [e0]
theorem zwP {f:List Nd} (hf:zaf f) {k:Nat} {s:FSt} (hk:k < f.length) (hd:s.done.lookup k=none) {n:Nd} (hn:f.getD k default=n) (hx:zG n.op=true) (hy:zH n.op=true) {r r2:Nat} {s1 s2:FSt} (h1:fin f (n.x.toNat+1) n.x.toNat s=(r,s1)) (h2:fin f (n.y.toNat+1) n.y.toNat s1=(r2,s2)) :
  fin f (k+1) k s=((put s2.out ⟨n.op,n.i,n.e,n.g,(r:Int),(r2:Int)⟩).1,⟨(put s2.out ⟨n.op,n.i,n.e,n.g,(r:Int),(r2:Int)⟩).2,s2.done++[(k,(put s2.out ⟨n.op,n.i,n.e,n.g,(r:Int),(r2:Int)⟩).1)]⟩):=by
 subst hn
 have e1:=zax hf hk hx
 have e2:=zb7 hf hk hy
 rw [fin,hd]
 simp only [hx,hy,cond_true]
 rw [zgl hf k ((f.getD k default).x.toNat+1) (f.getD k default).x.toNat s (by omega) (by omega) (by omega),h1]
 simp only
 rw [zgl hf k ((f.getD k default).y.toNat+1) (f.getD k default).y.toNat s1 (by omega) (by omega) (by omega),h2]
theorem zhn {f:List Nd} (hf:zaf f) {j k:Nat} {s:FSt} (hj:j < k) (hjf:j < f.length) (hs:zkk f s) (hd:s.done.lookup k=none):zkk f (fin f (j+1) j s).2∧(fin f (j+1) j s).2.done.lookup k=none:=by
 obtain ⟨h1,h2,h3,l,h4,h5⟩:=zh4 hf (j+1) j s (by omega) hjf hs
 refine ⟨h1,?_⟩
 rw [h4]
 exact zuC fun p hp=>by
  rcases List.mem_append.1 hp with hp|hp
  ·exact zpS hd p hp
  ·have:=h5 p hp;omega
theorem zjI {f:List Nd} {s:FSt} (hs:zkk f s):s.out.length≤f.length:=by
 have h1:=hs.len
 have h2:=zro hs.keys (n:=f.length) (fun x hx=>by obtain ⟨p,hp,rfl⟩:=List.mem_map.1 hx;exact hs.rng p hp)
 rw [List.length_map] at h2
 omega
theorem zo.objsE {P:Program} {M:Nat→Option Ob} {n f:Nat} {vs lvs:List V} {obs:List Ob} {y:D} {obs':List (Option Ob)} {K:V→Upd→Nat→Prop} (js:List Nat) (hf:Fn P T f lvs obs (.d y) obs') (ha:VPasses M js [] 20 lvs vs)
  (ho:zaN M js [] obs js) (hnd:nodup js=true) (hsj:zdM js (zL M vs)=true) (hle:js.length≤obs'.length) (u:Upd) (hu:zfO js [] n obs' false=u)
  (hK:K (.d y) u (obs'.length - js.length)):zo (zdf P T) M n f vs K := .objs js hf ha ho hnd hsj hle (by rw [hu];exact hK)
end Go.Ab
namespace Go.Ab
open Go Go.Proofs
set_option maxRecDepth 10000
set_option maxHeartbeats 4000000
set_option maxHeartbeats 40000000
variable {T:Nat→Obj→Prop}
theorem zBa {f:List Nd} (hL:f.length≤1000) {k:Nat} {n:Nd} (hn:f[k]? = some n) {s:FSt} (hl:s.out.length≤1000) (hfd:zF (zI (FSt.done s)) (.int .i64 (k:Int))=some none) (hu:Fn Tryd.prog T z1 [.d (.int .i64 n.op)] [] (.d (.tup [.agg [.bool false,.bool false,.bool (zae n.op),.bool (zP n.op),.bool (zR n.op),.bool (zQ n.op),.int .i64 (zaR n.op)],.bool (zc9 n.op)])) []) {j:Nat} (hfn:zF (zak (FSt.out s) 0) (dNd n)=some (some (.int .i64 (j:Int)))) :
  Fn Tryd.prog T zn (za8 (k:Int)) (za7 f (.own 7) s++[.row 6 (s.out.map dNd)]) (.d (.int .i64 (j:Int))) [some (.box [.map 5]),some (.box [.d (dF f)]),some (.box [za1]),some (.box [.map 6]),some (.box [.own 8]),some (.map (zI (FSt.done s)++[(.int .i64 (k:Int),.int .i64 (j:Int))])),some (.map (zak (FSt.out s) 0)),none,some (.row 6 ((FSt.out s).map dNd))]:=by
 refine zB zk zS (by show 6≤68;decide) _ (fun e env mem n h=>h) ?_
 (repeat' ((conv=>whnf);first|refine vA ?_|refine vE ?_|refine vG ?_|refine vH ?_|refine vT ?_|refine vN ‹_› ?_|refine yD hu (by (repeat refine ⟨⟨rfl,rfl⟩,?_⟩);rfl) rfl ?_|refine zT.mk _ ‹_› ?_));all_goals try conv=>whnf
 refine ⟨trivial,_,[(0,0),(1,1),(2,2),(3,3),(4,4),(5,5),(6,6),(8,7)],[],rfl,.inl (by (repeat' exact rfl)),⟨by rfl,by rfl,by rfl,trivial,by (repeat' first|exact trivial|exact rfl|refine And.intro ?_ ?_|refine ⟨_,rfl,?_⟩|exact of_decide_eq_true rfl)⟩,by (repeat' first|exact trivial|exact rfl|refine And.intro ?_ ?_|refine ⟨_,rfl,?_⟩)⟩
theorem zBb {f:List Nd} (hL:f.length≤1000) {k:Nat} {n:Nd} (hn:f[k]? = some n) {s:FSt} (hl:s.out.length≤1000) (hfd:zF (zI (FSt.done s)) (.int .i64 (k:Int))=some none) (hu:Fn Tryd.prog T z1 [.d (.int .i64 n.op)] [] (.d (.tup [.agg [.bool false,.bool false,.bool (zae n.op),.bool (zP n.op),.bool (zR n.op),.bool (zQ n.op),.int .i64 (zaR n.op)],.bool (zc9 n.op)])) []) (hfn:zF (zak (FSt.out s) 0) (dNd n)=some none) :
  Fn Tryd.prog T zn (za8 (k:Int)) (za7 f (.own 7) s++[.row 6 (s.out.map dNd)]) (.d (.int .i64 ((((FSt.out s).map dNd).length:Nat):Int))) [some (.box [.map 5]),some (.box [.d (dF f)]),some (.box [za1]),some (.box [.map 6]),some (.box [.own 8]),some (.map (zI (FSt.done s)++[(.int .i64 (k:Int),.int .i64 ((((FSt.out s).map dNd).length:Nat):Int))])),some (.map (zak (FSt.out s) 0++[(dNd n,.int .i64 ((((FSt.out s).map dNd).length:Nat):Int))])),none,some (.row 6 ((FSt.out s).map dNd++[dNd n]))]:=by
 refine zB zk zS (by show 6≤68;decide) _ (fun e env mem n h=>h) ?_
 (repeat' ((conv=>whnf);first|refine vA ?_|refine vH ?_|refine vJ fun hg=>?_|refine vT ?_|refine vN ‹_› ?_|(refine vP ?_ ?_;·(simp only [vM] at *;omega))|refine yD hu (by (repeat refine ⟨⟨rfl,rfl⟩,?_⟩);rfl) rfl ?_|refine zT.mk _ ‹_› ?_));all_goals try conv=>whnf
 refine ⟨trivial,_,[(0,0),(1,1),(2,2),(3,3),(4,4),(5,5),(6,6),(8,11)],[],rfl,.inl (by (repeat' exact rfl)),⟨by rfl,by rfl,by rfl,trivial,by (repeat' first|exact trivial|exact rfl|refine And.intro ?_ ?_|refine ⟨_,rfl,?_⟩|exact of_decide_eq_true rfl)⟩,by (repeat' first|exact trivial|exact rfl|refine And.intro ?_ ?_|refine ⟨_,rfl,?_⟩)⟩
end Go.Ab
namespace Go.Ab
open Go Go.Proofs
set_option maxRecDepth 10000
set_option maxHeartbeats 4000000
set_option maxHeartbeats 40000000
variable {T:Nat→Obj→Prop}
theorem zBc {f:List Nd} (hL:f.length≤1000) {k:Nat} {n:Nd} (hn:f[k]? = some n) {s:FSt} (hl:s.out.length≤1000) (hfd:zF (zI (FSt.done s)) (.int .i64 (k:Int))=some none) (hu:Fn Tryd.prog T z1 [.d (.int .i64 n.op)] [] (.d (.tup [.agg [.bool true,.bool false,.bool (zae n.op),.bool (zP n.op),.bool (zR n.op),.bool (zQ n.op),.int .i64 (zaR n.op)],.bool (zc9 n.op)])) []) {r1:Nat} {s1:FSt} (hl1:s1.out.length≤1000) (c1:Fn Tryd.prog T zn (za8 n.x) (za7 f (.own 7) s++[.row 6 (s.out.map dNd)]) (.d (.int .i64 (r1:Int))) (zdH f s1)) (hfd1:zF (zI s1.done) (.int .i64 (k:Int))=some none) {j:Nat} (hfn:zF (zak s1.out 0) (dNd ⟨n.op,n.i,n.e,n.g,(r1:Int),n.y⟩)=some (some (.int .i64 (j:Int)))) :
  Fn Tryd.prog T zn (za8 (k:Int)) (za7 f (.own 7) s++[.row 6 (s.out.map dNd)]) (.d (.int .i64 (j:Int))) [some (.box [.map 5]),some (.box [.d (dF f)]),some (.box [za1]),some (.box [.map 6]),some (.box [.own 8]),some (.map (zI s1.done++[(.int .i64 (k:Int),.int .i64 (j:Int))])),some (.map (zak s1.out 0)),none,some (.row 6 (s1.out.map dNd))]:=by
 refine zB zk zS (by show 6≤68;decide) _ (fun e env mem n h=>h) ?_
 (repeat' ((conv=>whnf);first|refine vA ?_|refine vG ?_|refine vT ?_|refine vN ‹_› ?_|refine yD hu (by (repeat refine ⟨⟨rfl,rfl⟩,?_⟩);rfl) rfl ?_|refine zT.mk _ ‹_› ?_));all_goals try conv=>whnf
 refine zo.objsE [0,1,2,3,4,5,6,7] (c1) (by (repeat' first|exact rfl|refine And.intro ?_ ?_|refine ⟨_,rfl,?_⟩)) (by (repeat' first|exact rfl|refine And.intro ?_ ?_|refine ⟨_,rfl,?_⟩)) (by rfl) (by kernel_rfl) (by simp) [(0,some (.box [.map 5])),(1,some (.box [.d (dF f)])),(2,some (.box [za1])),(3,some (.box [.map 6])),(4,some (.box [.own 10])),(5,some (.map (zI s1.done))),(6,some (.map (zak s1.out 0))),(7,none),(10,some (.row 6 (s1.out.map dNd)))] rfl ?_
 (repeat' ((conv=>whnf);first|refine vA ?_|refine vE ?_|refine vG ?_|refine vH ?_|refine vT ?_|refine zT.mk _ ‹_› ?_));all_goals try conv=>whnf
 refine ⟨trivial,_,[(0,0),(1,1),(2,2),(3,3),(4,4),(5,5),(6,6),(8,10)],[],rfl,.inl (by (repeat' exact rfl)),⟨by rfl,by rfl,by rfl,trivial,by (repeat' first|exact trivial|exact rfl|refine And.intro ?_ ?_|refine ⟨_,rfl,?_⟩|exact of_decide_eq_true rfl)⟩,by (repeat' first|exact trivial|exact rfl|refine And.intro ?_ ?_|refine ⟨_,rfl,?_⟩)⟩
theorem zBd {f:List Nd} (hL:f.length≤1000) {k:Nat} {n:Nd} (hn:f[k]? = some n) {s:FSt} (hl:s.out.length≤1000) (hfd:zF (zI (FSt.done s)) (.int .i64 (k:Int))=some none) (hu:Fn Tryd.prog T z1 [.d (.int .i64 n.op)] [] (.d (.tup [.agg [.bool true,.bool false,.bool (zae n.op),.bool (zP n.op),.bool (zR n.op),.bool (zQ n.op),.int .i64 (zaR n.op)],.bool (zc9 n.op)])) []) {r1:Nat} {s1:FSt} (hl1:s1.out.length≤1000) (c1:Fn Tryd.prog T zn (za8 n.x) (za7 f (.own 7) s++[.row 6 (s.out.map dNd)]) (.d (.int .i64 (r1:Int))) (zdH f s1)) (hfd1:zF (zI s1.done) (.int .i64 (k:Int))=some none) (hfn:zF (zak s1.out 0) (dNd ⟨n.op,n.i,n.e,n.g,(r1:Int),n.y⟩)=some none) :
  Fn Tryd.prog T zn (za8 (k:Int)) (za7 f (.own 7) s++[.row 6 (s.out.map dNd)]) (.d (.int .i64 (((s1.out.map dNd).length:Nat):Int))) [some (.box [.map 5]),some (.box [.d (dF f)]),some (.box [za1]),some (.box [.map 6]),some (.box [.own 8]),some (.map (zI s1.done++[(.int .i64 (k:Int),.int .i64 (((s1.out.map dNd).length:Nat):Int))])),some (.map (zak s1.out 0++[(dNd ⟨n.op,n.i,n.e,n.g,(r1:Int),n.y⟩,.int .i64 (((s1.out.map dNd).length:Nat):Int))])),none,some (.row 6 (s1.out.map dNd++[dNd ⟨n.op,n.i,n.e,n.g,(r1:Int),n.y⟩]))]:=by
 refine zB zk zS (by show 6≤68;decide) _ (fun e env mem n h=>h) ?_
 (repeat' ((conv=>whnf);first|refine vA ?_|refine vG ?_|refine vT ?_|refine vN ‹_› ?_|refine yD hu (by (repeat refine ⟨⟨rfl,rfl⟩,?_⟩);rfl) rfl ?_|refine zT.mk _ ‹_› ?_));all_goals try conv=>whnf
 refine zo.objsE [0,1,2,3,4,5,6,7] (c1) (by (repeat' first|exact rfl|refine And.intro ?_ ?_|refine ⟨_,rfl,?_⟩)) (by (repeat' first|exact rfl|refine And.intro ?_ ?_|refine ⟨_,rfl,?_⟩)) (by rfl) (by kernel_rfl) (by simp) [(0,some (.box [.map 5])),(1,some (.box [.d (dF f)])),(2,some (.box [za1])),(3,some (.box [.map 6])),(4,some (.box [.own 10])),(5,some (.map (zI s1.done))),(6,some (.map (zak s1.out 0))),(7,none),(10,some (.row 6 (s1.out.map dNd)))] rfl ?_
 (repeat' ((conv=>whnf);first|refine vA ?_|refine vH ?_|refine vJ fun hg=>?_|refine vT ?_|(refine vP ?_ ?_;·(simp only [vM] at *;omega))|refine zT.mk _ ‹_› ?_));all_goals try conv=>whnf
 refine ⟨trivial,_,[(0,0),(1,1),(2,2),(3,3),(4,4),(5,5),(6,6),(8,12)],[],rfl,.inl (by (repeat' exact rfl)),⟨by rfl,by rfl,by rfl,trivial,by (repeat' first|exact trivial|exact rfl|refine And.intro ?_ ?_|refine ⟨_,rfl,?_⟩|exact of_decide_eq_true rfl)⟩,by (repeat' first|exact trivial|exact rfl|refine And.intro ?_ ?_|refine ⟨_,rfl,?_⟩)⟩
end Go.Ab
namespace Go.Ab
open Go Go.Proofs
set_option maxRecDepth 10000
set_option maxHeartbeats 4000000
set_option maxHeartbeats 40000000
variable {T:Nat→Obj→Prop}
theorem zBe {f:List Nd} (hL:f.length≤1000) {k:Nat} {n:Nd} (hn:f[k]? = some n) {s:FSt} (hl:s.out.length≤1000) (hfd:zF (zI (FSt.done s)) (.int .i64 (k:Int))=some none) (hu:Fn Tryd.prog T z1 [.d (.int .i64 n.op)] [] (.d (.tup [.agg [.bool true,.bool true,.bool (zae n.op),.bool (zP n.op),.bool (zR n.op),.bool (zQ n.op),.int .i64 (zaR n.op)],.bool (zc9 n.op)])) []) {r1:Nat} {s1:FSt} (hl1:s1.out.length≤1000) (c1:Fn Tryd.prog T zn (za8 n.x) (za7 f (.own 7) s++[.row 6 (s.out.map dNd)]) (.d (.int .i64 (r1:Int))) (zdH f s1)) (hfd1:zF (zI s1.done) (.int .i64 (k:Int))=some none) {r2:Nat} {s2:FSt} (hl2:s2.out.length≤1000) (c2:Fn Tryd.prog T zn (za8 n.y) (za7 f (.own 7) s1++[.row 6 (s1.out.map dNd)]) (.d (.int .i64 (r2:Int))) (zdH f s2)) (hfd2:zF (zI s2.done) (.int .i64 (k:Int))=some none) {j:Nat} (hfn:zF (zak s2.out 0) (dNd ⟨n.op,n.i,n.e,n.g,(r1:Int),(r2:Int)⟩)=some (some (.int .i64 (j:Int)))) :
  Fn Tryd.prog T zn (za8 (k:Int)) (za7 f (.own 7) s++[.row 6 (s.out.map dNd)]) (.d (.int .i64 (j:Int))) [some (.box [.map 5]),some (.box [.d (dF f)]),some (.box [za1]),some (.box [.map 6]),some (.box [.own 8]),some (.map (zI s2.done++[(.int .i64 (k:Int),.int .i64 (j:Int))])),some (.map (zak s2.out 0)),none,some (.row 6 (s2.out.map dNd))]:=by
 refine zB zk zS (by show 6≤68;decide) _ (fun e env mem n h=>h) ?_
 (repeat' ((conv=>whnf);first|refine vA ?_|refine vG ?_|refine vT ?_|refine vN ‹_› ?_|refine yD hu (by (repeat refine ⟨⟨rfl,rfl⟩,?_⟩);rfl) rfl ?_|refine zT.mk _ ‹_› ?_));all_goals try conv=>whnf
 refine zo.objsE [0,1,2,3,4,5,6,7] (c1) (by (repeat' first|exact rfl|refine And.intro ?_ ?_|refine ⟨_,rfl,?_⟩)) (by (repeat' first|exact rfl|refine And.intro ?_ ?_|refine ⟨_,rfl,?_⟩)) (by rfl) (by kernel_rfl) (by simp) [(0,some (.box [.map 5])),(1,some (.box [.d (dF f)])),(2,some (.box [za1])),(3,some (.box [.map 6])),(4,some (.box [.own 10])),(5,some (.map (zI s1.done))),(6,some (.map (zak s1.out 0))),(7,none),(10,some (.row 6 (s1.out.map dNd)))] rfl ?_
 (repeat' ((conv=>whnf);first|refine vA ?_|refine vG ?_|refine vT ?_));all_goals try conv=>whnf
 refine zo.objsE [0,1,2,3,4,5,6,10] (c2) (by (repeat' first|exact rfl|refine And.intro ?_ ?_|refine ⟨_,rfl,?_⟩)) (by (repeat' first|exact rfl|refine And.intro ?_ ?_|refine ⟨_,rfl,?_⟩)) (by rfl) (by kernel_rfl) (by simp) [(0,some (.box [.map 5])),(1,some (.box [.d (dF f)])),(2,some (.box [za1])),(3,some (.box [.map 6])),(4,some (.box [.own 11])),(5,some (.map (zI s2.done))),(6,some (.map (zak s2.out 0))),(10,none),(11,some (.row 6 (s2.out.map dNd)))] rfl ?_
 (repeat' ((conv=>whnf);first|refine vA ?_|refine vE ?_|refine vG ?_|refine vT ?_|refine zT.mk _ ‹_› ?_));all_goals try conv=>whnf
 refine ⟨trivial,_,[(0,0),(1,1),(2,2),(3,3),(4,4),(5,5),(6,6),(8,11)],[],rfl,.inl (by (repeat' exact rfl)),⟨by rfl,by rfl,by rfl,trivial,by (repeat' first|exact trivial|exact rfl|refine And.intro ?_ ?_|refine ⟨_,rfl,?_⟩|exact of_decide_eq_true rfl)⟩,by (repeat' first|exact trivial|exact rfl|refine And.intro ?_ ?_|refine ⟨_,rfl,?_⟩)⟩
theorem zBf {f:List Nd} (hL:f.length≤1000) {k:Nat} {n:Nd} (hn:f[k]? = some n) {s:FSt} (hl:s.out.length≤1000) (hfd:zF (zI (FSt.done s)) (.int .i64 (k:Int))=some none) (hu:Fn Tryd.prog T z1 [.d (.int .i64 n.op)] [] (.d (.tup [.agg [.bool true,.bool true,.bool (zae n.op),.bool (zP n.op),.bool (zR n.op),.bool (zQ n.op),.int .i64 (zaR n.op)],.bool (zc9 n.op)])) []) {r1:Nat} {s1:FSt} (hl1:s1.out.length≤1000) (c1:Fn Tryd.prog T zn (za8 n.x) (za7 f (.own 7) s++[.row 6 (s.out.map dNd)]) (.d (.int .i64 (r1:Int))) (zdH f s1)) (hfd1:zF (zI s1.done) (.int .i64 (k:Int))=some none) {r2:Nat} {s2:FSt} (hl2:s2.out.length≤1000) (c2:Fn Tryd.prog T zn (za8 n.y) (za7 f (.own 7) s1++[.row 6 (s1.out.map dNd)]) (.d (.int .i64 (r2:Int))) (zdH f s2)) (hfd2:zF (zI s2.done) (.int .i64 (k:Int))=some none) (hfn:zF (zak s2.out 0) (dNd ⟨n.op,n.i,n.e,n.g,(r1:Int),(r2:Int)⟩)=some none) :
  Fn Tryd.prog T zn (za8 (k:Int)) (za7 f (.own 7) s++[.row 6 (s.out.map dNd)]) (.d (.int .i64 (((s2.out.map dNd).length:Nat):Int))) [some (.box [.map 5]),some (.box [.d (dF f)]),some (.box [za1]),some (.box [.map 6]),some (.box [.own 8]),some (.map (zI s2.done++[(.int .i64 (k:Int),.int .i64 (((s2.out.map dNd).length:Nat):Int))])),some (.map (zak s2.out 0++[(dNd ⟨n.op,n.i,n.e,n.g,(r1:Int),(r2:Int)⟩,.int .i64 (((s2.out.map dNd).length:Nat):Int))])),none,some (.row 6 (s2.out.map dNd++[dNd ⟨n.op,n.i,n.e,n.g,(r1:Int),(r2:Int)⟩]))]:=by
 refine zB zk zS (by show 6≤68;decide) _ (fun e env mem n h=>h) ?_
 (repeat' ((conv=>whnf);first|refine vA ?_|refine vG ?_|refine vT ?_|refine vN ‹_› ?_|refine yD hu (by (repeat refine ⟨⟨rfl,rfl⟩,?_⟩);rfl) rfl ?_|refine zT.mk _ ‹_› ?_));all_goals try conv=>whnf
 refine zo.objsE [0,1,2,3,4,5,6,7] (c1) (by (repeat' first|exact rfl|refine And.intro ?_ ?_|refine ⟨_,rfl,?_⟩)) (by (repeat' first|exact rfl|refine And.intro ?_ ?_|refine ⟨_,rfl,?_⟩)) (by rfl) (by kernel_rfl) (by simp) [(0,some (.box [.map 5])),(1,some (.box [.d (dF f)])),(2,some (.box [za1])),(3,some (.box [.map 6])),(4,some (.box [.own 10])),(5,some (.map (zI s1.done))),(6,some (.map (zak s1.out 0))),(7,none),(10,some (.row 6 (s1.out.map dNd)))] rfl ?_
 (repeat' ((conv=>whnf);first|refine vA ?_|refine vG ?_|refine vT ?_));all_goals try conv=>whnf
 refine zo.objsE [0,1,2,3,4,5,6,10] (c2) (by (repeat' first|exact rfl|refine And.intro ?_ ?_|refine ⟨_,rfl,?_⟩)) (by (repeat' first|exact rfl|refine And.intro ?_ ?_|refine ⟨_,rfl,?_⟩)) (by rfl) (by kernel_rfl) (by simp) [(0,some (.box [.map 5])),(1,some (.box [.d (dF f)])),(2,some (.box [za1])),(3,some (.box [.map 6])),(4,some (.box [.own 11])),(5,some (.map (zI s2.done))),(6,some (.map (zak s2.out 0))),(10,none),(11,some (.row 6 (s2.out.map dNd)))] rfl ?_
 (repeat' ((conv=>whnf);first|refine vA ?_|refine vJ fun hg=>?_|refine vT ?_|(refine vP ?_ ?_;·(simp only [vM] at *;omega))|refine zT.mk _ ‹_› ?_));all_goals try conv=>whnf
 refine ⟨trivial,_,[(0,0),(1,1),(2,2),(3,3),(4,4),(5,5),(6,6),(8,13)],[],rfl,.inl (by (repeat' exact rfl)),⟨by rfl,by rfl,by rfl,trivial,by (repeat' first|exact trivial|exact rfl|refine And.intro ?_ ?_|refine ⟨_,rfl,?_⟩|exact of_decide_eq_true rfl)⟩,by (repeat' first|exact trivial|exact rfl|refine And.intro ?_ ?_|refine ⟨_,rfl,?_⟩)⟩
end Go.Ab
namespace Go.Ab
open Go Go.Proofs
set_option maxRecDepth 10000
set_option maxHeartbeats 4000000
set_option maxHeartbeats 40000000
variable {T:Nat→Obj→Prop}
theorem zBg {f:List Nd} (hL:f.length≤1000) {k:Nat} {n:Nd} (hn:f[k]? = some n) (hfd:zF (zI (FSt.done ⟨[],[]⟩)) (.int .i64 (k:Int))=some none) (hu:Fn Tryd.prog T z1 [.d (.int .i64 n.op)] [] (.d (.tup [.agg [.bool false,.bool false,.bool (zae n.op),.bool (zP n.op),.bool (zR n.op),.bool (zQ n.op),.int .i64 (zaR n.op)],.bool (zc9 n.op)])) []) (hfn:zF (zak (FSt.out ⟨[],[]⟩) 0) (dNd n)=some none) :
  Fn Tryd.prog T zn (za8 (k:Int)) (za7 f (.nils 6) ⟨[],[]⟩) (.d (.int .i64 ((((FSt.out ⟨[],[]⟩).map dNd).length:Nat):Int))) [some (.box [.map 5]),some (.box [.d (dF f)]),some (.box [za1]),some (.box [.map 6]),some (.box [.own 7]),some (.map (zI (FSt.done ⟨[],[]⟩)++[(.int .i64 (k:Int),.int .i64 ((((FSt.out ⟨[],[]⟩).map dNd).length:Nat):Int))])),some (.map (zak (FSt.out ⟨[],[]⟩) 0++[(dNd n,.int .i64 ((((FSt.out ⟨[],[]⟩).map dNd).length:Nat):Int))])),some (.row 6 ((FSt.out ⟨[],[]⟩).map dNd++[dNd n]))]:=by
 refine zB zk zS (by show 6≤68;decide) _ (fun e env mem n h=>h) ?_
 (repeat' ((conv=>whnf);first|refine vA ?_|refine vH ?_|refine vT ?_|refine vN ‹_› ?_|(refine vP ?_ ?_;·(simp only [vM] at *;omega))|refine yD hu (by (repeat refine ⟨⟨rfl,rfl⟩,?_⟩);rfl) rfl ?_|refine zT.mk _ ‹_› ?_));all_goals try conv=>whnf
 refine ⟨trivial,_,[(0,0),(1,1),(2,2),(3,3),(4,4),(5,5),(6,6),(7,10)],[],rfl,.inl (by (repeat' exact rfl)),⟨by rfl,by rfl,by rfl,trivial,by (repeat' first|exact trivial|exact rfl|refine And.intro ?_ ?_|refine ⟨_,rfl,?_⟩|exact of_decide_eq_true rfl)⟩,by (repeat' first|exact trivial|exact rfl|refine And.intro ?_ ?_|refine ⟨_,rfl,?_⟩)⟩
end Go.Ab
namespace Go.Ab
open Go Go.Proofs
set_option maxRecDepth 10000
set_option maxHeartbeats 4000000
set_option maxHeartbeats 40000000
variable {T:Nat→Obj→Prop}
theorem zBh {f:List Nd} (hL:f.length≤1000) {k:Nat} {n:Nd} (hn:f[k]? = some n) (hfd:zF (zI (FSt.done ⟨[],[]⟩)) (.int .i64 (k:Int))=some none) (hu:Fn Tryd.prog T z1 [.d (.int .i64 n.op)] [] (.d (.tup [.agg [.bool true,.bool false,.bool (zae n.op),.bool (zP n.op),.bool (zR n.op),.bool (zQ n.op),.int .i64 (zaR n.op)],.bool (zc9 n.op)])) []) {r1:Nat} {s1:FSt} (hl1:s1.out.length≤1000) (c1:Fn Tryd.prog T zn (za8 n.x) (za7 f (.nils 6) ⟨[],[]⟩) (.d (.int .i64 (r1:Int))) (ze0 f s1)) (hfd1:zF (zI s1.done) (.int .i64 (k:Int))=some none) {j:Nat} (hfn:zF (zak s1.out 0) (dNd ⟨n.op,n.i,n.e,n.g,(r1:Int),n.y⟩)=some (some (.int .i64 (j:Int)))) :
  Fn Tryd.prog T zn (za8 (k:Int)) (za7 f (.nils 6) ⟨[],[]⟩) (.d (.int .i64 (j:Int))) [some (.box [.map 5]),some (.box [.d (dF f)]),some (.box [za1]),some (.box [.map 6]),some (.box [.own 7]),some (.map (zI s1.done++[(.int .i64 (k:Int),.int .i64 (j:Int))])),some (.map (zak s1.out 0)),some (.row 6 (s1.out.map dNd))]:=by
 refine zB zk zS (by show 6≤68;decide) _ (fun e env mem n h=>h) ?_
 (repeat' ((conv=>whnf);first|refine vA ?_|refine vG ?_|refine vT ?_|refine vN ‹_› ?_|refine yD hu (by (repeat refine ⟨⟨rfl,rfl⟩,?_⟩);rfl) rfl ?_|refine zT.mk _ ‹_› ?_));all_goals try conv=>whnf
 refine zo.objsE [0,1,2,3,4,5,6] (c1) (by (repeat' first|exact rfl|refine And.intro ?_ ?_|refine ⟨_,rfl,?_⟩)) (by (repeat' first|exact rfl|refine And.intro ?_ ?_|refine ⟨_,rfl,?_⟩)) (by rfl) (by kernel_rfl) (by simp) [(0,some (.box [.map 5])),(1,some (.box [.d (dF f)])),(2,some (.box [za1])),(3,some (.box [.map 6])),(4,some (.box [.own 9])),(5,some (.map (zI s1.done))),(6,some (.map (zak s1.out 0))),(9,some (.row 6 (s1.out.map dNd)))] rfl ?_
 (repeat' ((conv=>whnf);first|refine vA ?_|refine vE ?_|refine vG ?_|refine vH ?_|refine vT ?_|refine zT.mk _ ‹_› ?_));all_goals try conv=>whnf
 refine ⟨trivial,_,[(0,0),(1,1),(2,2),(3,3),(4,4),(5,5),(6,6),(7,9)],[],rfl,.inl (by (repeat' exact rfl)),⟨by rfl,by rfl,by rfl,trivial,by (repeat' first|exact trivial|exact rfl|refine And.intro ?_ ?_|refine ⟨_,rfl,?_⟩|exact of_decide_eq_true rfl)⟩,by (repeat' first|exact trivial|exact rfl|refine And.intro ?_ ?_|refine ⟨_,rfl,?_⟩)⟩
theorem zBi {f:List Nd} (hL:f.length≤1000) {k:Nat} {n:Nd} (hn:f[k]? = some n) (hfd:zF (zI (FSt.done ⟨[],[]⟩)) (.int .i64 (k:Int))=some none) (hu:Fn Tryd.prog T z1 [.d (.int .i64 n.op)] [] (.d (.tup [.agg [.bool true,.bool false,.bool (zae n.op),.bool (zP n.op),.bool (zR n.op),.bool (zQ n.op),.int .i64 (zaR n.op)],.bool (zc9 n.op)])) []) {r1:Nat} {s1:FSt} (hl1:s1.out.length≤1000) (c1:Fn Tryd.prog T zn (za8 n.x) (za7 f (.nils 6) ⟨[],[]⟩) (.d (.int .i64 (r1:Int))) (ze0 f s1)) (hfd1:zF (zI s1.done) (.int .i64 (k:Int))=some none) (hfn:zF (zak s1.out 0) (dNd ⟨n.op,n.i,n.e,n.g,(r1:Int),n.y⟩)=some none) :
  Fn Tryd.prog T zn (za8 (k:Int)) (za7 f (.nils 6) ⟨[],[]⟩) (.d (.int .i64 (((s1.out.map dNd).length:Nat):Int))) [some (.box [.map 5]),some (.box [.d (dF f)]),some (.box [za1]),some (.box [.map 6]),some (.box [.own 7]),some (.map (zI s1.done++[(.int .i64 (k:Int),.int .i64 (((s1.out.map dNd).length:Nat):Int))])),some (.map (zak s1.out 0++[(dNd ⟨n.op,n.i,n.e,n.g,(r1:Int),n.y⟩,.int .i64 (((s1.out.map dNd).length:Nat):Int))])),some (.row 6 (s1.out.map dNd++[dNd ⟨n.op,n.i,n.e,n.g,(r1:Int),n.y⟩]))]:=by
 refine zB zk zS (by show 6≤68;decide) _ (fun e env mem n h=>h) ?_
 (repeat' ((conv=>whnf);first|refine vA ?_|refine vG ?_|refine vT ?_|refine vN ‹_› ?_|refine yD hu (by (repeat refine ⟨⟨rfl,rfl⟩,?_⟩);rfl) rfl ?_|refine zT.mk _ ‹_› ?_));all_goals try conv=>whnf
 refine zo.objsE [0,1,2,3,4,5,6] (c1) (by (repeat' first|exact rfl|refine And.intro ?_ ?_|refine ⟨_,rfl,?_⟩)) (by (repeat' first|exact rfl|refine And.intro ?_ ?_|refine ⟨_,rfl,?_⟩)) (by rfl) (by kernel_rfl) (by simp) [(0,some (.box [.map 5])),(1,some (.box [.d (dF f)])),(2,some (.box [za1])),(3,some (.box [.map 6])),(4,some (.box [.own 9])),(5,some (.map (zI s1.done))),(6,some (.map (zak s1.out 0))),(9,some (.row 6 (s1.out.map dNd)))] rfl ?_
 (repeat' ((conv=>whnf);first|refine vA ?_|refine vH ?_|refine vJ fun hg=>?_|refine vT ?_|(refine vP ?_ ?_;·(simp only [vM] at *;omega))|refine zT.mk _ ‹_› ?_));all_goals try conv=>whnf
 refine ⟨trivial,_,[(0,0),(1,1),(2,2),(3,3),(4,4),(5,5),(6,6),(7,11)],[],rfl,.inl (by (repeat' exact rfl)),⟨by rfl,by rfl,by rfl,trivial,by (repeat' first|exact trivial|exact rfl|refine And.intro ?_ ?_|refine ⟨_,rfl,?_⟩|exact of_decide_eq_true rfl)⟩,by (repeat' first|exact trivial|exact rfl|refine And.intro ?_ ?_|refine ⟨_,rfl,?_⟩)⟩
end Go.Ab
namespace Go.Ab
open Go Go.Proofs
set_option maxRecDepth 10000
set_option maxHeartbeats 4000000
set_option maxHeartbeats 40000000
variable {T:Nat→Obj→Prop}
theorem zBj {f:List Nd} (hL:f.length≤1000) {k:Nat} {n:Nd} (hn:f[k]? = some n) (hfd:zF (zI (FSt.done ⟨[],[]⟩)) (.int .i64 (k:Int))=some none) (hu:Fn Tryd.prog T z1 [.d (.int .i64 n.op)] [] (.d (.tup [.agg [.bool true,.bool true,.bool (zae n.op),.bool (zP n.op),.bool (zR n.op),.bool (zQ n.op),.int .i64 (zaR n.op)],.bool (zc9 n.op)])) []) {r1:Nat} {s1:FSt} (hl1:s1.out.length≤1000) (c1:Fn Tryd.prog T zn (za8 n.x) (za7 f (.nils 6) ⟨[],[]⟩) (.d (.int .i64 (r1:Int))) (ze0 f s1)) (hfd1:zF (zI s1.done) (.int .i64 (k:Int))=some none) {r2:Nat} {s2:FSt} (hl2:s2.out.length≤1000) (c2:Fn Tryd.prog T zn (za8 n.y) (za7 f (.own 7) s1++[.row 6 (s1.out.map dNd)]) (.d (.int .i64 (r2:Int))) (zdH f s2)) (hfd2:zF (zI s2.done) (.int .i64 (k:Int))=some none) {j:Nat} (hfn:zF (zak s2.out 0) (dNd ⟨n.op,n.i,n.e,n.g,(r1:Int),(r2:Int)⟩)=some (some (.int .i64 (j:Int)))) :
  Fn Tryd.prog T zn (za8 (k:Int)) (za7 f (.nils 6) ⟨[],[]⟩) (.d (.int .i64 (j:Int))) [some (.box [.map 5]),some (.box [.d (dF f)]),some (.box [za1]),some (.box [.map 6]),some (.box [.own 7]),some (.map (zI s2.done++[(.int .i64 (k:Int),.int .i64 (j:Int))])),some (.map (zak s2.out 0)),some (.row 6 (s2.out.map dNd))]:=by
 refine zB zk zS (by show 6≤68;decide) _ (fun e env mem n h=>h) ?_
 (repeat' ((conv=>whnf);first|refine vA ?_|refine vG ?_|refine vT ?_|refine vN ‹_› ?_|refine yD hu (by (repeat refine ⟨⟨rfl,rfl⟩,?_⟩);rfl) rfl ?_|refine zT.mk _ ‹_› ?_));all_goals try conv=>whnf
 refine zo.objsE [0,1,2,3,4,5,6] (c1) (by (repeat' first|exact rfl|refine And.intro ?_ ?_|refine ⟨_,rfl,?_⟩)) (by (repeat' first|exact rfl|refine And.intro ?_ ?_|refine ⟨_,rfl,?_⟩)) (by rfl) (by kernel_rfl) (by simp) [(0,some (.box [.map 5])),(1,some (.box [.d (dF f)])),(2,some (.box [za1])),(3,some (.box [.map 6])),(4,some (.box [.own 9])),(5,some (.map (zI s1.done))),(6,some (.map (zak s1.out 0))),(9,some (.row 6 (s1.out.map dNd)))] rfl ?_
 (repeat' ((conv=>whnf);first|refine vA ?_|refine vG ?_|refine vT ?_));all_goals try conv=>whnf
 refine zo.objsE [0,1,2,3,4,5,6,9] (c2) (by (repeat' first|exact rfl|refine And.intro ?_ ?_|refine ⟨_,rfl,?_⟩)) (by (repeat' first|exact rfl|refine And.intro ?_ ?_|refine ⟨_,rfl,?_⟩)) (by rfl) (by kernel_rfl) (by simp) [(0,some (.box [.map 5])),(1,some (.box [.d (dF f)])),(2,some (.box [za1])),(3,some (.box [.map 6])),(4,some (.box [.own 10])),(5,some (.map (zI s2.done))),(6,some (.map (zak s2.out 0))),(9,none),(10,some (.row 6 (s2.out.map dNd)))] rfl ?_
 (repeat' ((conv=>whnf);first|refine vA ?_|refine vE ?_|refine vG ?_|refine vT ?_|refine zT.mk _ ‹_› ?_));all_goals try conv=>whnf
 refine ⟨trivial,_,[(0,0),(1,1),(2,2),(3,3),(4,4),(5,5),(6,6),(7,10)],[],rfl,.inl (by (repeat' exact rfl)),⟨by rfl,by rfl,by rfl,trivial,by (repeat' first|exact trivial|exact rfl|refine And.intro ?_ ?_|refine ⟨_,rfl,?_⟩|exact of_decide_eq_true rfl)⟩,by (repeat' first|exact trivial|exact rfl|refine And.intro ?_ ?_|refine ⟨_,rfl,?_⟩)⟩
theorem zBk {f:List Nd} (hL:f.length≤1000) {k:Nat} {n:Nd} (hn:f[k]? = some n) (hfd:zF (zI (FSt.done ⟨[],[]⟩)) (.int .i64 (k:Int))=some none) (hu:Fn Tryd.prog T z1 [.d (.int .i64 n.op)] [] (.d (.tup [.agg [.bool true,.bool true,.bool (zae n.op),.bool (zP n.op),.bool (zR n.op),.bool (zQ n.op),.int .i64 (zaR n.op)],.bool (zc9 n.op)])) []) {r1:Nat} {s1:FSt} (hl1:s1.out.length≤1000) (c1:Fn Tryd.prog T zn (za8 n.x) (za7 f (.nils 6) ⟨[],[]⟩) (.d (.int .i64 (r1:Int))) (ze0 f s1)) (hfd1:zF (zI s1.done) (.int .i64 (k:Int))=some none) {r2:Nat} {s2:FSt} (hl2:s2.out.length≤1000) (c2:Fn Tryd.prog T zn (za8 n.y) (za7 f (.own 7) s1++[.row 6 (s1.out.map dNd)]) (.d (.int .i64 (r2:Int))) (zdH f s2)) (hfd2:zF (zI s2.done) (.int .i64 (k:Int))=some none) (hfn:zF (zak s2.out 0) (dNd ⟨n.op,n.i,n.e,n.g,(r1:Int),(r2:Int)⟩)=some none) :
  Fn Tryd.prog T zn (za8 (k:Int)) (za7 f (.nils 6) ⟨[],[]⟩) (.d (.int .i64 (((s2.out.map dNd).length:Nat):Int))) [some (.box [.map 5]),some (.box [.d (dF f)]),some (.box [za1]),some (.box [.map 6]),some (.box [.own 7]),some (.map (zI s2.done++[(.int .i64 (k:Int),.int .i64 (((s2.out.map dNd).length:Nat):Int))])),some (.map (zak s2.out 0++[(dNd ⟨n.op,n.i,n.e,n.g,(r1:Int),(r2:Int)⟩,.int .i64 (((s2.out.map dNd).length:Nat):Int))])),some (.row 6 (s2.out.map dNd++[dNd ⟨n.op,n.i,n.e,n.g,(r1:Int),(r2:Int)⟩]))]:=by
 refine zB zk zS (by show 6≤68;decide) _ (fun e env mem n h=>h) ?_
 (repeat' ((conv=>whnf);first|refine vA ?_|refine vG ?_|refine vT ?_|refine vN ‹_› ?_|refine yD hu (by (repeat refine ⟨⟨rfl,rfl⟩,?_⟩);rfl) rfl ?_|refine zT.mk _ ‹_› ?_));all_goals try conv=>whnf
 refine zo.objsE [0,1,2,3,4,5,6] (c1) (by (repeat' first|exact rfl|refine And.intro ?_ ?_|refine ⟨_,rfl,?_⟩)) (by (repeat' first|exact rfl|refine And.intro ?_ ?_|refine ⟨_,rfl,?_⟩)) (by rfl) (by kernel_rfl) (by simp) [(0,some (.box [.map 5])),(1,some (.box [.d (dF f)])),(2,some (.box [za1])),(3,some (.box [.map 6])),(4,some (.box [.own 9])),(5,some (.map (zI s1.done))),(6,some (.map (zak s1.out 0))),(9,some (.row 6 (s1.out.map dNd)))] rfl ?_
 (repeat' ((conv=>whnf);first|refine vA ?_|refine vG ?_|refine vT ?_));all_goals try conv=>whnf
 refine zo.objsE [0,1,2,3,4,5,6,9] (c2) (by (repeat' first|exact rfl|refine And.intro ?_ ?_|refine ⟨_,rfl,?_⟩)) (by (repeat' first|exact rfl|refine And.intro ?_ ?_|refine ⟨_,rfl,?_⟩)) (by rfl) (by kernel_rfl) (by simp) [(0,some (.box [.map 5])),(1,some (.box [.d (dF f)])),(2,some (.box [za1])),(3,some (.box [.map 6])),(4,some (.box [.own 10])),(5,some (.map (zI s2.done))),(6,some (.map (zak s2.out 0))),(9,none),(10,some (.row 6 (s2.out.map dNd)))] rfl ?_
 (repeat' ((conv=>whnf);first|refine vA ?_|refine vJ fun hg=>?_|refine vT ?_|(refine vP ?_ ?_;·(simp only [vM] at *;omega))|refine zT.mk _ ‹_› ?_));all_goals try conv=>whnf
 refine ⟨trivial,_,[(0,0),(1,1),(2,2),(3,3),(4,4),(5,5),(6,6),(7,12)],[],rfl,.inl (by (repeat' exact rfl)),⟨by rfl,by rfl,by rfl,trivial,by (repeat' first|exact trivial|exact rfl|refine And.intro ?_ ?_|refine ⟨_,rfl,?_⟩|exact of_decide_eq_true rfl)⟩,by (repeat' first|exact trivial|exact rfl|refine And.intro ?_ ?_|refine ⟨_,rfl,?_⟩)⟩
end Go.Ab
namespace Go.Ab
open Go Go.Proofs
set_option maxRecDepth 10000
set_option maxHeartbeats 4000000
variable {T:Nat→Obj→Prop}
theorem zBo {f:List Nd} (hf:zaf f) (hL:f.length≤1000) : ∀ (m k:Nat) (i:Int) (s:FSt),k < m→i=k→k < f.length→zkk f s →
  Fn Tryd.prog T zn (za8 i) (za7 f (.own 7) s++[.row 6 (s.out.map dNd)]) (.d (.int .i64 ((fin f (k+1) k s).1:Int))) (zdH f (fin f (k+1) k s).2):=by
 intro m
 induction m with
 | zero=>intro k i s h;omega
 | succ m ih =>
  intro k i s hk hi hkf hs
  subst hi
  have hl:s.out.length≤1000:=Nat.le_trans (zjI hs) hL
  cases hd:s.done.lookup k with
  | some r =>
   have e:fin f (k+1) k s=(r,s):=by rw [fin,hd]
   have hfd:zF (zI s.done) (.int .i64 (k:Int))=some (some (D.int .i64 (r:Int))):=by rw [zrg,hd];rfl
   rw [e]
   refine zB zk zS (by show 6≤68;decide) _ (fun e env mem n h=>h) ?_
   (repeat' ((conv=>whnf);first|refine vA ?_|refine vG ?_|refine vT ?_|refine zT.mk _ ‹_› ?_));all_goals try conv=>whnf
   refine ⟨trivial,_,[(0,0),(1,1),(2,2),(3,3),(4,4),(5,5),(6,6),(8,7)],[],rfl,.inl (by (repeat' exact rfl)),⟨by rfl,by rfl,by rfl,trivial,by (repeat' first|exact trivial|exact rfl|refine And.intro ?_ ?_|refine ⟨_,rfl,?_⟩|exact of_decide_eq_true rfl)⟩,by (repeat' first|exact trivial|exact rfl|refine And.intro ?_ ?_|refine ⟨_,rfl,?_⟩)⟩
  | none =>
   obtain ⟨n,hn⟩ : ∃ n,f[k]? = some n:=⟨f[k],by simp [hkf]⟩
   have hn':f.getD k default=n:=by simp [List.getD,hn]
   cases hx:zG n.op with
   | false =>
    have hy:zH n.op=false:=by
     cases hy:zH n.op with
     | true=>rw [zal hy] at hx;cases hx
     | false=>rfl
    have hu:=zeL (T:=T) hx hy
    have e:=zwN hf hkf hd (by rw [hn'];exact hx) (by rw [hn'];exact hy)
    rw [hn'] at e
    cases hp:s.out.idxOf? n with
    | some j =>
     rw [zaj hp] at e
     rw [e]
     simp only [zdH,zaQ]
     exact zBa hL hn hl (zC hd) hu (zdT hp)
    | none =>
     rw [zbv hp,← List.length_map (f:=dNd)] at e
     rw [e]
     simp only [zdH,zaQ,zdq,List.map_append,List.map_cons,List.map_nil]
     exact zBb hL hn hl (zC hd) hu (zcH hp)
   | true =>
    have hxk:=zax hf hkf (by rw [hn'];exact hx)
    rw [hn'] at hxk
    obtain ⟨i1,d1⟩:=zhn hf hxk.2 (by omega) hs hd
    have c1:=ih n.x.toNat n.x s (by omega) (by omega) (by omega) hs
    cases h1:fin f (n.x.toNat+1) n.x.toNat s with
    | mk r1 s1 =>
    rw [h1] at i1 d1 c1
    simp only at i1 d1 c1
    have l1:s1.out.length≤1000:=Nat.le_trans (zjI i1) hL
    cases hy:zH n.op with
    | false =>
     have hu:=zeL (T:=T) hx hy
     have e:=zwO hf hkf hd hn' hx hy h1
     cases hp:s1.out.idxOf? ⟨n.op,n.i,n.e,n.g,(r1:Int),n.y⟩ with
     | some j =>
      rw [zaj hp] at e
      rw [e]
      simp only [zdH,zaQ]
      exact zBc hL hn hl (zC hd) hu l1 c1 (zC d1) (zdT hp)
     | none =>
      rw [zbv hp,← List.length_map (f:=dNd)] at e
      rw [e]
      simp only [zdH,zaQ,zdq,List.map_append,List.map_cons,List.map_nil]
      exact zBd hL hn hl (zC hd) hu l1 c1 (zC d1) (zcH hp)
    | true =>
     have hyk:=zb7 hf hkf (by rw [hn'];exact hy)
     rw [hn'] at hyk
     obtain ⟨i2,d2⟩:=zhn hf hyk.2 (by omega) i1 d1
     have c2:=ih n.y.toNat n.y s1 (by omega) (by omega) (by omega) i1
     cases h2:fin f (n.y.toNat+1) n.y.toNat s1 with
     | mk r2 s2 =>
     rw [h2] at i2 d2 c2
     simp only at i2 d2 c2
     have l2:s2.out.length≤1000:=Nat.le_trans (zjI i2) hL
     have hu:=zeL (T:=T) hx hy
     have e:=zwP hf hkf hd hn' hx hy h1 h2
     cases hp:s2.out.idxOf? ⟨n.op,n.i,n.e,n.g,(r1:Int),(r2:Int)⟩ with
     | some j =>
      rw [zaj hp] at e
      rw [e]
      simp only [zdH,zaQ]
      exact zBe hL hn hl (zC hd) hu l1 c1 (zC d1) l2 c2 (zC d2) (zdT hp)
     | none =>
      rw [zbv hp,← List.length_map (f:=dNd)] at e
      rw [e]
      simp only [zdH,zaQ,zdq,List.map_append,List.map_cons,List.map_nil]
      exact zBf hL hn hl (zC hd) hu l1 c1 (zC d1) l2 c2 (zC d2) (zcH hp)
theorem zAb {f:List Nd} (hf:zaf f) (hL:f.length≤1000) : ∀ (m k:Nat) (i:Int),k < m→i=k→k < f.length →
  Fn Tryd.prog T zn (za8 i) (za7 f (.nils 6) ⟨[],[]⟩) (.d (.int .i64 ((fin f (k+1) k ⟨[],[]⟩).1:Int))) (ze0 f (fin f (k+1) k ⟨[],[]⟩).2):=by
 intro m
 induction m with
 | zero=>intro k i h;omega
 | succ m ih =>
  intro k i hk hi hkf
  subst hi
  have hs:=zu5 f
  have hd:(FSt.mk [] []).done.lookup k=none:=rfl
  have hx0:True:=trivial
  cases hx0 with
  | intro =>
   obtain ⟨n,hn⟩ : ∃ n,f[k]? = some n:=⟨f[k],by simp [hkf]⟩
   have hn':f.getD k default=n:=by simp [List.getD,hn]
   cases hx:zG n.op with
   | false =>
    have hy:zH n.op=false:=by
     cases hy:zH n.op with
     | true=>rw [zal hy] at hx;cases hx
     | false=>rfl
    have hu:=zeL (T:=T) hx hy
    have e:=zwN hf hkf hd (by rw [hn'];exact hx) (by rw [hn'];exact hy)
    rw [hn'] at e
    have hp:([]:List Nd).idxOf? n=none:=rfl
    rw [zbv hp,← List.length_map (f:=dNd)] at e
    rw [e]
    simp only [ze0,zaQ,zdq,List.map_append,List.map_cons,List.map_nil]
    exact zBg hL hn (zC hd) hu (zcH hp)
   | true =>
    have hxk:=zax hf hkf (by rw [hn'];exact hx)
    rw [hn'] at hxk
    obtain ⟨i1,d1⟩:=zhn hf hxk.2 (by omega) hs hd
    have c1:=ih n.x.toNat n.x (by omega) (by omega) (by omega)
    cases h1:fin f (n.x.toNat+1) n.x.toNat (FSt.mk [] []) with
    | mk r1 s1 =>
    rw [h1] at i1 d1 c1
    simp only at i1 d1 c1
    have l1:s1.out.length≤1000:=Nat.le_trans (zjI i1) hL
    cases hy:zH n.op with
    | false =>
     have hu:=zeL (T:=T) hx hy
     have e:=zwO hf hkf hd hn' hx hy h1
     cases hp:s1.out.idxOf? ⟨n.op,n.i,n.e,n.g,(r1:Int),n.y⟩ with
     | some j =>
      rw [zaj hp] at e
      rw [e]
      simp only [ze0,zaQ]
      exact zBh hL hn (zC hd) hu l1 c1 (zC d1) (zdT hp)
     | none =>
      rw [zbv hp,← List.length_map (f:=dNd)] at e
      rw [e]
      simp only [ze0,zaQ,zdq,List.map_append,List.map_cons,List.map_nil]
      exact zBi hL hn (zC hd) hu l1 c1 (zC d1) (zcH hp)
    | true =>
     have hyk:=zb7 hf hkf (by rw [hn'];exact hy)
     rw [hn'] at hyk
     obtain ⟨i2,d2⟩:=zhn hf hyk.2 (by omega) i1 d1
     have c2:=zBo (T:=T) hf hL (n.y.toNat+1) n.y.toNat n.y s1 (by omega) (by omega) (by omega) i1
     cases h2:fin f (n.y.toNat+1) n.y.toNat s1 with
     | mk r2 s2 =>
     rw [h2] at i2 d2 c2
     simp only at i2 d2 c2
     have l2:s2.out.length≤1000:=Nat.le_trans (zjI i2) hL
     have hu:=zeL (T:=T) hx hy
     have e:=zwP hf hkf hd hn' hx hy h1 h2
     cases hp:s2.out.idxOf? ⟨n.op,n.i,n.e,n.g,(r1:Int),(r2:Int)⟩ with
     | some j =>
      rw [zaj hp] at e
      rw [e]
      simp only [ze0,zaQ]
      exact zBj hL hn (zC hd) hu l1 c1 (zC d1) l2 c2 (zC d2) (zdT hp)
     | none =>
      rw [zbv hp,← List.length_map (f:=dNd)] at e
      rw [e]
      simp only [ze0,zaQ,zdq,List.map_append,List.map_cons,List.map_nil]
      exact zBk hL hn (zC hd) hu l1 c1 (zC d1) l2 c2 (zC d2) (zcH hp)
end Go.Ab
namespace Go.Ab
def uni (m:Hd→Nat) (c:List Nd):Nat:=c.foldl (fun s n=>s|||m n.hd) 0
theorem zx1 (m:Hd→Nat) : ∀ (c:List Nd) (s:Nat) (i:Nat),(c.foldl (fun s n=>s|||m n.hd) s).testBit i=(s.testBit i||c.any fun n=>(m n.hd).testBit i)
 | [],s,i=>by simp
 | n::r,s,i=>by simp only [List.foldl_cons,zx1 m r,Nat.testBit_or,List.any_cons,Bool.or_assoc]
theorem zm1 (m:Hd→Nat) (c:List Nd) (i:Nat):(uni m c).testBit i=c.any fun n=>(m n.hd).testBit i:=by
 unfold uni;rw [zx1];simp
theorem zzC (m:Hd→Nat) {c:List Nd} {k:Nat} {n:Nd} (h:c[k]? = some n):uni m (c.take (k+1))=uni m (c.take k)|||m n.hd:=by
 unfold uni
 rw [List.take_add_one,h]
 simp
theorem zik (m:Hd→Nat) {b:Nat} : ∀ {c:List Nd},uni m c < 2 ^ b ↔ ∀ n∈c,m n.hd < 2 ^ b:=by
 intro c
 constructor
 ·intro h n hn
  refine Nat.lt_pow_two_of_testBit _ fun i hi=>?_
  have h1:=Nat.testBit_lt_two_pow (Nat.lt_of_lt_of_le h (Nat.pow_le_pow_right (by omega) hi))
  rw [zm1] at h1
  exact Bool.eq_false_iff.2 fun h2=>by
   have:(c.any fun n=>(m n.hd).testBit i)=true:=List.any_eq_true.2 ⟨n,hn,h2⟩
   rw [this] at h1;cases h1
 ·intro h
  refine Nat.lt_pow_two_of_testBit _ fun i hi=>?_
  rw [zm1]
  refine List.any_eq_false.2 fun n hn=>?_
  have:=Nat.testBit_lt_two_pow (Nat.lt_of_lt_of_le (h n hn) (Nat.pow_le_pow_right (by omega) hi))
  simp [this]
theorem zym {a b:Nat} (ha:a < 2 ^ 63) (hb:b < 2 ^ 63):za6 .i64 (fun p q=>p&&&q) (a:Int) (b:Int)=((a&&&b:Nat):Int):=by
 unfold za6
 rw [BitVec.toNat_and,zj4 (k := .i64) (by simp [IntKind.bits];omega),zj4 (k := .i64) (by simp [IntKind.bits];omega)]
 exact zoM (Nat.and_lt_two_pow _ hb)
theorem znv {a b:Nat} (ha:a < 2 ^ 63) (hb:b < 2 ^ 63):za6 .i64 (fun p q=>p &&& ~~~q) (a:Int) (b:Int)=0 ↔ ∀ i,a.testBit i=true→b.testBit i=true:=by
 unfold za6
 have h64 : ∀ {a:Nat},a < 2 ^ 63→a < 2 ^ 64:=fun h=>by omega
 have e:(BitVec.ofInt IntKind.i64.bits (a:Int) &&& ~~~BitVec.ofInt IntKind.i64.bits (b:Int)).toNat < 2 ^ 63:=by
  rw [BitVec.toNat_and,zj4 (k := .i64) (h64 ha)]
  exact Nat.lt_of_le_of_lt Nat.and_le_left ha
 rw [zoM e]
 have e2:(((BitVec.ofInt IntKind.i64.bits (a:Int) &&& ~~~BitVec.ofInt IntKind.i64.bits (b:Int)).toNat:Nat):Int)=0↔(BitVec.ofInt IntKind.i64.bits (a:Int) &&& ~~~BitVec.ofInt IntKind.i64.bits (b:Int))=0#_:=by
  constructor
  ·intro h;exact BitVec.eq_of_toNat_eq (by simpa using (show (BitVec.ofInt IntKind.i64.bits (a:Int) &&& ~~~BitVec.ofInt IntKind.i64.bits (b:Int)).toNat=0 by omega))
  ·intro h;rw [h];simp
 rw [e2]
 have bit : ∀ {c:Nat},c < 2 ^ 63 → ∀ i,(BitVec.ofInt IntKind.i64.bits (c:Int)).getLsbD i=c.testBit i:=fun {c} hc i=>by
  rw [← BitVec.testBit_toNat,zj4 (k := .i64) (h64 hc)]
 constructor
 ·intro h i hi
  have h2:=congrArg (fun x=>x.getLsbD i) h
  have hlt:i < 64:=by
   refine Nat.lt_of_not_le fun hle=>?_
   have:=Nat.testBit_lt_two_pow (Nat.lt_of_lt_of_le (h64 ha) (Nat.pow_le_pow_right (by omega) hle))
   rw [this] at hi;cases hi
  simp only [BitVec.getLsbD_and,BitVec.getLsbD_not,bit ha,bit hb,hi,Bool.true_and,BitVec.getLsbD_zero] at h2
  have:decide (i < IntKind.i64.bits)=true:=decide_eq_true hlt
  rw [this] at h2
  simpa using h2
 ·intro h
  apply BitVec.eq_of_getLsbD_eq
  intro i hi
  simp only [BitVec.getLsbD_and,BitVec.getLsbD_not,bit ha,bit hb,BitVec.getLsbD_zero]
  cases ha':a.testBit i with
  | false=>simp
  | true=>simp [h i ha']
theorem zvg {a n:Nat} : (a:Int).fdiv (2 ^ n)=((a >>> n:Nat):Int):=by
 have e:((2:Int) ^ n)=((2 ^ n:Nat):Int):=by simp
 rw [e,Nat.shiftRight_eq_div_pow,Int.fdiv_eq_ediv_of_nonneg _ (Int.natCast_nonneg _)];rfl
def zbJ (h:Hd):Nat:=(zaR h.op).toNat
def zd9 (h:Hd):Nat:=if zae h.op=true then 2 ^ h.i.toNat else 0
def zb5 (h:Hd):Nat:=if zP h.op=true then 2 ^ h.i.toNat else h.g.toNat
theorem zvY (h:Hd):((zbJ h:Nat):Int)=zaR h.op:=by
 unfold zbJ zaR
 repeat' split
 all_goals rfl
theorem zoi (h:Hd):zbJ h < 2 ^ 9:=by
 unfold zbJ zaR
 repeat' split
 all_goals decide
theorem zyy {h:Hd} (hh:zi3 h):zd9 h < 2 ^ 8:=by
 unfold zd9
 split
 ·rename_i h1
  have:=hh.fact h1
  exact Nat.pow_lt_pow_right (by omega) (by omega)
 ·decide
theorem zwv {h:Hd} (hh:zi3 h):zb5 h < 2 ^ 4:=by
 unfold zb5
 split
 ·rename_i h1
  have:=hh.agent h1
  exact Nat.pow_lt_pow_right (by omega) (by omega)
 ·cases hg:zR h.op with
  | true=>have:=hh.group hg;omega
  | false=>have:=hh.g0 hg;omega
end Go.Ab
namespace Go.Ab
open Go Go.Proofs
set_option maxRecDepth 10000
set_option maxHeartbeats 4000000
variable {T:Nat→Obj→Prop}
theorem zpr {f:List Nd} (hf:zaf f) (hL:f.length≤1000) {k:Nat} {i:Int} (hi:i=k) (hk:k < f.length):Fn Tryd.prog T zhc [.d (dF f),.d (.int .i64 i)] [] (.d (dF (zbo f k))) []:=by
 have c:=zAb (T:=T) hf hL (k+1) k i (by omega) hi hk
 refine zb zk znl (by show 2≤16;decide) ?_
 (repeat' ((conv=>whnf);refine vT ?_));all_goals try conv=>whnf
 refine zo.objs [5,0,6,3,1,4,2] (c) (by (repeat' first|exact rfl|refine And.intro ?_ ?_|refine ⟨_,rfl,?_⟩)) (by (repeat' first|exact rfl|refine And.intro ?_ ?_|refine ⟨_,rfl,?_⟩)) (by rfl) (by rfl) (by simp) ?_
 (repeat' ((conv=>whnf);refine vT ?_));all_goals try conv=>whnf
 rfl
def zmA (f:List Nd) (i:Int):List Nd:=if zbq f≠0∨i < 0∨(f.length:Int)≤i then [] else zbo f i.toNat
def cL (f:List Nd):List Nd:=if zbq f≠0 then [] else zbo f (f.length - 1)
theorem zBE (f:List Nd):zmA f ((f.length:Int) - 1)=cL f:=by
 unfold zmA cL
 by_cases h:zbq f=0
 ·have:=(zds.1 h).1
  rw [if_neg (by omega),if_neg (by omega)]
  congr 1
  omega
 ·rw [if_pos (.inl h),if_pos h]
theorem zBm (f:List Nd) (i:Int):Fn Tryd.prog T zk7 [.d (dF f),.d (.int .i64 i)] [] (.d (dF (zmA f i))) []:=by
 refine zb zk zr1 (by show 2≤21;decide) ?_
 (repeat' ((conv=>whnf);first|refine vA ?_|((first|refine vD ?_ ?_|refine vF ?_ ?_)<;>intro hc<;>try simp only [vL] at hc)|refine vJ fun hg=>?_|refine vT ?_|refine yD (zgR _) ⟨⟨rfl,rfl⟩,rfl⟩ rfl ?_));all_goals try conv=>whnf
 ·have hp:zmA f i=[]:=if_pos (.inl ‹_›)
  rw [hp];rfl
 ·have hp:zmA f i=[]:=if_pos (.inr (.inl ‹_›))
  rw [hp];rfl
 ·have hp:zmA f i=[]:=if_pos (.inr (.inr (by omega)))
  rw [hp];rfl
 ·have h0:zbq f=0:=by omega
  have h1:=zds.1 h0
  have hp:zmA f i=zbo f i.toNat:=if_neg (by omega)
  rw [hp]
  have cS:=zpr (T:=T) (f:=f) h1.2.2 (by omega) (k:=i.toNat) (i:=i) (by omega) (by omega)
  (repeat' ((conv=>whnf);first|refine vT ?_|refine yN cS ⟨⟨rfl,rfl⟩,⟨rfl,rfl⟩,rfl⟩ ?_));all_goals try conv=>whnf
  rfl
theorem zgD (f:List Nd):Fn Tryd.prog T zhb [.d (dF f)] [] (.d (dF (cL f))) []:=by
 refine zb zk znj (by show 1≤8;decide) ?_
 (repeat' ((conv=>whnf);first|refine vJ fun hg=>?_|refine vT ?_|(refine vO ?_ ?_;·(simp only [vM] at *;omega))|fail));all_goals try conv=>whnf
 have cC:=zBm (T:=T) f (((f.map dNd).length:Int) - 1)
 rw [show zmA f (((f.map dNd).length:Int) - 1)=cL f by rw [List.length_map,zBE]] at cC
 (repeat' ((conv=>whnf);first|refine vT ?_|refine yN cC ⟨⟨rfl,rfl⟩,⟨rfl,rfl⟩,rfl⟩ ?_));all_goals try conv=>whnf
 rfl
theorem zhS {f:List Nd} (h:zbq f=0):zr8 (zt f (f.length - 1)) (cL f)∧(cL f).length≤f.length:=by
 obtain ⟨h1,h2,h3⟩:=zds.1 h
 unfold cL
 rw [if_neg (by omega)]
 exact ⟨zjr h3 (by omega),(zi7 h3 (by omega)).2.1⟩
theorem zwF {f:List Nd} (h:zbq f≠0):cL f=[]:=if_pos h
theorem zsG (f:List Nd):(cL f).length≤200:=by
 by_cases h:zbq f=0
 ·have:=(zhS h).2
  have:=(zds.1 h).2.1
  omega
 ·rw [zwF h];simp
theorem zuT (f:List Nd):zaf (cL f):=by
 by_cases h:zbq f=0
 ·exact (zhS h).1.ok
 ·rw [zwF h];exact zcr
theorem zmK {f:List Nd} {n:Nd} (h:n∈cL f):zi3 n.hd:=by
 obtain ⟨i,hi⟩:=List.getElem?_of_mem h
 exact (zaG.1 (zuT f i n hi)).1
theorem zBI (m:Hd→Nat) {b:Nat} (f:List Nd) (h : ∀ n∈cL f,m n.hd < 2 ^ b) (k:Nat):uni m ((cL f).take k) < 2 ^ b :=
 (zik m).2 fun n hn=>h n (List.mem_of_mem_take hn)
theorem zoh (f:List Nd) (g:Nat) (m:Hd→Nat) (hm : ∀ n,n∈cL f→m n.hd < 2 ^ 31∧Fn Tryd.prog T g [.d (dNd n),.d (zn7 n.op)] [] (.d (.int .i64 (m n.hd:Int))) []) :
  Fn Tryd.prog T ziG [.d (dF f),.d (.fn g [])] [] (.d (.int .i64 (uni m (cL f):Int))) []:=by
 have hlen:=zsG f
 refine zb zk zpJ (by show 2≤31;decide) ?_
 (repeat' ((conv=>whnf);first|refine vA ?_|refine vJ fun hg=>?_|refine vT ?_|refine yN (zgD _) ⟨⟨rfl,rfl⟩,rfl⟩ ?_));all_goals try conv=>whnf
 refine zar (fun ((k,x):Nat×Int)=>[(1,.d (.fn g [])),(11,.d (dF (cL f))),(12,.d (.int .i64 (((cL f).map dNd).length:Int))),(5,.d (.int .i64 (x))),(13,.d (.int .i64 ((k:Int))))]) (fun ((k,x):Nat×Int)=>k≤(cL f).length∧x=(uni m ((cL f).take k):Nat)) (fun ((k,x):Nat×Int)=>(cL f).length - k) ((0,0)) (⟨by simp,rfl⟩) (by (repeat' first|exact trivial|exact rfl|refine And.intro ?_ ?_)) ?_
 rintro ⟨k,x⟩ ⟨hk,hI⟩
 subst hI
 (repeat' ((conv=>whnf);first|refine vA ?_|(refine vF ?_ ?_<;>intro hc<;>try simp only [vL] at hc)|refine vT ?_|(refine vQ ?_ fun x hx=>?_;·omega)|refine vX ?_|refine yN (zqC _) ⟨⟨rfl,rfl⟩,rfl⟩ ?_));all_goals try conv=>whnf
 ·obtain ⟨h1,h2⟩:=hm _ (List.mem_of_getElem? hx)
  (repeat' ((conv=>whnf);first|refine vT ?_|(refine vO ?_ ?_;·omega)|refine yD h2 (by (repeat refine ⟨⟨rfl,rfl⟩,?_⟩);rfl) rfl ?_));all_goals try conv=>whnf
  refine ⟨(k+1,_),[],[],?_,?_,by (refine ⟨rfl,rfl,rfl,?_,?_⟩;repeat' first|exact trivial|exact rfl|refine And.intro ?_ ?_)⟩
  ·exact ⟨by (omega),by rw [zzC m hx];exact zqh (Nat.lt_trans (zBI m f (fun n hn=>(hm n hn).1) k) (by decide)) (Nat.lt_trans h1 (by decide))⟩
  ·((simp only [vM] at *;omega))
 ·rw [show k=(cL f).length by omega,List.take_length]
theorem zs7 (f:List Nd):Fn Tryd.prog T ziE [.d (dF f)] [] (.d (.int .i64 (uni zbJ (cL f):Int))) []:=by
 have cU:=zoh (T:=T) f zeT zbJ (fun n hn=>⟨Nat.lt_trans (zoi n.hd) (by decide),by
  refine zb zk znk (by show 2≤7;decide) ?_
  (repeat' ((conv=>whnf);first|refine vT ?_|refine vX ?_));all_goals try conv=>whnf
  exact (zvY n.hd).symm⟩)
 refine zb zk zpH (by show 1≤5;decide) ?_
 (repeat' ((conv=>whnf);first|refine vT ?_|refine vX ?_|refine yD cU ⟨⟨rfl,rfl⟩,⟨rfl,rfl⟩,rfl⟩ rfl ?_));all_goals try conv=>whnf
 all_goals skip
theorem zyB (f:List Nd):Fn Tryd.prog T ziD [.d (dF f)] [] (.d (.int .i64 (uni zd9 (cL f):Int))) []:=by
 have cU:=zoh (T:=T) f zeS zd9 (fun n hn=>⟨Nat.lt_trans (zyy (zmK hn)) (by decide),by
  have hh:=zmK hn
  cases hf:zae n.op with
  | true =>
   obtain ⟨h0,h7⟩:0≤n.i∧n.i≤7:=hh.fact hf
   obtain ⟨h1,h2⟩:=zrE h0 h7
   have e:((zd9 n.hd:Nat):Int)=1 * 2 ^ min n.i.toNat IntKind.i64.bits:=by rw [zd9,if_pos (by exact hf)];exact h2
   rw [e,zn7,hf]
   refine zb zk zhi (by show 2≤10;decide) ?_
   (repeat' ((conv=>whnf);first|refine vA ?_|refine vG ?_|refine vT ?_|((first|refine vO ?_ ?_|refine vP ?_ ?_);·omega)|refine vX ?_));all_goals try conv=>whnf
  | false =>
   have e:zd9 n.hd=0:=by rw [zd9,if_neg (by simp [Nd.hd,hf])]
   rw [e,zn7,hf]
   refine zb zk zhi (by show 2≤10;decide) ?_
   (repeat' ((conv=>whnf);first|refine vA ?_|refine vH ?_|refine vT ?_|refine vX ?_));all_goals try conv=>whnf
   rfl⟩)
 refine zb zk zpG (by show 1≤5;decide) ?_
 (repeat' ((conv=>whnf);first|refine vT ?_|refine vX ?_|refine yD cU ⟨⟨rfl,rfl⟩,⟨rfl,rfl⟩,rfl⟩ rfl ?_));all_goals try conv=>whnf
theorem zwR (f:List Nd):Fn Tryd.prog T zh1 [.d (dF f)] [] (.d (.int .i64 (uni zb5 (cL f):Int))) []:=by
 have cU:=zoh (T:=T) f zep zb5 (fun n hn=>⟨Nat.lt_trans (zwv (zmK hn)) (by decide),by
  have hh:=zmK hn
  cases hf:zP n.op with
  | true =>
   obtain ⟨h0,h7⟩:0≤n.i∧n.i≤3:=hh.agent hf
   obtain ⟨h1,h2⟩:=zrE h0 (by omega)
   have e:((zb5 n.hd:Nat):Int)=1 * 2 ^ min n.i.toNat IntKind.i64.bits:=by rw [zb5,if_pos (by exact hf)];exact h2
   rw [e,zn7,hf]
   refine zb zk zgS (by show 2≤12;decide) ?_
   (repeat' ((conv=>whnf);first|refine vA ?_|refine vG ?_|refine vT ?_|((first|refine vO ?_ ?_|refine vP ?_ ?_);·omega)|refine vX ?_));all_goals try conv=>whnf
  | false =>
   have h0:0≤n.g:=by
    cases hg:zR n.op with
    | true=>have:1≤n.g∧n.g≤15:=hh.group hg;omega
    | false=>have:n.g=0:=hh.g0 hg;omega
   have e:((zb5 n.hd:Nat):Int)=n.g:=by rw [zb5,if_neg (by simp [Nd.hd,hf])];exact Int.toNat_of_nonneg h0
   rw [e,zn7,hf]
   refine zb zk zgS (by show 2≤12;decide) ?_
   (repeat' ((conv=>whnf);first|refine vA ?_|refine vH ?_|refine vT ?_|refine vX ?_));all_goals try conv=>whnf⟩)
 refine zb zk zop (by show 1≤5;decide) ?_
 (repeat' ((conv=>whnf);first|refine vT ?_|refine vX ?_|refine yD cU ⟨⟨rfl,rfl⟩,⟨rfl,rfl⟩,rfl⟩ rfl ?_));all_goals try conv=>whnf
def zfK (m:Nat) (n:Int):Bool:=decide (31≤n∨m < 2 ^ n.toNat)
theorem zyE (m:Nat) (n:Int):Fn Tryd.prog T zff [.d (.int .i64 (m:Int)),.d (.int .i64 n)] [] (.d (.bool (zfK m n))) []:=by
 refine zb zk zoq (by show 2≤14;decide) ?_
 (repeat' ((conv=>whnf);first|refine vA ?_|(refine vF ?_ ?_<;>intro hc<;>try simp only [vL] at hc)|refine vT ?_|(refine vP ?_ ?_;·omega)|refine vZ ?_));all_goals try conv=>whnf
 ·simp [zfK, *]
 ·show decide ((m:Int).fdiv (2 ^ min (max n 0).toNat IntKind.i64.bits)=0)=_
  have e1:(max n 0).toNat=n.toNat:=by omega
  have e2:min n.toNat IntKind.i64.bits=n.toNat:=Nat.min_eq_left (show n.toNat≤64 by omega)
  rw [e1,e2,zvg,zfK,Nat.shiftRight_eq_div_pow]
  refine decide_eq_decide.2 ⟨fun h => .inr ?_,fun h=>?_⟩
  ·have h0:m / 2 ^ n.toNat=0:=by omega
   exact (Nat.div_eq_zero_iff.1 h0).resolve_left (by have:=Nat.two_pow_pos n.toNat;omega)
  ·have h0:m / 2 ^ n.toNat=0:=Nat.div_eq_zero_iff.2 (.inr (h.resolve_left (by omega)))
   rw [h0];rfl
def zea (f:List Nd) (agents facts:Int):Bool:=decide (zbq f=0)&&zfK (uni zb5 (cL f)) agents&&zfK (uni zd9 (cL f)) facts
theorem zuZ (f:List Nd) (agents facts:Int):Fn Tryd.prog T zjA [.d (dF f),.d (.int .i64 agents),.d (.int .i64 facts)] [] (.d (.bool (zea f agents facts))) []:=by
 refine zb zk zqG (by show 3≤25;decide) ?_
 (repeat' ((conv=>whnf);first|refine vA ?_|(refine vF ?_ ?_<;>intro hc)|refine vT ?_|refine vZ ?_|refine yD (zgR _) ⟨⟨rfl,rfl⟩,rfl⟩ rfl ?_|refine yD (zwR _) ⟨⟨rfl,rfl⟩,rfl⟩ rfl ?_|refine yD (zyB _) ⟨⟨rfl,rfl⟩,rfl⟩ rfl ?_|refine yD (zyE _ _) ⟨⟨rfl,rfl⟩,⟨rfl,rfl⟩,rfl⟩ rfl ?_));all_goals try conv=>whnf
 ·simp_all [zea,zfK]
 ·have:zfK (uni zb5 (cL f)) agents=false:=decide_eq_false ‹_›
  simp [zea,this]
 ·simp_all [zea]
end Go.Ab
namespace Go.Ab
open Go Go.Proofs
set_option maxRecDepth 10000
set_option maxHeartbeats 4000000
variable {T:Nat→Obj→Prop}
def zCm (op:BitVec 64→BitVec 64→BitVec 64) (n:Nat):Option (List (BitVec 64))→List (BitVec 64)→Option (List (BitVec 64))
 | none,r=>some r
 | some a,r=>some ((List.range n).map fun w=>op (a.getD w 0#64) (r.getD w 0#64))
def zaA (op:BitVec 64→BitVec 64→BitVec 64) (m:KM) (g:Nat):Nat→Option (List (BitVec 64))
 | 0=>none
 | k+1=>if g.testBit k=true then zCm op m.W.toNat (zaA op m g k) (m.rel.getD k []) else zaA op m g k
def zCn:Option (List (BitVec 64))→V
 | none => .nils 1
 | some _ => .own 0
def zCl:Option (List (BitVec 64))→List D
 | none=>[]
 | some r=>r.map D.u64
theorem zsj {g k:Nat} (hg:g < 2 ^ 63) (hk:k≤64):za6 .i64 (fun p q=>p&&&q) ((g:Int).fdiv (2 ^ (min ((k:Nat):Int).toNat IntKind.i64.bits))) 1=0↔g.testBit k=false:=by
 have e1:min ((k:Nat):Int).toNat IntKind.i64.bits=k:=Nat.min_eq_left (show k≤64 from hk)
 have h1:g >>> k < 2 ^ 63:=Nat.lt_of_le_of_lt (by rw [Nat.shiftRight_eq_div_pow];exact Nat.div_le_self _ _) hg
 rw [e1,zvg,show (1:Int)=((1:Nat):Int) from rfl,zym h1 (by decide)]
 rw [Nat.testBit,Nat.and_one_is_mod,Nat.one_and_eq_mod_two,bne_eq_false_iff_eq]
 omega
theorem zmP {op:BitVec 64→BitVec 64→BitVec 64} {m:KM} (hg:zd5 m) {g:Nat} : ∀ {k:Nat} {r:List (BitVec 64)},k≤m.rel.length→zaA op m g k=some r→r.length=m.W.toNat
 | 0,_,_,h=>by cases h
 | k+1,r,hk,h=>by
  rw [zaA] at h
  split at h
  ·cases hz:zaA op m g k with
   | none =>
    rw [hz] at h
    have e:m.rel.getD k []=r:=Option.some.inj h
    have:=hg.len r (by rw [← e,List.getD,List.getElem?_eq_getElem (by omega)];exact List.getElem_mem _)
    omega
   | some a =>
    rw [hz] at h
    have e:=Option.some.inj h
    rw [← e];simp
  ·exact zmP hg (by omega) h
theorem zrl {m:KM} (hk0:zi m=0) {f:Nat} {op:BitVec 64→BitVec 64→BitVec 64} (hop : ∀ x y,Fn Tryd.prog T f [.d (.u64 x),.d (.u64 y)] [] (.d (.u64 (op x y))) []) {g:Nat} (hg1:1≤g) (hg2:(g:Int) < 2 ^ m.rel.length):Fn Tryd.prog T zjD [.d (dKM m),.d (.int .i64 (g:Int)),.d (.fn f [])] [] (.d (dU ((zaA op m g m.rel.length).getD []))) []:=by
 have gm:=zw hk0
 have w1:=gm.w1
 have w2:=gm.w2
 have n4:=gm.n4
 have ck:=zbU (T:=T) m
 rw [hk0] at ck
 refine zb zk zqJ (by show 3≤64;decide) ?_
 have hg63:g < 2 ^ 63:=by
  have h4:(2:Nat) ^ m.rel.length≤2 ^ 4:=Nat.pow_le_pow_right (by decide) n4
  have h6:(2:Nat) ^ 63=9223372036854775808:=by decide
  have h7:((2 ^ m.rel.length:Nat):Int)=(2:Int) ^ m.rel.length:=by simp
  omega
 have hpw : ∀ k:Nat,k≤4→inR .i64 (1 * 2 ^ min ((k:Nat):Int).toNat IntKind.i64.bits:Int)∧(1 * 2 ^ min ((k:Nat):Int).toNat IntKind.i64.bits:Int)=2 ^ k:=fun k hk=>by
  match k,hk with
  | 0,_=>exact ⟨by decide,by decide⟩
  | 1,_=>exact ⟨by decide,by decide⟩
  | 2,_=>exact ⟨by decide,by decide⟩
  | 3,_=>exact ⟨by decide,by decide⟩
  | 4,_=>exact ⟨by decide,by decide⟩
 (repeat' ((conv=>whnf);first|refine vA ?_|refine vH ?_|(refine vF ?_ ?_<;>intro hc<;>try simp only [vL] at hc)|refine vJ fun hg=>?_|refine vT ?_|((first|refine vO ?_ ?_|refine vP ?_ ?_);·omega)|refine yD ck ⟨⟨rfl,rfl⟩,rfl⟩ rfl ?_));all_goals try conv=>whnf
 ·exfalso;omega
 ·have hp1:=hpw (m.rel.map dU).length (by rw [List.length_map];exact n4)
  have hp2:=hp1.2
  rw [List.length_map] at hp2
  refine zfb.fit hp1.1 ?_
  (repeat' ((conv=>whnf);first|refine vA ?_|(refine vF ?_ ?_<;>intro hc<;>try simp only [vL] at hc)|refine vJ fun hg=>?_|refine vT ?_));all_goals try conv=>whnf
  ·exfalso;rw [hp2] at hc;omega
  refine zy (fun ((k,z):Nat×Option (List (BitVec 64)))=>[(1,.d (.int .i64 ((g:Int)))),(2,.d (.fn f [])),(7,zCn z),(27,.d (dUU m.rel)),(28,.d (.int .i64 ((m.rel.map dU).length:Int))),(29,.d (.int .i64 ((k:Int))))]) (fun ((k,z):Nat×Option (List (BitVec 64)))=>[(0,some (.row 1 (zCl z)))]) 1 (fun ((k,z):Nat×Option (List (BitVec 64)))=>k≤m.rel.length∧z=zaA op m g k) (fun ((k,z):Nat×Option (List (BitVec 64)))=>m.rel.length - k) ((0,none)) []   [0] (⟨by omega,rfl⟩) (by (refine ⟨rfl,rfl,rfl,?_,?_⟩;repeat' first|exact trivial|exact rfl|exact ⟨_,rfl⟩|refine And.intro ?_ ?_|decide)) ?_
  rintro ⟨k,z⟩ ⟨hk,hz⟩
  by_cases hkl:k < m.rel.length
  ·cases z with
   | none =>
    (repeat' ((conv=>whnf);first|refine vA ?_|(refine vF ?_ ?_<;>intro hc<;>try simp only [vL] at hc)|refine vT ?_|(refine vQ ?_ fun x hx=>?_;·omega)|((first|refine vO ?_ ?_|refine vP ?_ ?_);·omega)|fail));all_goals try conv=>whnf
    ·have hb0:=(zsj hg63 (by omega)).1 hc
     refine ⟨(k+1,none),[] ,  [0],?_,?_,by (refine ⟨rfl,rfl,rfl,?_,?_⟩;repeat' first|exact trivial|exact rfl|exact ⟨_,rfl⟩|refine And.intro ?_ ?_|decide)⟩
     ·exact ⟨by (omega),by rw [zaA,if_neg (by rw [hb0];decide),hz]⟩
     ·((simp only [vM] at *;omega))
    ·have hb0:=mt (zsj (k:=k) hg63 (by omega)).2 ‹¬_›
     have hxl:=gm.len _ (List.mem_of_getElem? hx)
     refine zo.res (zwU x (fun e=>by subst e;simp at hxl;omega) (by omega)) (by (repeat refine ⟨⟨rfl,rfl⟩,?_⟩);rfl) ?_
     (repeat' ((conv=>whnf);first|refine vT ?_|(refine vO ?_ ?_;·omega)|fail));all_goals try conv=>whnf
     refine ⟨(k+1,some x),[(0,1)],[],?_,?_,by (refine ⟨rfl,rfl,rfl,?_,?_⟩;repeat' first|exact trivial|exact rfl|refine And.intro ?_ ?_|refine ⟨_,rfl,?_⟩|decide)⟩
     ·refine ⟨by (omega),?_⟩
      have hxk:m.rel.getD k []=x:=by simp [List.getD,hx]
      rw [zaA,if_pos (by simpa using hb0),← hz,hxk];rfl
     ·((simp only [vM] at *;omega))
    ·exfalso;omega
   | some a =>
    have hal:=zmP gm hk hz.symm
    (repeat' ((conv=>whnf);first|refine vA ?_|refine vB fun b hb=>?_|refine vE ?_|(refine vF ?_ ?_<;>intro hc<;>try simp only [vL] at hc)|refine vJ fun hg=>?_|refine vT ?_|(refine vQ ?_ fun x hx=>?_;·omega)|((first|refine vO ?_ ?_|refine vP ?_ ?_);·omega)|fail));all_goals try conv=>whnf
    ·have hb0:=(zsj hg63 (by omega)).1 hc
     refine ⟨(k+1,some a),[(0,0)],[],?_,?_,by (refine ⟨rfl,rfl,rfl,?_,?_⟩;repeat' first|exact trivial|exact rfl|refine And.intro ?_ ?_|refine ⟨_,rfl,?_⟩|decide)⟩
     ·exact ⟨by (omega),by rw [zaA,if_neg (by rw [hb0];decide),hz]⟩
     ·((simp only [vM] at *;omega))
    ·have hb0:=mt (zsj (k:=k) hg63 (by omega)).2 ‹¬_›
     have hxl:=gm.len _ (List.mem_of_getElem? hx)
     have hxk:m.rel.getD k []=x:=by simp [List.getD,hx]
     refine zy (fun ((j,zs):Nat×List D)=>[(1,.d (.int .i64 ((g:Int)))),(2,.d (.fn f [])),(7,.own 0),(9,.d (dU x)),(27,.d (dUU m.rel)),(28,.d (.int .i64 ((m.rel.map dU).length:Int))),(29,.d (.int .i64 ((k:Int)))),(44,.d (.int .i64 (((a.map D.u64).length:Int)))),(45,.d (.int .i64 ((j:Int))))]) (fun ((j,zs):Nat×List D)=>[(0,some (.row 1 zs))]) 1 (fun ((j,zs):Nat×List D)=>j≤m.W.toNat∧zs=(List.range m.W.toNat).map fun w=>D.u64 (if w < j then op (a.getD w 0#64) (x.getD w 0#64) else a.getD w 0#64)) (fun ((j,zs):Nat×List D)=>m.W.toNat - j) ((0,a.map D.u64)) [(0,0)] [] (⟨by omega,by
      refine List.ext_getElem (by simp [hal]) fun i h1 h2=>?_
      have:i < a.length:=by simpa using h1
      simp [List.getD,this]⟩) (by (refine ⟨rfl,rfl,rfl,?_,?_⟩;repeat' first|exact trivial|exact rfl|refine And.intro ?_ ?_|refine ⟨_,rfl,?_⟩|decide)) ?_
     rintro ⟨j,zs⟩ ⟨hj,hzs⟩
     by_cases hjl:j < m.W.toNat
     ·subst hzs
      (repeat' ((conv=>whnf);first|refine vA ?_|(refine vF ?_ ?_<;>intro hc<;>try simp only [vL] at hc)|refine vT ?_|(refine vQ ?_ fun x hx=>?_;·first|omega|(simp only [vM] at *;omega))|((first|refine vO ?_ ?_|refine vP ?_ ?_);·first|omega|(simp only [vM] at *;omega))|(refine vU ?_ ?_;·kernel_rfl)|refine yD (hop _ _) (by (repeat refine ⟨⟨rfl,rfl⟩,?_⟩);rfl) rfl ?_));all_goals try conv=>whnf
      ·rename_i xn hxn
       rw [Int.toNat_natCast] at hxn
       have hxe:=zw7 hxn
       subst hxe
       have hxj:(m.rel.getD k []).getD xn 0#64=x:=by rw [hxk];simp [List.getD,hx]
       refine ⟨(xn+1,_),[(0,0)],[],?_,?_,by (refine ⟨rfl,rfl,rfl,?_,?_⟩;repeat' first|exact trivial|exact rfl|refine And.intro ?_ ?_|refine ⟨_,rfl,?_⟩|decide)⟩
       ·refine ⟨by (omega),(zgU _).trans (zaJ fun u hu=>?_)⟩
        rw [Int.toNat_natCast,if_neg (Nat.lt_irrefl _)]
        by_cases e:u=xn
        ·subst e
         rw [if_pos rfl,if_pos (by omega)]
         rw [hxk] at hxj
         rw [hxj]
        ·rw [if_neg e]
         by_cases e2:u < xn
         ·rw [if_pos e2,if_pos (by omega)]
         ·rw [if_neg e2,if_neg (by omega)]
       ·((simp only [vM] at *;omega))
      ·exfalso;omega
     ·obtain rfl:j=m.W.toNat:=by omega
      obtain rfl:zs=((List.range m.W.toNat).map fun w=>op (a.getD w 0#64) (x.getD w 0#64)).map D.u64:=by
       rw [hzs,List.map_map]
       exact zaJ fun u hu=>by rw [if_pos hu];rfl
      clear hzs
      (repeat' ((conv=>whnf);first|refine vA ?_|(refine vF ?_ ?_<;>intro hc<;>try simp only [vL] at hc)|refine vT ?_|(refine vQ ?_ fun x hx=>?_;·omega)|((first|refine vO ?_ ?_|refine vP ?_ ?_);·omega)|fail));all_goals try conv=>whnf
      ·exfalso;omega
      ·refine ⟨(k+1,some ((List.range m.W.toNat).map fun w=>op (a.getD w 0#64) (x.getD w 0#64))),[(0,0)],[],?_,?_,by (refine ⟨rfl,rfl,rfl,?_,?_⟩;repeat' first|exact trivial|exact rfl|refine And.intro ?_ ?_|refine ⟨_,rfl,?_⟩|decide)⟩
       ·refine ⟨by (omega),?_⟩
        rw [zaA,if_pos (by simpa using hb0),← hz,hxk];rfl
       ·((simp only [vM] at *;omega))
    ·exfalso
     have hnil:a.map D.u64=[]:=hb (by simpa using hc)
     rw [List.map_eq_nil_iff] at hnil
     rw [hnil] at hal
     simp at hal;omega
    ·exfalso;omega
  ·obtain rfl:k=m.rel.length:=by omega
   cases z with
   | none =>
    (repeat' ((conv=>whnf);first|refine vA ?_|(refine vF ?_ ?_<;>intro hc<;>try simp only [vL] at hc)|refine vT ?_|(refine vQ ?_ fun x hx=>?_;·omega)|((first|refine vO ?_ ?_|refine vP ?_ ?_);·omega)|fail));all_goals try conv=>whnf
    all_goals first|(exfalso;omega)|skip
    rw [← hz];rfl
   | some a =>
    (repeat' ((conv=>whnf);first|refine vA ?_|refine vB fun b hb=>?_|refine vE ?_|(refine vF ?_ ?_<;>intro hc<;>try simp only [vL] at hc)|refine vJ fun hg=>?_|refine vT ?_|(refine vQ ?_ fun x hx=>?_;·omega)|((first|refine vO ?_ ?_|refine vP ?_ ?_);·omega)|fail));all_goals try conv=>whnf
    all_goals first|(exfalso;omega)|skip
    rw [← hz];rfl
theorem zl1 {m:KM} (hk0:zi m=0) {g:Nat} (hg1:1≤g) (hg2:(g:Int) < 2 ^ m.rel.length):Fn Tryd.prog T zk8 [.d (dKM m),.d (.int .i64 (g:Int))] [] (.d (dU ((zaA (fun x y=>x|||y) m g m.rel.length).getD []))) []:=by
 have h1 : ∀ x y,Fn Tryd.prog T zfU [.d (.u64 x),.d (.u64 y)] [] (.d (.u64 (x|||y))) []:=fun x y=>by
  refine zb zk zpO (by show 2≤8;decide) ?_
  (repeat' ((conv=>whnf);first|refine vT ?_|refine vY ?_));all_goals try conv=>whnf
 have c1:=zrl (T:=T) hk0 h1 hg1 hg2
 refine zb zk zr4 (by show 2≤8;decide) ?_
 (repeat' ((conv=>whnf);first|refine vT ?_|refine yN c1 ⟨⟨rfl,rfl⟩,⟨rfl,rfl⟩,⟨rfl,rfl⟩,rfl⟩ ?_));all_goals try conv=>whnf
 rfl
theorem ztg {m:KM} (hk0:zi m=0) {g:Nat} (hg1:1≤g) (hg2:(g:Int) < 2 ^ m.rel.length):Fn Tryd.prog T zlU [.d (dKM m),.d (.int .i64 (g:Int))] [] (.d (dU ((zaA (fun x y=>x&&&y) m g m.rel.length).getD []))) []:=by
 have h1 : ∀ x y,Fn Tryd.prog T zgk [.d (.u64 x),.d (.u64 y)] [] (.d (.u64 (x&&&y))) []:=fun x y=>by
  refine zb zk zqI (by show 2≤8;decide) ?_
  (repeat' ((conv=>whnf);first|refine vT ?_|refine vY ?_));all_goals try conv=>whnf
 have c1:=zrl (T:=T) hk0 h1 hg1 hg2
 refine zb zk ztq (by show 2≤8;decide) ?_
 (repeat' ((conv=>whnf);first|refine vT ?_|refine yN c1 ⟨⟨rfl,rfl⟩,⟨rfl,rfl⟩,⟨rfl,rfl⟩,rfl⟩ ?_));all_goals try conv=>whnf
 rfl
end Go.Ab
namespace Go.Ab
open Go Go.Proofs
set_option maxRecDepth 10000
set_option maxHeartbeats 4000000
variable {T:Nat→Obj→Prop}
theorem zkG {op:BitVec 64→BitVec 64→BitVec 64} {m:KM} {g:Nat} : ∀ {k:Nat},(∃ i,i < k∧g.testBit i=true) → ∃ r,zaA op m g k=some r
 | 0,⟨i,hi,_⟩=>absurd hi (by omega)
 | k+1,⟨i,hi,hb⟩=>by
  rw [zaA]
  by_cases h:g.testBit k=true
  ·rw [if_pos h]
   cases zaA op m g k with
   | none=>exact ⟨_,rfl⟩
   | some a=>exact ⟨_,rfl⟩
  ·rw [if_neg h]
   exact zkG ⟨i,by
    rcases Nat.lt_or_ge i k with h2|h2
    ·exact h2
    ·have:i=k:=by omega
     subst this;exact absurd hb h,hb⟩
theorem zly {g n:Nat} (h1:1≤g) (h2:g < 2 ^ n) : ∃ i,i < n∧g.testBit i=true:=by
 obtain ⟨i,hi⟩:=Nat.exists_testBit_of_ne_zero (x:=g) (by omega)
 refine ⟨i,Nat.lt_of_not_le fun hn=>?_,hi⟩
 rw [Nat.testBit_lt_two_pow (Nat.lt_of_lt_of_le h2 (Nat.pow_le_pow_right (by decide) hn))] at hi
 exact absurd hi (by decide)
def zb4 (m:KM) (i:Int):List (BitVec 64):=m.rel.getD i.toNat []
def zbj (m:KM) (g:Int):List (BitVec 64):=(zaA (fun x y=>x|||y) m g.toNat m.rel.length).getD []
def zfj (m:KM) (g:Int):List (BitVec 64):=(zaA (fun x y=>x&&&y) m g.toNat m.rel.length).getD []
theorem ztj {op:BitVec 64→BitVec 64→BitVec 64} {m:KM} (hg:zd5 m) (hop : ∀ (x y:BitVec 64) i,(op x y).getLsbD i=true→x.getLsbD i=true∨y.getLsbD i=true) {g:Nat} : ∀ {k:Nat} {r:List (BitVec 64)},k≤m.rel.length→zaA op m g k=some r→zlt r
 | 0,_,_,h=>by cases h
 | k+1,r,hk,h=>by
  have w1:=hg.w1
  have hin:zlt (m.rel.getD k []):=fun v w hb=>by
   have hm:m.rel.getD k []∈m.rel:=by rw [List.getD,List.getElem?_eq_getElem (by omega)];exact List.getElem_mem _
   have:=hg.len _ hm
   have:=zkH hg (i:=k) (v:=v) hb
   omega
  rw [zaA] at h
  split at h
  ·cases hz:zaA op m g k with
   | none =>
    rw [hz] at h
    have e:m.rel.getD k []=r:=Option.some.inj h
    rw [← e];exact hin
   | some a =>
    have hal:=zmP hg (by omega) hz
    have ha:=ztj hg hop (by omega) hz
    rw [hz] at h
    have e:=Option.some.inj h
    intro v w hb
    rw [← e,List.length_map,List.length_range]
    rw [← e] at hb
    unfold rb at hb
    by_cases hv:v < m.W.toNat
    ·rw [List.getD,List.getElem?_map,List.getElem?_range hv] at hb
     rcases hop _ _ _ hb with h1|h1
     ·have:=ha v w h1;omega
     ·have:=hin v w h1
      have hm:m.rel.getD k []∈m.rel:=by rw [List.getD,List.getElem?_eq_getElem (by omega)];exact List.getElem_mem _
      have:=hg.len _ hm
      omega
    ·rw [List.getD,List.getElem?_eq_none (by simp;omega)] at hb
     simp at hb
  ·exact ztj hg hop (by omega) h
theorem zfv {op:BitVec 64→BitVec 64→BitVec 64} {m:KM} (hk0:zi m=0) (hop : ∀ (x y:BitVec 64) i,(op x y).getLsbD i=true→x.getLsbD i=true∨y.getLsbD i=true) {g:Nat} (h1:1≤g) (h2:g < 2 ^ m.rel.length):zai ((zaA op m g m.rel.length).getD [])=0∧((zaA op m g m.rel.length).getD []).length=m.W.toNat:=by
 have hg:=zw hk0
 have w2:=hg.w2
 obtain ⟨r,hr⟩:=zkG (op:=op) (m:=m) (zly h1 h2)
 have hl:=zmP hg (Nat.le_refl _) hr
 rw [hr]
 exact ⟨zbM.2 ⟨by show r.length≤64;omega,ztj hg hop (Nat.le_refl _) hr⟩,hl⟩
theorem zpW : ∀ (x y:BitVec 64) (i:Nat),(x|||y).getLsbD i=true→x.getLsbD i=true∨y.getLsbD i=true:=fun x y i h=>by
 rwa [BitVec.getLsbD_or,Bool.or_eq_true] at h
theorem zsw : ∀ (x y:BitVec 64) (i:Nat),(x&&&y).getLsbD i=true→x.getLsbD i=true∨y.getLsbD i=true:=fun x y i h=>by
 rw [BitVec.getLsbD_and,Bool.and_eq_true] at h
 exact .inl h.1
noncomputable def zad (m:KM) (h:Hd) (x y:BitVec 64):BitVec 64×Bool :=
 if h.op=1 then (z2 m.W,true) else if h.op=2 then (0#64,true) else if h.op=3 then (if (m.val.length:Int)≤h.i then (0#64,false) else (m.val.getD h.i.toNat 0#64,true)) else
 if h.op=4 then (z2 m.W &&& ~~~x,true) else if h.op=5 then (x&&&y,true) else if h.op=6 then (x|||y,true) else if h.op=7 then (z2 m.W &&& ~~~x|||y,true) else if h.op=8 then (z2 m.W &&& ~~~(x ^^^ y),true) else
 if h.op=9 then (if (m.rel.length:Int)≤h.i then (0#64,false) else (zcC (zb4 m h.i) x,true)) else if h.op=10 then (if (m.rel.length:Int)≤h.i then (0#64,false) else (zkw (zb4 m h.i) x,true)) else
 if h.op=11 then (if (2:Int) ^ m.rel.length≤h.g then (0#64,false) else (zcC (zbj m h.g) x,true)) else if h.op=12 then (if (2:Int) ^ m.rel.length≤h.g then (0#64,false) else (zcC (zfj m h.g) x,true)) else
 if h.op=13 then (if (2:Int) ^ m.rel.length≤h.g then (0#64,false) else (zi6 (zbj m h.g) x y,true)) else (0#64,false)
end Go.Ab
namespace Go.Ab
open Go Go.Proofs
set_option maxRecDepth 10000
set_option maxHeartbeats 4000000
variable {T:Nat→Obj→Prop}
theorem znS {W:Int} (h1:1≤W) (h2:W≤64):(18446744073709551615#64) >>> (64 - W).toNat=z2 W:=by
 apply BitVec.eq_of_getLsbD_eq
 intro i hi
 rw [zc4 (by omega) hi,BitVec.getLsbD_ushiftRight,show (18446744073709551615#64)=BitVec.allOnes 64 from rfl,BitVec.getLsbD_allOnes,Bool.eq_iff_iff]
 simp only [decide_eq_true_eq]
 omega
theorem zwY {m:KM} (hk0:zi m=0) (op i e:Int) (g:Nat) (nx ny:Int) (s t:BitVec 64) (h3:op=3∨op=9∨op=10→0≤i) (hg1:11≤op∧op≤13→1≤g) :
  Fn Tryd.prog T zfT [.d (dKM m),.d (.agg [.int .i64 op,.int .i64 i,.int .i64 e,.int .i64 (g:Int),.int .i64 nx,.int .i64 ny]),.d (.u64 s),.d (.u64 t)] [] (.d (.tup [.u64 (zad m ⟨op,i,e,(g:Int)⟩ s t).1,.bool (zad m ⟨op,i,e,(g:Int)⟩ s t).2])) []:=by
 have gm:=zw hk0
 have w1:=gm.w1
 have w2:=gm.w2
 have n4:=gm.n4
 have hsh:=znS w1 w2
 refine zb zk zpC (by show 4≤129;decide) ?_
 have hrow : ∀ {r:List (BitVec 64)},m.rel[i.toNat]? = some r→0≤i→i < m.rel.length→zai r=0∧zb4 m i=r:=fun {r} h h0 h1=>by
  have e:zb4 m i=r:=by unfold zb4;rw [List.getD,h];rfl
  have hm:=List.mem_of_getElem? h
  have h2:=gm.len _ hm
  refine ⟨zbM.2 ⟨by show r.length≤64;omega,fun v w hb=>?_⟩,e⟩
  rw [← e] at hb
  have:w < m.W.toNat:=zkH gm (i:=i.toNat) (v:=v) hb
  omega
 have cgx:=fun h1 h2=>zl1 (T:=T) hk0 (g:=g) h1 h2
 have cmx:=fun h1 h2=>ztg (T:=T) hk0 (g:=g) h1 h2
 have hp2:(1 * 2 ^ min ((m.rel.length:Nat):Int).toNat IntKind.i64.bits:Int)=(2:Int) ^ m.rel.length:=by
  rw [show min ((m.rel.length:Nat):Int).toNat IntKind.i64.bits=m.rel.length from Nat.min_eq_left (show m.rel.length≤64 by omega)];omega
 have key : ∀ {a:BitVec 64×Bool} {o:Option D},o=some (D.tup [.u64 a.1,.bool a.2]) → ∀ {b:BitVec 64×Bool},a=b→o=some (D.tup [.u64 b.1,.bool b.2]):=fun h b e=>e▸h
 have hp1:inR .i64 (1 * 2 ^ min ((m.rel.map dU).length:Int).toNat IntKind.i64.bits:Int):=by
  rw [List.length_map]
  have:m.rel.length=0∨m.rel.length=1∨m.rel.length=2∨m.rel.length=3∨m.rel.length=4:=by omega
  rcases this with h|h|h|h|h<;>rw [h]<;>decide
 have hl2:(m.rel.map dU).length=m.rel.length:=List.length_map ..
 have hgg:11≤op∧op≤13→(g:Int) < 2 ^ m.rel.length→1≤g∧(g:Int) < 2 ^ m.rel.length:=fun h1 h2=>⟨hg1 h1,h2⟩
 have hgn:(g:Int) < 2 ^ m.rel.length→g < 2 ^ m.rel.length:=fun h=>by
  have:((2 ^ m.rel.length:Nat):Int)=(2:Int) ^ m.rel.length:=by simp
  omega
 have hgr:1≤g→(g:Int) < 2 ^ m.rel.length→zai (zbj m (g:Int))=0:=fun h1 h2=>(zfv hk0 zpW h1 (hgn h2)).1
 have hgl:1≤g→(g:Int) < 2 ^ m.rel.length→(((zbj m (g:Int)).length:Nat):Int)=m.W:=fun h1 h2=>by
  have:=(zfv hk0 zpW h1 (hgn h2)).2
  rw [show (zbj m (g:Int)).length=m.W.toNat from this];omega
 have hmr:1≤g→(g:Int) < 2 ^ m.rel.length→zai (zfj m (g:Int))=0:=fun h1 h2=>(zfv hk0 zsw h1 (hgn h2)).1
 (repeat' ((conv=>whnf);first|refine vA ?_|(refine vF ?_ ?_<;>intro hc<;>try simp only [vL] at hc)|refine vJ fun hg=>?_|refine vT ?_|((first|refine vO ?_ ?_|refine vS ?_ fun x hx=>?_|refine vP ?_ ?_);·omega)|(refine vU ?_ ?_;·kernel_rfl)|fail));all_goals try conv=>whnf
 all_goals first|(exfalso;omega)|(simp only [zad, *,if_true,if_false];rfl)|skip
 ·refine key (a:=(z2 m.W,true)) (by rw [← hsh];rfl) ?_
  simp only [zad, *,if_true]
 ·refine key (a:=(x,true)) rfl ?_
  simp only [zad, *,if_true,if_false,show ¬(m.val.length:Int)≤i by omega,List.getD];simp
 ·refine key (a:=(z2 m.W &&& ~~~s,true)) (by rw [← hsh];rfl) ?_
  simp only [zad, *,if_true,if_false];simp
 ·refine key (a:=(z2 m.W &&& ~~~s|||t,true)) (by rw [← hsh];rfl) ?_
  simp only [zad, *,if_true,if_false];simp
 ·refine key (a:=(z2 m.W &&& ~~~(s ^^^ t),true)) (by rw [← hsh];rfl) ?_
  simp only [zad, *,if_true,if_false];simp
 ·obtain ⟨r1,r2⟩:=hrow hx (by omega) (by omega)
  refine zo.data (zcS (r:=x) s r1) (by (repeat refine ⟨⟨rfl,rfl⟩,?_⟩);rfl) rfl ?_
  (repeat' ((conv=>whnf);refine vT ?_));all_goals try conv=>whnf
  refine key (a:=(zcC x s,true)) rfl ?_
  simp only [zad, *,if_true,if_false,show ¬(m.rel.length:Int)≤i by omega];simp
 ·obtain ⟨r1,r2⟩:=hrow hx (by omega) (by omega)
  refine zo.data (zla (r:=x) s r1) (by (repeat refine ⟨⟨rfl,rfl⟩,?_⟩);rfl) rfl ?_
  (repeat' ((conv=>whnf);refine vT ?_));all_goals try conv=>whnf
  refine key (a:=(zkw x s,true)) rfl ?_
  have h10:op=10:=by omega
  subst h10
  rw [show zad m ⟨10,i,e,(g:Int)⟩ s t=(zkw (zb4 m i) s,true) from if_neg (show ¬(m.rel.length:Int)≤i by omega),r2]
 ·refine zfb.fit hp1 ?_
  (repeat' ((conv=>whnf);first|refine vA ?_|(refine vF ?_ ?_<;>intro hc<;>try simp only [vL] at hc)|refine vT ?_|(refine vU ?_ ?_;·kernel_rfl)|fail));all_goals try conv=>whnf
  all_goals first|(exfalso;omega)|skip
  ·refine key (a:=(0#64,false)) rfl ?_
   obtain rfl:op=11:=by omega
   exact (if_pos (show (2:Int) ^ m.rel.length≤(g:Int) by rw [← hp2];assumption)).symm
  ·obtain ⟨g1,g2⟩:=hgg (by omega) (by rw [← hp2];assumption)
   have c1:=cgx g1 g2
   have r1:=hgr g1 g2
   change Fn _ _ _ _ _ (.d (dU (zbj m (g:Int)))) _ at c1
   generalize hG:zbj m (g:Int)=G at c1 r1
   refine zo.dataN (c1) (by (repeat refine ⟨⟨rfl,rfl⟩,?_⟩);rfl) ?_
   (repeat' ((conv=>whnf);first|refine vA ?_|(refine vF ?_ ?_<;>intro hc)|refine vT ?_));all_goals try conv=>whnf
   all_goals first|(exfalso;omega)|skip
   refine zo.data (zcS (r:=G) s r1) (by (repeat refine ⟨⟨rfl,rfl⟩,?_⟩);rfl) rfl ?_
   (repeat' ((conv=>whnf);refine vT ?_));all_goals try conv=>whnf
   subst hG
   refine key (a:=(zcC (zbj m (g:Int)) s,true)) rfl ?_
   obtain rfl:op=11:=by omega
   exact (if_neg (show ¬(2:Int) ^ m.rel.length≤(g:Int) by omega)).symm
 ·refine zfb.fit hp1 ?_
  (repeat' ((conv=>whnf);first|refine vA ?_|(refine vF ?_ ?_<;>intro hc<;>try simp only [vL] at hc)|refine vT ?_|(refine vU ?_ ?_;·kernel_rfl)|fail));all_goals try conv=>whnf
  all_goals first|(exfalso;omega)|skip
  ·refine key (a:=(0#64,false)) rfl ?_
   obtain rfl:op=12:=by omega
   exact (if_pos (show (2:Int) ^ m.rel.length≤(g:Int) by rw [← hp2];assumption)).symm
  ·obtain ⟨g1,g2⟩:=hgg (by omega) (by rw [← hp2];assumption)
   have c1:=cmx g1 g2
   have r1:=hmr g1 g2
   change Fn _ _ _ _ _ (.d (dU (zfj m (g:Int)))) _ at c1
   generalize hG:zfj m (g:Int)=G at c1 r1
   refine zo.dataN (c1) (by (repeat refine ⟨⟨rfl,rfl⟩,?_⟩);rfl) ?_
   (repeat' ((conv=>whnf);refine vT ?_));all_goals try conv=>whnf
   all_goals first|(exfalso;omega)|skip
   refine zo.data (zcS (r:=G) s r1) (by (repeat refine ⟨⟨rfl,rfl⟩,?_⟩);rfl) rfl ?_
   (repeat' ((conv=>whnf);refine vT ?_));all_goals try conv=>whnf
   subst hG
   refine key (a:=(zcC (zfj m (g:Int)) s,true)) rfl ?_
   obtain rfl:op=12:=by omega
   exact (if_neg (show ¬(2:Int) ^ m.rel.length≤(g:Int) by omega)).symm
 ·refine zfb.fit hp1 ?_
  (repeat' ((conv=>whnf);first|refine vA ?_|(refine vF ?_ ?_<;>intro hc<;>try simp only [vL] at hc)|refine vT ?_|(refine vU ?_ ?_;·kernel_rfl)|fail));all_goals try conv=>whnf
  all_goals first|(exfalso;omega)|skip
  ·refine key (a:=(0#64,false)) rfl ?_
   obtain rfl:op=13:=by omega
   exact (if_pos (show (2:Int) ^ m.rel.length≤(g:Int) by rw [← hp2];assumption)).symm
  ·obtain ⟨g1,g2⟩:=hgg (by omega) (by rw [← hp2];assumption)
   have c1:=cgx g1 g2
   have r1:=hgr g1 g2
   have l1:=hgl g1 g2
   change Fn _ _ _ _ _ (.d (dU (zbj m (g:Int)))) _ at c1
   generalize hG:zbj m (g:Int)=G at c1 r1 l1
   refine zo.dataN (c1) (by (repeat refine ⟨⟨rfl,rfl⟩,?_⟩);rfl) ?_
   (repeat' ((conv=>whnf);first|refine vA ?_|(refine vF ?_ ?_<;>intro hc)|refine vT ?_));all_goals try conv=>whnf
   all_goals first|(exfalso;omega)|skip
   have hcm:=zwX (T:=T) (r:=G) s t r1
   rw [l1,← hsh] at hcm
   refine zo.data (hcm) (by (repeat refine ⟨⟨rfl,rfl⟩,?_⟩);rfl) rfl ?_
   (repeat' ((conv=>whnf);refine vT ?_));all_goals try conv=>whnf
   subst hG
   refine key (a:=(zi6 (zbj m (g:Int)) s t,true)) rfl ?_
   obtain rfl:op=13:=by omega
   exact (if_neg (show ¬(2:Int) ^ m.rel.length≤(g:Int) by omega)).symm
 all_goals skip
end Go.Ab
namespace Go.Ab
open Go Go.Proofs
set_option maxRecDepth 10000
set_option maxHeartbeats 4000000
variable {T:Nat→Obj→Prop}
theorem zqa {β:Type} (v:Hd→β→β→β) (d:β) (n:Nd) : ∀ (l:List Nd) (acc:List β),zdc v d (l++[n]) acc=zdc v d l acc++[v n.hd ((zdc v d l acc).getD n.x.toNat d) ((zdc v d l acc).getD n.y.toNat d)]
 | [],acc=>rfl
 | m::r,acc=>by rw [List.cons_append,zdc,zdc,zqa v d n r]
theorem zoj {α:Type} (l:List α) (n:Nat) (d:α) (i:Nat):(l++List.replicate n d).getD i d=l.getD i d:=by
 rcases Nat.lt_or_ge i l.length with h|h
 ·simp [List.getD,List.getElem?_append_left h]
 ·rw [List.getD,List.getElem?_append_right h,List.getD,List.getElem?_eq_none h]
  rcases Nat.lt_or_ge (i - l.length) n with h2|h2
  ·rw [List.getElem?_replicate,if_pos h2];rfl
  ·rw [List.getElem?_eq_none (by simpa using h2)]
noncomputable def vnK (m:KM) (h:Hd) (a b:BitVec 64×Bool):BitVec 64×Bool :=
 if (4≤h.op→a.2=true)∧(5≤h.op∧h.op≤8∨h.op=13→b.2=true) then zad m h a.1 b.1 else (0#64,false)
noncomputable def zaa (m:KM) (f:List Nd) (k:Nat):List (BitVec 64×Bool):=zdc (vnK m) (0#64,false) (f.take k) []++List.replicate (f.length - k) (0#64,false)
theorem zxE (m:KM) (f:List Nd) {k:Nat} (hk:k≤f.length):(zaa m f k).length=f.length:=by
 unfold zaa
 rw [List.length_append,zih,List.length_replicate,List.length_take];simp;omega
theorem zwf (m:KM) {f:List Nd} {k:Nat} {n:Nd} (hn:f[k]? = some n):zaa m f (k+1)=(zaa m f k).set k (vnK m n.hd ((zaa m f k).getD n.x.toNat (0#64,false)) ((zaa m f k).getD n.y.toNat (0#64,false))):=by
 have hk:k < f.length:=(List.getElem?_eq_some_iff.1 hn).1
 have hl:(zdc (vnK m) (0#64,false) (f.take k) []).length=k:=by rw [zih];simp;omega
 have e:f.length - k=(f.length - (k+1))+1:=by omega
 unfold zaa
 rw [zoj,zoj,List.take_add_one,hn,show (some n).toList=[n] from rfl,zqa,e,List.replicate_succ,List.set_append_right _ _ (by omega),hl,Nat.sub_self,List.set_cons_zero,List.append_assoc]
 rfl
theorem zp6 (m:KM) (f:List Nd):zaa m f 0=List.replicate f.length (0#64,false):=rfl
theorem zxD (m:KM) (f:List Nd):zaa m f f.length=zdc (vnK m) (0#64,false) f []:=by
 unfold zaa
 rw [List.take_length,Nat.sub_self];simp
def zaL (m:KM) (f:List Nd):Int :=
 if zi m≠0 then zi m else if zbq f≠0 then zbq f else if za6 .i64 (fun p q=>p &&& ~~~q) (uni zbJ (cL f):Int) 15≠0 then 10 else if zea f m.rel.length m.val.length=false then 2 else 0
theorem zgq {m:KM} {f:List Nd} (h:zaL m f=0):zi m=0∧zbq f=0∧za6 .i64 (fun p q=>p &&& ~~~q) (uni zbJ (cL f):Int) 15=0∧zea f m.rel.length m.val.length=true:=by
 unfold zaL at h
 split at h
 ·contradiction
 ·split at h
  ·contradiction
  ·split at h
   ·cases h
   ·split at h
    ·cases h
    ·rename_i h1 h2 h3 h4
     exact ⟨by omega,by omega,by omega,by simpa using h4⟩
noncomputable def zi0 (m:KM) (f:List Nd):List (BitVec 64):=if zaL m f≠0 then [] else (zdc (vnK m) (0#64,false) f []).map Prod.fst
noncomputable def zM (m:KM) (f:List Nd):BitVec 64×Int:=if zaL m f≠0 then (0#64,zaL m f) else (((zdc (vnK m) (0#64,false) f []).getD (f.length - 1) (0#64,false)).1,0)
theorem zkJ {m:KM} {f:List Nd} (h:zaL m f≠0):zM m f=(0#64,zaL m f):=if_pos h
theorem zuq (m:KM) (f:List Nd):Fn Tryd.prog T zg9 [.d (dKM m),.d (dF f)] [] (.d (.int .i64 (zaL m f))) []:=by
 refine zb zk znh (by show 2≤30;decide) ?_
 (repeat' ((conv=>whnf);first|refine vA ?_|refine vE ?_|((first|refine vD ?_ ?_|refine vI ?_ ?_)<;>intro hc<;>try simp only [vL] at hc)|refine vJ fun hg=>?_|refine vT ?_|refine vX ?_|refine yD (zbU _) ⟨⟨rfl,rfl⟩,rfl⟩ rfl ?_|refine yD (zgR _) ⟨⟨rfl,rfl⟩,rfl⟩ rfl ?_|refine yD (zs7 _) ⟨⟨rfl,rfl⟩,rfl⟩ rfl ?_|refine yD (zuZ _ _ _) ⟨⟨rfl,rfl⟩,⟨rfl,rfl⟩,⟨rfl,rfl⟩,rfl⟩ rfl ?_));all_goals try conv=>whnf
 ·have e:zaL m f=zi m:=if_pos ‹_›
  rw [e]
 ·have e:zaL m f=zbq f:=by rw [zaL,if_neg (by omega),if_pos ‹_›]
  rw [e]
 ·have e:zaL m f=10:=by rw [zaL,if_neg (by omega),if_neg (by omega),if_pos ‹_›]
  rw [e]
 ·have e:zaL m f=0:=by rw [zaL,if_neg (by omega),if_neg (by omega),if_neg (by omega),if_neg (by simp [*])]
  rw [e]
 ·have e:zaL m f=2:=by rw [zaL,if_neg (by omega),if_neg (by omega),if_neg (by omega),if_pos ‹_›]
  rw [e]
theorem zvR {m:KM} (hk0:zi m=0) {n:Nd} {k:Int} (hn:zbW n k=0) (s t:BitVec 64) :
  Fn Tryd.prog T zfT [.d (dKM m),.d (dNd n),.d (.u64 s),.d (.u64 t)] [] (.d (.tup [.u64 (zad m n.hd s t).1,.bool (zad m n.hd s t).2])) []:=by
 have hh:=(zaG.1 hn).1
 have hg:0≤n.g∧(11≤n.op∧n.op≤13→1≤n.g):=by
  cases hg:zR n.op with
  | true=>have:1≤n.g∧n.g≤15:=hh.group hg;omega
  | false =>
   have:n.g=0:=hh.g0 hg
   have h2 : ¬(11≤n.op∧n.op≤13):=by simpa [zR] using hg
   omega
 have h3:n.op=3∨n.op=9∨n.op=10→0≤n.i:=fun e=>by
  rcases e with e|e|e
  ·have:0≤n.i∧n.i≤7:=hh.fact (decide_eq_true e)
   omega
  ·have:0≤n.i∧n.i≤3:=hh.agent (decide_eq_true (.inl e))
   omega
  ·have:0≤n.i∧n.i≤3:=hh.agent (decide_eq_true (.inr (.inl e)))
   omega
 clear hh hn
 obtain ⟨op,i,e,g,nx,ny⟩:=n
 dsimp only at hg h3
 obtain ⟨G,rfl⟩ : ∃ G:Nat,g=(G:Int):=⟨g.toNat,by omega⟩
 exact zwY hk0 op i e G nx ny s t h3 (fun h=>by have:=hg.2 h;omega)
theorem zyF (m:KM) (f:List Nd):Fn Tryd.prog T zjy [.d (dKM m),.d (dF f)] [] (.d (.tup [dU (zi0 m f),.int .i64 (zaL m f)])) []:=by
 have cq:=zuq (T:=T) m f
 refine zb zk zqF (by show 2≤85;decide) ?_
 by_cases hr:zaL m f=0
 ·obtain ⟨hk0,hf0,-,-⟩:=zgq hr
  obtain ⟨p1,p2,p3⟩:=zds.1 hf0
  rw [hr] at cq ⊢
  (repeat' ((conv=>whnf);first|refine vA ?_|refine vH ?_|refine vJ fun hg=>?_|refine vT ?_|(refine vP ?_ ?_;·(simp only [vM] at *;omega))|refine yD cq ⟨⟨rfl,rfl⟩,⟨rfl,rfl⟩,rfl⟩ rfl ?_));all_goals try conv=>whnf
  refine zy (fun ((k,zs,bs):Nat×List D×List D)=>[(2,.ptr 0 0),(7,.own 1),(8,.own 2),(24,.d (dF f)),(25,.d (.int .i64 (((f.map dNd).length:Int)))),(26,.d (.int .i64 ((k:Int))))]) (fun ((k,zs,bs):Nat×List D×List D)=>[(0,some (zaH m)),(1,some (.row 1 zs)),(2,some (.row 1 bs))]) 3 (fun ((k,zs,bs):Nat×List D×List D)=>k≤f.length∧zs=(zaa m f k).map (fun p=>D.u64 p.1)∧bs=(zaa m f k).map (fun p=>D.bool p.2)) (fun ((k,zs,bs):Nat×List D×List D)=>f.length - k) ((0,List.replicate ((f.map dNd).length:Int).toNat (.u64 0#64),List.replicate ((f.map dNd).length:Int).toNat (.bool false))) [(0,0),(1,1),(2,2)] [] (⟨by omega,by rw [zp6,List.map_replicate,Int.toNat_natCast,List.length_map],by rw [zp6,List.map_replicate,Int.toNat_natCast,List.length_map]⟩) (by (refine ⟨rfl,rfl,rfl,?_,?_⟩;repeat' first|exact trivial|exact rfl|refine And.intro ?_ ?_|refine ⟨_,rfl,?_⟩|decide)) ?_
  rintro ⟨k,zs,bs⟩ ⟨hk,rfl,rfl⟩
  have hlen:=zxE m f hk
  have hl1:((zaa m f k).map fun p=>D.u64 p.1).length=f.length:=by rw [List.length_map,hlen]
  have hl2:((zaa m f k).map fun p=>D.bool p.2).length=f.length:=by rw [List.length_map,hlen]
  by_cases hkl:k < f.length
  ·obtain ⟨n,hn⟩ : ∃ n,f[k]? = some n:=⟨f[k],by simp [hkl]⟩
   have hst:=zwf m hn
   have hne:=p3 k n hn
   have hxy:=zaG.1 hne
   have hxb:0≤n.x∧n.x < f.length:=by
    cases hu:zG n.op with
    | true=>have:=hxy.2.1 hu;omega
    | false=>have:=hxy.2.2.1 hu;omega
   have hyb:0≤n.y∧n.y < f.length:=by
    cases hu:zH n.op with
    | true=>have:=hxy.2.2.2.1 hu;omega
    | false=>have:=hxy.2.2.2.2 hu;omega
   clear hxy
   have yes : ∀ {a b:BitVec 64×Bool},(zaa m f k)[n.x.toNat]? = some a→(zaa m f k)[n.y.toNat]? = some b→(4≤n.op→a.2=true)→(5≤n.op∧n.op≤8∨n.op=13→b.2=true)→zaa m f (k+1)=(zaa m f k).set k (zad m n.hd a.1 b.1):=fun {a b} ha hb h1 h2=>by
    rw [hst,List.getD,ha,List.getD,hb]
    exact congrArg ((zaa m f k).set k) (if_pos ⟨h1,h2⟩)
   have no:(∀ {a b:BitVec 64×Bool},(zaa m f k)[n.x.toNat]? = some a→(zaa m f k)[n.y.toNat]? = some b → ¬((4≤n.op→a.2=true)∧(5≤n.op∧n.op≤8∨n.op=13→b.2=true)))→zaa m f (k+1)=zaa m f k:=fun h=>by
    obtain ⟨a,ha⟩ : ∃ a,(zaa m f k)[n.x.toNat]? = some a:=⟨_,List.getElem?_eq_getElem (by omega)⟩
    obtain ⟨b,hb⟩ : ∃ b,(zaa m f k)[n.y.toNat]? = some b:=⟨_,List.getElem?_eq_getElem (by omega)⟩
    rw [hst,List.getD,ha,List.getD,hb]
    have e:vnK m n.hd a b=(0#64,false):=if_neg (h ha hb)
    rw [show vnK m n.hd ((some a).getD (0#64,false)) ((some b).getD (0#64,false))=(0#64,false) from e]
    refine List.ext_getElem (by simp) fun i h1 h2=>?_
    rw [List.getElem_set]
    split
    ·rename_i e2
     subst e2
     have:=zoj (zdc (vnK m) (0#64,false) (f.take k) []) (f.length - k) (0#64,false) k
     rw [List.getD,List.getD,List.getElem?_eq_none (show (zdc (vnK m) (0#64,false) (f.take k) []).length≤k by rw [zih,List.length_take];simp;omega)] at this
     rw [show zdc (vnK m) (0#64,false) (f.take k) []++List.replicate (f.length - k) (0#64,false)=zaa m f k from rfl,List.getElem?_eq_getElem h2] at this
     exact this.symm
    ·rfl
   (repeat' ((conv=>whnf);first|refine vA ?_|((first|refine vF ?_ ?_|refine vI ?_ ?_)<;>intro hc<;>try simp only [vL] at hc)|refine vT ?_|refine vN ‹_› ?_|(refine vQ ?_ fun x hx=>?_;·omega)|((first|refine vO ?_ ?_|refine vP ?_ ?_);·omega)|(refine vU ?_ ?_;·kernel_rfl)|refine yN (zvR hk0 hne _ _) (by (repeat refine ⟨⟨rfl,rfl⟩,?_⟩);rfl) ?_));all_goals try conv=>whnf
   all_goals first|(exfalso;omega)|skip
   ·refine ⟨(k+1,_,_),[(0,0),(1,1),(2,2)],[],?_,?_,by (refine ⟨rfl,rfl,rfl,?_,?_⟩;repeat' first|exact trivial|exact rfl|refine And.intro ?_ ?_|refine ⟨_,rfl,?_⟩|decide)⟩
    ·have e:=yes ‹(zaa m f k)[n.x.toNat]? = some _› ‹(zaa m f k)[n.y.toNat]? = some _› (fun _=>by first|assumption|(exfalso;omega)) (fun _=>by first|assumption|(exfalso;omega))
     exact ⟨by (omega),by rw [e,List.map_set];rfl,by rw [e,List.map_set];rfl⟩
    ·((simp only [vM] at *;omega))
   ·refine ⟨(k+1,_,_),[(0,0),(1,1),(2,2)],[],?_,?_,by (refine ⟨rfl,rfl,rfl,?_,?_⟩;repeat' first|exact trivial|exact rfl|refine And.intro ?_ ?_|refine ⟨_,rfl,?_⟩|decide)⟩
    ·have hX:=‹(zaa m f k)[n.y.toNat]? = some _›
     have e:=no fun {a b} ha hb hv=>by
      have e1:=Option.some.inj (hb.symm.trans hX)
      have e2:=hv.2 (by omega)
      rw [e1] at e2
      exact absurd (e2.symm.trans ‹_=false›) (by decide)
     exact ⟨by (omega),by rw [e],by rw [e]⟩
    ·((simp only [vM] at *;omega))
   ·refine ⟨(k+1,_,_),[(0,0),(1,1),(2,2)],[],?_,?_,by (refine ⟨rfl,rfl,rfl,?_,?_⟩;repeat' first|exact trivial|exact rfl|refine And.intro ?_ ?_|refine ⟨_,rfl,?_⟩|decide)⟩
    ·have hX:=‹(zaa m f k)[n.x.toNat]? = some _›
     have e:=no fun {a b} ha hb hv=>by
      have e1:=Option.some.inj (ha.symm.trans hX)
      have e2:=hv.1 (by omega)
      rw [e1] at e2
      exact absurd (e2.symm.trans ‹_=false›) (by decide)
     exact ⟨by (omega),by rw [e],by rw [e]⟩
    ·((simp only [vM] at *;omega))
   ·refine ⟨(k+1,_,_),[(0,0),(1,1),(2,2)],[],?_,?_,by (refine ⟨rfl,rfl,rfl,?_,?_⟩;repeat' first|exact trivial|exact rfl|refine And.intro ?_ ?_|refine ⟨_,rfl,?_⟩|decide)⟩
    ·have e:=yes ‹(zaa m f k)[n.x.toNat]? = some _› ‹(zaa m f k)[n.y.toNat]? = some _› (fun _=>by first|assumption|(exfalso;omega)) (fun _=>by first|assumption|(exfalso;omega))
     exact ⟨by (omega),by rw [e,List.map_set];rfl,by rw [e,List.map_set];rfl⟩
    ·((simp only [vM] at *;omega))
   ·refine ⟨(k+1,_,_),[(0,0),(1,1),(2,2)],[],?_,?_,by (refine ⟨rfl,rfl,rfl,?_,?_⟩;repeat' first|exact trivial|exact rfl|refine And.intro ?_ ?_|refine ⟨_,rfl,?_⟩|decide)⟩
    ·have hX:=‹(zaa m f k)[n.y.toNat]? = some _›
     have e:=no fun {a b} ha hb hv=>by
      have e1:=Option.some.inj (hb.symm.trans hX)
      have e2:=hv.2 (by omega)
      rw [e1] at e2
      exact absurd (e2.symm.trans ‹_=false›) (by decide)
     exact ⟨by (omega),by rw [e],by rw [e]⟩
    ·((simp only [vM] at *;omega))
   ·refine ⟨(k+1,_,_),[(0,0),(1,1),(2,2)],[],?_,?_,by (refine ⟨rfl,rfl,rfl,?_,?_⟩;repeat' first|exact trivial|exact rfl|refine And.intro ?_ ?_|refine ⟨_,rfl,?_⟩|decide)⟩
    ·have hX:=‹(zaa m f k)[n.x.toNat]? = some _›
     have e:=no fun {a b} ha hb hv=>by
      have e1:=Option.some.inj (ha.symm.trans hX)
      have e2:=hv.1 (by omega)
      rw [e1] at e2
      exact absurd (e2.symm.trans ‹_=false›) (by decide)
     exact ⟨by (omega),by rw [e],by rw [e]⟩
    ·((simp only [vM] at *;omega))
   ·refine ⟨(k+1,_,_),[(0,0),(1,1),(2,2)],[],?_,?_,by (refine ⟨rfl,rfl,rfl,?_,?_⟩;repeat' first|exact trivial|exact rfl|refine And.intro ?_ ?_|refine ⟨_,rfl,?_⟩|decide)⟩
    ·have e:=yes ‹(zaa m f k)[n.x.toNat]? = some _› ‹(zaa m f k)[n.y.toNat]? = some _› (fun _=>by first|assumption|(exfalso;omega)) (fun _=>by first|assumption|(exfalso;omega))
     exact ⟨by (omega),by rw [e,List.map_set];rfl,by rw [e,List.map_set];rfl⟩
    ·((simp only [vM] at *;omega))
   ·refine ⟨(k+1,_,_),[(0,0),(1,1),(2,2)],[],?_,?_,by (refine ⟨rfl,rfl,rfl,?_,?_⟩;repeat' first|exact trivial|exact rfl|refine And.intro ?_ ?_|refine ⟨_,rfl,?_⟩|decide)⟩
    ·have hX:=‹(zaa m f k)[n.x.toNat]? = some _›
     have e:=no fun {a b} ha hb hv=>by
      have e1:=Option.some.inj (ha.symm.trans hX)
      have e2:=hv.1 (by omega)
      rw [e1] at e2
      exact absurd (e2.symm.trans ‹_=false›) (by decide)
     exact ⟨by (omega),by rw [e],by rw [e]⟩
    ·((simp only [vM] at *;omega))
   ·refine ⟨(k+1,_,_),[(0,0),(1,1),(2,2)],[],?_,?_,by (refine ⟨rfl,rfl,rfl,?_,?_⟩;repeat' first|exact trivial|exact rfl|refine And.intro ?_ ?_|refine ⟨_,rfl,?_⟩|decide)⟩
    ·have e:=yes ‹(zaa m f k)[n.x.toNat]? = some _› ‹(zaa m f k)[n.y.toNat]? = some _› (fun _=>by first|assumption|(exfalso;omega)) (fun _=>by first|assumption|(exfalso;omega))
     exact ⟨by (omega),by rw [e,List.map_set];rfl,by rw [e,List.map_set];rfl⟩
    ·((simp only [vM] at *;omega))
   ·refine ⟨(k+1,_,_),[(0,0),(1,1),(2,2)],[],?_,?_,by (refine ⟨rfl,rfl,rfl,?_,?_⟩;repeat' first|exact trivial|exact rfl|refine And.intro ?_ ?_|refine ⟨_,rfl,?_⟩|decide)⟩
    ·have hX:=‹(zaa m f k)[n.x.toNat]? = some _›
     have e:=no fun {a b} ha hb hv=>by
      have e1:=Option.some.inj (ha.symm.trans hX)
      have e2:=hv.1 (by omega)
      rw [e1] at e2
      exact absurd (e2.symm.trans ‹_=false›) (by decide)
     exact ⟨by (omega),by rw [e],by rw [e]⟩
    ·((simp only [vM] at *;omega))
   ·refine ⟨(k+1,_,_),[(0,0),(1,1),(2,2)],[],?_,?_,by (refine ⟨rfl,rfl,rfl,?_,?_⟩;repeat' first|exact trivial|exact rfl|refine And.intro ?_ ?_|refine ⟨_,rfl,?_⟩|decide)⟩
    ·have e:=yes ‹(zaa m f k)[n.x.toNat]? = some _› ‹(zaa m f k)[n.y.toNat]? = some _› (fun _=>by first|assumption|(exfalso;omega)) (fun _=>by first|assumption|(exfalso;omega))
     exact ⟨by (omega),by rw [e,List.map_set];rfl,by rw [e,List.map_set];rfl⟩
    ·((simp only [vM] at *;omega))
   all_goals skip
  ·obtain rfl:k=f.length:=by omega
   (repeat' ((conv=>whnf);first|refine vA ?_|((first|refine vF ?_ ?_|refine vI ?_ ?_)<;>intro hc<;>try simp only [vL] at hc)|refine vT ?_|refine vN ‹_› ?_|(refine vQ ?_ fun x hx=>?_;·omega)|((first|refine vO ?_ ?_|refine vP ?_ ?_);·omega)|fail));all_goals try conv=>whnf
   all_goals first|(exfalso;omega)|skip
   rw [zi0,if_neg (by omega),zxD]
   exact congrArg (fun l=>some (D.tup [.arr 1 l,.int .i64 0])) (List.map_map (f:=Prod.fst) (g:=D.u64)).symm
 ·(repeat' ((conv=>whnf);first|refine vA ?_|(refine vD ?_ ?_<;>intro hc)|refine vJ fun hg=>?_|refine vT ?_|(refine vP ?_ ?_;·omega)|refine yD cq ⟨⟨rfl,rfl⟩,⟨rfl,rfl⟩,rfl⟩ rfl ?_));all_goals try conv=>whnf
  ·rw [zi0,if_pos hr];rfl
  ·exact absurd hc hr
theorem zrk (m:KM) (f:List Nd):Fn Tryd.prog T ziz [.d (dKM m),.d (dF f)] [] (.d (.tup [.u64 (zM m f).1,.int .i64 (zM m f).2])) []:=by
 have cs:=zyF (T:=T) m f
 refine zb zk zpB (by show 2≤23;decide) ?_
 by_cases hr:zaL m f=0
 ·obtain ⟨hk0,hf0,-,-⟩:=zgq hr
  obtain ⟨p1,p2,p3⟩:=zds.1 hf0
  have hl:(zi0 m f).length=f.length:=by rw [zi0,if_neg (by omega),List.length_map,zih];simp
  have e:zM m f=((zi0 m f).getD (f.length - 1) 0#64,0):=by
   rw [zM,zi0,if_neg (by omega),if_neg (by omega)]
   congr 1
   simp only [List.getD,List.getElem?_map]
   cases (zdc (vnK m) (0#64,false) f [])[f.length - 1]? <;> rfl
  rw [hr] at cs
  rw [e]
  generalize zi0 m f=S at *
  (repeat' ((conv=>whnf);first|refine vA ?_|refine vH ?_|refine vJ fun hg=>?_|refine vT ?_|((first|refine vO ?_ ?_|refine vS ?_ fun x hx=>?_);·(simp only [vM] at *;omega))|refine yN cs ⟨⟨rfl,rfl⟩,⟨rfl,rfl⟩,rfl⟩ ?_));all_goals try conv=>whnf
  all_goals first|(exfalso;omega)|skip
  have e3:S.getD (f.length - 1) 0#64=x:=by
   rw [List.getD,show f.length - 1=(((S.map D.u64).length:Int) - 1).toNat by rw [List.length_map];omega,hx];rfl
  rw [e3]
  rfl
 ·have e:=zkJ hr
  rw [e]
  (repeat' ((conv=>whnf);first|refine vA ?_|(refine vD ?_ ?_<;>intro hc)|refine vJ fun hg=>?_|refine vT ?_|((first|refine vO ?_ ?_|refine vS ?_ fun x hx=>?_);·omega)|refine yN cs ⟨⟨rfl,rfl⟩,⟨rfl,rfl⟩,rfl⟩ ?_));all_goals try conv=>whnf
  all_goals first|exact absurd ‹zaL m f=0› hr|rfl
noncomputable def atK (m:KM) (w:Int) (f:List Nd):Bool×Int:=if zaL m f≠0 then (false,zaL m f) else if w < 0∨m.W≤w then (false,2) else ((zM m f).1.getLsbD w.toNat,0)
theorem zBn (m:KM) (w:Int) (f:List Nd):Fn Tryd.prog T zlT [.d (dKM m),.d (.int .i64 w),.d (dF f)] [] (.d (.tup [.bool (atK m w f).1,.int .i64 (atK m w f).2])) []:=by
 have cs:=zrk (T:=T) m f
 refine zb zk ztp (by show 3≤32;decide) ?_
 by_cases hr:zaL m f=0
 ·have e:(zM m f).2=0:=by rw [zM,if_neg (by omega)]
  rw [e] at cs
  unfold atK
  rw [if_neg (by omega)]
  generalize (zM m f).1=s at *
  have e2:decide (s >>> w.toNat&&&1#64=1#64)=s.getLsbD w.toNat:=by
   rw [Bool.eq_iff_iff,decide_eq_true_eq];exact zcg s _
  (repeat' ((conv=>whnf);first|refine vA ?_|refine vH ?_|(refine vF ?_ ?_<;>intro hc<;>try simp only [vL] at hc)|refine vT ?_|(refine vP ?_ ?_;·omega)|refine yN cs ⟨⟨rfl,rfl⟩,⟨rfl,rfl⟩,rfl⟩ ?_));all_goals try conv=>whnf
  ·rw [if_pos (.inl ‹_›)];rfl
  ·rw [if_pos (.inr ‹_›)];rfl
  ·rw [if_neg (by omega),← e2];rfl
 ·rw [atK,if_pos hr]
  rw [zkJ hr] at cs
  dsimp only at cs
  (repeat' ((conv=>whnf);first|refine vA ?_|((first|refine vD ?_ ?_|refine vF ?_ ?_)<;>intro hc<;>try simp only [vL] at hc)|refine vT ?_|(refine vP ?_ ?_;·omega)|refine yN cs ⟨⟨rfl,rfl⟩,⟨rfl,rfl⟩,rfl⟩ ?_));all_goals try conv=>whnf
  all_goals first|exact absurd ‹zaL m f=0› hr|rfl
end Go.Ab
namespace Go.Ab
open Go
theorem zt4 (m:KM):zAZ (vnK m) where
 x h a b c hx:=by
  have hx : ¬(4≤h.op∧h.op≤21):=by simpa [zG] using hx
  unfold vnK zad
  by_cases h4:4≤h.op
  ·have e : ∀ k:Int,k≤21 → ¬h.op=k:=fun k hk=>by omega
   simp only [e 1 (by decide),e 2 (by decide),e 3 (by decide),e 4 (by decide),e 5 (by decide),e 6 (by decide),e 7 (by decide),e 8 (by decide),e 9 (by decide),e 10 (by decide),e 11 (by decide),e 12 (by decide),e 13 (by decide),if_false,ite_self]
  ·have e : ∀ k:Int,4≤k → ¬h.op=k:=fun k hk=>by omega
   simp only [h4,e 4 (by decide),e 5 (by decide),e 6 (by decide),e 7 (by decide),e 8 (by decide),e 9 (by decide),e 10 (by decide),e 11 (by decide),e 12 (by decide),e 13 (by decide),if_false,false_imp_iff,true_and]
 y h a b c hy:=by
  have hy : ¬(5≤h.op∧h.op≤8∨h.op=13∨h.op=14∨h.op=16∨h.op=19∨h.op=21):=by simpa [zH] using hy
  have h5 : ¬(5≤h.op∧h.op≤8∨h.op=13):=by omega
  unfold vnK zad
  simp only [h5,false_imp_iff,and_true]
  simp only [show ¬h.op=5 by omega,show ¬h.op=6 by omega,show ¬h.op=7 by omega,show ¬h.op=8 by omega,show ¬h.op=13 by omega,if_false]
def zAY (m:KM) (t:Tm) (w:Nat):Prop:=ev (zBz m.W.toNat (z7 m) fun i w=>(m.val.getD i 0#64).getLsbD w=true) (fun _=>False) t w
structure zhL (m:KM) (h:Hd):Prop where
 op:1≤h.op∧h.op≤13
 fact:h.op=3→0≤h.i∧h.i < m.val.length
 agent:h.op=9∨h.op=10→0≤h.i∧h.i < m.rel.length
 group:11≤h.op∧h.op≤13→1≤h.g∧h.g.toNat < 2 ^ m.rel.length
theorem zke {m:KM} {i:Int} {w u:Nat} (hi:0≤i∧i < m.rel.length):rb (zb4 m i) w u=true↔zfl (z7 m) i.toNat w u:=by
 have hl:i.toNat < m.rel.length:=by omega
 unfold zfl z7 zb4
 rw [List.getD,List.getElem?_eq_getElem hl]
 constructor
 ·intro h;exact ⟨_,by rw [List.getElem?_map,List.getElem?_eq_getElem hl];rfl,h⟩
 ·rintro ⟨r,h1,h2⟩
  rw [List.getElem?_map,List.getElem?_eq_getElem hl] at h1
  obtain rfl:=(Option.some.inj h1).symm
  exact h2
theorem zmX {m:KM} (g:zd5 m) {i:Int} (hi:0≤i∧i < m.rel.length):zai (zb4 m i)=0∧(zb4 m i).length=m.W.toNat:=by
 have hl:i.toNat < m.rel.length:=by omega
 have hm:zb4 m i∈m.rel:=by unfold zb4;rw [List.getD,List.getElem?_eq_getElem hl];exact List.getElem_mem _
 have h1:=g.len _ hm
 have w1:=g.w1
 have w2:=g.w2
 refine ⟨zbM.2 ⟨by show (zb4 m i).length≤64;omega,fun v w hb=>?_⟩,by omega⟩
 have:w < m.W.toNat:=zkH g (i:=i.toNat) (v:=v) hb
 omega
theorem zmW {m:KM} (g:zd5 m) {a w u:Nat} (h:zfl (z7 m) a w u):w < m.W.toNat∧u < m.W.toNat∧a < m.rel.length:=by
 obtain ⟨r,h1,h2⟩:=h
 have ha:a < m.rel.length:=by have:=(List.getElem?_eq_some_iff.1 h1).1;rwa [zid] at this
 have hb:(zmV m a w).getLsbD u=true:=by rw [zxv h1];exact h2
 refine ⟨?_,zkH g hb,ha⟩
 refine Nat.lt_of_not_le fun hw=>?_
 unfold zmV at hb
 rw [List.getD,List.getElem?_eq_none (by
  rw [List.getD,List.getElem?_eq_getElem ha]
  have:=g.len _ (List.getElem_mem ha)
  show (m.rel[a]).length≤w;omega)] at hb
 simp at hb
theorem zw8 {m:KM} (hg:zd5 m) {g:Nat} : ∀ {k:Nat},k≤m.rel.length→(zaA (fun x y=>x|||y) m g k=none → ∀ a,a < k→g.testBit a=false) ∧ ∀ r,zaA (fun x y=>x|||y) m g k=some r → ∀ w u,w < m.W.toNat→(rb r w u=true ↔ ∃ a,a < k∧g.testBit a=true∧zfl (z7 m) a w u)
 | 0,_=>⟨fun _ a h=>by omega,fun r h=>by cases h⟩
 | k+1,hk=>by
  have ih:=zw8 hg (g:=g) (k:=k) (by omega)
  have hrow : ∀ w u,rb (m.rel.getD k []) w u=true↔zfl (z7 m) k w u:=fun w u=>by
   have:=zke (m:=m) (i:=(k:Int)) (w:=w) (u:=u) ⟨by omega,by omega⟩
   rwa [zb4,Int.toNat_natCast] at this
  rw [zaA]
  by_cases hb:g.testBit k=true
  ·rw [if_pos hb]
   cases hz:zaA (fun x y=>x|||y) m g k with
   | none =>
    refine ⟨fun h=>(by cases h),fun r h w u _=>?_⟩
    obtain rfl:=(Option.some.inj h).symm
    rw [hrow]
    constructor
    ·intro h1;exact ⟨k,by omega,hb,h1⟩
    ·rintro ⟨a,h1,h2,h3⟩
     by_cases e:a=k
     ·subst e;exact h3
     ·have:=ih.1 hz a (by omega);rw [h2] at this;cases this
   | some s =>
    refine ⟨fun h=>(by cases h),fun r h w u hw=>?_⟩
    obtain rfl:=(Option.some.inj h).symm
    have e:rb ((List.range m.W.toNat).map fun w=>s.getD w 0#64|||(m.rel.getD k []).getD w 0#64) w u=(rb s w u||rb (m.rel.getD k []) w u):=by
     unfold rb
     rw [List.getD,List.getElem?_map,List.getElem?_range hw]
     show (s.getD w 0#64|||_).getLsbD u=_
     rw [BitVec.getLsbD_or]
    rw [e,Bool.or_eq_true,hrow,ih.2 s hz w u hw]
    constructor
    ·rintro (⟨a,h1,h2⟩|h1)
     ·exact ⟨a,by omega,h2⟩
     ·exact ⟨k,by omega,hb,h1⟩
    ·rintro ⟨a,h1,h2,h3⟩
     by_cases e:a=k
     ·subst e;exact .inr h3
     ·exact .inl ⟨a,by omega,h2,h3⟩
  ·rw [if_neg hb]
   have hb:g.testBit k=false:=by simpa using hb
   refine ⟨fun h a ha=>?_,fun r h w u hw=>?_⟩
   ·by_cases e:a=k
    ·subst e;exact hb
    ·exact ih.1 h a (by omega)
   ·rw [ih.2 r h w u hw]
    constructor
    ·rintro ⟨a,h1,h2⟩;exact ⟨a,by omega,h2⟩
    ·rintro ⟨a,h1,h2,h3⟩
     refine ⟨a,?_,h2,h3⟩
     rcases Nat.lt_or_ge a k with h|h
     ·exact h
     ·have:a=k:=by omega
      subst this;rw [h2] at hb;cases hb
theorem zxi {m:KM} (hg:zd5 m) {g:Nat} : ∀ {k:Nat},k≤m.rel.length→(zaA (fun x y=>x&&&y) m g k=none → ∀ a,a < k→g.testBit a=false) ∧ ∀ r,zaA (fun x y=>x&&&y) m g k=some r → ∀ w u,w < m.W.toNat→(rb r w u=true ↔ ∀ a,a < k→g.testBit a=true→zfl (z7 m) a w u)
 | 0,_=>⟨fun _ a h=>by omega,fun r h=>by cases h⟩
 | k+1,hk=>by
  have ih:=zxi hg (g:=g) (k:=k) (by omega)
  have hrow : ∀ w u,rb (m.rel.getD k []) w u=true↔zfl (z7 m) k w u:=fun w u=>by
   have:=zke (m:=m) (i:=(k:Int)) (w:=w) (u:=u) ⟨by omega,by omega⟩
   rwa [zb4,Int.toNat_natCast] at this
  rw [zaA]
  by_cases hb:g.testBit k=true
  ·rw [if_pos hb]
   cases hz:zaA (fun x y=>x&&&y) m g k with
   | none =>
    refine ⟨fun h=>(by cases h),fun r h w u _=>?_⟩
    obtain rfl:=(Option.some.inj h).symm
    rw [hrow]
    constructor
    ·intro h1 a h2 h3
     by_cases e:a=k
     ·subst e;exact h1
     ·have:=ih.1 hz a (by omega);rw [h3] at this;cases this
    ·intro h;exact h k (by omega) hb
   | some s =>
    refine ⟨fun h=>(by cases h),fun r h w u hw=>?_⟩
    obtain rfl:=(Option.some.inj h).symm
    have e:rb ((List.range m.W.toNat).map fun w=>s.getD w 0#64&&&(m.rel.getD k []).getD w 0#64) w u=(rb s w u&&rb (m.rel.getD k []) w u):=by
     unfold rb
     rw [List.getD,List.getElem?_map,List.getElem?_range hw]
     show (s.getD w 0#64&&&_).getLsbD u=_
     rw [BitVec.getLsbD_and]
    rw [e,Bool.and_eq_true,hrow,ih.2 s hz w u hw]
    constructor
    ·rintro ⟨h1,h2⟩ a h3 h4
     by_cases e:a=k
     ·subst e;exact h2
     ·exact h1 a (by omega) h4
    ·intro h;exact ⟨fun a h1 h2=>h a (by omega) h2,h k (by omega) hb⟩
  ·rw [if_neg hb]
   have hb:g.testBit k=false:=by simpa using hb
   refine ⟨fun h a ha=>?_,fun r h w u hw=>?_⟩
   ·by_cases e:a=k
    ·subst e;exact hb
    ·exact ih.1 h a (by omega)
   ·rw [ih.2 r h w u hw]
    constructor
    ·intro H a h1 h2
     refine H a ?_ h2
     rcases Nat.lt_or_ge a k with h|h
     ·exact h
     ·have:a=k:=by omega
      subst this;rw [h2] at hb;cases hb
    ·intro H a h1 h2;exact H a (by omega) h2
theorem zmR {m:KM} (hg:zd5 m) {g:Int} (h:1≤g∧g.toNat < 2 ^ m.rel.length) {w u:Nat} (hw:w < m.W.toNat):rb (zbj m g) w u=true↔zoC m.W.toNat (z7 m) g.toNat w u:=by
 obtain ⟨r,hr⟩:=zkG (op:=fun x y=>x|||y) (m:=m) (zly (g:=g.toNat) (by omega) h.2)
 unfold zbj
 rw [hr,Option.getD_some,(zw8 hg (Nat.le_refl _)).2 r hr w u hw]
 unfold zoC
 constructor
 ·rintro ⟨a,h1,h2,h3⟩;exact ⟨(zmW hg h3).2.1,a,h2,h3⟩
 ·rintro ⟨-,a,h2,h3⟩;exact ⟨a,(zmW hg h3).2.2,h2,h3⟩
theorem zu6 {m:KM} (hg:zd5 m) {g:Int} (h:1≤g∧g.toNat < 2 ^ m.rel.length) {w u:Nat} (hw:w < m.W.toNat):rb (zfj m g) w u=true ↔ ∀ a,g.toNat.testBit a=true→zfl (z7 m) a w u:=by
 obtain ⟨r,hr⟩:=zkG (op:=fun x y=>x&&&y) (m:=m) (zly (g:=g.toNat) (by omega) h.2)
 unfold zfj
 rw [hr,Option.getD_some,(zxi hg (Nat.le_refl _)).2 r hr w u hw]
 constructor
 ·intro H a h2
  refine H a (Nat.lt_of_not_le fun hn=>?_) h2
  rw [Nat.testBit_lt_two_pow (Nat.lt_of_lt_of_le h.2 (Nat.pow_le_pow_right (by decide) hn))] at h2
  cases h2
 ·intro H a _ h2;exact H a h2
theorem zw9 {m:KM} (hk0:zi m=0) {g:Int} (h:1≤g∧g.toNat < 2 ^ m.rel.length):zai (zbj m g)=0∧(zbj m g).length=m.W.toNat:=zfv hk0 zpW (by omega) h.2
theorem zBt {m:KM} (hk0:zi m=0) {g:Int} (h:1≤g∧g.toNat < 2 ^ m.rel.length):zai (zfj m g)=0∧(zfj m g).length=m.W.toNat:=zfv hk0 zsw (by omega) h.2
theorem znL {r:List (BitVec 64)} (h0:zai r=0) {w u:Nat} (h:rb r w u=true):u < r.length:=(zbM.1 h0).2 w u h
theorem zsM {S S':Nat→Nat→Prop} {c c':Nat→Prop} {n w:Nat} (hw:w < n) (hS : ∀ a b,a < n→S a b→b < n∧S' a b) (hc : ∀ a,a < n→c a→c' a) {u:Nat} (h:CPt S c w u):u < n∧CPt S' c' w u:=by
 induction h with
 | one a b=>exact ⟨(hS _ _ hw a).1,.one (hS _ _ hw a).2 (hc _ (hS _ _ hw a).1 b)⟩
 | more _ a b ih=>exact ⟨(hS _ _ ih.1 a).1,.more ih.2 (hS _ _ ih.1 a).2 (hc _ (hS _ _ ih.1 a).1 b)⟩
theorem zhI {m:KM} (hk0:zi m=0) {h:Hd} (hf:zhL m h) {x y:BitVec 64} {X Y:Nat→Prop} (hx : ∀ u,x.getLsbD u=true↔u < m.W.toNat∧X u) (hy : ∀ u,y.getLsbD u=true↔u < m.W.toNat∧Y u) :
  (zad m h x y).2=true ∧ ∀ w,(zad m h x y).1.getLsbD w=true↔w < m.W.toNat∧zBz m.W.toNat (z7 m) (fun i w=>(m.val.getD i 0#64).getLsbD w=true) h X Y w:=by
 have g:=zw hk0
 have w1:=g.w1
 have w2:=g.w2
 have hall : ∀ w,(z2 m.W).getLsbD w=true↔w < m.W.toNat:=fun w=>by
  rcases Nat.lt_or_ge w 64 with h|h
  ·rw [zc4 (by omega) h,decide_eq_true_eq];omega
  ·rw [BitVec.getLsbD_of_ge _ _ h];constructor
   ·intro h;cases h
   ·intro _;omega
 have hnx : ∀ (z:BitVec 64) w,w < m.W.toNat→((~~~z).getLsbD w=true ↔ ¬z.getLsbD w=true):=fun z w hw=>by
  rw [BitVec.getLsbD_not,decide_eq_true (show w < 64 by omega)];simp
 have hbox : ∀ {r:List (BitVec 64)} {Rr:Nat→Nat→Prop},zai r=0→r.length=m.W.toNat→(∀ w u,w < m.W.toNat→(rb r w u=true↔Rr w u)) → ∀ w,(zcC r x).getLsbD w=true↔w < m.W.toNat ∧ ∀ u,Rr w u→X u:=fun {r Rr} h0 hl hr w=>by
  rw [znX (by omega),hl]
  refine and_congr_right fun hw=>forall_congr' fun u=>?_
  rw [hr w u hw]
  refine forall_congr' fun hu=>?_
  rw [hx]
  have:=znL h0 ((hr w u hw).2 hu)
  exact ⟨fun h=>h.2,fun h=>⟨by omega,h⟩⟩
 have key : ∀ {P:Prop} {z:BitVec 64} {w:Nat},(w < m.W.toNat→(z.getLsbD w=true↔P))→(z.getLsbD w=true→w < m.W.toNat)→(z.getLsbD w=true↔w < m.W.toNat∧P):=fun h1 h2=>⟨fun h=>⟨h2 h,(h1 (h2 h)).1 h⟩,fun h=>(h1 h.1).2 h.2⟩
 have hxl : ∀ w,x.getLsbD w=true→w < m.W.toNat:=fun w h=>((hx w).1 h).1
 have hyl : ∀ w,y.getLsbD w=true→w < m.W.toNat:=fun w h=>((hy w).1 h).1
 have hxX : ∀ w,w < m.W.toNat→(x.getLsbD w=true↔X w):=fun w hw=>(hx w).trans ⟨fun h=>h.2,fun h=>⟨hw,h⟩⟩
 have hyY : ∀ w,w < m.W.toNat→(y.getLsbD w=true↔Y w):=fun w hw=>(hy w).trans ⟨fun h=>h.2,fun h=>⟨hw,h⟩⟩
 obtain ⟨o1,o2⟩:=hf.op
 have f1:=hf.fact
 have f2:=hf.agent
 have f3:=hf.group
 clear hf
 obtain ⟨op,i,e,G⟩:=h
 dsimp only at o1 o2 f1 f2 f3
 have hop:op=1∨op=2∨op=3∨op=4∨op=5∨op=6∨op=7∨op=8∨op=9∨op=10∨op=11∨op=12∨op=13:=by omega
 rcases hop with rfl|rfl|rfl|rfl|rfl|rfl|rfl|rfl|rfl|rfl|rfl|rfl|rfl
 ·refine ⟨rfl,fun w=>?_⟩
  show (z2 m.W).getLsbD w=true↔w < m.W.toNat∧True
  rw [hall,and_true]
 ·refine ⟨rfl,fun w=>?_⟩
  show (0#64).getLsbD w=true↔w < m.W.toNat∧False
  simp
 ·have hi:=f1 rfl
  have hil:i.toNat < m.val.length:=by omega
  have hm:m.val.getD i.toNat 0#64∈m.val:=by rw [List.getD,List.getElem?_eq_getElem hil];exact List.getElem_mem _
  have e1:zad m ⟨3,i,e,G⟩ x y=(m.val.getD i.toNat 0#64,true):=if_neg (show ¬(m.val.length:Int)≤i by omega)
  rw [e1]
  refine ⟨rfl,fun w=>?_⟩
  show (m.val.getD i.toNat 0#64).getLsbD w=true↔w < m.W.toNat∧(m.val.getD i.toNat 0#64).getLsbD w=true
  exact key (fun _=>Iff.rfl) fun h1=>by have:=(zfr (by omega)).1 (g.val _ hm) w h1;omega
 ·refine ⟨rfl,fun w=>?_⟩
  show (z2 m.W &&& ~~~x).getLsbD w=true↔w < m.W.toNat ∧ ¬X w
  rw [BitVec.getLsbD_and,Bool.and_eq_true,hall]
  exact and_congr_right fun hw=>by rw [hnx x w hw,hxX w hw]
 ·refine ⟨rfl,fun w=>?_⟩
  show (x&&&y).getLsbD w=true↔w < m.W.toNat∧(X w∧Y w)
  rw [BitVec.getLsbD_and,Bool.and_eq_true,hx,hy]
  exact ⟨fun h=>⟨h.1.1,h.1.2,h.2.2⟩,fun h=>⟨⟨h.1,h.2.1⟩,h.1,h.2.2⟩⟩
 ·refine ⟨rfl,fun w=>?_⟩
  show (x|||y).getLsbD w=true↔w < m.W.toNat∧(X w∨Y w)
  rw [BitVec.getLsbD_or,Bool.or_eq_true,hx,hy,and_or_left]
 ·refine ⟨rfl,fun w=>?_⟩
  show (z2 m.W &&& ~~~x|||y).getLsbD w=true↔w < m.W.toNat∧(X w→Y w)
  rw [BitVec.getLsbD_or,Bool.or_eq_true,BitVec.getLsbD_and,Bool.and_eq_true,hall]
  constructor
  ·rintro (⟨h1,h2⟩|h2)
   ·exact ⟨h1,fun h=>absurd ((hxX w h1).2 h) ((hnx x w h1).1 h2)⟩
   ·exact ⟨hyl w h2,fun _=>((hy w).1 h2).2⟩
  ·rintro ⟨h1,h2⟩
   by_cases h:X w
   ·exact .inr ((hyY w h1).2 (h2 h))
   ·exact .inl ⟨h1,(hnx x w h1).2 fun h3=>h ((hxX w h1).1 h3)⟩
 ·refine ⟨rfl,fun w=>?_⟩
  show (z2 m.W &&& ~~~(x ^^^ y)).getLsbD w=true↔w < m.W.toNat∧(X w↔Y w)
  rw [BitVec.getLsbD_and,Bool.and_eq_true,hall]
  refine and_congr_right fun hw=>?_
  rw [hnx _ w hw,BitVec.getLsbD_xor,← hxX w hw,← hyY w hw]
  cases x.getLsbD w<;>cases y.getLsbD w<;>decide
 ·have hi:=f2 (.inl rfl)
  obtain ⟨r1,r2⟩:=zmX g hi
  have e1:zad m ⟨9,i,e,G⟩ x y=(zcC (zb4 m i) x,true):=if_neg (show ¬(m.rel.length:Int)≤i by omega)
  rw [e1]
  refine ⟨rfl,fun w=>?_⟩
  show _↔w < m.W.toNat ∧ ∀ u,u < m.W.toNat→zfl (z7 m) i.toNat w u→X u
  rw [hbox r1 r2 (fun w u _=>zke hi)]
  exact and_congr_right fun hw=>forall_congr' fun u=>⟨fun h _=>h,fun h h2=>h (zmW g h2).2.1 h2⟩
 ·have hi:=f2 (.inr rfl)
  obtain ⟨r1,r2⟩:=zmX g hi
  have e1:zad m ⟨10,i,e,G⟩ x y=(zkw (zb4 m i) x,true):=if_neg (show ¬(m.rel.length:Int)≤i by omega)
  rw [e1]
  refine ⟨rfl,fun w=>?_⟩
  show _↔w < m.W.toNat ∧ ∃ u,u < m.W.toNat∧zfl (z7 m) i.toNat w u∧X u
  unfold zkw
  rw [r2,show ((m.W.toNat:Nat):Int)=m.W by omega,BitVec.getLsbD_and,Bool.and_eq_true,hall]
  refine and_congr_right fun hw=>?_
  rw [hnx _ w hw,znX (by omega),r2]
  constructor
  ·intro hn
   refine Classical.byContradiction fun hc=>hn ⟨hw,fun u hu=>?_⟩
   have hu2:=(zke hi).1 hu
   have hul:=(zmW g hu2).2.1
   exact (hnx x u hul).2 fun h=>hc ⟨u,hul,hu2,(hxX u hul).1 h⟩
  ·rintro ⟨u,hul,hu,hX⟩ ⟨-,H⟩
   exact (hnx x u hul).1 (H u ((zke hi).2 hu)) ((hxX u hul).2 hX)
 ·have hi:=f3 (by omega)
  obtain ⟨r1,r2⟩:=zw9 hk0 hi
  have hp:((2 ^ m.rel.length:Nat):Int)=(2:Int) ^ m.rel.length:=by simp
  have e1:zad m ⟨11,i,e,G⟩ x y=(zcC (zbj m G) x,true):=if_neg (show ¬(2:Int) ^ m.rel.length≤G by omega)
  rw [e1]
  refine ⟨rfl,fun w=>?_⟩
  show _↔w < m.W.toNat ∧ ∀ u,zoC m.W.toNat (z7 m) G.toNat w u→X u
  rw [hbox r1 r2 (fun w u hw=>zmR g hi hw)]
 ·have hi:=f3 (by omega)
  obtain ⟨r1,r2⟩:=zBt hk0 hi
  have hp:((2 ^ m.rel.length:Nat):Int)=(2:Int) ^ m.rel.length:=by simp
  have e1:zad m ⟨12,i,e,G⟩ x y=(zcC (zfj m G) x,true):=if_neg (show ¬(2:Int) ^ m.rel.length≤G by omega)
  rw [e1]
  refine ⟨rfl,fun w=>?_⟩
  show _↔w < m.W.toNat ∧ ∀ u,u < m.W.toNat→(∀ a,G.toNat.testBit a=true→zfl (z7 m) a w u)→X u
  rw [hbox r1 r2 (fun w u hw=>zu6 g hi hw)]
  refine and_congr_right fun hw=>forall_congr' fun u=>⟨fun h _=>h,fun h h2=>h ?_ h2⟩
  have:=znL r1 ((zu6 g hi hw).2 h2)
  omega
 ·have hi:=f3 (by omega)
  obtain ⟨r1,r2⟩:=zw9 hk0 hi
  have hp:((2 ^ m.rel.length:Nat):Int)=(2:Int) ^ m.rel.length:=by simp
  have e1:zad m ⟨13,i,e,G⟩ x y=(zi6 (zbj m G) x y,true):=if_neg (show ¬(2:Int) ^ m.rel.length≤G by omega)
  rw [e1]
  refine ⟨rfl,fun w=>?_⟩
  show _↔w < m.W.toNat ∧ ∀ u,CPt (zoC m.W.toNat (z7 m) G.toNat) X w u→Y u
  unfold zi6
  rw [zeB (by omega),r2,@decide_eq_true_eq _ (Classical.propDecidable _)]
  refine and_congr_right fun hw=>?_
  unfold zx9
  constructor
  ·intro H u hu
   obtain ⟨h1,h2⟩:=zsM (S':=fun a b=>rb (zbj m G) a b=true) (c':=fun u=>x.getLsbD u=true) hw (fun a b ha hab=>⟨hab.1,(zmR g hi ha).2 hab⟩) (fun a ha h=>(hxX a ha).2 h) hu
   exact (hyY u h1).1 (H u h2)
  ·intro H u hu
   obtain ⟨h1,h2⟩:=zsM (S':=zoC m.W.toNat (z7 m) G.toNat) (c':=X) hw (fun a b ha hab=>⟨((zmR g hi ha).1 hab).1,(zmR g hi ha).1 hab⟩) (fun a ha h=>(hxX a ha).1 h) hu
   exact (hyY u h1).2 (H u h2)
theorem zhZ {m:KM} (hk0:zi m=0) : ∀ (t:Tm),t.ok→t.all (zhL m)→(ev (vnK m) (0#64,false) t).2=true ∧ ∀ w,(ev (vnK m) (0#64,false) t).1.getLsbD w=true↔w < m.W.toNat∧zAY m t w
 | .z h,h1,h2=>by
  have h4 : ¬(4≤h.op∧h.op≤21):=by simpa [zG] using h1.2.1
  have hop:=h2.op
  have hd : ∀ u,(0#64).getLsbD u=true↔u < m.W.toNat∧False:=fun u=>by simp
  have e:ev (vnK m) (0#64,false) (.z h)=zad m h 0#64 0#64:=if_pos ⟨fun h=>by omega,fun h=>by omega⟩
  rw [e]
  exact zhI hk0 h2 hd hd
 | .u h x,h1,h2=>by
  obtain ⟨a1,a2⟩:=zhZ hk0 x h1.2.2.2 h2.2
  have h5 : ¬(5≤h.op∧h.op≤8∨h.op=13∨h.op=14∨h.op=16∨h.op=19∨h.op=21):=by simpa [zH] using h1.2.2.1
  have hd : ∀ u,(0#64).getLsbD u=true↔u < m.W.toNat∧False:=fun u=>by simp
  have e:ev (vnK m) (0#64,false) (.u h x)=zad m h (ev (vnK m) (0#64,false) x).1 0#64:=if_pos ⟨fun _=>a1,fun h=>by omega⟩
  rw [e]
  exact zhI hk0 h2.1 a2 hd
 | .b h x y,h1,h2=>by
  obtain ⟨a1,a2⟩:=zhZ hk0 x h1.2.2.2.1 h2.2.1
  obtain ⟨b1,b2⟩:=zhZ hk0 y h1.2.2.2.2 h2.2.2
  have e:ev (vnK m) (0#64,false) (.b h x y)=zad m h (ev (vnK m) (0#64,false) x).1 (ev (vnK m) (0#64,false) y).1:=if_pos ⟨fun _=>a1,fun _=>b1⟩
  rw [e]
  exact zhI hk0 h2.1 a2 b2
def zeK (f:List Nd):Tm:=zt f (f.length - 1)
theorem zqz {m:KM} {f:List Nd} (h:zaL m f=0):(zeK f).ok∧(zeK f).all (zhL m):=by
 obtain ⟨h1,h2,h3,h4⟩:=zgq h
 obtain ⟨p1,p2,p3⟩:=zds.1 h2
 have g:=zw h1
 refine ⟨zfz p3 f.length _ (by omega) (by omega),((zhS h2).1.all (zhL m)).1 fun n hn=>?_⟩
 have hh:=zmK hn
 have ho:1≤n.op∧n.op≤21:=by have:zc9 n.op=true:=hh.op;simpa [zc9] using this
 have hlt:uni zbJ (cL f) < 2 ^ 63:=Nat.lt_of_lt_of_le ((zik zbJ (b:=9)).2 fun n _=>zoi n.hd) (by decide)
 have a1:=(znv hlt (b:=15) (by decide)).1 h3
 have a2 : ∀ i,(zbJ n.hd).testBit i=true→(15:Nat).testBit i=true:=fun i hi=>a1 i (by rw [zm1];exact List.any_eq_true.2 ⟨n,hn,hi⟩)
 have key : ∀ (o:Int) (i:Nat),n.op=o→((zaR o).toNat).testBit i=true→(15:Nat).testBit i=true:=fun o i e hi=>a2 i (by rw [zbJ];show ((zaR n.op).toNat).testBit i=true;rw [e];exact hi)
 have hop:n.op≤13:=by
  refine Classical.byContradiction fun hn13=>?_
  have:n.op=14∨n.op=15∨n.op=16∨n.op=17∨n.op=18∨n.op=19∨n.op=20∨n.op=21:=by omega
  rcases this with e|e|e|e|e|e|e|e
  ·exact absurd (key _ 4 e (by decide)) (by decide)
  ·exact absurd (key _ 5 e (by decide)) (by decide)
  ·exact absurd (key _ 6 e (by decide)) (by decide)
  ·exact absurd (key _ 7 e (by decide)) (by decide)
  ·exact absurd (key _ 8 e (by decide)) (by decide)
  ·exact absurd (key _ 8 e (by decide)) (by decide)
  ·exact absurd (key _ 8 e (by decide)) (by decide)
  ·exact absurd (key _ 8 e (by decide)) (by decide)
 simp only [zea,zfK,Bool.and_eq_true,decide_eq_true_eq,Int.toNat_natCast] at h4
 obtain ⟨⟨-,b1⟩,b2⟩:=h4
 have n4:=g.n4
 have v8:=g.v8
 have b1:=(zik zb5).1 (b1.resolve_left (by omega)) n hn
 have b2:=(zik zd9).1 (b2.resolve_left (by omega)) n hn
 refine ⟨⟨ho.1,hop⟩,fun e=>?_,fun e=>?_,fun e=>?_⟩
 ·have e':zae n.hd.op=true:=decide_eq_true e
  have h3:0≤n.i∧n.i≤7:=hh.fact e'
  rw [zd9,if_pos e'] at b2
  have b2:2 ^ n.i.toNat < 2 ^ m.val.length:=b2
  have:=(Nat.pow_lt_pow_iff_right (by decide:1 < 2)).1 b2
  show 0≤n.i∧n.i < _
  omega
 ·have e':zP n.hd.op=true:=decide_eq_true (by rcases e with e|e<;>rw [e]<;>simp)
  have h3:0≤n.i∧n.i≤3:=hh.agent e'
  rw [zb5,if_pos e'] at b1
  have b1:2 ^ n.i.toNat < 2 ^ m.rel.length:=b1
  have:=(Nat.pow_lt_pow_iff_right (by decide:1 < 2)).1 b1
  show 0≤n.i∧n.i < _
  omega
 ·have e2:11≤n.op∧n.op≤13:=e
  have h3:1≤n.g∧n.g≤15:=hh.group (decide_eq_true e2)
  have e3 : ¬ zP n.hd.op=true:=by
   simp only [zP,decide_eq_true_eq];show ¬(n.op=9∨n.op=10∨n.op=14∨n.op=15);omega
  rw [zb5,if_neg e3] at b1
  exact ⟨h3.1,b1⟩
theorem zpy {m:KM} {f:List Nd} (h:zaL m f=0):(zM m f).2=0 ∧ ∀ w,(zM m f).1.getLsbD w=true↔w < m.W.toNat∧zAY m (zeK f) w:=by
 obtain ⟨h1,h2,h3,h4⟩:=zgq h
 obtain ⟨p1,p2,p3⟩:=zds.1 h2
 have hd:zM m f=((ev (vnK m) (0#64,false) (zeK f)).1,0):=by
  unfold zM zeK
  rw [if_neg (by omega),zqZ (zt4 m) p3 f [] (by simp) (by simp) (fun i hi=>by simp at hi) (f.length - 1) (by omega)]
 rw [hd]
 obtain ⟨a1,a2⟩:=zqz h
 exact ⟨rfl,(zhZ h1 _ a1 a2).2⟩
end Go.Ab
namespace Go.Ab
open Go
theorem ztz {x:BitVec 64} : x≠0#64 ↔ ∃ i,x.getLsbD i=true:=by
 constructor
 ·intro h
  refine Classical.byContradiction fun hn=>h (BitVec.eq_of_getLsbD_eq fun i hi=>?_)
  rw [BitVec.getLsbD_zero]
  cases e:x.getLsbD i
  ·rfl
  ·exact absurd ⟨i,e⟩ hn
 ·rintro ⟨i,hi⟩ rfl
  simp at hi
def znT (s:BitVec 64) (l:List Nat) (o:BitVec 64):Nat→BitVec 64
 | 0=>o
 | k+1=>znT s l o k|||((s >>> k&&&1#64) <<< (l.getD k 0))
def zkq (m:KM) (a s:BitVec 64):BitVec 64:=if a=0#64 then z2 m.W else znT s (za a) (z2 m.W &&& ~~~a) (za a).length
theorem zAB {s:BitVec 64} {k c w:Nat} (hc:c < 64):((s >>> k&&&1#64) <<< c).getLsbD w=true↔w=c∧s.getLsbD k=true:=by
 rw [BitVec.getLsbD_shiftLeft]
 by_cases hw:w < 64
 ·rw [decide_eq_true hw,Bool.true_and]
  by_cases h:w < c
  ·rw [decide_eq_true h];simp;omega
  ·rw [decide_eq_false h,Bool.not_false,Bool.true_and]
   cases e:s.getLsbD k with
   | true =>
    rw [(zcg s k).2 e]
    by_cases h2:w=c
    ·subst h2;rw [Nat.sub_self];exact ⟨fun _=>⟨rfl,rfl⟩,fun _=>by decide⟩
    ·obtain ⟨j,hj⟩ : ∃ j,w - c=j+1:=⟨w - c - 1,by omega⟩
     rw [hj,show (1#64).getLsbD (j+1)=false by simp [BitVec.getLsbD_one]]
     exact ⟨fun h=>(by cases h),fun h=>absurd h.1 h2⟩
   | false =>
    rw [(zek s k).2 e]
    simp
 ·rw [decide_eq_false hw,Bool.false_and]
  exact ⟨fun h=>(by cases h),fun h=>by omega⟩
theorem zsx {s o:BitVec 64} {l:List Nat} (hl : ∀ i,i < l.length→l.getD i 0 < 64) {w:Nat} : ∀ k,k≤l.length→((znT s l o k).getLsbD w=true↔o.getLsbD w=true ∨ ∃ i,i < k∧l.getD i 0=w∧s.getLsbD i=true)
 | 0,_=>by
  rw [znT]
  exact ⟨.inl,fun h=>h.elim id fun ⟨i,h,_⟩=>absurd h (Nat.not_lt_zero i)⟩
 | k+1,hk=>by
  rw [znT,BitVec.getLsbD_or,Bool.or_eq_true,zsx hl k (by omega),zAB (hl k (by omega))]
  constructor
  ·rintro ((h|⟨i,h1,h2⟩)|⟨h1,h2⟩)
   ·exact .inl h
   ·exact .inr ⟨i,by omega,h2⟩
   ·exact .inr ⟨k,by omega,h1.symm,h2⟩
  ·rintro (h|⟨i,h1,h2,h3⟩)
   ·exact .inl (.inl h)
   ·by_cases e:i=k
    ·subst e;exact .inr ⟨h2.symm,h3⟩
    ·exact .inl (.inr ⟨i,by omega,h2,h3⟩)
theorem zuS {a:BitVec 64} {i:Nat} (hi:i < (za a).length):(za a).getD i 0 < 64:=by
 have hm:(za a).getD i 0∈za a:=by rw [List.getD,List.getElem?_eq_getElem hi];exact List.getElem_mem _
 exact List.mem_range.1 (List.mem_filter.1 hm).1
theorem zvy (a:BitVec 64):(za a).Nodup:=List.nodup_range.filter _
theorem zfc {a:BitVec 64} {w:Nat} (h:a.getLsbD w=true):(za a).idxOf w < (za a).length∧(za a).getD ((za a).idxOf w) 0=w:=by
 have h1:=List.idxOf_lt_length_of_mem (zbK.2 h)
 exact ⟨h1,by simp [List.getD,h1]⟩
theorem zuR {a:BitVec 64} {i w:Nat} (hi:i < (za a).length) (e:(za a).getD i 0=w):a.getLsbD w=true∧i=(za a).idxOf w:=by
 have hm:w∈za a:=by rw [← e,List.getD,List.getElem?_eq_getElem hi];exact List.getElem_mem _
 refine ⟨zbK.1 hm,?_⟩
 have h2:=zfc (zbK.1 hm)
 have hn:=List.pairwise_iff_getElem.1 (zvy a)
 have e1:(za a)[i]=w:=by rw [← e];simp [List.getD,hi]
 have e2:(za a)[(za a).idxOf w]'h2.1=w:=by simp
 rcases Nat.lt_trichotomy i ((za a).idxOf w) with h|h|h
 ·exact absurd (e1.trans e2.symm) (hn _ _ hi h2.1 h)
 ·exact h
 ·exact absurd (e2.trans e1.symm) (hn _ _ h2.1 hi h)
theorem znU {m:KM} (w1:1≤m.W) (w2:m.W≤64) {a s:BitVec 64} (ha : ∀ v,a.getLsbD v=true→v < m.W.toNat) {w:Nat} : (zkq m a s).getLsbD w=true↔w < m.W.toNat∧(a.getLsbD w=true→s.getLsbD ((za a).idxOf w)=true):=by
 have hall : ∀ w,(z2 m.W).getLsbD w=true↔w < m.W.toNat:=fun w=>by
  rcases Nat.lt_or_ge w 64 with h|h
  ·rw [zc4 (by omega) h,decide_eq_true_eq];omega
  ·rw [BitVec.getLsbD_of_ge _ _ h];constructor
   ·intro h;cases h
   ·intro _;omega
 unfold zkq
 by_cases h0:a=0#64
 ·rw [if_pos h0,hall]
  exact ⟨fun h=>⟨h,fun h2=>by rw [h0] at h2;simp at h2⟩,fun h=>h.1⟩
 ·rw [if_neg h0,zsx (fun i hi=>zuS hi) _ (Nat.le_refl _),BitVec.getLsbD_and,Bool.and_eq_true,hall]
  constructor
  ·rintro (⟨h1,h2⟩|⟨i,h1,h2,h3⟩)
   ·refine ⟨h1,fun h=>?_⟩
    rw [BitVec.getLsbD_not,h] at h2
    simp at h2
   ·obtain ⟨h4,h5⟩:=zuR h1 h2
    exact ⟨ha w h4,fun _=>by rw [← h5];exact h3⟩
  ·rintro ⟨h1,h2⟩
   cases e:a.getLsbD w with
   | true =>
    obtain ⟨h3,h4⟩:=zfc e
    exact .inr ⟨_,h3,h4,h2 e⟩
   | false =>
    refine .inl ⟨h1,?_⟩
    rw [BitVec.getLsbD_not,e,decide_eq_true (show w < 64 by omega)];rfl
noncomputable def zA:Tm→KM→BitVec 64
 | .z h,m=>(zad m h 0#64 0#64).1
 | .u h x,m=>(zad m h (zA x m) 0#64).1
 | .b h x y,m=>if h.op=16 then zkq m (zA x m) (zA y (zaE m (za (zA x m)))) else (zad m h (zA x m) (zA y m)).1
def zhK (m:KM) (h:Hd):Prop:=zhL m h∨h.op=16
theorem zhL.same {m m':KM} (hv:m'.val.length=m.val.length) (hr:m'.rel.length=m.rel.length) {h:Hd} (hf:zhL m h):zhL m' h:=⟨hf.op,by rw [hv];exact hf.fact,by rw [hr];exact hf.agent,by rw [hr];exact hf.group⟩
theorem zei (m:KM) (l:List Nat):(zaE m l).val.length=m.val.length∧(zaE m l).rel.length=m.rel.length:=⟨by simp [zaE],by simp [zaE]⟩
theorem zhQ {P Q:Hd→Prop} (h : ∀ x,P x→Q x) : ∀ {t:Tm},t.all P→t.all Q
 | .z _,a=>h _ a
 | .u _ _,a=>⟨h _ a.1,zhQ h a.2⟩
 | .b _ _ _,a=>⟨h _ a.1,zhQ h a.2.1,zhQ h a.2.2⟩
theorem zhK.arr {m:KM} {l:List Nat} {t:Tm} (h:t.all (zhK m)):t.all (zhK (zaE m l)):=zhQ (fun x hx=>hx.imp (fun h=>h.same (zei m l).1 (zei m l).2) id) h
theorem zj1 {a:BitVec 64} (h:a≠0#64):1≤(za a).length∧(za a).length≤64:=by
 obtain ⟨i,hi⟩:=ztz.1 h
 refine ⟨List.length_pos_of_mem (zbK.2 hi),?_⟩
 unfold za
 have:=List.length_filter_le (fun i=>a.getLsbD i) (List.range 64)
 simpa using this
theorem zjv : ∀ (t:Tm) {m:KM},zi m=0→t.ok→t.all (zhK m) → ∀ w,(zA t m).getLsbD w=true→w < m.W.toNat
 | .z h,m,hk,ho,hf,w,hw=>by
  have h4 : ¬(4≤h.op∧h.op≤21):=by simpa [zG] using ho.2.1
  have hd : ∀ u,(0#64).getLsbD u=true↔u < m.W.toNat∧False:=fun u=>by simp
  rcases hf with hf|hf
  ·exact (((zhI hk hf hd hd).2 w).1 hw).1
  ·omega
 | .u h x,m,hk,ho,hf,w,hw=>by
  have h5 : ¬(5≤h.op∧h.op≤8∨h.op=13∨h.op=14∨h.op=16∨h.op=19∨h.op=21):=by simpa [zH] using ho.2.2.1
  have hd : ∀ u,(0#64).getLsbD u=true↔u < m.W.toNat∧False:=fun u=>by simp
  have ih:=zjv x hk ho.2.2.2 hf.2
  rcases hf.1 with hf|hf
  ·exact (((zhI hk hf (X:=fun u=>(zA x m).getLsbD u=true) (fun u=>⟨fun h=>⟨ih u h,h⟩,fun h=>h.2⟩) hd).2 w).1 hw).1
  ·omega
 | .b h x y,m,hk,ho,hf,w,hw=>by
  have ih:=zjv x hk ho.2.2.2.1 hf.2.1
  have w1:=(zw hk).w1
  have w2:=(zw hk).w2
  by_cases h16:h.op=16
  ·rw [zA,if_pos h16,znU w1 w2 ih] at hw
   exact hw.1
  ·have ih2:=zjv y hk ho.2.2.2.2 hf.2.2
   rw [zA,if_neg h16] at hw
   rcases hf.1 with hf|hf
   ·exact (((zhI hk hf (X:=fun u=>(zA x m).getLsbD u=true) (Y:=fun u=>(zA y m).getLsbD u=true) (fun u=>⟨fun h=>⟨ih u h,h⟩,fun h=>h.2⟩) (fun u=>⟨fun h=>⟨ih2 u h,h⟩,fun h=>h.2⟩)).2 w).1 hw).1
   ·exact absurd hf h16
theorem zgz {m:KM} (hk:zi m=0) : ∀ (t:Tm),t.ok→t.all (zhL m)→zA t m=(ev (vnK m) (0#64,false) t).1
 | .z h,ho,hf=>by
  have h4 : ¬(4≤h.op∧h.op≤21):=by simpa [zG] using ho.2.1
  have hop:=hf.op
  have e:ev (vnK m) (0#64,false) (.z h)=zad m h 0#64 0#64:=if_pos ⟨fun h=>by omega,fun h=>by omega⟩
  rw [e];rfl
 | .u h x,ho,hf=>by
  have a1:=(zhZ hk x ho.2.2.2 hf.2).1
  have h5 : ¬(5≤h.op∧h.op≤8∨h.op=13∨h.op=14∨h.op=16∨h.op=19∨h.op=21):=by simpa [zH] using ho.2.2.1
  have e:ev (vnK m) (0#64,false) (.u h x)=zad m h (ev (vnK m) (0#64,false) x).1 0#64:=if_pos ⟨fun _=>a1,fun h=>by omega⟩
  rw [e,← zgz hk x ho.2.2.2 hf.2];rfl
 | .b h x y,ho,hf=>by
  have a1:=(zhZ hk x ho.2.2.2.1 hf.2.1).1
  have b1:=(zhZ hk y ho.2.2.2.2 hf.2.2).1
  have e:ev (vnK m) (0#64,false) (.b h x y)=zad m h (ev (vnK m) (0#64,false) x).1 (ev (vnK m) (0#64,false) y).1:=if_pos ⟨fun _=>a1,fun _=>b1⟩
  have hop:=hf.1.op
  rw [e,← zgz hk x ho.2.2.2.1 hf.2.1,← zgz hk y ho.2.2.2.2 hf.2.2,zA,if_neg (by omega)]
theorem zvI {m:KM} {f:List Nd} (h:zaL m f=0):(zM m f).1=zA (zeK f) m:=by
 obtain ⟨h1,h2,h3,h4⟩:=zgq h
 obtain ⟨p1,p2,p3⟩:=zds.1 h2
 obtain ⟨a1,a2⟩:=zqz h
 rw [zgz h1 _ a1 a2]
 unfold zM zeK
 rw [if_neg (by omega),zqZ (zt4 m) p3 f [] (by simp) (by simp) (fun i hi=>by simp at hi) (f.length - 1) (by omega)]
theorem zrG {m m':KM} {f:List Nd} (h:zaL m f=0) (hk:zi m'=0) (hr:m'.rel.length=m.rel.length) (hv:m'.val.length=m.val.length):zaL m' f=0:=by
 obtain ⟨h1,h2,h3,h4⟩:=zgq h
 unfold zaL
 rw [if_neg (by omega),if_neg (by omega),if_neg (by omega),hr,hv,if_neg (by rw [h4];decide)]
def Fl:List Tm→Tm
 | [] => .z ⟨1,0,0,0⟩
 | t::r => .u ⟨4,0,0,0⟩ (.b ⟨16,0,0,0⟩ t (.u ⟨4,0,0,0⟩ (Fl r)))
theorem zA8 (m:KM):zA (Fl []) m=z2 m.W:=rfl
theorem zz5 {m:KM} (hk:zi m=0) {t:Tm} (ha : ∀ w,(zA t m).getLsbD w=true→w < m.W.toNat) (r:List Tm) {w:Nat} : (zA (Fl (t::r)) m).getLsbD w=true↔(zA t m).getLsbD w=true∧(zA (Fl r) (zaE m (za (zA t m)))).getLsbD ((za (zA t m)).idxOf w)=true:=by
 have w1:=(zw hk).w1
 have w2:=(zw hk).w2
 have hall : ∀ {n:Int},0≤n→n≤64 → ∀ w,(z2 n).getLsbD w=true↔w < n.toNat:=fun {n} h1 h2 w=>by
  rcases Nat.lt_or_ge w 64 with h|h
  ·rw [zc4 (by omega) h,decide_eq_true_eq];omega
  ·rw [BitVec.getLsbD_of_ge _ _ h];constructor
   ·intro h;cases h
   ·intro _;omega
 have hnot : ∀ (x:BitVec 64) w,w < 64→((~~~x).getLsbD w=true ↔ ¬x.getLsbD w=true):=fun x w hw=>by
  rw [BitVec.getLsbD_not,decide_eq_true hw];simp
 generalize hA:zA t m=a at *
 have e:zA (Fl (t::r)) m=z2 m.W &&& ~~~(zkq m a (z2 (zaE m (za a)).W &&& ~~~(zA (Fl r) (zaE m (za a))))):=by
  show z2 m.W &&& ~~~(zkq m (zA t m) (z2 (zaE m (za (zA t m))).W &&& ~~~(zA (Fl r) (zaE m (za (zA t m))))))=_
  rw [hA]
 rw [e,BitVec.getLsbD_and,Bool.and_eq_true,hall (by omega) w2]
 constructor
 ·rintro ⟨h1,h2⟩
  rw [hnot _ w (by omega),znU w1 w2 ha] at h2
  cases ea:a.getLsbD w with
  | false=>exact absurd ⟨h1,fun h=>by rw [ea] at h;cases h⟩ h2
  | true =>
   refine ⟨rfl,?_⟩
   obtain ⟨h3,h4⟩:=zfc ea
   have hl:=(zj1 (ztz.2 ⟨w,ea⟩)).2
   refine Classical.byContradiction fun hn=>h2 ⟨h1,fun _=>?_⟩
   rw [BitVec.getLsbD_and,Bool.and_eq_true,hall (by show (0:Int)≤((za a).length:Int);omega) (by show ((za a).length:Int)≤64;omega),hnot _ _ (by omega)]
   exact ⟨by show _ < (((za a).length:Nat):Int).toNat;omega,hn⟩
 ·rintro ⟨ea,h2⟩
  have h1:=ha w ea
  obtain ⟨h3,h4⟩:=zfc ea
  have hl:=(zj1 (ztz.2 ⟨w,ea⟩)).2
  refine ⟨h1,?_⟩
  rw [hnot _ w (by omega),znU w1 w2 ha]
  rintro ⟨-,h5⟩
  have:=h5 ea
  rw [BitVec.getLsbD_and,Bool.and_eq_true,hnot _ _ (by omega)] at this
  exact this.2 h2
noncomputable def zgF:List (List Nd)→KM→Nat→List (Bool×Int)
 | [],_,_=>[]
 | f::r,m,w=>if (zM m f).1.getLsbD w=true then (true,((za (zM m f).1).length:Int))::zgF r (zaE m (za (zM m f).1)) ((za (zM m f).1).idxOf w) else [(false,m.W)]
theorem zAq : ∀ (says:List (List Nd)) {m:KM},zi m=0→(∀ f∈says,zaL m f=0) → ∀ {w:Nat},w < m.W.toNat→(((zgF says m w).length=says.length ∧ ∀ p∈zgF says m w,p.1=true)↔(zA (Fl (says.map zeK)) m).getLsbD w=true)
 | [],m,hk,_,w,hw=>by
  have w1:=(zw hk).w1
  have w2:=(zw hk).w2
  rw [List.map_nil,zA8,zc4 (by omega) (by omega),decide_eq_true_eq,zgF]
  exact ⟨fun _=>by omega,fun _=>⟨rfl,fun p hp=>by cases hp⟩⟩
 | f::r,m,hk,hs,w,hw=>by
  have hr:=hs f (List.mem_cons_self ..)
  obtain ⟨a1,a2⟩:=zqz hr
  have hin:=zjv (zeK f) hk a1 (zhQ (fun _ h => .inl h) a2)
  rw [List.map_cons,zz5 hk hin,← zvI hr,zgF]
  cases e:(zM m f).1.getLsbD w with
  | false =>
   rw [if_neg (by decide)]
   exact ⟨fun h=>absurd (h.2 _ (List.mem_singleton.2 rfl)) (by simp),fun h=>absurd h.1 (by decide)⟩
  | true =>
   have hne:(zM m f).1≠0#64:=ztz.2 ⟨w,e⟩
   obtain ⟨l1,l2⟩:=zj1 hne
   have hk':=zhr (znW (zw hk) l1 l2)
   have hx:=zfc e
   have ih:=zAq r hk' (fun g hg=>zrG (hs g (List.mem_cons_of_mem _ hg)) hk' (zei m _).2 (zei m _).1) (w:=(za (zM m f).1).idxOf w) (by show _ < (((za (zM m f).1).length:Nat):Int).toNat;omega)
   rw [if_pos rfl,← ih]
   constructor
   ·rintro ⟨h1,h2⟩
    exact ⟨rfl,by simpa using h1,fun p hp=>h2 p (List.mem_cons_of_mem _ hp)⟩
   ·rintro ⟨-,h1,h2⟩
    refine ⟨by simpa using h1,fun p hp=>?_⟩
    rcases List.mem_cons.1 hp with rfl|hp
    ·rfl
    ·exact h2 p hp
end Go.Ab
namespace Go.Ab
open Go Go.Proofs
set_option maxRecDepth 10000
set_option maxHeartbeats 4000000
variable {T:Nat→Obj→Prop}
abbrev zbp (es:List (Nat×BitVec 64)):List (D×D):=es.map fun p=>(D.int .i64 (p.1:Int),D.u64 p.2)
abbrev zbP (m:KM) (f:List Nd) (mp er:Nat):Ob := .box [.d (.int .i64 m.W),.d (dU m.val),.d (dUU m.rel),.d (.u64 (z2 m.W)),.d (.arr 3 []),.d (dF f),.map mp,.ptr er 0]
abbrev zb8:Ob := .box [.d (.int .i64 0)]
theorem zrh (es:List (Nat×BitVec 64)) (i:Nat):zF (zbp es) (.int .i64 (i:Int))=some ((es.lookup i).map fun r=>D.u64 r):=by
 induction es with
 | nil=>rfl
 | cons p d ih =>
  obtain ⟨a,b⟩:=p
  show (match some (decide ((i:Int)=(a:Int))) with
   | some true=>some (some (D.u64 b))
   | some false=>zF (zbp d) (.int .i64 (i:Int))
   | none=>none)=_
  by_cases h:i=a
  ·subst h;simp [List.lookup]
  ·have h1:decide ((i:Int)=(a:Int))=false:=by simp only [decide_eq_false_iff_not];omega
   have h2:(i==a)=false:=by simpa using h
   rw [h1]
   simp only [List.lookup,h2]
   exact ih
noncomputable def zaY (f:List Nd) (m:KM):Nat→Nat→List (Nat×BitVec 64)→List (Nat×BitVec 64)
 | 0,_,es=>es
 | k+1,i,es=>match es.lookup i with
  | some _=>es
  | none=>cond (zH (f.getD i default).op && !decide ((f.getD i default).op=16)) (zaY f m k (f.getD i default).y.toNat (cond (zG (f.getD i default).op) (zaY f m k (f.getD i default).x.toNat es) es)) (cond (zG (f.getD i default).op) (zaY f m k (f.getD i default).x.toNat es) es)++[(i,zA (zt f i) m)]
def zkj (f:List Nd) (m:KM) (es:List (Nat×BitVec 64)):Prop := ∀ p∈es,p.2=zA (zt f p.1) m
theorem zyR {es:List (Nat×BitVec 64)} {i:Nat} {s:BitVec 64} (h:es.lookup i=some s):(i,s)∈es:=by
 induction es with
 | nil=>cases h
 | cons p r ih =>
  obtain ⟨a,b⟩:=p
  by_cases e:i=a
  ·subst e
   simp [List.lookup] at h
   subst h
   exact List.mem_cons_self ..
  ·have h2:(i==a)=false:=by simpa using e
   simp only [List.lookup,h2] at h
   exact List.mem_cons_of_mem _ (ih h)
theorem zkj.look {f:List Nd} {m:KM} {es:List (Nat×BitVec 64)} (h:zkj f m es) {i:Nat} {s:BitVec 64} (hl:es.lookup i=some s):s=zA (zt f i) m:=h _ (zyR hl)
theorem zsP {f:List Nd} {m:KM} : ∀ (k i:Nat) (es:List (Nat×BitVec 64)),zkj f m es→zkj f m (zaY f m k i es)
 | 0,_,_,h=>h
 | k+1,i,es,h=>by
  rw [zaY]
  split
  ·exact h
  ·have h1:zkj f m (cond (zG (f.getD i default).op) (zaY f m k (f.getD i default).x.toNat es) es):=by
    cases zG (f.getD i default).op with
    | true=>exact zsP k _ es h
    | false=>exact h
   have h2:zkj f m (cond (zH (f.getD i default).op && !decide ((f.getD i default).op=16)) (zaY f m k (f.getD i default).y.toNat (cond (zG (f.getD i default).op) (zaY f m k (f.getD i default).x.toNat es) es)) (cond (zG (f.getD i default).op) (zaY f m k (f.getD i default).x.toNat es) es)):=by
    cases zH (f.getD i default).op && !decide ((f.getD i default).op=16) with
    | true=>exact zsP k _ _ h1
    | false=>exact h1
   intro p hp
   rcases List.mem_append.1 hp with hp|hp
   ·exact h2 p hp
   ·rw [List.mem_singleton.1 hp]
theorem zuB {es:List (Nat×BitVec 64)} {i j:Nat} {s:BitVec 64} (h:es.lookup i=none) (hij:i≠j):(es++[(j,s)]).lookup i=none:=by
 induction es with
 | nil =>
  have h2:(i==j)=false:=by simpa using hij
  simp [List.lookup,h2]
 | cons p r ih =>
  obtain ⟨a,b⟩:=p
  by_cases e:i=a
  ·subst e;simp [List.lookup] at h
  ·have h2:(i==a)=false:=by simpa using e
   simp only [List.cons_append,List.lookup,h2] at h ⊢
   exact ih h
theorem zkx {f:List Nd} (hf:zaf f) {m:KM} : ∀ (k i:Nat) (es:List (Nat×BitVec 64)) (j:Nat),i < f.length→i < j→es.lookup j=none→(zaY f m k i es).lookup j=none
 | 0,_,_,_,_,_,h=>h
 | k+1,i,es,j,hi,hij,h=>by
  rw [zaY]
  split
  ·exact h
  ·refine zuB ?_ (by omega)
   have h1:(cond (zG (f.getD i default).op) (zaY f m k (f.getD i default).x.toNat es) es).lookup j=none:=by
    cases hx:zG (f.getD i default).op with
    | true =>
     have:=zax hf hi hx
     exact zkx hf k _ es j (by omega) (by omega) h
    | false=>exact h
   cases hy:zH (f.getD i default).op with
   | true =>
    have:=zb7 hf hi hy
    cases decide ((f.getD i default).op=16) with
    | true=>exact h1
    | false=>exact zkx hf k _ _ j (by omega) (by omega) h1
   | false=>exact h1
theorem zyH (m m':KM) (f:List Nd) (es:List (D×D)) (w1:1≤m'.W) (w2:m'.W≤64):Fn Tryd.prog T zb2 [.ptr 0 0,.d (dKM m')] [zbP m f 1 2,.map es,zb8] (.ptr 3 0) [some (zbP m f 1 2),some (.map es),some zb8,some (zbP m' f 4 2),some (.map [])]:=by
 have hsh:=znS w1 w2
 rw [show zbP m' f 4 2 = .box [.d (.int .i64 m'.W),.d (dU m'.val),.d (dUU m'.rel),.d (.u64 ((18446744073709551615#64) >>> (64 - m'.W).toNat)),.d (.arr 3 []),.d (dF f),.map 4,.ptr 2 0] by rw [hsh]]
 refine zB zk zdV (by show 2≤25;decide) _ (fun e env mem n h=>h) ?_
 (repeat' ((conv=>whnf);first|refine vA ?_|refine vT ?_|((first|refine vO ?_ ?_|refine vP ?_ ?_);·omega)|(refine vU ?_ ?_;·kernel_rfl)|fail));all_goals try conv=>whnf
 refine ⟨trivial,_,[(0,0),(1,1),(2,2),(3,5),(4,4)],[],rfl,.inl (by (repeat' first|exact rfl|refine ⟨_,rfl,?_⟩)),⟨by rfl,by rfl,by rfl,trivial,by (repeat' first|exact trivial|exact rfl|refine And.intro ?_ ?_|refine ⟨_,rfl,?_⟩|exact of_decide_eq_true rfl)⟩,by (repeat' first|exact trivial|exact rfl|refine And.intro ?_ ?_|refine ⟨_,rfl,?_⟩)⟩
theorem zho (m:KM) (f:List Nd) (es:List (D×D)) (op i e g:Int) (x y:BitVec 64) (ho:5≤op∧op≤8):Fn Tryd.prog T zcA [.ptr 0 0,.d (.int .i64 op),.d (.u64 x),.d (.u64 y)] [zbP m f 1 2,.map es,zb8] (.d (.u64 (zad m ⟨op,i,e,g⟩ x y).1)) [some (zbP m f 1 2),some (.map es),some zb8]:=by
 have:op=5∨op=6∨op=7∨op=8:=by omega
 rcases this with rfl|rfl|rfl|rfl
 all_goals
  refine zB zk zfD (by show 4≤38;decide) _ (fun e env mem n h=>h) ?_
  (repeat' ((conv=>whnf);first|refine vA ?_|refine vG ?_|refine vH ?_|refine vT ?_));all_goals try conv=>whnf
 ·refine ⟨trivial,_,[(0,0),(1,1),(2,2)],[],rfl,.inl (by (repeat' exact rfl)),⟨by rfl,by rfl,by rfl,trivial,by (repeat' first|exact trivial|exact rfl|refine And.intro ?_ ?_|refine ⟨_,rfl,?_⟩|exact of_decide_eq_true rfl)⟩,by (repeat' first|exact trivial|exact rfl|refine And.intro ?_ ?_|refine ⟨_,rfl,?_⟩)⟩
 ·refine ⟨trivial,_,[(0,0),(1,1),(2,2)],[],rfl,.inl (by (repeat' exact rfl)),⟨by rfl,by rfl,by rfl,trivial,by (repeat' first|exact trivial|exact rfl|refine And.intro ?_ ?_|refine ⟨_,rfl,?_⟩|exact of_decide_eq_true rfl)⟩,by (repeat' first|exact trivial|exact rfl|refine And.intro ?_ ?_|refine ⟨_,rfl,?_⟩)⟩
 ·refine ⟨trivial,_,[(0,0),(1,1),(2,2)],[],rfl,.inl (by (repeat' exact rfl)),⟨by rfl,by rfl,by rfl,trivial,by (repeat' first|exact trivial|exact rfl|refine And.intro ?_ ?_|refine ⟨_,rfl,?_⟩|exact of_decide_eq_true rfl)⟩,by (repeat' first|exact trivial|exact rfl|refine And.intro ?_ ?_|refine ⟨_,rfl,?_⟩)⟩
 ·refine ⟨trivial,_,[(0,0),(1,1),(2,2)],[],rfl,.inl (by (repeat' exact rfl)),⟨by rfl,by rfl,by rfl,trivial,by (repeat' first|exact trivial|exact rfl|refine And.intro ?_ ?_|refine ⟨_,rfl,?_⟩|exact of_decide_eq_true rfl)⟩,by (repeat' first|exact trivial|exact rfl|refine And.intro ?_ ?_|refine ⟨_,rfl,?_⟩)⟩
theorem ztd {m:KM} (hk0:zi m=0) (f:List Nd) (es:List (D×D)) (g:Nat) (hg1:1≤g) (hg2:(g:Int) < 2 ^ m.rel.length) (x y:BitVec 64):Fn Tryd.prog T zcO [.ptr 0 0,.d (.int .i64 (g:Int)),.d (.u64 x),.d (.u64 y)] [zbP m f 1 2,.map es,zb8] (.d (.u64 (zi6 (zbj m (g:Int)) x y))) [some (zbP m f 1 2),some (.map es),some zb8]:=by
 have c1:=zl1 (T:=T) hk0 hg1 hg2
 have hgn:g < 2 ^ m.rel.length:=by
  have:((2 ^ m.rel.length:Nat):Int)=(2:Int) ^ m.rel.length:=by simp
  omega
 obtain ⟨r1,l1⟩:=zfv hk0 zpW hg1 hgn
 have w1:=(zw hk0).w1
 change Fn _ _ _ _ _ (.d (dU (zbj m (g:Int)))) _ at c1
 change zai (zbj m (g:Int))=0 at r1
 change (zbj m (g:Int)).length=_ at l1
 generalize zbj m (g:Int)=r at *
 have hlW:((r.length:Nat):Int)=m.W:=by omega
 have cb:=fun s=>zcS (T:=T) (r:=r) s r1
 refine zB zk zf3 (by show 4≤39;decide) _ (fun e env mem n h=>h) ?_
 have hst:zgX r x y (z2 m.W):=by rw [← hlW];exact .start x y r1
 have hF : ∀ o,zfP r x y o=zcC r (z2 m.W &&& ~~~x|||y&&&o):=fun o=>by unfold zfP;rw [hlW]
 (repeat' ((conv=>whnf);first|refine vT ?_|refine yN c1 ⟨⟨rfl,rfl⟩,⟨rfl,rfl⟩,rfl⟩ ?_));all_goals try conv=>whnf
 refine zy (fun (o:BitVec 64)=>[(zc+0,.ptr 0 0),(zc+1,.map 1),(zc+2,.ptr 2 0),(0,.ptr 0 0),(2,.d (.u64 (x))),(3,.d (.u64 (y))),(9,.d (dU r)),(10,.d (.u64 (o)))]) (fun (o:BitVec 64)=>[(0,some (zbP m f 1 2)),(1,some (.map es)),(2,some zb8)]) 3 (fun (o:BitVec 64)=>zgX r x y o) (fun (o:BitVec 64)=>(za o).length) (z2 m.W) [(0,0),(1,1),(2,2)] [] (hst) (by (refine ⟨rfl,rfl,rfl,?_,?_⟩;repeat' first|exact trivial|exact rfl|refine And.intro ?_ ?_|refine ⟨_,rfl,?_⟩|decide)) ?_
 rintro o hI
 have cbo:=cb (z2 m.W &&& ~~~x|||y&&&o)
 rw [← hF o] at cbo
 (repeat' ((conv=>whnf);first|refine vA ?_|(refine vF ?_ ?_<;>intro hc)|refine vT ?_|refine yD cbo (by (repeat refine ⟨⟨rfl,rfl⟩,?_⟩);rfl) rfl ?_));all_goals try conv=>whnf
 ·have e:=hI.done r1 ‹zfP r x y o=o›
  rw [← e]
  refine ⟨trivial,_,[(0,0),(1,1),(2,2)],[],rfl,.inl (by (repeat' exact rfl)),⟨by rfl,by rfl,by rfl,trivial,by (repeat' first|exact trivial|exact rfl|refine And.intro ?_ ?_|refine ⟨_,rfl,?_⟩|exact of_decide_eq_true rfl)⟩,by (repeat' first|exact trivial|exact rfl|refine And.intro ?_ ?_|refine ⟨_,rfl,?_⟩)⟩
 ·refine ⟨zfP r x y o,[(0,0),(1,1),(2,2)],[],?_,?_,by (refine ⟨rfl,rfl,rfl,?_,?_⟩;repeat' first|exact trivial|exact rfl|refine And.intro ?_ ?_|refine ⟨_,rfl,?_⟩|decide)⟩
  ·exact hI.next r1
  ·exact hI.less ‹_›
end Go.Ab
namespace Go.Ab
open Go Go.Proofs
set_option maxRecDepth 10000
set_option maxHeartbeats 4000000
variable {T:Nat→Obj→Prop}
theorem zw0 (hT:zcl T) {m:KM} (hk0:zi m=0) (f:List Nd) (es es2:List (D×D)) {a s:BitVec 64} (hin : ∀ v,a.getLsbD v=true→v < m.W.toNat) (i:Int)
  (hat:a≠0#64→Fn Tryd.prog T zaq [.ptr 0 0,.d (.int .i64 i)] [zbP (zaE m (za a)) f 1 2,.map [],zb8] (.d (.u64 s)) [some (zbP (zaE m (za a)) f 1 2),some (.map es2),some zb8]) :
  Fn Tryd.prog T zcc [.ptr 0 0,.d (.u64 a),.d (.int .i64 i)] [zbP m f 1 2,.map es,zb8] (.d (.u64 (zkq m a s))) [some (zbP m f 1 2),some (.map es),some zb8]:=by
 refine zB zk ze2 (by show 3≤58;decide) _ (fun e env mem n h=>h) ?_
 by_cases h0:a=0#64
 ·rw [zkq,if_pos h0]
  subst h0
  (repeat' ((conv=>whnf);first|refine vA ?_|refine vG ?_|refine vT ?_));all_goals try conv=>whnf
  refine ⟨trivial,_,[(0,0),(1,1),(2,2)],[],rfl,.inl (by (repeat' exact rfl)),⟨by rfl,by rfl,by rfl,trivial,by (repeat' first|exact trivial|exact rfl|refine And.intro ?_ ?_|refine ⟨_,rfl,?_⟩|exact of_decide_eq_true rfl)⟩,by (repeat' first|exact trivial|exact rfl|refine And.intro ?_ ?_|refine ⟨_,rfl,?_⟩)⟩
 ·have hat:=hat h0
  obtain ⟨l1,l2⟩:=zj1 h0
  have cr:=zl2 (T:=T) hT hk0 h0 hin
  have ci:=zyH (T:=T) m (zaE m (za a)) f es (by show (1:Int)≤((za a).length:Int);omega) (by show ((za a).length:Int)≤64;omega)
  have hb : ∀ k,k < (za a).length→(za a).getD k 0 < 64:=fun k hk=>zuS hk
  rw [zkq,if_neg h0]
  generalize zaE m (za a)=m' at *
  generalize za a=bs at *
  (repeat' ((conv=>whnf);first|refine vA ?_|(refine vF ?_ ?_<;>intro hc)|refine vT ?_|refine yN cr ⟨⟨rfl,rfl⟩,⟨rfl,rfl⟩,rfl⟩ ?_));all_goals try conv=>whnf
  ·exact absurd ‹a=0› h0
  refine zo.objs [0,1,2] (ci) (by (repeat' first|exact rfl|refine And.intro ?_ ?_|refine ⟨_,rfl,?_⟩)) (by (repeat' first|exact rfl|refine And.intro ?_ ?_|refine ⟨_,rfl,?_⟩)) (by rfl) (by rfl) (by simp) ?_
  (repeat' ((conv=>whnf);refine vT ?_));all_goals try conv=>whnf
  refine zo.objs [4,5,2] (hat) (by (repeat' first|exact rfl|refine And.intro ?_ ?_|refine ⟨_,rfl,?_⟩)) (by (repeat' first|exact rfl|refine And.intro ?_ ?_|refine ⟨_,rfl,?_⟩)) (by rfl) (by rfl) (by simp) ?_
  (repeat' ((conv=>whnf);first|refine vA ?_|refine vJ fun hg=>?_|refine vT ?_));all_goals try conv=>whnf
  refine zy (fun ((k,o):Nat×BitVec 64)=>[(zc+0,.ptr 0 0),(zc+1,.map 1),(zc+2,.ptr 2 0),(10,.d (.u64 (s))),(11,.d (.u64 (o))),(41,.d (dN bs)),(42,.d (.int .i64 ((((bs.map fun (x:Nat)=>(x:Int)).map (D.int .i64)).length:Int)))),(43,.d (.int .i64 ((k:Int))))]) (fun ((k,o):Nat×BitVec 64)=>[(0,some (zbP m f 1 2)),(1,some (.map es)),(2,some zb8)]) 3 (fun ((k,o):Nat×BitVec 64)=>k≤bs.length∧o=znT s bs (z2 m.W &&& ~~~a) k) (fun ((k,o):Nat×BitVec 64)=>bs.length - k) ((0,z2 m.W &&& ~~~a)) [(0,0),(1,1),(2,2)] [] (⟨by omega,rfl⟩) (by (refine ⟨rfl,rfl,rfl,?_,?_⟩;repeat' first|exact trivial|exact rfl|refine And.intro ?_ ?_|refine ⟨_,rfl,?_⟩|decide)) ?_
  rintro ⟨k,o⟩ ⟨hk,ho⟩
  (repeat' ((conv=>whnf);first|refine vA ?_|(refine vF ?_ ?_<;>intro hc<;>try simp only [vL] at hc)|refine vT ?_|(refine vQ ?_ fun x hx=>?_;·(simp only [vM] at *;omega))|(refine vP ?_ ?_;·omega)|fail));all_goals try conv=>whnf
  ·have hxe:x=((bs.getD k 0:Nat):Int):=by
    have hkl:k < bs.length:=by omega
    rw [List.getElem?_map,List.getElem?_eq_getElem hkl] at hx
    rw [← Option.some.inj hx];simp [List.getD,hkl]
   subst hxe
   refine ⟨by omega,?_⟩
   (repeat' ((conv=>whnf);first|refine vT ?_|(refine vO ?_ ?_;·omega)|fail));all_goals try conv=>whnf
   refine ⟨(k+1,_),[(0,0),(1,1),(2,2)],[],?_,?_,by (refine ⟨rfl,rfl,rfl,?_,?_⟩;repeat' first|exact trivial|exact rfl|refine And.intro ?_ ?_|refine ⟨_,rfl,?_⟩|decide)⟩
   ·exact ⟨by omega,by rw [ho,znT];rfl⟩
   ·((simp only [vM] at *;omega))
  ·obtain rfl:k=bs.length:=by omega
   rw [← ho]
   refine ⟨trivial,_,[(0,0),(1,1),(2,2)],[],rfl,.inl (by (repeat' exact rfl)),⟨by rfl,by rfl,by rfl,trivial,by (repeat' first|exact trivial|exact rfl|refine And.intro ?_ ?_|refine ⟨_,rfl,?_⟩|exact of_decide_eq_true rfl)⟩,by (repeat' first|exact trivial|exact rfl|refine And.intro ?_ ?_|refine ⟨_,rfl,?_⟩)⟩
end Go.Ab
