/- A part of the proofs of this seat: functions and their contracts. -/
import Derived.Test.YtjehkdhnhfghiaaGreatDoorMD
import Derived.Calls
import Derived.Shelf.Strconv.Itoa0
import Derived.Laws.IdiomStrings
import Derived.WalkKit
import Derived.CellFam
import Derived.Sort.Row
set_option linter.unusedVariables false
set_option linter.unusedSimpArgs false
set_option linter.unusedSectionVars false
namespace Go.Ab
open Go Go.Proofs
set_option maxRecDepth 10000
set_option maxHeartbeats 4000000
variable {T:Nat→Obj→Prop}
theorem zwq {n:Nat} (h12:n≤12) {R:zN} (hR:R.length≤8) (q:Nat→Nat) (w:Nat):Sml (zc7 n R q w)∧Sml (zaZ n R q w):=by
 have hsee : ∀ r:Nat→Nat→Bool,(zcy n r q w).length≤12:=fun r=>by
  unfold zcy
  rw [List.length_map]
  have:=List.length_filter_le (fun v=>r w v) (List.range n)
  rw [List.length_range] at this;omega
 refine ⟨⟨by simp [zc7];omega,fun x hx=>?_⟩,⟨by simp [zaZ];omega,fun x hx=>?_⟩⟩
 ·rcases List.mem_cons.1 hx with rfl|hx
  ·simp
  ·obtain ⟨r,-,rfl⟩:=List.mem_map.1 hx
   have:=hsee r
   rw [(zcz _).length_eq];omega
 ·rcases List.mem_cons.1 hx with rfl|hx
  ·simp
  ·obtain ⟨r,-,rfl⟩:=List.mem_map.1 hx
   have:=hsee r
   have h2:=zek (zdh (zcy n r q w)) (l':=zcy n r q w) fun y hy=>zbv.1 hy
   unfold zgZ
   rw [(zcz _).length_eq];omega
theorem zuq {m:KM} (hk0:zf m=0) {r:List (BitVec 64)} (hr:r∈m.rel) (w:Nat) : ∀ v,(r.getD w 0#64).getLsbD v=true→v < m.W.toNat:=fun v hv=>(zwR hk0 hr (v:=w) (u:=v) hv).2
abbrev bUU (l:List (List (BitVec 64))):D := .box [dUU l]
def zeO (m:KM):List (List (BitVec 64)):=m.rel.map (zmf m.W.toNat)
theorem zxH {n:Nat} {r:List (BitVec 64)} {w:Nat} (hw:w < n):(zmf n r)[w]? = some (zao (fun v=>rb r v w) n):=by unfold zmf;simp [hw]
theorem zsM (hT:zdB T) {m:KM} (hk0:zf m=0) (h12:m.W≤12) (q:Nat→Nat) (w:Nat) (hw:w < m.W.toNat) :
  Fn Tryz.prog T zbW [.d (dI (ptL m.W.toNat q)),.d (.int .i64 (w:Int)),.d (bKM m),.d (bUU (zeO m))] [] (.d (dII (zc7 m.W.toNat (zt m++zeP (zt m)) q w))) []:=by
 have hg0:=zq hk0
 have n4:=hg0.n4
 have e0:=zaF (q:=q) hw
 refine zi zy zjr (by show 4≤52;decide) ?_
 (repeat' ((conv=>whnf);first|refine vA ?_|refine vJ fun hg=>?_|refine vT ?_|refine vN ‹_› ?_));all_goals try conv=>whnf
 refine zo (fun ((k,zs):Nat×List D)=>[(0,.d (dI (ptL m.W.toNat q))),(1,.d (.int .i64 ((w:Int)))),(3,.d (bUU (zeO m))),(7,.own 0),(19,.d (dUU m.rel)),(20,.d (.int .i64 ((m.rel.map dU).length:Int))),(21,.d (.int .i64 ((k:Int))))]) (fun ((k,zs):Nat×List D)=>[(0,some (.row 1 zs))]) 1 (fun ((k,zs):Nat×List D)=>k≤m.rel.length∧zs=dI [(q w:Int)]::(m.rel.take k).map fun r=>dI (zaG (zbZ q (r.getD w 0#64)))) (fun ((k,zs):Nat×List D)=>m.rel.length - k) ((0,[dI [(q w:Int)]])) [(0,1)] [] (⟨by omega,by simp⟩) (by (refine ⟨rfl,rfl,rfl,?_,?_⟩;repeat' first|exact trivial|exact rfl|refine And.intro ?_ ?_|refine ⟨_,rfl,?_⟩|decide)) ?_
 rintro ⟨k,zs⟩ ⟨hk,hz⟩
 have hzl:zs.length≤5:=by rw [hz];simp;omega
 by_cases hkl:k < m.rel.length
 ·obtain ⟨r,hr⟩ : ∃ r,m.rel[k]? = some r:=⟨_,List.getElem?_eq_getElem hkl⟩
  have hrm:=List.mem_of_getElem? hr
  have hrl:=hg0.len r hrm
  have hx:=zbb (l:=r) (d:=0#64) (show w < r.length by omega)
  (repeat' ((conv=>whnf);first|refine vA ?_|(refine vF ?_ ?_<;>intro hc<;>try simp only [vL] at hc)|refine vJ fun hg=>?_|refine vT ?_|refine vN ‹_› ?_));all_goals try conv=>whnf
  ·refine zU.res (zot hT q (n:=m.W.toNat) (by omega) (zuq hk0 hrm w)) (by (repeat refine ⟨⟨rfl,rfl⟩,?_⟩);rfl) ?_
   (repeat' ((conv=>whnf);first|refine vT ?_|((first|refine vO ?_ ?_|refine vP ?_ ?_);·first|omega|(simp only [vM] at *;omega))|fail));all_goals try conv=>whnf
   refine ⟨(k+1,_),[(0,3)],[],?_,?_,by (refine ⟨rfl,rfl,rfl,?_,?_⟩;repeat' first|exact trivial|exact rfl|refine And.intro ?_ ?_|refine ⟨_,rfl,?_⟩|decide)⟩
   ·refine ⟨by omega,?_⟩
    rw [List.take_add_one,hr,hz];simp
   ·((simp only [vM] at *;omega))
  ·exfalso;omega
 ·have hzz:zs=dI [(q w:Int)]::m.rel.map fun r=>dI (zaG (zbZ q (r.getD w 0#64))):=by rw [hz,List.take_of_length_le (by omega)]
  clear hz
  (repeat' ((conv=>whnf);first|refine vA ?_|(refine vF ?_ ?_<;>intro hc<;>try simp only [vL] at hc)|refine vJ fun hg=>?_|refine vT ?_|(refine vQ ?_ fun x hx=>?_;·omega)|fail));all_goals try conv=>whnf
  ·exfalso;omega
  refine zo (fun ((k,ys):Nat×List D)=>[(0,.d (dI (ptL m.W.toNat q))),(1,.d (.int .i64 ((w:Int)))),(7,.own 0),(35,.d (dUU (zeO m))),(36,.d (.int .i64 (((zeO m).map dU).length:Int))),(37,.d (.int .i64 ((k:Int))))]) (fun ((k,ys):Nat×List D)=>[(0,some (.row 1 ys))]) 1 (fun ((k,ys):Nat×List D)=>k≤m.rel.length∧ys=zs++(m.rel.take k).map fun r=>dI (zaG (zbZ q (zao (fun v=>rb r v w) m.W.toNat)))) (fun ((k,ys):Nat×List D)=>m.rel.length - k) ((0,zs)) [(0,0)] [] (⟨by omega,by simp⟩) (by (refine ⟨rfl,rfl,rfl,?_,?_⟩;repeat' first|exact trivial|exact rfl|refine And.intro ?_ ?_|refine ⟨_,rfl,?_⟩|decide)) ?_
  rintro ⟨k,ys⟩ ⟨hk,hy⟩
  have hyl:ys.length≤9:=by rw [hy];simp;omega
  have hbl:(zeO m).length=m.rel.length:=by simp [zeO]
  by_cases hkl:k < m.rel.length
  ·obtain ⟨r,hr⟩ : ∃ r,m.rel[k]? = some r:=⟨_,List.getElem?_eq_getElem hkl⟩
   have hrm:=List.mem_of_getElem? hr
   have hb:(zeO m)[k]? = some (zmf m.W.toNat r):=by unfold zeO;rw [List.getElem?_map,hr];rfl
   have hx:=zxH (r:=r) hw
   (repeat' ((conv=>whnf);first|refine vA ?_|(refine vF ?_ ?_<;>intro hc<;>try simp only [vL] at hc)|refine vT ?_|refine vN ‹_› ?_));all_goals try conv=>whnf
   ·refine zU.res (zot hT q (n:=m.W.toNat) (by omega) (fun v hv=>((zco (by omega)).1 hv).1)) (by (repeat refine ⟨⟨rfl,rfl⟩,?_⟩);rfl) ?_
    (repeat' ((conv=>whnf);first|refine vT ?_|((first|refine vO ?_ ?_|refine vP ?_ ?_);·first|omega|(simp only [vM] at *;omega))|fail));all_goals try conv=>whnf
    refine ⟨(k+1,_),[(0,3)],[],?_,?_,by (refine ⟨rfl,rfl,rfl,?_,?_⟩;repeat' first|exact trivial|exact rfl|refine And.intro ?_ ?_|refine ⟨_,rfl,?_⟩|decide)⟩
    ·refine ⟨by omega,?_⟩
     rw [List.take_add_one,hr,hy];simp
    ·((simp only [vM] at *;omega))
   ·exfalso;omega
  ·(repeat' ((conv=>whnf);first|refine vA ?_|(refine vF ?_ ?_<;>intro hc<;>try simp only [vL] at hc)|refine vT ?_|(refine vQ ?_ fun x hx=>?_;·omega)|fail));all_goals try conv=>whnf
   ·exfalso;omega
   ·have hyy:ys=zs++m.rel.map fun r=>dI (zaG (zbZ q (zao (fun v=>rb r v w) m.W.toNat))):=by rw [hy,List.take_of_length_le (by omega)]
    refine congrArg some (show D.arr 1 ys=dII (zc7 m.W.toNat (zt m++zeP (zt m)) q w) from ?_)
    rw [hyy,hzz]
    unfold zc7 zt zeP
    have a1 : ∀ r∈m.rel,zcy m.W.toNat (fun v w=>rb r v w) q w=zbZ q (r.getD w 0#64):=fun r hr=>zqV (by omega) (zuq hk0 hr w) fun v _=>rfl
    have a2 : ∀ r∈m.rel,zcy m.W.toNat (fun v w=>rb r w v) q w=zbZ q (zao (fun v=>rb r v w) m.W.toNat):=fun r hr=>zqV (by omega) (fun v hv=>((zco (by omega)).1 hv).1) fun v hv=>by
     rw [Bool.eq_iff_iff,zco (by omega)];exact ⟨fun h=>⟨hv,h⟩,fun h=>h.2⟩
    simp only [List.map_append,List.map_map,List.map_cons,List.cons_append]
    refine congrArg (fun l=>D.arr 1 (dI [(q w:Int)]::l)) ?_
    rw [List.map_append,List.map_map,List.map_map]
    refine congr (congrArg _ ?_) ?_
    ·exact List.map_congr_left fun r hr=>by show dI _=dI (zaG (zcy _ (fun v w=>rb r v w) q w));rw [a1 r hr]
    ·exact List.map_congr_left fun r hr=>by show dI _=dI (zaG (zcy _ (fun v w=>rb r w v) q w));rw [a2 r hr]
def zsy (m:KM):List Int:=if zf m≠0 then [] else ptL m.W.toNat (zhy m.W.toNat (zu m) (zt m)).1
theorem zmU (hT:zdB T) (m:KM) (h12:zf m=0→m.W≤12):Fn Tryz.prog T zf6 [.d (dKM m)] [] (.d (.tup [dI (zsy m),.int .i64 (zf m)])) []:=by
 by_cases hk0:zf m=0
 ·have h12:=h12 hk0
  have hg0:=zq hk0
  have w1:=hg0.w1
  have n4:=hg0.n4
  have cc:=zaq (T:=T) m
  have cr:=zsS (T:=T) (n:=m.W.toNat) (by omega) (by omega) zbW (bKM m) (bUU (zeO m)) (zc7 m.W.toNat (zt m++zeP (zt m))) (fun w=>[[zu m w]]) (fun q v w hv hw h=>zsY q v w hv hw h) (fun q w hw=>(zwq (by omega) (by simp [zt,zeP];omega) q w).1) (fun w hw=>⟨by simp,fun r hr=>by simp at hr;subst hr;simp⟩) (fun q w hw=>zsM hT hk0 h12 q w hw)
  refine zi zy zgc (by show 1≤51;decide) ?_
  rw [hk0] at cc
  (repeat' ((conv=>whnf);first|refine vA ?_|refine vH ?_|refine vT ?_|refine yD cc ⟨⟨rfl,rfl⟩,rfl⟩ rfl ?_));all_goals try conv=>whnf
  refine zo (fun ((k,zs):Nat×List D)=>[(1,.ptr 0 0),(5,.own 1),(18,.d (.int .i64 (m.W))),(19,.d (.int .i64 ((k:Int))))]) (fun ((k,zs):Nat×List D)=>[(0,some (zX m)),(1,some (.row 1 zs))]) 2 (fun ((k,zs):Nat×List D)=>k≤m.W.toNat∧zs=((List.range k).map fun w=>([[zu m w]]:Tup)).map dII) (fun ((k,zs):Nat×List D)=>m.W.toNat - k) ((0,[])) [(0,0)]   [1] (⟨by omega,rfl⟩) (by (refine ⟨rfl,rfl,rfl,?_,?_⟩;repeat' first|exact trivial|exact rfl|exact ⟨_,rfl⟩|refine And.intro ?_ ?_|refine ⟨_,rfl,?_⟩|decide)) ?_
  rintro ⟨k,zs⟩ ⟨hk,hz⟩
  have hzl:zs.length≤12:=by rw [hz];simp;omega
  by_cases hkl:k < m.W.toNat
  ·have cf:=zdM (T:=T) m (k:Int)
   rw [zhV hk0 hkl] at cf
   (repeat' ((conv=>whnf);first|refine vA ?_|(refine vF ?_ ?_<;>intro hc<;>try simp only [vL] at hc)|refine vJ fun hg=>?_|refine vT ?_|((first|refine vO ?_ ?_|refine vP ?_ ?_);·first|omega|(simp only [vM] at *;omega))|refine yD cf ⟨⟨rfl,rfl⟩,⟨rfl,rfl⟩,rfl⟩ rfl ?_));all_goals try conv=>whnf
   ·refine ⟨(k+1,_),[(0,0),(1,5)],[],?_,?_,by (refine ⟨rfl,rfl,rfl,?_,?_⟩;repeat' first|exact trivial|exact rfl|refine And.intro ?_ ?_|refine ⟨_,rfl,?_⟩|decide)⟩
    ·exact ⟨by omega,by rw [hz,List.range_succ,List.map_append,List.map_append];rfl⟩
    ·((simp only [vM] at *;omega))
   ·exfalso;omega
  ·have hzz:zs=((List.range m.W.toNat).map fun w=>([[zu m w]]:Tup)).map dII:=by rw [hz,show k=m.W.toNat by omega]
   clear hz
   subst hzz
   (repeat' ((conv=>whnf);first|refine vA ?_|(refine vF ?_ ?_<;>intro hc<;>try simp only [vL] at hc)|refine vJ fun hg=>?_|refine vT ?_));all_goals try conv=>whnf
   ·exfalso;omega
   refine zo (fun ((k,ys):Nat×List D)=>[(1,.ptr 0 0),(5,.own 1),(7,.ptr 2 0),(32,.d (dUU m.rel)),(33,.d (.int .i64 ((m.rel.map dU).length:Int))),(34,.d (.int .i64 ((k:Int))))]) (fun ((k,ys):Nat×List D)=>[(0,some (zX m)),(1,some (.row 1 (((List.range m.W.toNat).map fun w=>([[zu m w]]:Tup)).map dII))),(2,some (.box [.own 3])),(3,some (.row 1 ys))]) 4 (fun ((k,ys):Nat×List D)=>k≤m.rel.length∧ys=(m.rel.take k).map fun r=>dU (zmf m.W.toNat r)) (fun ((k,ys):Nat×List D)=>m.rel.length - k) ((0,[])) [(0,0),(1,1),(2,2)]   [3] (⟨by omega,by simp⟩) (by (refine ⟨rfl,rfl,rfl,?_,?_⟩;repeat' first|exact trivial|exact rfl|exact ⟨_,rfl⟩|refine And.intro ?_ ?_|refine ⟨_,rfl,?_⟩|decide)) ?_
   rintro ⟨k,ys⟩ ⟨hk,hy⟩
   have hyl:ys.length≤4:=by rw [hy];simp;omega
   by_cases hkl:k < m.rel.length
   ·obtain ⟨r,hr⟩ : ∃ r,m.rel[k]? = some r:=⟨_,List.getElem?_eq_getElem hkl⟩
    have hrm:=List.mem_of_getElem? hr
    have hrl:=hg0.len r hrm
    (repeat' ((conv=>whnf);first|refine vA ?_|(refine vF ?_ ?_<;>intro hc<;>try simp only [vL] at hc)|refine vT ?_|refine vN ‹_› ?_|((first|refine vO ?_ ?_|refine vP ?_ ?_);·first|omega|(simp only [vM] at *;omega))|(refine vU ?_ ?_;·kernel_rfl)|refine yN (zrn hT (n:=m.W.toNat) (by omega) r (by omega) (fun w v h=>(zwR hk0 hrm h).2)) ⟨⟨rfl,rfl⟩,rfl⟩ ?_));all_goals try conv=>whnf
    ·refine ⟨(k+1,_),[(0,0),(1,1),(2,2),(3,5)],[],?_,?_,by (refine ⟨rfl,rfl,rfl,?_,?_⟩;repeat' first|exact trivial|exact rfl|refine And.intro ?_ ?_|refine ⟨_,rfl,?_⟩|decide)⟩
     ·refine ⟨by omega,?_⟩
      rw [List.take_add_one,hr,hy];simp
     ·((simp only [vM] at *;omega))
    ·exfalso;omega
   ·have hyy:ys=(zeO m).map dU:=by rw [hy,List.take_of_length_le (by omega)];unfold zeO;rw [List.map_map];rfl
    clear hy
    subst hyy
    (repeat' ((conv=>whnf);first|refine vA ?_|(refine vF ?_ ?_<;>intro hc<;>try simp only [vL] at hc)|refine vT ?_|(refine vQ ?_ fun x hx=>?_;·omega)|refine yN cr ⟨⟨rfl,rfl⟩,⟨rfl,rfl⟩,rfl⟩ ?_));all_goals try conv=>whnf
    ·exfalso;omega
    ·rw [zsy,if_neg (by omega),hk0];rfl
 ·have cc:=zaq (T:=T) m
  refine zi zy zgc (by show 1≤51;decide) ?_
  (repeat' ((conv=>whnf);first|refine vA ?_|(refine vD ?_ ?_<;>intro hc)|refine vT ?_|refine yD cc ⟨⟨rfl,rfl⟩,rfl⟩ rfl ?_));all_goals try conv=>whnf
  ·rw [zsy,if_pos hk0];rfl
  ·exact absurd ‹_› hk0
end Go.Ab
namespace Go.Ab
open Go Go.Proofs
set_option maxRecDepth 10000
set_option maxHeartbeats 4000000
variable {T:Nat→Obj→Prop}
theorem znQ (a b:KM):Fn Tryz.prog T zhi [.d (dKM a),.d (dKM b)] [] (.d (.int .i64 (zbo a b))) []:=by
 refine zi zy zm9 (by show 2≤33;decide) ?_
 (repeat' ((conv=>whnf);first|refine vA ?_|(refine vD ?_ ?_<;>intro hc<;>try simp only [vL] at hc)|refine vJ fun hg=>?_|refine vT ?_|refine vX ?_|refine yD (zaq _) ⟨⟨rfl,rfl⟩,rfl⟩ rfl ?_));all_goals try conv=>whnf
 ·rw [zbo,if_pos ‹_›]
 ·rw [zbo,if_neg (by omega),if_pos ‹_›]
 ·rw [zbo,if_neg (by omega),if_neg (by omega),if_pos (by omega)]
 ·rw [zbo,if_neg (by omega),if_neg (by omega),if_pos (by omega)]
 ·rw [zbo,if_neg (by omega),if_neg (by omega),if_neg (by omega)]
theorem zrJ {x y:BitVec 64} {u w:Nat} : x >>> u&&&1#64=y >>> w&&&1#64↔x.getLsbD u=y.getLsbD w:=by
 cases hx:x.getLsbD u<;>cases hy:y.getLsbD w
 ·rw [(zer _ _).2 hx,(zer _ _).2 hy];simp
 ·rw [(zer _ _).2 hx,(zba _ _).2 hy];decide
 ·rw [(zba _ _).2 hx,(zer _ _).2 hy];decide
 ·rw [(zba _ _).2 hx,(zba _ _).2 hy];simp
def zgz (a b:KM) (f:Nat→Nat) (v:Nat):Prop:=zu a v=zu b (f v) ∧ ∀ (i:Nat) r r',a.rel[i]? = some r→b.rel[i]? = some r' → ∀ u,u≤v→rb r v u=rb r' (f v) (f u)∧rb r u v=rb r' (f u) (f v)
noncomputable def znO (a b:KM) (f:Nat→Nat) (v:Nat):Bool := @decide (zgz a b f v) (Classical.propDecidable _)
theorem zlU {a b:KM} {f:Nat→Nat} {v:Nat} (h:zgz a b f v):znO a b f v=true:=by unfold znO;exact @decide_eq_true _ (Classical.propDecidable _) h
theorem znP {a b:KM} {f:Nat→Nat} {v:Nat} (h : ¬zgz a b f v):znO a b f v=false:=by unfold znO;exact @decide_eq_false _ (Classical.propDecidable _) h
theorem zjY {a b:KM} (hl:b.rel.length=a.rel.length) {f:Nat→Nat} {v:Nat} : zgz a b f v↔zu a v=zu b (f v) ∧ ∀ u,u≤v→zgU (zt a) (zt b) f v u=true:=by
 have hl':(zt b).length=(zt a).length:=by rw [zbS,zbS];exact hl
 unfold zgz
 refine and_congr Iff.rfl ⟨fun h u hu=>(zeK hl').2 fun i r r' h1 h2=>?_,fun h i r r' h1 h2 u hu=>?_⟩
 ·unfold zt at h1 h2
  rw [List.getElem?_map,Option.map_eq_some_iff] at h1 h2
  obtain ⟨s,hs,rfl⟩:=h1
  obtain ⟨s',hs',rfl⟩:=h2
  have:=h i s s' hs hs' u hu
  simp only [Bool.and_eq_true,beq_iff_eq]
  exact this
 ·have:=(zeK hl').1 (h u hu) i (fun v w=>rb r v w) (fun v w=>rb r' v w) (by unfold zt;rw [List.getElem?_map,h1];rfl) (by unfold zt;rw [List.getElem?_map,h2];rfl)
  simp only [Bool.and_eq_true,beq_iff_eq] at this
  exact this
theorem zqc {a b:KM} (ha:zf a=0) (hb:zf b=0) (hW:a.W=b.W) (hr:a.rel.length=b.rel.length) (x:List Nat) (v:Nat) (hv:v < a.W.toNat) (hx:v < x.length) (hxn : ∀ u,u≤v→x.getD u 0 < a.W.toNat) :
  Fn Tryz.prog T zhj [.d (dKM a),.d (dKM b),.d (dN x),.d (.int .i64 (v:Int))] [] (.d (.bool (znO a b (fnL x) v))) []:=by
 have ga:=zq ha
 have gb:=zq hb
 have w1:=ga.w1;have w2:=ga.w2;have n4:=ga.n4
 have ca:=zdM (T:=T) a (v:Int)
 rw [zhV ha hv] at ca
 have hxv:=hxn v (Nat.le_refl _)
 have cb:=zdM (T:=T) b ((x.getD v 0:Nat):Int)
 rw [zhV hb (by omega)] at cb
 have ev:=zgt hx
 have hno : ¬zgz a b (fnL x) v→false=znO a b (fnL x) v:=fun h=>(znP h).symm
 refine zi zy zna (by show 4≤89;decide) ?_
 (repeat' ((conv=>whnf);first|refine vA ?_|(refine vD ?_ ?_<;>intro hc)|refine vJ fun hg=>?_|refine vT ?_|refine vN ‹_› ?_|(refine vU ?_ ?_;·kernel_rfl)|refine vZ ?_|refine yD ca ⟨⟨rfl,rfl⟩,⟨rfl,rfl⟩,rfl⟩ rfl ?_|refine yD cb ⟨⟨rfl,rfl⟩,⟨rfl,rfl⟩,rfl⟩ rfl ?_));all_goals try conv=>whnf
 ·exact hno fun h=>‹zu a v≠_› h.1
 ·have hfa:zu a v=zu b (fnL x v):=‹_›
  refine zo (fun (k:Nat)=>[(2,.d (dN x)),(3,.d (.int .i64 ((v:Int)))),(5,.ptr 1 0),(23,.d (dUU a.rel)),(24,.d (.int .i64 ((a.rel.map dU).length:Int))),(25,.d (.int .i64 ((k:Int))))]) (fun (k:Nat)=>[(0,some (zX a)),(1,some (zX b))]) 2 (fun (k:Nat)=>k≤a.rel.length ∧ ∀ (i:Nat) r r',i < k→a.rel[i]? = some r→b.rel[i]? = some r' → ∀ u,u≤v→rb r v u=rb r' (fnL x v) (fnL x u)∧rb r u v=rb r' (fnL x u) (fnL x v)) (fun (k:Nat)=>a.rel.length - k) (0) [(0,0),(1,1)] [] (⟨by omega,fun i r r' hi=>by omega⟩) (by (refine ⟨rfl,rfl,rfl,?_,?_⟩;repeat' first|exact trivial|exact rfl|refine And.intro ?_ ?_|refine ⟨_,rfl,?_⟩|decide)) ?_
  rintro k ⟨hk,hI⟩
  by_cases hkl:k < a.rel.length
  ·obtain ⟨r,har⟩ : ∃ r,a.rel[k]? = some r:=⟨_,List.getElem?_eq_getElem hkl⟩
   obtain ⟨r',hbr⟩ : ∃ r,b.rel[k]? = some r:=⟨_,List.getElem?_eq_getElem (by omega)⟩
   have hrl:=ga.len r (List.mem_of_getElem? har)
   have hrl':=gb.len r' (List.mem_of_getElem? hbr)
   have a1:=zbb (l:=r) (d:=0#64) (show v < r.length by omega)
   have b1:=zbb (l:=r') (d:=0#64) (show x.getD v 0 < r'.length by omega)
   (repeat' ((conv=>whnf);first|refine vA ?_|(refine vF ?_ ?_<;>intro hc<;>try simp only [vL] at hc)|refine vT ?_|refine vN ‹_› ?_|(refine vO ?_ ?_;·omega)|refine vZ ?_));all_goals try conv=>whnf
   ·refine zo (fun (u:Nat)=>[(2,.d (dN x)),(3,.d (.int .i64 ((v:Int)))),(5,.ptr 1 0),(9,.d (.int .i64 ((k:Int)))),(10,.d (dU r)),(23,.d (dUU a.rel)),(24,.d (.int .i64 ((a.rel.map dU).length:Int))),(25,.d (.int .i64 ((k:Int)))),(31,.d (.int .i64 (((v:Int)+1)))),(32,.d (.int .i64 ((u:Int))))]) (fun (u:Nat)=>[(0,some (zX a)),(1,some (zX b))]) 2 (fun (u:Nat)=>u≤v+1 ∧ ∀ j,j < u→rb r v j=rb r' (fnL x v) (fnL x j)∧rb r j v=rb r' (fnL x j) (fnL x v)) (fun (u:Nat)=>v+1 - u) (0) [(0,0),(1,1)] [] (⟨by omega,fun j hj=>by omega⟩) (by (refine ⟨rfl,rfl,rfl,?_,?_⟩;repeat' first|exact trivial|exact rfl|refine And.intro ?_ ?_|refine ⟨_,rfl,?_⟩|decide)) ?_
    rintro u ⟨hu,hJ⟩
    by_cases hul:u≤v
    ·have eu:=zgt (show u < x.length by omega)
     have hxu:=hxn u hul
     have a2:=zbb (l:=r) (d:=0#64) (show u < r.length by omega)
     have b2:=zbb (l:=r') (d:=0#64) (show x.getD u 0 < r'.length by omega)
     have k1:=zrJ (x:=r.getD v 0#64) (y:=r'.getD (x.getD v 0) 0#64) (u:=u) (w:=x.getD u 0)
     have k2:=zrJ (x:=r.getD u 0#64) (y:=r'.getD (x.getD u 0) 0#64) (u:=v) (w:=x.getD v 0)
     (repeat' ((conv=>whnf);first|refine vA ?_|((first|refine vD ?_ ?_|refine vF ?_ ?_)<;>intro hc<;>try simp only [vL] at hc)|refine vT ?_|refine vN ‹_› ?_|((first|refine vO ?_ ?_|refine vP ?_ ?_);·omega)|(refine vU ?_ ?_;·kernel_rfl)|refine vZ ?_));all_goals try conv=>whnf
     ·exact hno fun h=>‹_≠_› (k1.2 (h.2 k r r' har hbr u hul).1)
     ·exact hno fun h=>‹_≠_› (k2.2 (h.2 k r r' har hbr u hul).2)
     ·refine ⟨u+1,[(0,0),(1,1)],[],?_,?_,by (refine ⟨rfl,rfl,rfl,?_,?_⟩;repeat' first|exact trivial|exact rfl|refine And.intro ?_ ?_|refine ⟨_,rfl,?_⟩|decide)⟩
      ·refine ⟨by omega,fun j hj=>?_⟩
       by_cases e:j=u
       ·subst e;exact ⟨k1.1 ‹_›,k2.1 ‹_›⟩
       ·exact hJ j (by omega)
      ·(omega)
     ·exfalso;omega
    ·(repeat' ((conv=>whnf);first|refine vA ?_|((first|refine vD ?_ ?_|refine vF ?_ ?_)<;>intro hc<;>try simp only [vL] at hc)|refine vT ?_|refine vN ‹_› ?_|(refine vQ ?_ fun x hx=>?_;·omega)|((first|refine vO ?_ ?_|refine vS ?_ fun x hx=>?_|refine vP ?_ ?_);·omega)|(refine vU ?_ ?_;·kernel_rfl)|refine vZ ?_));all_goals try conv=>whnf
     iterate 3 (exfalso;omega)
     refine ⟨k+1,[(0,0),(1,1)],[],?_,?_,by (refine ⟨rfl,rfl,rfl,?_,?_⟩;repeat' first|exact trivial|exact rfl|refine And.intro ?_ ?_|refine ⟨_,rfl,?_⟩|decide)⟩
     ·refine ⟨by omega,fun i s s' hi hs hs' j hj=>?_⟩
      by_cases e:i=k
      ·subst e;rw [har] at hs;rw [hbr] at hs';cases hs;cases hs';exact hJ j (by omega)
      ·exact hI i s s' (by omega) hs hs' j hj
     ·(omega)
   ·exfalso;omega
  ·(repeat' ((conv=>whnf);first|refine vA ?_|(refine vF ?_ ?_<;>intro hc<;>try simp only [vL] at hc)|refine vT ?_|(refine vQ ?_ fun x hx=>?_;·omega)|(refine vO ?_ ?_;·omega)|refine vZ ?_));all_goals try conv=>whnf
   ·exfalso;omega
   ·exact (zlU ⟨hfa,fun i r r' h1 h2 u hu=>hI i r r' (by have:=(List.getElem?_eq_some_iff.1 h1).1;omega) h1 h2 u hu⟩).symm
theorem zvv {to:List Int} (h : ∀ x∈to,0≤x) : ∃ x:List Nat,to=x.map fun (y:Nat)=>(y:Int):=by
 refine ⟨to.map Int.toNat,?_⟩
 rw [List.map_map]
 conv=>lhs;rw [← List.map_id to]
 exact List.map_congr_left fun y hy=>by have:=h y hy;simp;omega
theorem zpB (x:List Nat) (v:Nat):toF (x.map fun (y:Nat)=>(y:Int)) v=fnL x v:=by
 unfold toF at0 fnL
 by_cases h:v < x.length
 ·simp [List.getD,List.getElem?_map,List.getElem?_eq_getElem h]
 ·simp [List.getD,List.getElem?_map,List.getElem?_eq_none (show x.length≤v by omega)]
structure zhd (to:List Int) (n k:Nat) (s:BitVec 64):Prop where
 le:k≤to.length
 rng : ∀ x∈to.take k,0≤x∧x < n
 nd:(to.take k).Nodup
 bit : ∀ x:Nat,x < 64→(s.getLsbD x=true↔(x:Int)∈to.take k)
theorem zhd.next {to:List Int} {n k:Nat} (h64:n≤64) {s:BitVec 64} (h:zhd to n k s) {x:Nat} (hx:to[k]? = some (x:Int)) (hx1:x < n) (hx2:s.getLsbD x=false):zhd to n (k+1) (s|||1#64 <<< x):=by
 have hkl:=(List.getElem?_eq_some_iff.1 hx).1
 have hn:(x:Int) ∉ to.take k:=fun hm=>by rw [(h.bit x (by omega)).2 hm] at hx2;cases hx2
 have ht:to.take (k+1)=to.take k++[(x:Int)]:=by rw [List.take_add_one,hx];rfl
 refine ⟨by omega,fun y hy=>?_,?_,fun y hy=>?_⟩
 ·rw [ht] at hy
  rcases List.mem_append.1 hy with hy|hy
  ·exact h.rng y hy
  ·simp only [List.mem_singleton] at hy;omega
 ·rw [ht]
  refine List.nodup_append.2 ⟨h.nd,by simp,fun a ha b hb e=>?_⟩
  simp only [List.mem_singleton] at hb
  subst hb;subst e;exact hn ha
 ·rw [ht,zgk (by omega),h.bit y hy,List.mem_append,List.mem_singleton]
  exact ⟨fun h=>h.elim .inl fun e => .inr (by omega),fun h=>h.elim .inl fun e => .inr (by omega)⟩
theorem zhd.bad {to:List Int} {n k:Nat} {s:BitVec 64} (h:zhd to n k s) (h64:n≤64) {x:Int} (hx:to[k]? = some x) (hb:x < 0∨(n:Int)≤x∨s.getLsbD x.toNat=true):zaM to n=false:=by
 rw [← Bool.not_eq_true]
 intro hp
 obtain ⟨h1,h2,h3⟩:=zbQ.1 hp
 have hr:=h2 x (List.mem_of_getElem? hx)
 rcases hb with hb|hb|hb
 ·omega
 ·omega
 ·have hm:=(h.bit x.toNat (by omega)).1 hb
  rw [show ((x.toNat:Nat):Int)=x by omega] at hm
  obtain ⟨j,hj⟩:=List.getElem?_of_mem hm
  rw [List.getElem?_take] at hj
  split at hj
  ·rename_i hlt
   obtain ⟨a,a'⟩:=List.getElem?_eq_some_iff.1 hj
   obtain ⟨c,c'⟩:=List.getElem?_eq_some_iff.1 hx
   have:=(List.getElem_inj h3).1 (a'.trans c'.symm)
   omega
  ·cases hj
theorem zhd.perm {to:List Int} {n:Nat} {s:BitVec 64} (h:zhd to n to.length s) (hl:to.length=n):zaM to n=true:=by
 have h1:=h.rng;have h2:=h.nd
 rw [List.take_length] at h1 h2
 exact zbQ.2 ⟨hl,h1,h2⟩
theorem zyU (a b:KM) (to:List Int):Fn Tryz.prog T zgL [.d (dKM a),.d (dKM b),.d (dI to)] [] (.d (.int .i64 (zch a b to))) []:=by
 refine zi zy zl3 (by show 3≤66;decide) ?_
 (repeat' ((conv=>whnf);first|refine vA ?_|(refine vD ?_ ?_<;>intro hc)|refine vJ fun hg=>?_|refine vT ?_|refine vX ?_|refine yD (znQ _ _) ⟨⟨rfl,rfl⟩,⟨rfl,rfl⟩,rfl⟩ rfl ?_));all_goals try conv=>whnf
 ·rw [zch,if_pos ‹_›]
 ·rw [zch,if_neg (by omega),if_pos ‹_›]
 ·have he:zbo a b=0:=by omega
  have hW:a.W=b.W:=‹_›
  obtain ⟨ha,hb,hr,hv⟩:=zoy he
  have ga:=zq ha
  have w1:=ga.w1;have w2:=ga.w2
  have hno:zaM to a.W.toNat=false→3=zch a b to:=fun h=>by rw [zch,if_neg (by omega),if_neg (by omega),if_pos h]
  refine zo (fun ((k,s):Nat×BitVec 64)=>[(2,.d (dI to)),(3,.ptr 0 0),(4,.ptr 1 0),(8,.d (.u64 (s))),(23,.d (dI to)),(24,.d (.int .i64 ((to.map (D.int .i64)).length:Int))),(25,.d (.int .i64 ((k:Int))))]) (fun ((k,s):Nat×BitVec 64)=>[(0,some (zX a)),(1,some (zX b))]) 2 (fun ((k,s):Nat×BitVec 64)=>zhd to a.W.toNat k s) (fun ((k,s):Nat×BitVec 64)=>to.length - k) ((0,0#64)) [(0,0),(1,1)] [] (⟨by omega,by simp,by simp,by simp⟩) (by (refine ⟨rfl,rfl,rfl,?_,?_⟩;repeat' first|exact trivial|exact rfl|refine And.intro ?_ ?_|refine ⟨_,rfl,?_⟩|decide)) ?_
  rintro ⟨k,s⟩ hI
  have hle:=hI.le
  by_cases hkl:k < to.length
  ·obtain ⟨x,hx⟩ : ∃ x,to[k]? = some x:=⟨_,List.getElem?_eq_getElem hkl⟩
   (repeat' ((conv=>whnf);first|refine vA ?_|((first|refine vD ?_ ?_|refine vF ?_ ?_)<;>intro hc<;>try simp only [vL] at hc)|refine vJ fun hg=>?_|refine vT ?_|refine vN ‹_› ?_|((first|refine vO ?_ ?_|refine vP ?_ ?_);·omega)|refine vX ?_));all_goals try conv=>whnf
   ·exact hno (hI.bad (by omega) hx (.inl ‹_›))
   ·exact hno (hI.bad (by omega) hx (.inr (.inl (by omega))))
   ·exact hno (hI.bad (by omega) hx (.inr (.inr ((zba _ _).1 ‹_›))))
   ·obtain ⟨y,rfl⟩ : ∃ y:Nat,x=(y:Int):=⟨x.toNat,by omega⟩
    refine ⟨(k+1,_),[(0,0),(1,1)],[],?_,?_,by (refine ⟨rfl,rfl,rfl,?_,?_⟩;repeat' first|exact trivial|exact rfl|refine And.intro ?_ ?_|refine ⟨_,rfl,?_⟩|decide)⟩
    ·exact hI.next (by omega) hx (by omega) (by rw [← Bool.not_eq_true];exact fun h=>absurd ((zba _ _).2 h) ‹¬_=(1:BitVec 64)›)
    ·((simp only [vM] at *;omega))
   all_goals (exfalso;omega)
  ·have e0:k=to.length:=by omega
   subst e0
   by_cases hl:to.length=a.W.toNat
   ·have hp:=hI.perm hl
    obtain ⟨x,rfl⟩:=zvv fun y hy=>((zbQ.1 hp).2.1 y hy).1
    have hxl:x.length=a.W.toNat:=by simpa using hl
    have hxn : ∀ u,u < a.W.toNat→x.getD u 0 < a.W.toNat:=fun u hu=>by
     have:=(zgV hp).lt u hu
     rwa [zpB] at this
    have hf:toF (x.map fun (y:Nat)=>(y:Int))=fnL x:=funext fun v=>zpB x v
    have hB:znT a b (x.map fun (y:Nat)=>(y:Int))=true ↔ ∀ v,v < a.W.toNat→zgz a b (fnL x) v:=by
     unfold znT
     rw [hf]
     simp only [List.all_eq_true,List.mem_range,Bool.and_eq_true,beq_iff_eq]
     refine forall_congr' fun v=>⟨fun h hv=>(zjY hr.symm).2 ⟨(h hv).1,fun u hu=>(h hv).2 u (by omega)⟩,fun h hv=>?_⟩
     have:=(zjY hr.symm).1 (h hv)
     exact ⟨this.1,fun u hu=>this.2 u (by omega)⟩
    have hres:zch a b (x.map fun (y:Nat)=>(y:Int))=if znT a b (x.map fun (y:Nat)=>(y:Int))=true then 0 else 13:=by
     rw [zch,if_neg (by omega),if_neg (by omega),if_neg (by rw [hp];decide)]
    (repeat' ((conv=>whnf);first|refine vA ?_|((first|refine vD ?_ ?_|refine vF ?_ ?_)<;>intro hc<;>try simp only [vL] at hc)|refine vJ fun hg=>?_|refine vT ?_|(refine vQ ?_ fun x hx=>?_;·omega)|((first|refine vO ?_ ?_|refine vP ?_ ?_);·omega)|refine vX ?_));all_goals try conv=>whnf
    iterate 5 (exfalso;omega)
    refine zo (fun (k:Nat)=>[(2,.d (dN x)),(3,.ptr 0 0),(4,.ptr 1 0),(55,.d (.int .i64 ((zdq x:Int)))),(56,.d (.int .i64 ((k:Int))))]) (fun (k:Nat)=>[(0,some (zX a)),(1,some (zX b))]) 2 (fun (k:Nat)=>k≤x.length ∧ ∀ v,v < k→zgz a b (fnL x) v) (fun (k:Nat)=>x.length - k) (0) [(0,0),(1,1)] [] (⟨by omega,fun v hv=>by omega⟩) (by (refine ⟨rfl,rfl,rfl,?_,?_⟩;repeat' first|exact trivial|exact rfl|refine And.intro ?_ ?_|refine ⟨_,rfl,?_⟩|decide)) ?_
    rintro k ⟨hk,hI⟩
    have hlD:=zgr x
    by_cases hkl:k < x.length
    ·have cf:=zqc (T:=T) ha hb hW hr x k (by omega) hkl (fun u hu=>hxn u (by omega))
     by_cases hfit:zgz a b (fnL x) k
     ·rw [zlU hfit] at cf
      (repeat' ((conv=>whnf);first|refine vA ?_|refine vE ?_|refine vG ?_|(refine vF ?_ ?_<;>intro hc<;>try simp only [vL] at hc)|refine vT ?_|(refine vO ?_ ?_;·omega)|refine vX ?_|refine yD cf (by (repeat refine ⟨⟨rfl,rfl⟩,?_⟩);rfl) rfl ?_));all_goals try conv=>whnf
      ·refine ⟨k+1,[(0,0),(1,1)],[],?_,?_,by (refine ⟨rfl,rfl,rfl,?_,?_⟩;repeat' first|exact trivial|exact rfl|refine And.intro ?_ ?_|refine ⟨_,rfl,?_⟩|decide)⟩
       ·refine ⟨by omega,fun v hv=>?_⟩
        by_cases e:v=k
        ·subst e;exact hfit
        ·exact hI v (by omega)
       ·(omega)
      ·exfalso;omega
     ·rw [znP hfit] at cf
      (repeat' ((conv=>whnf);first|refine vA ?_|refine vE ?_|refine vH ?_|(refine vF ?_ ?_<;>intro hc<;>try simp only [vL] at hc)|refine vT ?_|refine vX ?_|refine yD cf (by (repeat refine ⟨⟨rfl,rfl⟩,?_⟩);rfl) rfl ?_));all_goals try conv=>whnf
      ·rw [hres,if_neg]
       intro h
       exact hfit (hB.1 h k (by omega))
      ·exfalso;omega
    ·(repeat' ((conv=>whnf);first|refine vA ?_|(refine vF ?_ ?_<;>intro hc<;>try simp only [vL] at hc)|refine vT ?_|refine vX ?_));all_goals try conv=>whnf
     ·exfalso;omega
     ·rw [hres,if_pos]
      exact hB.2 fun v hv=>hI v (by omega)
   ·have hnp:zaM to a.W.toNat=false:=by rw [← Bool.not_eq_true];intro h;exact hl (zbQ.1 h).1
    (repeat' ((conv=>whnf);first|refine vA ?_|((first|refine vD ?_ ?_|refine vF ?_ ?_)<;>intro hc<;>try simp only [vL] at hc)|refine vJ fun hg=>?_|refine vT ?_|(refine vQ ?_ fun x hx=>?_;·omega)|((first|refine vO ?_ ?_|refine vP ?_ ?_);·omega)|refine vX ?_));all_goals try conv=>whnf
    iterate 4 (exfalso;omega)
    ·exact hno hnp
    ·exfalso;omega
end Go.Ab
namespace Go.Ab
open Go Go.Proofs
set_option maxRecDepth 10000
set_option maxHeartbeats 4000000
variable {T:Nat→Obj→Prop}
theorem ztN (l:List D) (hl:l.length≤1000):Fn Tryz.prog T zaX [.own 0] [.row 1 l] (.own 1) [some (.row 1 l),some (.row 1 l)]:=by
 refine zS zy zdP (by show 1≤8;decide) _ (fun e env mem n h=>h) ?_
 (repeat' ((conv=>whnf);first|refine vA ?_|refine vB fun b hb=>?_|refine vC (fun hl=>?_) fun i kv vv hi=>?_|refine vE ?_|refine vG ?_|refine vH ?_|((first|refine vD ?_ ?_|refine vF ?_ ?_|refine vI ?_ ?_)<;>intro hc<;>try simp only [vL] at hc)|refine vJ fun hg=>?_|refine vK fun hg=>?_|refine vT ?_|refine vN ‹_› ?_|(refine vQ ?_ fun x hx=>?_;·first|omega|(simp only [vM] at *;omega))|((first|refine vO ?_ ?_|refine vR ?_ ‹_› ?_|refine vS ?_ fun x hx=>?_|refine vP ?_ ?_);·first|omega|(simp only [vM] at *;omega))|refine vW ⟨by omega,by omega⟩ ?_|(refine vU ?_ ?_;·kernel_rfl)|refine vX ?_|refine vY ?_|refine vZ ?_|refine zb8.mk _ ‹_› ?_|refine vP (show (_:BitVec 64)≠_ by decide) ?_));all_goals try conv=>whnf
 ·refine ⟨trivial,_,[(0,0),(1,2)],[],rfl,.inl (by (repeat' first|exact trivial|exact rfl|exact ⟨_,rfl⟩|exact .inl rfl|exact .inr (.inl ⟨rfl,rfl⟩)|exact .inr (.inr ⟨rfl,rfl⟩)|refine And.intro ?_ ?_|refine ⟨_,rfl,?_⟩|decide|exact of_decide_eq_true rfl)),⟨by rfl,by rfl,by rfl,trivial,by (repeat' first|exact trivial|exact rfl|exact ⟨_,rfl⟩|exact .inl rfl|exact .inr (.inl ⟨rfl,rfl⟩)|exact .inr (.inr ⟨rfl,rfl⟩)|refine And.intro ?_ ?_|refine ⟨_,rfl,?_⟩|decide|exact of_decide_eq_true rfl)⟩,by (repeat' first|exact trivial|exact rfl|exact ⟨_,rfl⟩|exact .inl rfl|exact .inr (.inl ⟨rfl,rfl⟩)|exact .inr (.inr ⟨rfl,rfl⟩)|refine And.intro ?_ ?_|refine ⟨_,rfl,?_⟩|decide|exact of_decide_eq_true rfl)⟩
 ·have:l=[]:=hb (by simpa using hc)
  subst this
  refine ⟨trivial,_,[(0,0)] ,  [1],rfl,.inl (by (repeat' first|exact trivial|exact rfl|exact ⟨_,rfl⟩|exact .inl rfl|exact .inr (.inl ⟨rfl,rfl⟩)|exact .inr (.inr ⟨rfl,rfl⟩)|refine And.intro ?_ ?_|refine ⟨_,rfl,?_⟩|decide|exact of_decide_eq_true rfl)),⟨by rfl,by rfl,by rfl,trivial,by (repeat' first|exact trivial|exact rfl|exact ⟨_,rfl⟩|exact .inl rfl|exact .inr (.inl ⟨rfl,rfl⟩)|exact .inr (.inr ⟨rfl,rfl⟩)|refine And.intro ?_ ?_|refine ⟨_,rfl,?_⟩|decide|exact of_decide_eq_true rfl)⟩,by (repeat' first|exact trivial|exact rfl|exact ⟨_,rfl⟩|exact .inl rfl|exact .inr (.inl ⟨rfl,rfl⟩)|exact .inr (.inr ⟨rfl,rfl⟩)|refine And.intro ?_ ?_|refine ⟨_,rfl,?_⟩|decide|exact of_decide_eq_true rfl)⟩
theorem zU.objsZ {P:Program} {M:Nat→Option Ob} {n f:Nat} {vs lvs:List V} {obs:List Ob} {lv:V} {obs':List (Option Ob)} {K:V→Upd→Nat→Prop} (js fz:List Nat) (hf:Fn P T f lvs obs lv obs') (ha:VPasses M js fz 20 lvs vs)
  (ho:zaf M js fz obs js) (hnd:nodup js=true) (hdj:zcO fz js=true) (hsj:zdu js (zC M vs)=true) (hsf:zdu fz (zC M vs)=true) (hle:js.length≤obs'.length)
  (hK:K (zhF js n 20 lv) (zfC js fz n obs' false) (obs'.length - js.length)):zU (zbT P T) M n f vs K :=
 ⟨⟨_,_,_,⟨js,fz,false,lvs,obs,lv,obs',hf,ha,ho,hnd,hdj,hsj,hsf,hle,nofun,rfl,rfl,rfl⟩,hK⟩⟩
def zez (x:List Nat):BitVec 64:=zao (fun i=>decide (i∈x)) 64
theorem zgX {x:List Nat} {i:Nat} (hi:i < 64):(zez x).getLsbD i=decide (i∈x):=by
 rw [zez,zku];simp [hi]
theorem zmk {x:List Nat} {w:Nat} (hw:w < 64):zez x|||1#64 <<< w=zez (x++[w]):=by
 refine BitVec.eq_of_getLsbD_eq fun i hi=>?_
 rw [Bool.eq_iff_iff,zgk hw,zgX hi,zgX hi]
 simp
theorem zwn {x:List Nat} {w:Nat} (hw:w < 64) (hn:w ∉ x):zez (x++[w]) &&& ~~~(1#64 <<< w)=zez x:=by
 refine BitVec.eq_of_getLsbD_eq fun i hi=>?_
 rw [BitVec.getLsbD_and,BitVec.getLsbD_not,zgX hi,zgX hi,znE]
 simp only [hi,decide_true,Bool.true_and]
 by_cases e:i=w
 ·subst e;simp [hn]
 ·simp [e]
def zhz (ok:List Nat→Nat→Bool) (n k:Nat) (x:List Nat) (w:Nat):List (List Nat):=(List.range w).flatMap fun w=>if ok x w=true then dfs ok n k (x++[w]) else []
theorem zoj {ok:List Nat→Nat→Bool} {n k:Nat} {x:List Nat} {w:Nat} : zhz ok n k x (w+1)=zhz ok n k x w++if ok x w=true then dfs ok n k (x++[w]) else []:=by
 unfold zhz;rw [List.range_succ,List.flatMap_append];simp
abbrev okM (a b:KM):List Nat→Nat→Bool:=okC a.W.toNat (zu a) (zu b) (zt a) (zt b)
theorem zxy {a b:KM} (hl:b.rel.length=a.rel.length) {x:List Nat} {w:Nat} : okM a b x w=true↔(zhy a.W.toNat (zu a) (zt a)).1 x.length=(zhy a.W.toNat (zu b) (zt b)).1 w∧w ∉ x∧zgz a b (fnL (x++[w])) x.length:=by
 unfold okM okC okS
 rw [zjY hl]
 have e:fnL (x++[w]) x.length=w:=by simp [fnL]
 rw [e]
 simp only [Bool.and_eq_true,decide_eq_true_eq,Bool.not_eq_true',List.all_eq_true,List.mem_range,beq_iff_eq]
 constructor
 ·rintro ⟨h1,h2,h3,h4⟩
  exact ⟨h1,by simpa using h2,h3,fun u hu=>h4 u (by omega)⟩
 ·rintro ⟨h1,h2,h3,h4⟩
  exact ⟨h1,by simpa using h2,h3,fun u hu=>h4 u (by omega)⟩
abbrev zsT:V := .fn zbX [.ptr 0 0,.ptr 1 0,.ptr 2 0,.ptr 3 0,.ptr 4 0,.ptr 5 0,.ptr 6 0,.ptr 7 0]
abbrev zn6 (x:List Nat):Ob := .row 1 ((x.map fun (y:Nat)=>(y:Int)).map (D.int .i64))
section
variable {a b:KM} (ha:zf a=0) (hb:zf b=0) (hW:a.W=b.W) (hr:a.rel.length=b.rel.length)
def zdm (m:KM):Nat→Nat:=(zhy m.W.toNat (zu m) (zt m)).1
include ha hb hW hr
end
end Go.Ab
namespace Go.Ab
open Go Go.Proofs
set_option maxRecDepth 10000
set_option maxHeartbeats 4000000
variable {T:Nat→Obj→Prop}
inductive zsm (x:List Nat):List (List Nat)→Bool→BitVec 64→List Nat→V→Prop where
 | no:zsm x [] true (zez x) x (.nils 1)
 | yes (y:List Nat) (l:List (List Nat)):zsm x (y::l) false (zez y) y (.d (dN y))
abbrev zv3 (a b:KM) (x:List Nat):List Ob:=[.box [.own 8],zX a,.box [.fn zY [.ptr 9 0]],zX b,.box [.d (.u64 (zez x))],.box [.d (dI (ptL a.W.toNat (zdm a)))],.box [.d (dI (ptL a.W.toNat (zdm b)))],.box [zsT],zn6 x,.box [.nils 1]]
theorem zxk (y:List Nat):Fn Tryz.prog T zY [.d (dN y),.ptr 0 0] [.box [.nils 1]] (.d (.bool false)) [some (.box [.d (dN y)])]:=by
 refine zS zy zg8 (by show 2≤5;decide) _ (fun e env mem n h=>h) ?_
 (repeat' ((conv=>whnf);refine vT ?_));all_goals try conv=>whnf
 refine ⟨trivial,_,[(0,0)],[],rfl,.inl (by (repeat' exact .inr (.inr ⟨rfl,rfl⟩))),⟨by rfl,by rfl,by rfl,trivial,by (repeat' first|exact trivial|exact rfl|refine And.intro ?_ ?_|refine ⟨_,rfl,?_⟩|exact of_decide_eq_true rfl)⟩,by (repeat' first|exact trivial|exact rfl|refine And.intro ?_ ?_|refine ⟨_,rfl,?_⟩)⟩
theorem zvx {ok:List Nat→Nat→Bool} {n k:Nat} {x:List Nat} {w:Nat} (hw:w≤n) : ∃ l,dfs ok n (k+1) x=zhz ok n k x w++l:=by
 have mono : ∀ d,∃ l,zhz ok n k x (w+d)=zhz ok n k x w++l:=fun d=>by
  induction d with
  | zero=>exact ⟨[],by simp⟩
  | succ d ih=>obtain ⟨l,hl⟩:=ih;rw [← Nat.add_assoc,zoj,hl,List.append_assoc];exact ⟨_,rfl⟩
 have:=mono (n - w)
 rw [show w+(n - w)=n by omega] at this
 exact this
section
variable {a b:KM} (ha:zf a=0) (hb:zf b=0) (hW:a.W=b.W) (hr:a.rel.length=b.rel.length)
include ha hb hW hr
theorem zro (k:Nat) : ∀ (x:List Nat),x.length+k=a.W.toNat→(∀ u,u < x.length→x.getD u 0 < a.W.toNat) → ∀ (bo:Bool) (u':BitVec 64) (r':List Nat) (v':V),zsm x (dfs (okM a b) a.W.toNat k x) bo u' r' v' →
  Fn Tryz.prog T zbX [.ptr 0 0,.ptr 1 0,.ptr 2 0,.ptr 3 0,.ptr 4 0,.ptr 5 0,.ptr 6 0,.ptr 7 0] (zv3 a b x) (.d (.bool bo))
   [some (.box [.own 10]),some (zX a),some (.box [.fn zY [.ptr 9 0]]),some (zX b),some (.box [.d (.u64 u')]),some (.box [.d (dI (ptL a.W.toNat (zdm a)))]),some (.box [.d (dI (ptL a.W.toNat (zdm b)))]),some (.box [zsT]),none,some (.box [v']),some (zn6 r')]:=by
 have ga:=zq ha
 have w1:=ga.w1;have w2:=ga.w2
 induction k with
 | zero =>
  intro x hx hxn bo u' r' v' hres
  have hd:dfs (okM a b) a.W.toNat 0 x=[x]:=rfl
  rw [hd] at hres
  cases hres
  refine zS zy zff (by show 8≤66;decide) _ (fun e env mem n h=>h) ?_
  (repeat' ((conv=>whnf);first|refine vA ?_|(refine vF ?_ ?_<;>intro hc<;>try simp only [vL] at hc)|refine vJ fun hg=>?_|refine vT ?_));all_goals try conv=>whnf
  ·refine zU.objs [8] (ztN ((x.map fun (y:Nat)=>(y:Int)).map (D.int .i64)) (by simp;omega)) (by (repeat' first|exact rfl|refine And.intro ?_ ?_|refine ⟨_,rfl,?_⟩)) (by (repeat' first|exact rfl|refine And.intro ?_ ?_)) (by rfl) (by rfl) (by simp) ?_
   (repeat' ((conv=>whnf);refine vT ?_));all_goals try conv=>whnf
   refine zU.objsZ [9] [10] (zxk x) (by (repeat' first|exact rfl|refine And.intro ?_ ?_|refine ⟨_,rfl,?_⟩)) (by (repeat' first|exact rfl|refine And.intro ?_ ?_|refine ⟨_,rfl,?_⟩)) (by rfl) (by rfl) (by kernel_rfl) (by kernel_rfl) (by simp) ?_
   (repeat' ((conv=>whnf);first|refine vT ?_|(refine vU ?_ ?_;·kernel_rfl)|fail));all_goals try conv=>whnf
   refine ⟨trivial,_,[(0,0),(1,1),(2,2),(3,3),(4,4),(5,5),(6,6),(7,7),(9,9),(10,8)],[],rfl,.inl (by (repeat' exact .inl rfl)),⟨by rfl,by rfl,by rfl,trivial,by (repeat' first|exact trivial|exact rfl|refine And.intro ?_ ?_|refine ⟨_,rfl,?_⟩|exact of_decide_eq_true rfl)⟩,by (repeat' first|exact trivial|exact rfl|refine And.intro ?_ ?_|refine ⟨_,rfl,?_⟩)⟩
  ·exfalso;omega
 | succ k ih =>
  intro x hx hxn bo u' r' v' hres
  have hlD:=zgr x
  refine zS zy zff (by show 8≤66;decide) _ (fun e env mem n h=>h) ?_
  (repeat' ((conv=>whnf);first|refine vA ?_|(refine vF ?_ ?_<;>intro hc<;>try simp only [vL] at hc)|refine vJ fun hg=>?_|refine vT ?_));all_goals try conv=>whnf
  ·exfalso;omega
  refine zo (fun ((w,u,ys):Nat×BitVec 64×List D)=>[(0,.ptr 0 0),(1,.ptr 1 0),(3,.ptr 3 0),(4,.ptr 4 0),(5,.ptr 5 0),(6,.ptr 6 0),(7,.ptr 7 0),(9,.d (.int .i64 ((zdq x:Int)))),(22,.d (.int .i64 (b.W))),(23,.d (.int .i64 ((w:Int)))),(za,.ptr 0 0),(za+1,.ptr 1 0),(za+2,.ptr 2 0),(za+3,.ptr 3 0),(za+4,.ptr 4 0),(za+5,.ptr 5 0),(za+6,.ptr 6 0),(za+7,.ptr 7 0),(za+9,.ptr 9 0)]) (fun ((w,u,ys):Nat×BitVec 64×List D)=>[(0,some (.box [.own 8])),(1,some (zX a)),(2,some (.box [.fn zY [.ptr 9 0]])),(3,some (zX b)),(4,some (.box [.d (.u64 u)])),(5,some (.box [.d (dI (ptL a.W.toNat (zdm a)))])),(6,some (.box [.d (dI (ptL a.W.toNat (zdm b)))])),(7,some (.box [zsT])),(8,some (.row 1 ys)),(9,some (.box [.nils 1]))]) 10 (fun ((w,u,ys):Nat×BitVec 64×List D)=>w≤a.W.toNat∧zhz (okM a b) a.W.toNat k x w=[]∧u=zez x∧ys=(x.map fun (y:Nat)=>(y:Int)).map (D.int .i64)) (fun ((w,u,ys):Nat×BitVec 64×List D)=>a.W.toNat - w) ((0,zez x,(x.map fun (y:Nat)=>(y:Int)).map (D.int .i64))) [(0,0),(1,1),(2,2),(3,3),(4,4),(5,5),(6,6),(7,7),(8,8),(9,9)] [] (⟨by omega,by simp [zhz],rfl,rfl⟩) (by (refine ⟨rfl,rfl,rfl,?_,?_⟩;repeat' first|exact trivial|exact rfl|refine And.intro ?_ ?_|refine ⟨_,rfl,?_⟩|decide)) ?_
  rintro ⟨w,u,ys⟩ ⟨hw,hcc,hu,hy⟩
  subst hu hy
  by_cases hwl:w < a.W.toNat
  ·have ec:=zaF (q:=zdm a) (n:=a.W.toNat) (w:=x.length) (by omega)
   have ec':=zaF (q:=zdm b) hwl
   have ec2:(ptL a.W.toNat (zdm a))[zdq x]? = some ((zdm a x.length:Nat):Int):=by rw [hlD];exact ec
   have hus:=zoj (ok:=okM a b) (n:=a.W.toNat) (k:=k) (x:=x) (w:=w)
   have hbit:=zgX (x:=x) (show w < 64 by omega)
   have hiff:=zxy hr.symm (x:=x) (w:=w)
   have hskip : ¬okM a b x w=true→zhz (okM a b) a.W.toNat k x (w+1)=[]:=fun h=>by rw [hus,if_neg h,List.append_nil];exact hcc
   have hrow:dN (x++[w])=D.arr 1 ((x.map fun (y:Nat)=>(y:Int)).map (D.int .i64)++[D.int .i64 (w:Int)]):=by simp
   have hxn' : ∀ u,u < (x++[w]).length→(x++[w]).getD u 0 < a.W.toNat:=fun u hu=>by
    by_cases e:u < x.length
    ·have:=hxn u e;rw [List.getD,List.getElem?_append_left e];exact this
    ·have e1:u=x.length:=by simp at hu;omega
     subst e1;rw [List.getD,List.getElem?_append_right (Nat.le_refl _)];simpa using hwl
   have cf:=zqc (T:=T) ha hb hW hr (x++[w]) x.length (by omega) (by simp) (fun u hu=>hxn' u (by simp;omega))
   rw [hrow,show ((x.length:Nat):Int)=((zdq x:Nat):Int) by rw [hlD]] at cf
   by_cases hfit:zgz a b (fnL (x++[w])) x.length
   ·rw [zlU hfit] at cf
    have cr:=ih (x++[w]) (by simp;omega) hxn'
    dsimp only [zv3] at cr
    rw [← zmk (by omega),show zn6 (x++[w])=Ob.row 1 ((x.map fun (y:Nat)=>(y:Int)).map (D.int .i64)++[D.int .i64 (w:Int)]) by rw [zn6];simp] at cr
    (repeat' ((conv=>whnf);first|refine vA ?_|refine vG ?_|((first|refine vD ?_ ?_|refine vF ?_ ?_)<;>intro hc<;>try simp only [vL] at hc)|refine vT ?_|refine vN ‹_› ?_|((first|refine vO ?_ ?_|refine vP ?_ ?_);·first|omega|(simp only [vM] at *;omega))|(refine vU ?_ ?_;·kernel_rfl)|refine yD cf (by (repeat refine ⟨⟨rfl,rfl⟩,?_⟩);rfl) rfl ?_));all_goals try conv=>whnf
    ·refine ⟨(w+1,_,_),[(0,0),(1,1),(2,2),(3,3),(4,4),(5,5),(6,6),(7,7),(8,8),(9,9)],[],?_,?_,by (refine ⟨rfl,rfl,rfl,?_,?_⟩;repeat' first|exact trivial|exact rfl|refine And.intro ?_ ?_|refine ⟨_,rfl,?_⟩|decide)⟩
     ·refine ⟨by omega,hskip fun h=>?_,rfl,rfl⟩
      have h1:=(zba _ _).1 hc
      rw [show (w:Int).toNat=w from rfl,hbit] at h1
      exact (hiff.1 h).2.1 (of_decide_eq_true h1)
     ·((simp only [vM] at *;omega))
    ·refine ⟨(w+1,_,_),[(0,0),(1,1),(2,2),(3,3),(4,4),(5,5),(6,6),(7,7),(8,8),(9,9)],[],?_,?_,by (refine ⟨rfl,rfl,rfl,?_,?_⟩;repeat' first|exact trivial|exact rfl|refine And.intro ?_ ?_|refine ⟨_,rfl,?_⟩|decide)⟩
     ·refine ⟨by omega,hskip fun h=>?_,rfl,rfl⟩
      have h1 : ¬((zdm a x.length:Nat):Int)=((zdm b w:Nat):Int):=‹_≠_›
      have h2:=(hiff.1 h).1
      unfold zdm at h1;rw [← hW] at h1;exact h1 (by rw [h2])
     ·((simp only [vM] at *;omega))
    ·have hbz : ¬zez x >>> (w:Int).toNat&&&1=1:=‹¬_=(1:BitVec 64)›
     have hnm:w ∉ x:=fun h=>hbz ((zba _ _).2 (by rw [show (w:Int).toNat=w from rfl,hbit];simp [h]))
     have hok:okM a b x w=true:=hiff.2 ⟨by
      have h1:((zdm a x.length:Nat):Int)=((zdm b w:Nat):Int):=‹_›
      unfold zdm at h1;rw [← hW] at h1;omega,hnm,hfit⟩
     have hus':=hus
     rw [if_pos hok,hcc,List.nil_append] at hus'
     cases hD:dfs (okM a b) a.W.toNat k (x++[w]) with
     | nil =>
      rw [hD] at cr hus'
      have cr:=cr _ _ _ _ .no
      rw [← zmk (by omega),show zn6 (x++[w])=Ob.row 1 ((x.map fun (y:Nat)=>(y:Int)).map (D.int .i64)++[D.int .i64 (w:Int)]) by rw [zn6];simp] at cr
      refine zU.objs [0,1,2,3,4,5,6,7,11,9] cr (by (repeat' first|exact rfl|refine And.intro ?_ ?_|refine ⟨_,rfl,?_⟩)) (by (repeat' first|exact rfl|refine And.intro ?_ ?_|refine ⟨_,rfl,?_⟩)) (by rfl) (by kernel_rfl) (by simp) ?_
      (repeat' ((conv=>whnf);first|refine vE ?_|refine vG ?_|refine vT ?_|((first|refine vO ?_ ?_|refine vP ?_ ?_);·first|omega|(simp only [vM] at *;omega))|(refine vU ?_ ?_;·kernel_rfl)|fail));all_goals try conv=>whnf
      refine ⟨(w+1,_,_),[(0,0),(1,1),(2,2),(3,3),(4,4),(5,5),(6,6),(7,7),(8,13),(9,9)],[],?_,?_,by (refine ⟨rfl,rfl,rfl,?_,?_⟩;repeat' first|exact trivial|exact rfl|refine And.intro ?_ ?_|refine ⟨_,rfl,?_⟩|decide)⟩
      ·refine ⟨by omega,hus',?_,?_⟩
       ·have h2:=zwn (by omega) hnm
        rw [← zmk (by omega)] at h2
        exact h2
       ·exact List.take_left' rfl
      ·((simp only [vM] at *;omega))
     | cons y l =>
      rw [hD] at cr hus'
      obtain ⟨l',hl'⟩ : ∃ l',dfs (okM a b) a.W.toNat (k+1) x=y::l':=by
       obtain ⟨l2,h2⟩:=zvx (ok:=okM a b) (k:=k) (x:=x) (show w+1≤a.W.toNat by omega)
       rw [hus'] at h2
       exact ⟨_,h2⟩
      rw [hl'] at hres
      have cy:=cr _ _ _ _ (.yes y l)
      cases hres
      refine zU.objs [0,1,2,3,4,5,6,7,11,9] cy (by (repeat' first|exact rfl|refine And.intro ?_ ?_|refine ⟨_,rfl,?_⟩)) (by (repeat' first|exact rfl|refine And.intro ?_ ?_|refine ⟨_,rfl,?_⟩)) (by rfl) (by kernel_rfl) (by simp) ?_
      (repeat' ((conv=>whnf);first|refine vE ?_|refine vH ?_|refine vT ?_));all_goals try conv=>whnf
      refine ⟨trivial,_,[(0,0),(1,1),(2,2),(3,3),(4,4),(5,5),(6,6),(7,7),(9,9),(10,12)],[],rfl,.inl (by (repeat' exact .inr (.inr ⟨rfl,rfl⟩))),⟨by rfl,by rfl,by rfl,trivial,by (repeat' first|exact trivial|exact rfl|refine And.intro ?_ ?_|refine ⟨_,rfl,?_⟩|exact of_decide_eq_true rfl)⟩,by (repeat' first|exact trivial|exact rfl|refine And.intro ?_ ?_|refine ⟨_,rfl,?_⟩)⟩
    ·exfalso;omega
   ·rw [znP hfit] at cf
    (repeat' ((conv=>whnf);first|refine vA ?_|refine vH ?_|((first|refine vD ?_ ?_|refine vF ?_ ?_)<;>intro hc<;>try simp only [vL] at hc)|refine vT ?_|refine vN ‹_› ?_|((first|refine vO ?_ ?_|refine vP ?_ ?_);·first|omega|(simp only [vM] at *;omega))|(refine vU ?_ ?_;·kernel_rfl)|refine yD cf (by (repeat refine ⟨⟨rfl,rfl⟩,?_⟩);rfl) rfl ?_));all_goals try conv=>whnf
    ·refine ⟨(w+1,_,_),[(0,0),(1,1),(2,2),(3,3),(4,4),(5,5),(6,6),(7,7),(8,8),(9,9)],[],?_,?_,by (refine ⟨rfl,rfl,rfl,?_,?_⟩;repeat' first|exact trivial|exact rfl|refine And.intro ?_ ?_|refine ⟨_,rfl,?_⟩|decide)⟩
     ·exact ⟨by omega,hskip fun h=>hfit (hiff.1 h).2.2,rfl,rfl⟩
     ·((simp only [vM] at *;omega))
    ·refine ⟨(w+1,_,_),[(0,0),(1,1),(2,2),(3,3),(4,4),(5,5),(6,6),(7,7),(8,8),(9,9)],[],?_,?_,by (refine ⟨rfl,rfl,rfl,?_,?_⟩;repeat' first|exact trivial|exact rfl|refine And.intro ?_ ?_|refine ⟨_,rfl,?_⟩|decide)⟩
     ·exact ⟨by omega,hskip fun h=>hfit (hiff.1 h).2.2,rfl,rfl⟩
     ·((simp only [vM] at *;omega))
    ·refine ⟨(w+1,_,_),[(0,0),(1,1),(2,2),(3,3),(4,4),(5,5),(6,6),(7,7),(8,12),(9,9)],[],?_,?_,by (refine ⟨rfl,rfl,rfl,?_,?_⟩;repeat' first|exact trivial|exact rfl|refine And.intro ?_ ?_|refine ⟨_,rfl,?_⟩|decide)⟩
     ·exact ⟨by omega,hskip fun h=>hfit (hiff.1 h).2.2,rfl,List.take_left' rfl⟩
     ·((simp only [vM] at *;omega))
    ·exfalso;omega
  ·(repeat' ((conv=>whnf);first|refine vA ?_|((first|refine vD ?_ ?_|refine vF ?_ ?_)<;>intro hc<;>try simp only [vL] at hc)|refine vT ?_|(refine vQ ?_ fun x hx=>?_;·omega)|((first|refine vO ?_ ?_|refine vP ?_ ?_);·omega)|(refine vU ?_ ?_;·kernel_rfl)|fail));all_goals try conv=>whnf
   iterate 3 (exfalso;omega)
   have e0:w=a.W.toNat:=by omega
   subst e0
   rw [show zhz (okM a b) a.W.toNat k x a.W.toNat=dfs (okM a b) a.W.toNat (k+1) x from rfl] at hcc
   rw [hcc] at hres
   cases hres
   refine ⟨trivial,_,[(0,0),(1,1),(2,2),(3,3),(4,4),(5,5),(6,6),(7,7),(9,9),(10,8)],[],rfl,.inl (by (repeat' exact .inr (.inl ⟨rfl,rfl⟩))),⟨by rfl,by rfl,by rfl,trivial,by (repeat' first|exact trivial|exact rfl|refine And.intro ?_ ?_|refine ⟨_,rfl,?_⟩|exact of_decide_eq_true rfl)⟩,by (repeat' first|exact trivial|exact rfl|refine And.intro ?_ ?_|refine ⟨_,rfl,?_⟩)⟩
end
end Go.Ab
namespace Go.Ab
open Go Go.Proofs
set_option maxRecDepth 10000
set_option maxHeartbeats 4000000
variable {T:Nat→Obj→Prop}
theorem zwo:zez []=0#64:=by decide
section
variable {a b:KM} (ha:zf a=0) (hb:zf b=0) (hW:a.W=b.W) (hr:a.rel.length=b.rel.length) (h12:a.W≤12)
include ha hb hW hr h12
theorem zje (hT:zdB T) (bo:Bool) (u':BitVec 64) (r':List Nat) (v':V) (hv:v' = .nils 1 ∨ ∃ y,v' = .d (dN y)) (hres:zsm [] (dfs (okM a b) a.W.toNat a.W.toNat []) bo u' r' v'):Fn Tryz.prog T zf8 [.d (dKM a),.d (dKM b),.fn zY [.ptr 0 0]] [.box [.nils 1]] (.tup []) [some (.box [v'])]:=by
 have ga:=zq ha
 have w1:=ga.w1
 have c1:=zmU hT a (fun _=>h12)
 have c2:=zmU hT b (fun _=>by omega)
 rw [zsy,if_neg (by omega)] at c1 c2
 rw [show (zhy a.W.toNat (zu a) (zt a)).1=zdm a from rfl] at c1
 rw [show (zhy b.W.toNat (zu b) (zt b)).1=zdm b from rfl,← hW] at c2
 have cr:=zro (T:=T) ha hb hW hr a.W.toNat [] (by simp) (fun u hu=>by simp at hu) _ _ _ _ hres
 dsimp only [zv3] at cr
 rw [zwo] at cr
 rcases hv with rfl|⟨y,rfl⟩
 all_goals
  refine zS zy zk5 (by show 3≤29;decide) _ (fun e env mem n h=>h) ?_
  (repeat' ((conv=>whnf);first|refine vA ?_|refine vB fun b hb=>?_|refine vC (fun hl=>?_) fun i kv vv hi=>?_|refine vE ?_|refine vG ?_|refine vH ?_|((first|refine vD ?_ ?_|refine vF ?_ ?_|refine vI ?_ ?_)<;>intro hc<;>try simp only [vL] at hc)|refine vJ fun hg=>?_|refine vK fun hg=>?_|refine vT ?_|refine vN ‹_› ?_|(refine vQ ?_ fun x hx=>?_;·first|omega|(simp only [vM] at *;omega))|((first|refine vO ?_ ?_|refine vR ?_ ‹_› ?_|refine vS ?_ fun x hx=>?_|refine vP ?_ ?_);·first|omega|(simp only [vM] at *;omega))|refine vW ⟨by omega,by omega⟩ ?_|(refine vU ?_ ?_;·kernel_rfl)|refine vX ?_|refine vY ?_|refine vZ ?_|refine yN c1 ⟨⟨rfl,rfl⟩,rfl⟩ ?_|refine yN c2 ⟨⟨rfl,rfl⟩,rfl⟩ ?_|refine zb8.mk _ ‹_› ?_|refine vP (show (_:BitVec 64)≠_ by decide) ?_));all_goals try conv=>whnf
  refine zU.objs [7,1,3,2,8,4,5,9,6,0] cr (by (repeat' first|exact trivial|exact rfl|exact ⟨_,rfl⟩|exact .inl rfl|exact .inr (.inl ⟨rfl,rfl⟩)|exact .inr (.inr ⟨rfl,rfl⟩)|refine And.intro ?_ ?_|refine ⟨_,rfl,?_⟩|decide|exact of_decide_eq_true rfl)) (by (repeat' first|exact trivial|exact rfl|exact ⟨_,rfl⟩|exact .inl rfl|exact .inr (.inl ⟨rfl,rfl⟩)|exact .inr (.inr ⟨rfl,rfl⟩)|refine And.intro ?_ ?_|refine ⟨_,rfl,?_⟩|decide|exact of_decide_eq_true rfl)) (by rfl) (by kernel_rfl) (by simp) ?_
  (repeat' ((conv=>whnf);first|refine vA ?_|refine vB fun b hb=>?_|refine vC (fun hl=>?_) fun i kv vv hi=>?_|refine vE ?_|refine vG ?_|refine vH ?_|((first|refine vD ?_ ?_|refine vF ?_ ?_|refine vI ?_ ?_)<;>intro hc<;>try simp only [vL] at hc)|refine vJ fun hg=>?_|refine vK fun hg=>?_|refine vT ?_|refine vN ‹_› ?_|(refine vQ ?_ fun x hx=>?_;·first|omega|(simp only [vM] at *;omega))|((first|refine vO ?_ ?_|refine vR ?_ ‹_› ?_|refine vS ?_ fun x hx=>?_|refine vP ?_ ?_);·first|omega|(simp only [vM] at *;omega))|refine vW ⟨by omega,by omega⟩ ?_|(refine vU ?_ ?_;·kernel_rfl)|refine vX ?_|refine vY ?_|refine vZ ?_|refine zb8.mk _ ‹_› ?_|refine vP (show (_:BitVec 64)≠_ by decide) ?_));all_goals try conv=>whnf
  refine ⟨trivial,_,[(0,0)],[],rfl,.inl (by (repeat' first|exact trivial|exact rfl|exact ⟨_,rfl⟩|exact .inl rfl|exact .inr (.inl ⟨rfl,rfl⟩)|exact .inr (.inr ⟨rfl,rfl⟩)|refine And.intro ?_ ?_|refine ⟨_,rfl,?_⟩|decide|exact of_decide_eq_true rfl)),⟨by rfl,by rfl,by rfl,trivial,by (repeat' first|exact trivial|exact rfl|exact ⟨_,rfl⟩|exact .inl rfl|exact .inr (.inl ⟨rfl,rfl⟩)|exact .inr (.inr ⟨rfl,rfl⟩)|refine And.intro ?_ ?_|refine ⟨_,rfl,?_⟩|decide|exact of_decide_eq_true rfl)⟩,by (repeat' first|exact trivial|exact rfl|exact ⟨_,rfl⟩|exact .inl rfl|exact .inr (.inl ⟨rfl,rfl⟩)|exact .inr (.inr ⟨rfl,rfl⟩)|refine And.intro ?_ ?_|refine ⟨_,rfl,?_⟩|decide|exact of_decide_eq_true rfl)⟩
end
noncomputable def ze1 (a b:KM):List Int×Int:=if zbo a b≠0 then ([],zbo a b) else if 12 < a.W∨12 < b.W then ([],8) else if a.W≠b.W then ([],6) else match dfs (okM a b) a.W.toNat a.W.toNat [] with
 | []=>([],6)
 | y::_=>(y.map fun (x:Nat)=>(x:Int),0)
theorem zxX (hT:zdB T) (a b:KM):Fn Tryz.prog T zeF [.d (dKM a),.d (dKM b)] [] (.d (.tup [dI (ze1 a b).1,.int .i64 (ze1 a b).2])) []:=by
 by_cases he:zbo a b=0
 ·obtain ⟨ha,hb,hr,hv⟩:=zoy he
  have ga:=zq ha
  have w1:=ga.w1
  have cb:=znQ (T:=T) a b
  rw [he] at cb
  by_cases h12:12 < a.W∨12 < b.W
  ·refine zi zy zaN (by show 2≤34;decide) ?_
   (repeat' ((conv=>whnf);first|refine vA ?_|refine vB fun b hb=>?_|refine vC (fun hl=>?_) fun i kv vv hi=>?_|refine vE ?_|refine vG ?_|refine vH ?_|((first|refine vD ?_ ?_|refine vF ?_ ?_|refine vI ?_ ?_)<;>intro hc<;>try simp only [vL] at hc)|refine vJ fun hg=>?_|refine vK fun hg=>?_|refine vT ?_|refine vN ‹_› ?_|(refine vQ ?_ fun x hx=>?_;·first|omega|(simp only [vM] at *;omega))|((first|refine vO ?_ ?_|refine vR ?_ ‹_› ?_|refine vS ?_ fun x hx=>?_|refine vP ?_ ?_);·first|omega|(simp only [vM] at *;omega))|refine vW ⟨by omega,by omega⟩ ?_|(refine vU ?_ ?_;·kernel_rfl)|refine vX ?_|refine vY ?_|refine vZ ?_|refine yD cb ⟨⟨rfl,rfl⟩,⟨rfl,rfl⟩,rfl⟩ rfl ?_|refine zb8.mk _ ‹_› ?_|refine vP (show (_:BitVec 64)≠_ by decide) ?_));all_goals try conv=>whnf
   iterate 2 (rw [ze1,if_neg (by omega),if_pos h12];rfl)
   all_goals (exfalso;omega)
  ·by_cases hW:a.W=b.W
   ·have hlen : ∀ y∈dfs (okM a b) a.W.toNat a.W.toNat [],y.length=a.W.toNat:=fun y hy=>by have:=(zgp.1 hy).1;simpa using this
    cases hD:dfs (okM a b) a.W.toNat a.W.toNat [] with
    | nil =>
     have cs:=zje ha hb hW hr (by omega) hT true (zez []) [] (.nils 1) (.inl rfl) (by rw [hD];exact .no)
     refine zi zy zaN (by show 2≤34;decide) ?_
     (repeat' ((conv=>whnf);first|refine vA ?_|refine vB fun b hb=>?_|refine vC (fun hl=>?_) fun i kv vv hi=>?_|refine vE ?_|refine vG ?_|refine vH ?_|((first|refine vD ?_ ?_|refine vF ?_ ?_|refine vI ?_ ?_)<;>intro hc<;>try simp only [vL] at hc)|refine vJ fun hg=>?_|refine vK fun hg=>?_|refine vT ?_|refine vN ‹_› ?_|(refine vQ ?_ fun x hx=>?_;·first|omega|(simp only [vM] at *;omega))|((first|refine vO ?_ ?_|refine vR ?_ ‹_› ?_|refine vS ?_ fun x hx=>?_|refine vP ?_ ?_);·first|omega|(simp only [vM] at *;omega))|refine vW ⟨by omega,by omega⟩ ?_|(refine vU ?_ ?_;·kernel_rfl)|refine vX ?_|refine vY ?_|refine vZ ?_|refine yD cb ⟨⟨rfl,rfl⟩,⟨rfl,rfl⟩,rfl⟩ rfl ?_|refine zb8.mk _ ‹_› ?_|refine vP (show (_:BitVec 64)≠_ by decide) ?_));all_goals try conv=>whnf
     iterate 2 (exfalso;omega)
     ·refine zU.objs [2] (cs) (by (repeat' first|exact trivial|exact rfl|exact ⟨_,rfl⟩|exact .inl rfl|exact .inr (.inl ⟨rfl,rfl⟩)|exact .inr (.inr ⟨rfl,rfl⟩)|refine And.intro ?_ ?_|refine ⟨_,rfl,?_⟩|decide|exact of_decide_eq_true rfl)) (by (repeat' first|exact trivial|exact rfl|exact ⟨_,rfl⟩|exact .inl rfl|exact .inr (.inl ⟨rfl,rfl⟩)|exact .inr (.inr ⟨rfl,rfl⟩)|refine And.intro ?_ ?_|refine ⟨_,rfl,?_⟩|decide|exact of_decide_eq_true rfl)) (by rfl) (by rfl) (by simp) ?_
      (repeat' ((conv=>whnf);first|refine vA ?_|refine vB fun b hb=>?_|refine vC (fun hl=>?_) fun i kv vv hi=>?_|refine vE ?_|refine vG ?_|refine vH ?_|((first|refine vD ?_ ?_|refine vF ?_ ?_|refine vI ?_ ?_)<;>intro hc<;>try simp only [vL] at hc)|refine vJ fun hg=>?_|refine vK fun hg=>?_|refine vT ?_|refine vN ‹_› ?_|(refine vQ ?_ fun x hx=>?_;·first|omega|(simp only [vM] at *;omega))|((first|refine vO ?_ ?_|refine vR ?_ ‹_› ?_|refine vS ?_ fun x hx=>?_|refine vP ?_ ?_);·first|omega|(simp only [vM] at *;omega))|refine vW ⟨by omega,by omega⟩ ?_|(refine vU ?_ ?_;·kernel_rfl)|refine vX ?_|refine vY ?_|refine vZ ?_|refine zb8.mk _ ‹_› ?_|refine vP (show (_:BitVec 64)≠_ by decide) ?_));all_goals try conv=>whnf
      rw [ze1,if_neg (by omega),if_neg h12,if_neg (by omega),hD];rfl
     ·exact absurd hW ‹_›
    | cons y l =>
     have hyl:=hlen y (by rw [hD];simp)
     have cs:=zje ha hb hW hr (by omega) hT false (zez y) y (.d (dN y)) (.inr ⟨y,rfl⟩) (by rw [hD];exact .yes y l)
     refine zi zy zaN (by show 2≤34;decide) ?_
     (repeat' ((conv=>whnf);first|refine vA ?_|refine vB fun b hb=>?_|refine vC (fun hl=>?_) fun i kv vv hi=>?_|refine vE ?_|refine vG ?_|refine vH ?_|((first|refine vD ?_ ?_|refine vF ?_ ?_|refine vI ?_ ?_)<;>intro hc<;>try simp only [vL] at hc)|refine vJ fun hg=>?_|refine vK fun hg=>?_|refine vT ?_|refine vN ‹_› ?_|(refine vQ ?_ fun x hx=>?_;·first|omega|(simp only [vM] at *;omega))|((first|refine vO ?_ ?_|refine vR ?_ ‹_› ?_|refine vS ?_ fun x hx=>?_|refine vP ?_ ?_);·first|omega|(simp only [vM] at *;omega))|refine vW ⟨by omega,by omega⟩ ?_|(refine vU ?_ ?_;·kernel_rfl)|refine vX ?_|refine vY ?_|refine vZ ?_|refine yD cb ⟨⟨rfl,rfl⟩,⟨rfl,rfl⟩,rfl⟩ rfl ?_|refine zb8.mk _ ‹_› ?_|refine vP (show (_:BitVec 64)≠_ by decide) ?_));all_goals try conv=>whnf
     iterate 2 (exfalso;omega)
     ·refine zU.objs [2] (cs) (by (repeat' first|exact trivial|exact rfl|exact ⟨_,rfl⟩|exact .inl rfl|exact .inr (.inl ⟨rfl,rfl⟩)|exact .inr (.inr ⟨rfl,rfl⟩)|refine And.intro ?_ ?_|refine ⟨_,rfl,?_⟩|decide|exact of_decide_eq_true rfl)) (by (repeat' first|exact trivial|exact rfl|exact ⟨_,rfl⟩|exact .inl rfl|exact .inr (.inl ⟨rfl,rfl⟩)|exact .inr (.inr ⟨rfl,rfl⟩)|refine And.intro ?_ ?_|refine ⟨_,rfl,?_⟩|decide|exact of_decide_eq_true rfl)) (by rfl) (by rfl) (by simp) ?_
      (repeat' ((conv=>whnf);first|refine vA ?_|refine vB fun b hb=>?_|refine vC (fun hl=>?_) fun i kv vv hi=>?_|refine vE ?_|refine vG ?_|refine vH ?_|((first|refine vD ?_ ?_|refine vF ?_ ?_|refine vI ?_ ?_)<;>intro hc<;>try simp only [vL] at hc)|refine vJ fun hg=>?_|refine vK fun hg=>?_|refine vT ?_|refine vN ‹_› ?_|(refine vQ ?_ fun x hx=>?_;·first|omega|(simp only [vM] at *;omega))|((first|refine vO ?_ ?_|refine vR ?_ ‹_› ?_|refine vS ?_ fun x hx=>?_|refine vP ?_ ?_);·first|omega|(simp only [vM] at *;omega))|refine vW ⟨by omega,by omega⟩ ?_|(refine vU ?_ ?_;·kernel_rfl)|refine vX ?_|refine vY ?_|refine vZ ?_|refine zb8.mk _ ‹_› ?_|refine vP (show (_:BitVec 64)≠_ by decide) ?_));all_goals try conv=>whnf
      ·rw [ze1,if_neg (by omega),if_neg h12,if_neg (by omega),hD];rfl
      ·have h1:(y.map fun (x:Nat)=>(x:Int)).map (D.int .i64)=[]:=hb (by simpa using hc)
       have h2:=congrArg List.length h1
       simp at h2
       rw [h2] at hyl;simp at hyl;omega
     ·exact absurd hW ‹_›
   ·refine zi zy zaN (by show 2≤34;decide) ?_
    (repeat' ((conv=>whnf);first|refine vA ?_|refine vB fun b hb=>?_|refine vC (fun hl=>?_) fun i kv vv hi=>?_|refine vE ?_|refine vG ?_|refine vH ?_|((first|refine vD ?_ ?_|refine vF ?_ ?_|refine vI ?_ ?_)<;>intro hc<;>try simp only [vL] at hc)|refine vJ fun hg=>?_|refine vK fun hg=>?_|refine vT ?_|refine vN ‹_› ?_|(refine vQ ?_ fun x hx=>?_;·first|omega|(simp only [vM] at *;omega))|((first|refine vO ?_ ?_|refine vR ?_ ‹_› ?_|refine vS ?_ fun x hx=>?_|refine vP ?_ ?_);·first|omega|(simp only [vM] at *;omega))|refine vW ⟨by omega,by omega⟩ ?_|(refine vU ?_ ?_;·kernel_rfl)|refine vX ?_|refine vY ?_|refine vZ ?_|refine yD cb ⟨⟨rfl,rfl⟩,⟨rfl,rfl⟩,rfl⟩ rfl ?_|refine zb8.mk _ ‹_› ?_|refine vP (show (_:BitVec 64)≠_ by decide) ?_));all_goals try conv=>whnf
    iterate 2 (exfalso;omega)
    ·exact absurd ‹_› hW
    ·rw [ze1,if_neg (by omega),if_neg h12,if_pos hW];rfl
 ·refine zi zy zaN (by show 2≤34;decide) ?_
  (repeat' ((conv=>whnf);first|refine vA ?_|refine vB fun b hb=>?_|refine vC (fun hl=>?_) fun i kv vv hi=>?_|refine vE ?_|refine vG ?_|refine vH ?_|((first|refine vD ?_ ?_|refine vF ?_ ?_|refine vI ?_ ?_)<;>intro hc<;>try simp only [vL] at hc)|refine vJ fun hg=>?_|refine vK fun hg=>?_|refine vT ?_|refine vN ‹_› ?_|(refine vQ ?_ fun x hx=>?_;·first|omega|(simp only [vM] at *;omega))|((first|refine vO ?_ ?_|refine vR ?_ ‹_› ?_|refine vS ?_ fun x hx=>?_|refine vP ?_ ?_);·first|omega|(simp only [vM] at *;omega))|refine vW ⟨by omega,by omega⟩ ?_|(refine vU ?_ ?_;·kernel_rfl)|refine vX ?_|refine vY ?_|refine vZ ?_|refine yD (znQ _ _) ⟨⟨rfl,rfl⟩,⟨rfl,rfl⟩,rfl⟩ rfl ?_|refine zb8.mk _ ‹_› ?_|refine vP (show (_:BitVec 64)≠_ by decide) ?_));all_goals try conv=>whnf
  ·rw [ze1,if_pos he];rfl
  all_goals exact absurd ‹zbo a b=0› he
end Go.Ab
namespace Go.Ab
open Go Go.Proofs
set_option maxRecDepth 10000
set_option maxHeartbeats 4000000
def ziL:List D→Option (List Int)
 | []=>some []
 | .int .i64 n::r=>match ziL r with
  | some l=>some (n::l)
  | none=>none
 | _=>none
theorem zlY : ∀ {ds:List D} {l:List Int},ziL ds=some l→ds=l.map (D.int .i64)
 | [],l,h=>by cases h;rfl
 | .int .i64 n::r,l,h=>by
  unfold ziL at h
  split at h
  ·rename_i l' h';cases h;rw [zlY h'];rfl
  ·cases h
def zg2:List D→Option (List (BitVec 64))
 | []=>some []
 | .u64 n::r=>match zg2 r with
  | some l=>some (n::l)
  | none=>none
 | _=>none
theorem zkA : ∀ {ds:List D} {l:List (BitVec 64)},zg2 ds=some l→ds=l.map D.u64
 | [],l,h=>by cases h;rfl
 | .u64 n::r,l,h=>by
  unfold zg2 at h
  split at h
  ·rename_i l' h';cases h;rw [zkA h'];rfl
  ·cases h
def zh6:List D→Option (List (List Int))
 | []=>some []
 | .arr 1 x::r=>match ziL x with
  | some a=>match zh6 r with
   | some l=>some (a::l)
   | none=>none
  | none=>none
 | _=>none
theorem zke : ∀ {ds:List D} {l:List (List Int)},zh6 ds=some l→ds=l.map dI
 | [],l,h=>by cases h;rfl
 | .arr 1 x::r,l,h=>by
  replace h:(match ziL x with
   | some a=>match zh6 r with
    | some l=>some (a::l)
    | none=>none
   | none=>none)=some l:=h
  cases h1:ziL x with
  | none=>rw [h1] at h;cases h
  | some a =>
   cases h2:zh6 r with
   | none=>rw [h1,h2] at h;cases h
   | some l'=>rw [h1,h2] at h;cases h;rw [zke h2,zlY h1];rfl
def znl:List D→Option (List (List (BitVec 64)))
 | []=>some []
 | .arr 1 x::r=>match zg2 x with
  | some a=>match znl r with
   | some l=>some (a::l)
   | none=>none
  | none=>none
 | _=>none
theorem zqL : ∀ {ds:List D} {l:List (List (BitVec 64))},znl ds=some l→ds=l.map dU
 | [],l,h=>by cases h;rfl
 | .arr 1 x::r,l,h=>by
  replace h:(match zg2 x with
   | some a=>match znl r with
    | some l=>some (a::l)
    | none=>none
   | none=>none)=some l:=h
  cases h1:zg2 x with
  | none=>rw [h1] at h;cases h
  | some a =>
   cases h2:znl r with
   | none=>rw [h1,h2] at h;cases h
   | some l'=>rw [h1,h2] at h;cases h;rw [zqL h2,zkA h1];rfl
def zn0:D→Option KM
 | .agg [.int .i64 W,.arr 1 v,.arr 1 r]=>match zg2 v,znl r with
  | some v,some r=>some ⟨W,v,r⟩
  | _,_=>none
 | _=>none
theorem zkP {d:D} {m:KM} (h:zn0 d=some m):d=dKM m:=by
 unfold zn0 at h
 split at h
 ·split at h
  ·rename_i h1 h2;cases h;rw [zkA h1,zqL h2]
  ·cases h
 ·cases h
def ztc (t:Tup):Bool:=Nat.ble t.length 1000&&t.all fun r=>Nat.ble r.length 1000
theorem zxM {t:Tup} (h:ztc t=true):Sml t:=by
 unfold ztc at h
 rw [Bool.and_eq_true,Nat.ble_eq] at h
 exact ⟨h.1,fun r hr=>by have:=List.all_eq_true.1 h.2 r hr;rwa [Nat.ble_eq] at this⟩
variable {T:Nat→Obj→Prop}
end Go.Ab
namespace Go.Ab
open Go Go.Proofs
set_option maxRecDepth 10000
set_option maxHeartbeats 4000000
variable {T:Nat→Obj→Prop}
def zfJ (a b:List Int) (v w:Nat):Bool:=decide (at0 a v=at0 a w∧at0 b v=at0 b w)
end Go.Ab
namespace Go.Ab
open Go Go.Proofs
set_option maxRecDepth 10000
set_option maxHeartbeats 4000000
variable {T:Nat→Obj→Prop}
def pOk (p:List Int) (i:Nat):Bool:=decide (0≤at0 p i∧at0 p i≤i∧at0 p (at0 p i).toNat=at0 p i)
def zbx (p:List Int):Int:=if 64 < p.length then 8 else if (List.range p.length).all (pOk p)=true then 0 else 3
theorem zr1 {p:List Int} {k:Nat} (hk:k < p.length) (h:pOk p k=false) : ¬(List.range p.length).all (pOk p)=true:=fun e=>by
 rw [List.all_eq_true] at e
 rw [e k (List.mem_range.2 hk)] at h;cases h
theorem zqD {p:List Int} (h : ∀ i,i < p.length→pOk p i=true):(List.range p.length).all (pOk p)=true:=List.all_eq_true.2 fun i hi=>h i (List.mem_range.1 hi)
theorem zrx {p:List Int} (h:zbx p=0):p.length≤64∧zaR p.length (fun w=>(at0 p w).toNat)∧p=ptL p.length fun w=>(at0 p w).toNat:=by
 unfold zbx at h
 split at h
 ·cases h
 ·rename_i h1
  split at h
  ·rename_i h2
   have h3 : ∀ i,i < p.length→0≤at0 p i∧at0 p i≤i∧at0 p (at0 p i).toNat=at0 p i:=fun i hi=>by
    have:=List.all_eq_true.1 h2 i (List.mem_range.2 hi)
    simpa [pOk] using this
   refine ⟨by omega,⟨fun w hw=>by have:=h3 w hw;show (at0 p w).toNat≤w;omega,fun w hw=>by have:=h3 w hw;show (at0 p (at0 p w).toNat).toNat=_;rw [this.2.2]⟩,?_⟩
   refine List.ext_getElem? fun i=>?_
   by_cases hi:i < p.length
   ·rw [zaF hi,zdk hi]
    have:=h3 i hi
    congr 1;omega
   ·rw [List.getElem?_eq_none (by omega),List.getElem?_eq_none (by rw [zby];omega)]
  ·cases h
theorem zlh {n:Nat} {q:Nat→Nat} (hq:zaR n q) (hn:n≤64):zbx (ptL n q)=0:=by
 have hl:(ptL n q).length=n:=zby
 have ha : ∀ i,i < n→at0 (ptL n q) i=((q i:Nat):Int):=fun i hi=>zcM (zaF hi)
 unfold zbx
 rw [if_neg (by omega),if_pos (zqD fun i hi=>?_)]
 rw [hl] at hi
 have h1:=hq.le i hi
 unfold pOk
 rw [decide_eq_true_eq,ha i hi,Int.toNat_natCast,ha (q i) (by omega),hq.idem i hi]
 exact ⟨by omega,by omega,rfl⟩
theorem zgh (p:List Int):Fn Tryz.prog T zee [.d (dI p)] [] (.d (.int .i64 (zbx p))) []:=by
 refine zi zy zk8 (by show 1≤31;decide) ?_
 (repeat' ((conv=>whnf);first|refine vA ?_|(refine vF ?_ ?_<;>intro hc<;>try simp only [vL] at hc)|refine vJ fun hg=>?_|refine vT ?_|refine vX ?_));all_goals try conv=>whnf
 ·rw [zbx,if_pos (by omega)]
 ·have e0:zbx p=if (List.range p.length).all (pOk p)=true then 0 else 3:=by rw [zbx,if_neg (by omega)]
  refine zaY (fun (k:Nat)=>[(0,.d (dI p)),(8,.d (dI p)),(9,.d (.int .i64 ((p.map (D.int .i64)).length:Int))),(10,.d (.int .i64 ((k:Int))))]) (fun (k:Nat)=>k≤p.length ∧ ∀ i,i < k→pOk p i=true) (fun (k:Nat)=>p.length - k) (0) (⟨by simp,fun i hi=>by omega⟩) (by (repeat' first|exact trivial|exact rfl|refine And.intro ?_ ?_)) ?_
  rintro k ⟨hk,hI⟩
  by_cases hkl:k < p.length
  ·have e1:p[k]? = some (at0 p k):=zdk hkl
   by_cases hb:0≤at0 p k∧at0 p k≤k
   ·have e2:p[(at0 p k).toNat]? = some (at0 p (at0 p k).toNat):=zdk (by omega)
    (repeat' ((conv=>whnf);first|refine vA ?_|((first|refine vD ?_ ?_|refine vF ?_ ?_)<;>intro hc<;>try simp only [vL] at hc)|refine vT ?_|refine vN ‹_› ?_|((first|refine vO ?_ ?_|refine vR ?_ ‹_› ?_);·omega)|refine vX ?_));all_goals try conv=>whnf
    all_goals try omega
    ·rw [e0,if_neg (zr1 hkl (by unfold pOk;rw [decide_eq_false_iff_not];rintro ⟨-,-,h3⟩;exact absurd h3 ‹_›))]
    ·exact ⟨k+1,[],[],⟨by (omega),fun i hi=>by
      by_cases e:i=k
      ·subst e;unfold pOk;rw [decide_eq_true_eq];exact ⟨hb.1,hb.2,by assumption⟩
      ·exact hI i (by omega)⟩,by (omega),by (refine ⟨rfl,rfl,rfl,?_,?_⟩;repeat' first|exact trivial|exact rfl|refine And.intro ?_ ?_)⟩
   ·(repeat' ((conv=>whnf);first|refine vA ?_|((first|refine vD ?_ ?_|refine vF ?_ ?_)<;>intro hc<;>try simp only [vL] at hc)|refine vT ?_|refine vN ‹_› ?_|((first|refine vO ?_ ?_|refine vS ?_ fun x hx=>?_);·omega)|refine vX ?_));all_goals try conv=>whnf
    all_goals try omega
    all_goals exact (by rw [e0,if_neg (zr1 hkl (by unfold pOk;rw [decide_eq_false_iff_not];rintro ⟨h1,h2,-⟩;exact hb ⟨h1,h2⟩))])
  ·(repeat' ((conv=>whnf);first|refine vA ?_|((first|refine vD ?_ ?_|refine vF ?_ ?_)<;>intro hc<;>try simp only [vL] at hc)|refine vT ?_|(refine vQ ?_ fun x hx=>?_;·omega)|((first|refine vO ?_ ?_|refine vS ?_ fun x hx=>?_);·omega)|refine vX ?_));all_goals try conv=>whnf
   all_goals try omega
   rw [e0,if_pos (zqD fun i hi=>hI i (by omega))]
theorem ztU {n:Nat} {q:Nat→Nat} (hq:zaR n q) (hn:n≤64):Fn Tryz.prog T zee [.d (dI (ptL n q))] [] (.d (.int .i64 0)) []:=by
 have:=zgh (T:=T) (ptL n q)
 rwa [zlh hq hn] at this
abbrev pkD (x y:Int):D := .agg [.int .i64 x,.int .i64 y]
def zcS (a b:List Int) (k:Nat) (x y:Int):Option Nat:=(List.range k).find? fun j=>decide (at0 a j=x∧at0 b j=y)
def zju (a b:List Int) (k:Nat) (es:List (D×D)):Prop := ∀ x y,zT es (pkD x y)=some ((zcS a b k x y).map fun (j:Nat)=>D.int .i64 (j:Int))
theorem zeX (k:D) (l:List (D×D)) : ∀ es:List (D×D),zT es k=some none→zT (es++l) k=zT l k
 | [],_=>rfl
 | (a,v)::r,h=>by
  simp only [zT] at h
  show zT ((a,v)::(r++l)) k=_
  simp only [zT]
  split at h
  ·cases h
  ·exact zeX k l r h
  ·cases h
theorem zll (k:D) (l:List (D×D)) : ∀ (es:List (D×D)) (x:D),zT es k=some (some x)→zT (es++l) k=some (some x)
 | [],_,h=>by cases h
 | (a,v)::r,x,h=>by
  simp only [zT] at h
  show zT ((a,v)::(r++l)) k=_
  simp only [zT]
  split at h
  ·exact h
  ·exact zll k l r x h
  ·cases h
theorem zum (x y x' y':Int):D.eqk (pkD x y) (pkD x' y')=some (decide (x=x')&&(decide (y=y')&&true)):=rfl
theorem zjX (a b:List Int) (k:Nat) (x y:Int):zcS a b (k+1) x y=match zcS a b k x y with
  | some j=>some j
  | none=>if at0 a k=x∧at0 b k=y then some k else none:=by
 unfold zcS
 rw [List.range_succ,List.find?_append]
 cases h:(List.range k).find? fun j=>decide (at0 a j=x∧at0 b j=y) with
 | some j=>rfl
 | none =>
  show (none:Option Nat).or _=_
  rw [Option.none_or]
  simp only [List.find?]
  by_cases e:at0 a k=x∧at0 b k=y
  ·rw [if_pos e,decide_eq_true e]
  ·rw [if_neg e,decide_eq_false e]
theorem zrh {a b:List Int} {k j:Nat} {es:List (D×D)} (h:zju a b k es) (hf:zcS a b k (at0 a k) (at0 b k)=some j):zju a b (k+1) es:=by
 intro x y
 rw [h x y,zjX]
 cases e:zcS a b k x y with
 | some i=>rfl
 | none =>
  show _=some (Option.map _ (if at0 a k=x∧at0 b k=y then some k else none))
  rw [if_neg]
  rintro ⟨rfl,rfl⟩;rw [hf] at e;cases e
theorem zsL {a b:List Int} {k:Nat} {es:List (D×D)} (h:zju a b k es) (hf:zcS a b k (at0 a k) (at0 b k)=none):zju a b (k+1) (es++[(pkD (at0 a k) (at0 b k),.int .i64 (k:Int))]):=by
 intro x y
 rw [zjX]
 cases e:zcS a b k x y with
 | some i=>exact zll _ _ _ _ (by rw [h x y,e];rfl)
 | none =>
  rw [zeX _ _ _ (by rw [h x y,e];rfl)]
  show _=some (Option.map _ (if at0 a k=x∧at0 b k=y then some k else none))
  simp only [zT,zum]
  by_cases e1:at0 a k=x∧at0 b k=y
  ·obtain ⟨rfl,rfl⟩:=e1
   simp
  ·rw [if_neg e1]
   by_cases e2:x=at0 a k
   ·have e3 : ¬ y=at0 b k:=fun e3=>e1 ⟨e2.symm,e3.symm⟩
    simp [e2,e3]
   ·simp [e2]
theorem zoB (a b:List Int) (k:Nat):zR (zfJ a b) k=(zcS a b k (at0 a k) (at0 b k)).getD k:=rfl
theorem zsa {e:Nat→Nat→Bool} {n k j:Nat} (h:zR e k=j):(((List.range n).map fun i=>D.int .i64 (if i < k then (zR e i:Int) else 0)).set k (D.int .i64 (j:Int)))=(List.range n).map fun i=>D.int .i64 (if i < k+1 then (zR e i:Int) else 0):=by
 refine (zdX _).trans (zL fun u hu=>?_)
 by_cases e1:u=k
 ·subst e1;rw [if_pos rfl,if_pos (by omega),h]
 ·rw [if_neg e1]
  by_cases e2:u < k
  ·rw [if_pos e2,if_pos (by omega)]
  ·rw [if_neg e2,if_neg (by omega)]
theorem ztQ (a b:List Int) (hl:b.length=a.length) (hn:a.length≤64):Fn Tryz.prog T zfR [.d (dI a),.d (dI b)] [] (.d (dI (ptL a.length (zR (zfJ a b))))) []:=by
 refine zi zy zkc (by show 2≤48;decide) ?_
 (repeat' ((conv=>whnf);first|refine vA ?_|refine vJ fun hg=>?_|refine vT ?_|(refine vP ?_ ?_;·(simp only [vM] at *;omega))|fail));all_goals try conv=>whnf
 refine zo (fun ((k,es,zs):Nat×List (D×D)×List D)=>[(0,.d (dI a)),(1,.d (dI b)),(5,.map 0),(6,.own 1),(16,.d (.int .i64 ((a.map (D.int .i64)).length:Int))),(17,.d (.int .i64 ((k:Int))))]) (fun ((k,es,zs):Nat×List (D×D)×List D)=>[(0,some (.map es)),(1,some (.row 1 zs))]) 2 (fun ((k,es,zs):Nat×List (D×D)×List D)=>k≤a.length∧zju a b k es∧zs=(List.range a.length).map fun i=>D.int .i64 (if i < k then (zR (zfJ a b) i:Int) else 0)) (fun ((k,es,zs):Nat×List (D×D)×List D)=>a.length - k) ((0,[],List.replicate (((a.map (D.int .i64)).length:Int)).toNat (D.int .i64 0))) [(0,0),(1,1)] [] (⟨by simp,fun x y=>by simp [zT,zcS],by simp only [Nat.not_lt_zero,if_false];rw [List.length_map,Int.toNat_natCast];exact z8 _ _⟩) (by (refine ⟨rfl,rfl,rfl,?_,?_⟩;repeat' first|exact trivial|exact rfl|refine And.intro ?_ ?_|refine ⟨_,rfl,?_⟩|decide)) ?_
 rintro ⟨k,es,zs⟩ ⟨hk,hM,rfl⟩
 by_cases hkl:k < a.length
 ·obtain ⟨x,e1⟩ : ∃ x,a[k]? = some x:=⟨_,List.getElem?_eq_getElem hkl⟩
  obtain ⟨y,e2⟩ : ∃ y,b[k]? = some y:=⟨_,List.getElem?_eq_getElem (by omega)⟩
  have f1:at0 a k=x:=zcM e1
  have f2:at0 b k=y:=zcM e2
  cases hf:zcS a b k x y with
  | some j =>
   have hfd:zT es (pkD x y)=some (some (.int .i64 (j:Int))):=by rw [hM x y,hf];rfl
   (repeat' ((conv=>whnf);first|refine vA ?_|refine vE ?_|refine vG ?_|(refine vF ?_ ?_<;>intro hc<;>try simp only [vL] at hc)|refine vT ?_|refine vN ‹_› ?_|((first|refine vO ?_ ?_|refine vP ?_ ?_);·first|omega|(simp only [vM] at *;omega))|(refine vU ?_ ?_;·kernel_rfl)|refine zb8.mk _ ‹_› ?_));all_goals try conv=>whnf
   ·have hlo:zR (zfJ a b) k=j:=by rw [zoB,f1,f2,hf];rfl
    refine ⟨(k+1,es,_),[(0,0),(1,1)],[],?_,?_,by (refine ⟨rfl,rfl,rfl,?_,?_⟩;repeat' first|exact trivial|exact rfl|refine And.intro ?_ ?_|refine ⟨_,rfl,?_⟩|decide)⟩
    ·exact ⟨by (omega),zrh hM (by rw [f1,f2];exact hf),zsa hlo⟩
    ·((simp only [vM] at *;omega))
   all_goals omega
  | none =>
   have hfd:zT es (pkD x y)=some none:=by rw [hM x y,hf];rfl
   have hfn:zT (es++[(pkD x y,.int .i64 (k:Int))]) (pkD x y)=some (some (.int .i64 (k:Int))):=by rw [zeX _ _ _ hfd];simp [zT,zum]
   (repeat' ((conv=>whnf);first|refine vA ?_|(refine vF ?_ ?_<;>intro hc<;>try simp only [vL] at hc)|refine vT ?_|refine vN ‹_› ?_|((first|refine vO ?_ ?_|refine vP ?_ ?_);·first|omega|(simp only [vM] at *;omega))|(refine vU ?_ ?_;·kernel_rfl)|refine zb8.mk _ ‹_› ?_));all_goals try conv=>whnf
   ·have hlo:zR (zfJ a b) k=k:=by rw [zoB,f1,f2,hf];rfl
    refine ⟨(k+1,_,_),[(0,0),(1,1)],[],?_,?_,by (refine ⟨rfl,rfl,rfl,?_,?_⟩;repeat' first|exact trivial|exact rfl|refine And.intro ?_ ?_|refine ⟨_,rfl,?_⟩|decide)⟩
    ·exact ⟨by (omega),by subst f1 f2;exact zsL hM hf,zsa hlo⟩
    ·((simp only [vM] at *;omega))
   all_goals omega
 ·(repeat' ((conv=>whnf);first|refine vA ?_|(refine vF ?_ ?_<;>intro hc<;>try simp only [vL] at hc)|refine vT ?_|(refine vQ ?_ fun x hx=>?_;·omega)|(refine vU ?_ ?_;·kernel_rfl)|fail));all_goals try conv=>whnf
  ·omega
  ·have e0:k=a.length:=by omega
   subst e0
   refine congrArg (fun l=>some (D.arr 1 l)) ?_
   unfold ptL
   rw [List.map_map]
   exact zL fun u hu=>by rw [if_pos hu];rfl
theorem zp9 {n:Nat} {q:Nat→Nat} (hq:zaR n q) (hn:n≤64) (keys:List Int) (hl:keys.length=n):Fn Tryz.prog T zcG [.d (dI (ptL n q)),.d (dI keys)] [] (.d (.tup [dI (ptL n (zR (zfJ (ptL n q) keys))),.int .i64 0])) []:=by
 have hp:=zby (n:=n) (q:=q)
 have cd:=ztQ (T:=T) (ptL n q) keys (by omega) (by omega)
 rw [hp] at cd
 refine zi zy zk9 (by show 2≤20;decide) ?_
 (repeat' ((conv=>whnf);first|refine vA ?_|refine vH ?_|(refine vD ?_ ?_<;>intro hc<;>try simp only [vL] at hc)|refine vJ fun hg=>?_|refine vT ?_|refine yD (ztU hq hn) ⟨⟨rfl,rfl⟩,rfl⟩ rfl ?_|refine yN cd ⟨⟨rfl,rfl⟩,⟨rfl,rfl⟩,rfl⟩ ?_));all_goals try conv=>whnf
 ·omega
 ·rfl
end Go.Ab
namespace Go.Ab
open Go Go.Proofs
set_option maxRecDepth 10000
set_option maxHeartbeats 4000000
variable {T:Nat→Obj→Prop}
def zf4 (R:List (List (BitVec 64))):List (Nat→BitVec 64):=R.map fun r w=>r.getD w 0#64
end Go.Ab
namespace Go.Ab
def z2 (d:Nat):UInt8:=if d < 10 then UInt8.ofNat (48+d) else UInt8.ofNat (87+d)
def znx (c:UInt8):Nat:=if c.toNat < 58 then c.toNat - 48 else c.toNat - 87
theorem zeJ : ∀ d,d < 16→znx (z2 d)=d∧z2 d≠32:=by decide
def zdo:Nat→Nat→List UInt8
 | 0,v=>[z2 (v % 16)]
 | k+1,v=>if v < 16 then [z2 v] else zdo k (v / 16)++[z2 (v % 16)]
def zny (l:List UInt8):Nat:=l.foldl (fun a c=>a * 16+znx c) 0
theorem zi6 : ∀ k v,v < 16 ^ (k+1)→zny (zdo k v)=v
 | 0,v,h=>by
  have h:v < 16:=by simpa using h
  show 0 * 16+znx (z2 (v % 16))=v
  rw [Nat.mod_eq_of_lt h,(zeJ v h).1];omega
 | k+1,v,h=>by
  unfold zdo
  split
  ·rename_i hv
   show 0 * 16+znx (z2 v)=v
   rw [(zeJ v hv).1];omega
  ·unfold zny
   rw [List.foldl_append]
   show zny (zdo k (v / 16)) * 16+znx (z2 (v % 16))=v
   rw [zi6 k (v / 16) (by rw [Nat.pow_succ] at h;omega),(zeJ _ (Nat.mod_lt _ (by omega))).1]
   omega
theorem zh2 : ∀ k v,(∀ c,c∈zdo k v→c≠32)∧(zdo k v).length≤k+1
 | 0,v=>⟨fun c hc=>by simp only [zdo,List.mem_singleton] at hc;subst hc;exact (zeJ _ (Nat.mod_lt _ (by omega))).2,by simp [zdo]⟩
 | k+1,v=>by
  unfold zdo
  split
  ·rename_i hv
   exact ⟨fun c hc=>by simp only [List.mem_singleton] at hc;subst hc;exact (zeJ _ hv).2,by simp⟩
  ·obtain ⟨h1,h2⟩:=zh2 k (v / 16)
   refine ⟨fun c hc=>?_,by simp;omega⟩
   rcases List.mem_append.1 hc with hc|hc
   ·exact h1 c hc
   ·simp only [List.mem_singleton] at hc;subst hc;exact (zeJ _ (Nat.mod_lt _ (by omega))).2
def zfm (x:BitVec 64):List UInt8:=zdo 15 x.toNat
theorem zvJ {x y:BitVec 64} (h:zfm x=zfm y):x=y:=by
 have hx:zny (zfm x)=x.toNat:=zi6 15 _ (by have:=x.isLt;simpa using this)
 have hy:zny (zfm y)=y.toNat:=zi6 15 _ (by have:=y.isLt;simpa using this)
 exact BitVec.eq_of_toNat_eq (by rw [← hx,← hy,h])
theorem zr2 : ∀ {a b r r':List UInt8},(∀ c,c∈a→c≠32)→(∀ c,c∈b→c≠32)→a++32::r=b++32::r'→a=b∧r=r'
 | [],[],_,_,_,_,h=>⟨rfl,by simpa using h⟩
 | [],y::b,_,_,_,hb,h=>by
  simp only [List.nil_append,List.cons_append,List.cons.injEq] at h
  exact absurd h.1.symm (hb y (by simp))
 | x::a,[],_,_,ha,_,h=>by
  simp only [List.nil_append,List.cons_append,List.cons.injEq] at h
  exact absurd h.1 (ha x (by simp))
 | x::a,y::b,_,_,ha,hb,h=>by
  simp only [List.cons_append,List.cons.injEq] at h
  obtain ⟨rfl,h⟩:=h
  obtain ⟨rfl,h'⟩:=zr2 (fun c hc=>ha c (by simp [hc])) (fun c hc=>hb c (by simp [hc])) h
  exact ⟨rfl,h'⟩
def ze3 (xs:List (BitVec 64)):List UInt8:=xs.flatMap fun x=>zfm x++[32]
theorem zfU (x:BitVec 64) (xs:List (BitVec 64)):ze3 (x::xs)=zfm x++32::ze3 xs:=by simp [ze3]
theorem zt8 (x:BitVec 64) (xs:List (BitVec 64)):ze3 (xs++[x])=ze3 xs++(zfm x++[32]):=by simp [ze3]
theorem zqk : ∀ {xs ys:List (BitVec 64)},ze3 xs=ze3 ys→xs=ys
 | [],[],_=>rfl
 | [],y::ys,h=>by rw [zfU] at h;simp [ze3] at h
 | x::xs,[],h=>by rw [zfU] at h;simp [ze3] at h
 | x::xs,y::ys,h=>by
  rw [zfU,zfU] at h
  obtain ⟨h1,h2⟩:=zr2 (zh2 _ _).1 (zh2 _ _).1 h
  rw [zvJ h1,zqk h2]
theorem zql : ∀ xs:List (BitVec 64),(ze3 xs).length≤17 * xs.length
 | []=>by simp [ze3]
 | x::xs=>by
  rw [zfU,List.length_append,List.length_cons,List.length_cons]
  have h1:(zfm x).length≤16:=(zh2 15 x.toNat).2
  have:=zql xs
  omega
end Go.Ab
namespace Go.Ab
open Go Go.Proofs
set_option maxRecDepth 10000
set_option maxHeartbeats 4000000
variable {T:Nat→Obj→Prop}
abbrev KS:=List UInt8
def zcT:Nat→List KS→List (D×D)
 | _,[]=>[]
 | i,x::r=>(.str x,.int .i64 (i:Int))::zcT (i+1) r
def zkF (dl:List KS) (x:KS):List KS:=if x∈dl then dl else dl++[x]
theorem zma : ∀ (dl:List KS) (i:Nat),(zcT i dl).length=dl.length
 | [],_=>rfl
 | x::r,i=>by simp [zcT,zma r (i+1)]
theorem zlz (x:KS) : ∀ (dl:List KS) (i:Nat),zcT i (dl++[x])=zcT i dl++[(.str x,.int .i64 ((i+dl.length:Nat):Int))]
 | [],i=>by simp [zcT]
 | y::r,i=>by
  rw [List.cons_append,zcT,zcT,zlz x r (i+1),List.cons_append,List.length_cons,show i+1+r.length=i+(r.length+1) by omega]
theorem zoH (x:KS) : ∀ (dl:List KS) (i:Nat),zT (zcT i dl) (.str x)=some (if x∈dl then some (.int .i64 ((i+dl.idxOf x:Nat):Int)) else none)
 | [],i=>by simp [zcT,zT]
 | y::r,i=>by
  have ih:=zoH x r (i+1)
  show (match some (decide (x=y)) with
   | some true=>some (some (D.int .i64 (i:Int)))
   | some false=>zT (zcT (i+1) r) (.str x)
   | none=>none)=_
  by_cases e:x=y
  ·subst e;simp
  ·rw [decide_eq_false e]
   show zT (zcT (i+1) r) (.str x)=_
   rw [ih,List.idxOf_cons]
   have:(y==x)=false:=by simp [Ne.symm e]
   rw [this]
   by_cases hm:x∈r
   ·rw [if_pos hm,if_pos (List.mem_cons_of_mem _ hm)]
    show some (some (D.int .i64 _))=some (some (D.int .i64 _))
    congr 4
    simp only [cond_false]
    omega
   ·rw [if_neg hm,if_neg (by simp [e,hm])]
def zdR (bl:Nat→KS) (k:Nat):List KS:=(List.range k).foldl (fun l w=>zkF l (bl w)) []
theorem zfV (bl:Nat→KS) (k:Nat):zdR bl (k+1)=zkF (zdR bl k) (bl k):=by
 unfold zdR;rw [List.range_succ,List.foldl_append];rfl
theorem zjy (l:List KS) (x:KS):(∃ t,zkF l x=l++t)∧x∈zkF l x∧(zkF l x).length≤l.length+1:=by
 unfold zkF
 split
 ·rename_i h;exact ⟨⟨[],by simp⟩,h,by omega⟩
 ·exact ⟨⟨[x],rfl⟩,by simp,by simp⟩
theorem zqo (bl:Nat→KS) : ∀ k,(zdR bl k).length≤k
 | 0=>by simp [zdR]
 | k+1=>by
  rw [zfV]
  have:=(zjy (zdR bl k) (bl k)).2.2
  have:=zqo bl k
  omega
theorem zqp (bl:Nat→KS) {k:Nat} : ∀ m,k≤m → ∃ t,zdR bl m=zdR bl k++t
 | 0,h=>⟨[],by have:k=0:=Nat.le_zero.1 h;subst this;simp⟩
 | m+1,h=>by
  by_cases e:k=m+1
  ·exact ⟨[],by rw [e];simp⟩
  ·obtain ⟨t,ht⟩:=zqp bl (k:=k) m (by omega)
   obtain ⟨⟨t',ht'⟩,-⟩:=zjy (zdR bl m) (bl m)
   exact ⟨t++t',by rw [zfV,ht',ht];simp⟩
def zdp (bl:Nat→KS) (w:Nat):Nat:=(zdR bl (w+1)).idxOf (bl w)
theorem zrW (bl:Nat→KS) {w m:Nat} (h:w < m):zdp bl w=(zdR bl m).idxOf (bl w)∧bl w∈zdR bl m:=by
 obtain ⟨t,ht⟩:=zqp bl (k:=w+1) m (by omega)
 have hm:bl w∈zdR bl (w+1):=by rw [zfV];exact (zjy _ _).2.1
 rw [ht]
 exact ⟨by rw [List.idxOf_append,if_pos hm];rfl,List.mem_append_left _ hm⟩
theorem zvO (bl:Nat→KS) {v w n:Nat} (hv:v < n) (hw:w < n):zdp bl v=zdp bl w↔bl v=bl w:=by
 obtain ⟨h1,m1⟩:=zrW bl hv
 obtain ⟨h2,m2⟩:=zrW bl hw
 rw [h1,h2]
 constructor
 ·intro h
  have g1:=List.getElem_idxOf (List.idxOf_lt_length_of_mem m1)
  have g2:=List.getElem_idxOf (List.idxOf_lt_length_of_mem m2)
  rw [← g1,← g2]
  congr 1
 ·intro h;rw [h]
def zea (R:List (List (BitVec 64))) (q:Nat→Nat) (n w:Nat):KS:=ze3 (R.map fun r=>zas q (r.getD w 0#64) n)
theorem zvl {R:List (List (BitVec 64))} {q:Nat→Nat} {n v w:Nat} : zea R q n v=zea R q n w ↔ ∀ r∈R,zas q (r.getD v 0#64) n=zas q (r.getD w 0#64) n:=by
 unfold zea
 constructor
 ·intro h
  have:=zqk h
  exact List.map_inj_left.1 this
 ·intro h
  rw [List.map_congr_left h]
theorem zta {R:List (List (BitVec 64))} {q:Nat→Nat} {n w:Nat} (hw:w < n):zR (zfJ (ptL n q) (ptL n (zdp (zea R q n)))) w=za6 n (zf4 R) q w:=by
 refine ziS fun v hv=>?_
 have h1:at0 (ptL n q) v=((q v:Nat):Int):=zcM (zaF (by omega))
 have h2:at0 (ptL n q) w=((q w:Nat):Int):=zcM (zaF hw)
 have h3:at0 (ptL n (zdp (zea R q n))) v=((zdp (zea R q n) v:Nat):Int):=zcM (zaF (by omega))
 have h4:at0 (ptL n (zdp (zea R q n))) w=((zdp (zea R q n) w:Nat):Int):=zcM (zaF hw)
 unfold zfJ
 rw [h1,h2,h3,h4]
 have e2:=zvO (zea R q n) (v:=v) (w:=w) (n:=n) (by omega) hw
 rw [zvl] at e2
 rw [Bool.eq_iff_iff,decide_eq_true_eq]
 rw [show (((q v:Nat):Int)=((q w:Nat):Int))↔q v=q w by omega]
 rw [show (((zdp (zea R q n) v:Nat):Int)=((zdp (zea R q n) w:Nat):Int))↔zdp (zea R q n) v=zdp (zea R q n) w by omega,e2]
 unfold zfa zf4
 simp [List.all_eq_true]
def znF (q:Nat→Nat) (l:List Nat):BitVec 64:=l.foldl (fun o w=>o|||1#64 <<< q w) 0#64
theorem ztz {q:Nat→Nat} {l:List Nat} {i w:Nat} (h:l[i]? = some w):znF q (l.take (i+1))=znF q (l.take i)|||1#64 <<< q w:=by
 rw [List.take_add_one,h];simp [znF]
theorem zpF {s:BitVec 64} {n:Nat} (hn:n≤64) (h : ∀ i,s.getLsbD i=true→i < n):zx s=(List.range n).filter fun i=>s.getLsbD i:=by
 unfold zx
 have e:List.range 64=List.range n++(List.range (64 - n)).map (n + ·):=by
  rw [← List.range_add];congr 1;omega
 rw [e,List.filter_append,show ((List.range (64 - n)).map (n + ·)).filter (fun i=>s.getLsbD i)=[] from ?_,List.append_nil]
 rw [List.filter_eq_nil_iff]
 intro a ha
 obtain ⟨b,-,rfl⟩:=List.mem_map.1 ha
 intro h1
 have:=h _ h1
 omega
theorem zty {q:Nat→Nat} {s:BitVec 64} {n:Nat} (hn:n≤64) (h : ∀ i,s.getLsbD i=true→i < n):znF q (zx s)=zas q s n:=by
 rw [zpF hn h]
 unfold znF zas
 rw [List.foldl_filter]
end Go.Ab
namespace Go.Ab
theorem zes {q:Nat→Nat} {s:BitVec 64} {j:Nat} : ∀ {k:Nat},(∀ w,w < k→q w < 64)→((zas q s k).getLsbD j=true ↔ ∃ w,w < k∧s.getLsbD w=true∧q w=j)
 | 0,_=>by simp [zas]
 | k+1,h=>by
  have ih:=zes (q:=q) (s:=s) (j:=j) (k:=k) fun w hw=>h w (by omega)
  rw [zfN]
  split
  ·rename_i hs
   rw [zgk (h k (by omega)),ih]
   constructor
   ·rintro (⟨w,h1,h2,h3⟩|rfl)
    ·exact ⟨w,by omega,h2,h3⟩
    ·exact ⟨k,by omega,hs,rfl⟩
   ·rintro ⟨w,h1,h2,h3⟩
    by_cases e:w=k
    ·subst e;exact .inr h3.symm
    ·exact .inl ⟨w,by omega,h2,h3⟩
  ·rename_i hs
   rw [ih]
   constructor
   ·rintro ⟨w,h1,h2,h3⟩;exact ⟨w,by omega,h2,h3⟩
   ·rintro ⟨w,h1,h2,h3⟩
    by_cases e:w=k
    ·subst e;exact absurd h2 hs
    ·exact ⟨w,by omega,h2,h3⟩
def zW (m:KM) (q:Nat→Nat):KM :=
 ⟨(zG m.W.toNat q:Nat),m.val.map fun s=>zao (fun k=>s.getLsbD ((zbe m.W.toNat q).getD k 0)) (zG m.W.toNat q),
  m.rel.map fun r=>(List.range (zG m.W.toNat q)).map fun i=>zao (fun j=>zf3 m.W.toNat q (fun v w=>rb r v w) i j) (zG m.W.toNat q)⟩
def zsj (m:KM) (q:Nat→Nat):Prop := ∀ w,w < m.W.toNat→zu m w=zu m (q w)
theorem zvz {m:KM} {q:Nat→Nat} (h:zsj m q) {w:Nat} (hw:w < m.W.toNat) {s:BitVec 64} (hs:s∈m.val):s.getLsbD w=s.getLsbD (q w):=by
 obtain ⟨i,hi⟩:=List.mem_iff_getElem?.1 hs
 have hil:=(List.getElem?_eq_some_iff.1 hi).1
 have e:zae m.val w m.val.length=zae m.val (q w) m.val.length:=Int.ofNat_inj.1 (h w hw)
 have h1:=zjS m.val w (i:=i) m.val.length
 have h2:=zjS m.val (q w) (i:=i) m.val.length
 rw [e] at h1
 rw [show m.val.getD i 0#64=s by simp [List.getD,hi]] at h1 h2
 rw [Bool.eq_iff_iff]
 exact ⟨fun h=>(h2.1 (h1.2 ⟨hil,h⟩)).2,fun h=>(h1.1 (h2.2 ⟨hil,h⟩)).2⟩
section
variable {m:KM} {q:Nat→Nat} (hq:zaR m.W.toNat q) (hn:m.W.toNat≤64)
include hq hn
theorem zrY {w:Nat} (hw:w < m.W.toNat):zP q w < 64:=by
 have h1:=zb5 hq hw
 have h2:=zdj m.W.toNat q
 omega
theorem zxF (hf:zsj m q) {s:BitVec 64} (hs:s∈m.val):zas (zP q) s m.W.toNat=zao (fun k=>s.getLsbD ((zbe m.W.toNat q).getD k 0)) (zG m.W.toNat q):=by
 have hc:=zdj m.W.toNat q
 refine BitVec.eq_of_getLsbD_eq fun j _=>?_
 rw [Bool.eq_iff_iff,zes (fun w hw=>zrY hq hn hw),zco (by omega)]
 constructor
 ·rintro ⟨w,h1,h2,rfl⟩
  refine ⟨zb5 hq h1,?_⟩
  rw [List.getD,zfs hq h1]
  show s.getLsbD (q w)=true
  rw [← zvz hf h1 hs];exact h2
 ·rintro ⟨h1,h2⟩
  obtain ⟨u,u1,u2,u3,u4⟩:=ziW hq h1
  rw [List.getD,u1] at h2
  exact ⟨u,u2,h2,u4⟩
def zdC (q:Nat→Nat) (n:Nat) (r:List (BitVec 64)):Nat→Nat→BitVec 64
 | 0,_=>0#64
 | k+1,i=>if zP q k=i then zdC q n r k i|||zas (zP q) (r.getD k 0#64) n else zdC q n r k i
omit hq hn in
theorem zpw {n:Nat} {r:List (BitVec 64)} (h64 : ∀ w,w < n→zP q w < 64) {i j:Nat} : ∀ {k:Nat},(zdC q n r k i).getLsbD j=true ↔ ∃ v w,v < k∧w < n∧zP q v=i∧zP q w=j∧rb r v w=true
 | 0=>by simp [zdC]
 | k+1=>by
  have ih:=zpw (r:=r) h64 (i:=i) (j:=j) (k:=k)
  unfold zdC
  split
  ·rename_i he
   rw [BitVec.getLsbD_or,Bool.or_eq_true,ih,zes h64]
   constructor
   ·rintro (⟨v,w,h1,h2,h3,h4,h5⟩|⟨w,h1,h2,h3⟩)
    ·exact ⟨v,w,by omega,h2,h3,h4,h5⟩
    ·exact ⟨k,w,by omega,h1,he,h3,h2⟩
   ·rintro ⟨v,w,h1,h2,h3,h4,h5⟩
    by_cases e:v=k
    ·subst e;exact .inr ⟨w,h2,h5,h4⟩
    ·exact .inl ⟨v,w,by omega,h2,h3,h4,h5⟩
  ·rename_i he
   rw [ih]
   constructor
   ·rintro ⟨v,w,h1,h2,h3,h4,h5⟩;exact ⟨v,w,by omega,h2,h3,h4,h5⟩
   ·rintro ⟨v,w,h1,h2,h3,h4,h5⟩
    by_cases e:v=k
    ·subst e;exact absurd h3 he
    ·exact ⟨v,w,by omega,h2,h3,h4,h5⟩
theorem zxE (r:List (BitVec 64)) (i:Nat):zdC q m.W.toNat r m.W.toNat i=zao (fun j=>zf3 m.W.toNat q (fun v w=>rb r v w) i j) (zG m.W.toNat q):=by
 have hc:=zdj m.W.toNat q
 refine BitVec.eq_of_getLsbD_eq fun j _=>?_
 rw [Bool.eq_iff_iff,zpw (fun w hw=>zrY hq hn hw),zco (by omega),zmd]
 constructor
 ·rintro ⟨v,w,h1,h2,h3,h4,h5⟩
  exact ⟨by rw [← h4];exact zb5 hq h2,v,w,h1,h2,h3,h4,h5⟩
 ·rintro ⟨-,v,w,h1,h2,h3,h4,h5⟩
  exact ⟨v,w,h1,h2,h3,h4,h5⟩
end
theorem zvp {n:Nat} {q:Nat→Nat} (hq:zaR n q) (hn:0 < n):0 < zG n q:=by
 unfold zG
 have h0:q 0=0:=by have:=hq.le 0 hn;omega
 exact List.length_pos_of_mem (List.mem_filter.2 ⟨List.mem_range.2 hn,by simp [h0]⟩)
theorem zwc {m:KM} {q:Nat→Nat} (hm:zfy m) (hq:zaR m.W.toNat q):zfy (zW m q):=by
 have w1:=hm.w1
 have w2:=hm.w2
 have hc:=zdj m.W.toNat q
 have hp:=zvp hq (by omega)
 have hset : ∀ f,bad (zG m.W.toNat q:Nat) (zao f (zG m.W.toNat q))=false:=fun f=>by
  rw [zbG (by omega)]
  intro i hi
  have:=((zco (by omega)).1 hi).1
  omega
 refine ⟨by show (1:Int)≤(zG m.W.toNat q:Nat);omega,by show ((zG m.W.toNat q:Nat):Int)≤64;omega,by have:=hm.n4;simpa [zW] using this,by have:=hm.v8;simpa [zW] using this,fun r hr=>?_,fun s hs=>?_,fun r hr s hs=>?_⟩
 ·obtain ⟨r',-,rfl⟩:=List.mem_map.1 hr;simp [zW]
 ·obtain ⟨s',-,rfl⟩:=List.mem_map.1 hs;exact hset _
 ·obtain ⟨r',-,rfl⟩:=List.mem_map.1 hr
  obtain ⟨i,-,rfl⟩:=List.mem_map.1 hs
  exact hset _
theorem zup {m:KM} {q:Nat→Nat} (hc:zf m=0) (hq:zaR m.W.toNat q):zf (zW m q)=0:=zm1 (zwc (zq hc) hq)
theorem zxD {m:KM} {q:Nat→Nat} (hn:m.W.toNat≤64) {i:Nat} {r r':Nat→Nat→Bool} (h:(zt (zW m q))[i]? = some r) (h':((zt m).map (zf3 m.W.toNat q))[i]? = some r') {v w:Nat} (hv:v < zG m.W.toNat q) (hw:w < zG m.W.toNat q):r v w=r' v w:=by
 have hc:=zdj m.W.toNat q
 unfold zt zW at h
 unfold zt at h'
 rw [List.map_map,List.getElem?_map,Option.map_eq_some_iff] at h
 rw [List.map_map,List.getElem?_map,Option.map_eq_some_iff] at h'
 obtain ⟨a,ha,rfl⟩:=h
 obtain ⟨b,hb,rfl⟩:=h'
 rw [ha] at hb;cases hb
 show (((List.range (zG m.W.toNat q)).map fun i=>zao (fun j=>zf3 m.W.toNat q (fun v w=>rb a v w) i j) (zG m.W.toNat q)).getD v 0#64).getLsbD w=zf3 m.W.toNat q (fun v w=>rb a v w) v w
 rw [show ((List.range (zG m.W.toNat q)).map fun i=>zao (fun j=>zf3 m.W.toNat q (fun v w=>rb a v w) i j) (zG m.W.toNat q)).getD v 0#64=zao (fun j=>zf3 m.W.toNat q (fun v w=>rb a v w) v j) (zG m.W.toNat q) by simp [List.getD,hv]]
 rw [Bool.eq_iff_iff,zco (by omega)]
 exact ⟨fun h=>h.2,fun h=>⟨hw,h⟩⟩
theorem zwb {m:KM} {q:Nat→Nat} (hn:m.W.toNat≤64):zhw (zG m.W.toNat q) (fun w=>w) ((zt m).map (zf3 m.W.toNat q)) (zt (zW m q)) :=
 ⟨by simp [zt,zW],fun i r r' h1 h2 v w hv hw=>zxD hn h2 h1 hv hw⟩
theorem zon (vl:List (BitVec 64)) {f:BitVec 64→BitVec 64} {i u:Nat} (h : ∀ s∈vl,(f s).getLsbD i=s.getLsbD u) : ∀ k,zae (vl.map f) i k=zae vl u k
 | 0=>rfl
 | k+1=>by
  rw [zae,zae,zon vl h k]
  have e:((vl.map f).getD k 0#64).getLsbD i=(vl.getD k 0#64).getLsbD u:=by
   simp only [List.getD,List.getElem?_map]
   cases hk:vl[k]? with
   | none=>simp
   | some s=>exact h s (List.mem_of_getElem? hk)
  rw [e]
theorem zxC {m:KM} {q:Nat→Nat} (hn:m.W.toNat≤64) {i:Nat} (hi:i < zG m.W.toNat q):zu (zW m q) i=zqH m.W.toNat q (zu m) i:=by
 have hc:=zdj m.W.toNat q
 unfold zu zqH zW
 rw [List.length_map,zon m.val (u:=(zbe m.W.toNat q).getD i 0) fun s hs=>?_]
 rw [Bool.eq_iff_iff,zco (by omega)]
 exact ⟨fun h=>h.2,fun h=>⟨hi,h⟩⟩
def z7 (m:KM):Nat→Nat→Nat:=zbh m.W.toNat (zf4 m.rel) (zR (zbP (zu m)))
def cq (m:KM):Nat→Nat:=z7 m m.W.toNat
theorem ze9 (m:KM) (k:Nat):zaR m.W.toNat (z7 m k):=zlw (zew (zcv (zu m)) m.W.toNat) k
theorem zfk (m:KM):zaR m.W.toNat (cq m):=ze9 m _
theorem zmi (m:KM) : ∀ k w,w < m.W.toNat→zu m (z7 m k w)=zu m w
 | 0,w,hw=>by
  have:=zl6 (zcv (zu m)) w
  show zu m (zR (zbP (zu m)) w)=zu m w
  simpa [zbP] using this
 | k+1,w,hw=>by
  have h1:=zob (rels:=zf4 m.rel) (ze9 m k) hw
  have h2:=(ze9 m (k+1)).le w hw
  have h3:=zmi m k (z7 m (k+1) w) (by omega)
  have h4:=zmi m k w hw
  rw [← h3,← h4]
  exact congrArg (zu m) h1
theorem zpN (m:KM):zsj m (cq m):=fun w hw=>(zmi m _ w hw).symm
theorem ztF (m:KM) (hn:0 < m.W.toNat) {j:Nat} (hj:m.W.toNat≤j) {w:Nat} (hw:w < m.W.toNat):z7 m j w=cq m w:=zt6 (zew (zcv (zu m)) m.W.toNat) hn hj hw
theorem zrO {m:KM} {k:Nat} (hn:0 < m.W.toNat) (h:ptL m.W.toNat (z7 m (k+1))=ptL m.W.toNat (z7 m k)):ptL m.W.toNat (z7 m k)=ptL m.W.toNat (cq m):=by
 have hst : ∀ w,w < m.W.toNat→z7 m (k+1) w=z7 m k w:=fun w hw=>zxB h hw
 refine zhs fun w hw=>?_
 by_cases hk:k≤m.W.toNat
 ·exact (ziP (zew (zcv (zu m)) m.W.toNat) hst _ hk w hw).symm
 ·exact ztF m hn (by omega) hw
theorem zxd {m:KM} {k:Nat} (hn : ∀ i,i < k→ptL m.W.toNat (z7 m (i+1))≠ptL m.W.toNat (z7 m i)):k≤m.W.toNat:=by
 have h1:=ziO (rels:=zf4 m.rel) (zew (zcv (zu m)) m.W.toNat) (k:=k) (fun i hi=>by
  refine Classical.byContradiction fun hne=>hn i hi (zhs fun w hw=>?_)
  exact Classical.byContradiction fun hw'=>hne ⟨w,hw,hw'⟩) k (Nat.le_refl _)
 have h2:=zdj m.W.toNat (zbh m.W.toNat (zf4 m.rel) (zR (zbP (zu m))) k)
 omega
end Go.Ab
namespace Go.Ab
theorem zqJ {m:KM} {f:Nat→BitVec 64} : f∈zf4 m.rel ↔ ∃ r∈m.rel,f=fun w=>r.getD w 0#64:=by
 unfold zf4
 rw [List.mem_map]
 exact ⟨fun ⟨r,a,b⟩=>⟨r,a,b.symm⟩,fun ⟨r,a,b⟩=>⟨r,a,b.symm⟩⟩
theorem zqK {m:KM} {f:Nat→Nat→Bool} : f∈zt m ↔ ∃ r∈m.rel,f=fun v w=>rb r v w:=by
 unfold zt
 rw [List.mem_map]
 exact ⟨fun ⟨r,a,b⟩=>⟨r,a,b.symm⟩,fun ⟨r,a,b⟩=>⟨r,a,b.symm⟩⟩
theorem zpG {n:Nat} {q:Nat→Nat} (hq:zaR n q) (hn:n≤64) {s t:BitVec 64} : zas q s n=zas q t n ↔ ∀ x:Nat,(∃ u,u < n∧s.getLsbD u=true∧q u=x) ↔ ∃ u,u < n∧t.getLsbD u=true∧q u=x:=by
 have h64 : ∀ w,w < n→q w < 64:=fun w hw=>by have:=hq.le w hw;omega
 constructor
 ·intro h x
  rw [← zes h64,← zes h64,h]
 ·intro h
  refine BitVec.eq_of_getLsbD_eq fun j _=>?_
  rw [Bool.eq_iff_iff,zes h64,zes h64]
  exact h j
theorem zqT {m:KM} {q:Nat→Nat} (hq:zaR m.W.toNat q) (hn:m.W.toNat≤64) {v w:Nat} : zfa m.W.toNat (zf4 m.rel) q v w=true↔zaZ m.W.toNat (zt m) q v=zaZ m.W.toNat (zt m) q w:=by
 unfold zfa
 rw [zcX,Bool.and_eq_true,decide_eq_true_eq,List.all_eq_true]
 refine and_congr Iff.rfl ⟨fun h r hr x=>?_,fun h f hf=>?_⟩
 ·obtain ⟨r',hr',rfl⟩:=zqK.1 hr
  have:=h _ (zqJ.2 ⟨r',hr',rfl⟩)
  rw [decide_eq_true_eq,zpG hq hn] at this
  exact this x
 ·obtain ⟨r',hr',rfl⟩:=zqJ.1 hf
  rw [decide_eq_true_eq,zpG hq hn]
  exact h _ (zqK.2 ⟨r',hr',rfl⟩)
theorem zkI {m:KM} (h0:0 < m.W.toNat) (hn:m.W.toNat≤64):zkE m.W.toNat (zt m) (zu m) (cq m) where
 canon:=zfk m
 stab:=fun v w hv hw e=>by
  have hc:=zfk m
  have h1 : ∀ u,u < m.W.toNat→za6 m.W.toNat (zf4 m.rel) (cq m) u=cq m u:=fun u hu=>ztF m h0 (Nat.le_succ _) hu
  refine (zqT hc hn).1 ((zkf (zht _ _ _)).1 ?_)
  show za6 m.W.toNat (zf4 m.rel) (cq m) v=za6 m.W.toNat (zf4 m.rel) (cq m) w
  rw [h1 v hv,h1 w hw,e]
 fac:=fun v w hv hw e=>by
  rw [zpN m v hv,zpN m w hw,e]
theorem zil {m:KM} (hn:m.W.toNat≤64) {Z:Nat→Nat→Prop} (B:zbK m.W.toNat m.W.toNat (zt m) (zt m) (zu m) (zu m) Z) : ∀ (k v w:Nat),Z v w→z7 m k v=z7 m k w
 | 0,v,w,hz=>znN.2 (B.fac hz)
 | k+1,v,w,hz=>by
  refine (zkf (zht _ _ _)).2 ((zqT (ze9 m k) hn).2 (zcX.2 ⟨zil hn B k v w hz,fun r hr x=>?_⟩))
  obtain ⟨i,hi⟩:=List.mem_iff_getElem?.1 hr
  constructor
  ·rintro ⟨u,a,b,rfl⟩
   obtain ⟨u',c,d,e⟩:=B.forth hi hi hz a b
   exact ⟨u',c,d,(zil hn B k u u' e).symm⟩
  ·rintro ⟨u,a,b,rfl⟩
   obtain ⟨u',c,d,e⟩:=B.back hi hi hz a b
   exact ⟨u',c,d,zil hn B k u' u e⟩
theorem zya {m:KM} (h0:0 < m.W.toNat) (hn:m.W.toNat≤64) {w:Nat} (hw:w < m.W.toNat):cq m w=coa m.W.toNat (zt m) (zu m) w:=by
 have S:=zkI h0 hn
 have S':=zvr m.W.toNat (zt m) (zu m)
 rw [← zpK S.canon hw,← zpK S'.canon hw]
 refine ziS fun v hv=>?_
 unfold zbP
 rw [Bool.eq_iff_iff,decide_eq_true_eq,decide_eq_true_eq]
 exact ⟨fun e=>zrN S.bis ⟨by omega,hw,e⟩,fun e=>zil hn S'.bis _ v w ⟨by omega,hw,e⟩⟩
end Go.Ab
namespace Go.Ab
open Go Go.Proofs
set_option maxRecDepth 10000
set_option maxHeartbeats 4000000
variable {T:Nat→Obj→Prop}
def zhc (T:Nat→Obj→Prop):Prop := ∀ x:BitVec 64,Fn Tryz.prog T zc6 [.d (.u64 x),.d (.int .i64 16)] [] (.d (.str (zfm x))) []
theorem zrs (hT:zdB T) (s:BitVec 64):It Tryz.prog T zcE [.ptr 0 0] [.box [.d (.u64 s)]] (ziB s):=by
 refine zt4 zy zk3 rfl (by show 2≤14;decide) fun l=>?_
 (repeat' ((conv=>whnf);refine vT ?_));all_goals try conv=>whnf
 refine zo (fun (s':BitVec 64)=>[(0,.yld l),(1,.ptr 0 0)]) (fun (s':BitVec 64)=>[(0,some (.box [.d (.u64 s')])),(1,some (.todo (some (ziB s'))))]) 2 (fun (s':BitVec 64)=>True) (fun (s':BitVec 64)=>(zx s').length) (s) [(0,0),(1,1)] [] (trivial) (by (refine ⟨rfl,rfl,rfl,?_,?_⟩;repeat' first|exact trivial|exact rfl|refine And.intro ?_ ?_|refine ⟨_,rfl,?_⟩|decide)) ?_
 rintro s' -
 (repeat' ((conv=>whnf);first|refine vA ?_|(refine vD ?_ ?_<;>intro hc)|refine vT ?_|refine yD (hT _) (by (repeat refine ⟨⟨rfl,rfl⟩,?_⟩);rfl) rfl ?_));all_goals try conv=>whnf
 ·have hd:ziB s'=[D.int .i64 (Lib.ctz 64 s'.toNat:Int)]::ziB (s'&&&(s' - 1#64)):=by
   rw [ziB,zhx s' hc];rfl
  refine ⟨rfl,[.int .i64 (Lib.ctz 64 s'.toNat)],ziB (s'&&&(s' - 1#64)),congrArg (fun l=>some (Ob.todo (some l))) hd,rfl,rfl,rfl,?_,?_⟩
  ·(repeat' ((conv=>whnf);first|refine vE ?_|refine vG ?_|refine vT ?_));all_goals try conv=>whnf
   refine ⟨s'&&&(s' - 1#64),[(0,0),(1,1)],[],trivial,?_,⟨rfl,rfl,rfl,by (repeat' first|exact trivial|exact rfl|refine And.intro ?_ ?_|refine ⟨_,rfl,?_⟩),by (repeat' first|exact trivial|exact rfl|refine And.intro ?_ ?_|refine ⟨_,rfl,?_⟩|decide)⟩⟩
   show (zx (s'&&&(s' - 1#64))).length < (zx s').length
   rw [zhx s' hc];simp
  ·(repeat' ((conv=>whnf);first|refine vE ?_|refine vH ?_|refine vT ?_));all_goals try conv=>whnf
   right;rfl
 ·left
  have:s'=0#64:=hc
  subst this
  exact congrArg (fun l:List Nat=>some (Ob.todo (some (l.map fun (i:Nat)=>[D.int .i64 (i:Int)])))) zle
theorem zrl (s:BitVec 64):Fn Tryz.prog T zhf [.d (.u64 s)] [] (.fn zcE [.ptr 0 0]) [some (.box [.d (.u64 s)])]:=by
 refine zS zy zm6 (by show 1≤4;decide) _ (fun e env mem n h=>h) ?_
 (repeat' ((conv=>whnf);refine vT ?_));all_goals try conv=>whnf
 exact ⟨trivial,_,[(0,0)],[],rfl,.inl (by (repeat' first|exact rfl|refine And.intro ?_ ?_|refine ⟨_,rfl,?_⟩)),⟨rfl,rfl,rfl,trivial,by (repeat' first|exact trivial|exact rfl|refine And.intro ?_ ?_|refine ⟨_,rfl,?_⟩|exact of_decide_eq_true rfl)⟩,trivial⟩
theorem zrm (hT:zdB T) {n:Nat} {q:Nat→Nat} (hn:n≤64) (s:BitVec 64) (hs : ∀ i,s.getLsbD i=true→i < n):Fn Tryz.prog T zhg [.d (dI (ptL n q)),.d (.u64 s)] [] (.d (.u64 (zas q s n))) []:=by
 refine zi zy zm7 (by show 2≤18;decide) ?_
 (repeat' ((conv=>whnf);first|refine vA ?_|refine vT ?_));all_goals try conv=>whnf
 refine zU.res (zrl s) (by (repeat refine ⟨⟨rfl,rfl⟩,?_⟩);rfl) ?_
 (repeat' ((conv=>whnf);refine vT ?_));all_goals try conv=>whnf
 refine zuv (zrs hT s) [2] [] (by first|((repeat refine ⟨⟨rfl,rfl⟩,?_⟩);rfl)|(repeat' first|exact rfl|refine And.intro ?_ ?_|refine ⟨_,rfl,?_⟩)) (by (repeat' first|exact rfl|refine And.intro ?_ ?_|refine ⟨_,rfl,?_⟩)) (by rfl) (by rfl) [(2,.ptr 0 0),(5,.ptr 1 0)] (fun (o:BitVec 64)=>[(0,some (.box [.d (dI (ptL n q))])),(1,some (.box [.d (.u64 o)]))]) 2 (fun i (o:BitVec 64)=>o=znF q ((zx s).take i)) (0#64) [(0,0),(1,1)] [] (rfl) (by (refine ⟨rfl,rfl,rfl,?_,?_⟩;repeat' first|exact trivial|exact rfl|refine And.intro ?_ ?_|refine ⟨_,rfl,?_⟩|decide)) ?_ ?_
 ·intro i x o hx ho
  obtain ⟨w,hw,rfl,hsw,hw64⟩:=ztG hx
  have hwr:=hs w hsw
  have e1:(ptL n q)[w]? = some ((q w:Nat):Int):=zaF hwr
  refine ⟨rfl,?_⟩
  (repeat' ((conv=>whnf);first|refine vT ?_|refine vN ‹_› ?_|(refine vP ?_ ?_;·omega)|(refine vU ?_ ?_;·kernel_rfl)|fail));all_goals try conv=>whnf
  ·exact ⟨o|||1#64 <<< q w,[(0,0),(1,1)],[],by rw [ho,ztz hw],by (refine ⟨rfl,rfl,rfl,?_,?_⟩;repeat' first|exact trivial|exact rfl|refine And.intro ?_ ?_|refine ⟨_,rfl,?_⟩|decide)⟩
  all_goals omega
 ·intro o ho
  (repeat' ((conv=>whnf);first|refine vT ?_|refine vY ?_));all_goals try conv=>whnf
  rw [ho,List.length_map,List.take_length,zty hn hs]
def zdV (m:KM) (N i:Nat):List (List D):=((List.range (N+1)).drop i).map fun j=>[dI (ptL m.W.toNat (z7 m j))]
theorem zoO {m:KM} {N i:Nat} (h:i≤N):zdV m N i=[dI (ptL m.W.toNat (z7 m i))]::zdV m N (i+1):=by
 unfold zdV
 rw [List.drop_eq_getElem_cons (by simp;omega)];simp
theorem zwh {m:KM} {N i:Nat} (h:N < i):zdV m N i=[]:=by
 unfold zdV
 rw [List.drop_eq_nil_of_le (by simp;omega)];rfl
def zfG (m:KM):List Int:=(List.range m.W.toNat).map (zu m)
theorem zrR {m:KM} {w:Nat} (h:w < m.W.toNat):(zfG m)[w]? = some (zu m w):=by simp [zfG,h]
theorem zu3 (n:Nat):zaR n (fun _=>0):=⟨fun w _=>Nat.zero_le w,fun w _=>rfl⟩
theorem zsJ (m:KM) {w:Nat} (hw:w < m.W.toNat):zR (zfJ (ptL m.W.toNat fun _=>0) (zfG m)) w=z7 m 0 w:=by
 refine ziS fun v hv=>?_
 have h1:at0 (ptL m.W.toNat fun _=>0) v=0:=zcM (zaF (q:=fun _=>0) (by omega))
 have h2:at0 (ptL m.W.toNat fun _=>0) w=0:=zcM (zaF (q:=fun _=>0) hw)
 have h3:at0 (zfG m) v=zu m v:=zcM (zrR (by omega))
 have h4:at0 (zfG m) w=zu m w:=zcM (zrR hw)
 unfold zfJ zbP
 rw [h1,h2,h3,h4]
 simp
theorem ztW (m:KM) (h64:m.W.toNat≤64):Fn Tryz.prog T zcG [.d (.arr 1 (List.replicate m.W.toNat (D.int .i64 0))),.d (dI (zfG m))] [] (.d (.tup [dI (ptL m.W.toNat (z7 m 0)),.int .i64 0])) []:=by
 have cs:=zp9 (T:=T) (zu3 m.W.toNat) h64 (zfG m) (by simp [zfG])
 rwa [show dI (ptL m.W.toNat fun _=>0)=D.arr 1 (List.replicate m.W.toNat (D.int .i64 0)) by show D.arr 1 ((ptL m.W.toNat fun _=>0).map (D.int .i64))=_;unfold ptL;rw [List.map_map];exact congrArg _ (z8 _ _).symm,zhs fun w hw=>zsJ m hw] at cs
theorem ztR (m:KM) (h64:m.W.toNat≤64) (i:Nat):Fn Tryz.prog T zcG [.d (dI (ptL m.W.toNat (z7 m i))),.d (dI (ptL m.W.toNat (zdp (zea m.rel (z7 m i) m.W.toNat))))] [] (.d (.tup [dI (ptL m.W.toNat (z7 m (i+1))),.int .i64 0])) []:=by
 have cs:=zp9 (T:=T) (ze9 m i) h64 (ptL m.W.toNat (zdp (zea m.rel (z7 m i) m.W.toNat))) zby
 rwa [zhs fun w hw=>zta hw] at cs
theorem zi3 {α:Type} {n w:Nat} {f:Nat→D} {g:Nat→D} {d:D} (hd:d=f w):(((List.range n).map fun u=>if u < w then f u else g u).set w d)=(List.range n).map fun u=>if u < w+1 then f u else g u:=by
 refine (zdX _).trans (zL fun u hu=>?_)
 by_cases e:u=w
 ·subst e;rw [if_pos rfl,if_pos (by omega),hd]
 ·rw [if_neg e]
  by_cases e2:u < w
  ·rw [if_pos e2,if_pos (by omega)]
  ·rw [if_neg e2,if_neg (by omega)]
theorem zt5 (hT:zdB T) (hX:zhc T) {m:KM} (hk0:zf m=0) (N:Nat):ItF Tryz.prog T false zc5 [.ptr 0 0,.ptr 1 0] [zX m,.box [.d (dUU m.rel)]] (zdV m N 0):=by
 have hg0:=zq hk0
 have w1:=hg0.w1
 have w2:=hg0.w2
 have n4:=hg0.n4
 have h64:m.W.toNat≤64:=by omega
 refine zm5 zy zl2 rfl (by show 3≤93;decide) fun l=>?_
 (repeat' ((conv=>whnf);first|refine vA ?_|refine vK fun hg=>?_|refine vT ?_|(refine vP ?_ ?_;·omega)|fail));all_goals try conv=>whnf
 refine zo (fun ((w,zs):Nat×List D)=>[(0,.yld l),(1,.ptr 0 0),(2,.ptr 1 0),(4,.own 3),(5,.own 4),(22,.d (.int .i64 ((List.replicate m.W.toNat (D.int .i64 0)).length:Int))),(23,.d (.int .i64 ((w:Int))))]) (fun ((w,zs):Nat×List D)=>[(0,some (zX m)),(1,some (.box [.d (dUU m.rel)])),(2,some (.todo (some (zdV m N 0)))),(3,some (.row 1 (List.replicate m.W.toNat (D.int .i64 0)))),(4,some (.row 1 zs))]) 5 (fun ((w,zs):Nat×List D)=>w≤m.W.toNat∧zs=(List.range m.W.toNat).map fun u=>if u < w then D.int .i64 (zu m u) else D.int .i64 0) (fun ((w,zs):Nat×List D)=>m.W.toNat - w) ((0,List.replicate m.W.toNat (D.int .i64 0))) [(0,0),(1,1),(2,2),(3,3),(4,4)] [] (⟨by simp,by simp only [Nat.not_lt_zero,if_false];exact z8 _ _⟩) (by (refine ⟨rfl,rfl,rfl,?_,?_⟩;repeat' first|exact trivial|exact rfl|refine And.intro ?_ ?_|refine ⟨_,rfl,?_⟩|decide)) ?_
 rintro ⟨w,zs⟩ ⟨hw,hz⟩
 have hzl:zs.length=m.W.toNat:=by rw [hz];simp
 by_cases hwl:w < m.W.toNat
 ·have cf:=zdM (T:=T) m (w:Int)
  rw [zhV hk0 hwl] at cf
  (repeat' ((conv=>whnf);first|refine vA ?_|(refine vF ?_ ?_<;>intro hc<;>try simp only [vL] at hc)|refine vT ?_|((first|refine vO ?_ ?_|refine vP ?_ ?_);·omega)|refine yD cf ⟨⟨rfl,rfl⟩,⟨rfl,rfl⟩,rfl⟩ rfl ?_));all_goals try conv=>whnf
  ·refine ⟨(w+1,_),[(0,0),(1,1),(2,2),(3,3),(4,4)],[],?_,?_,by (refine ⟨rfl,rfl,rfl,?_,?_⟩;repeat' first|exact trivial|exact rfl|refine And.intro ?_ ?_|refine ⟨_,rfl,?_⟩|decide)⟩
   ·exact ⟨by (omega),by rw [hz];exact zi3 (α:=Nat) rfl⟩
   ·((simp only [vM] at *;omega))
  all_goals omega
 ·have e0:w=m.W.toNat:=by omega
  obtain rfl:zs=(zfG m).map (D.int .i64):=by
   rw [hz,zfG,List.map_map]
   exact zL fun u hu=>by rw [if_pos (by omega)];rfl
  (repeat' ((conv=>whnf);first|refine vA ?_|(refine vF ?_ ?_<;>intro hc<;>try simp only [vL] at hc)|refine vT ?_|refine yN (ztW m h64) ⟨⟨rfl,rfl⟩,⟨rfl,rfl⟩,rfl⟩ ?_));all_goals try conv=>whnf
  ·omega
  ·refine zo (fun (i:Nat)=>[(0,.yld l),(1,.ptr 0 0),(2,.ptr 1 0),(4,.d (dI (ptL m.W.toNat (z7 m i))))]) (fun (i:Nat)=>[(0,some (zX m)),(1,some (.box [.d (dUU m.rel)])),(2,some (.todo (some (zdV m N i))))]) 3 (fun (i:Nat)=>i≤N) (fun (i:Nat)=>N+1 - i) (0) [(0,0),(1,1),(2,2)] [] (by simp) (by (refine ⟨rfl,rfl,rfl,?_,?_⟩;repeat' first|exact trivial|exact rfl|refine And.intro ?_ ?_|refine ⟨_,rfl,?_⟩|decide)) ?_
   rintro i hi
   have hd:=zoO (m:=m) hi
   (repeat' ((conv=>whnf);first|refine vA ?_|refine vT ?_));all_goals try conv=>whnf
   refine ⟨rfl,[dI (ptL m.W.toNat (z7 m i))],zdV m N (i+1),congrArg (fun l=>some (Ob.todo (some l))) hd,rfl,rfl,rfl,?_,?_⟩
   ·by_cases hiN:i < N
    ·have hne:(false || !(zdV m N (i+1)).isEmpty)=true:=by rw [zoO (m:=m) (i:=i+1) (by omega)];rfl
     rw [hne]
     (repeat' ((conv=>whnf);first|refine vA ?_|refine vG ?_|refine vK fun hg=>?_|refine vT ?_|(refine vP ?_ ?_;·omega)|fail));all_goals try conv=>whnf
     obtain ⟨bk,hbk⟩ : ∃ bk:Nat→KS,bk=zea m.rel (z7 m i) m.W.toNat:=⟨_,rfl⟩
     refine zo (fun ((w,es,zs):Nat×List (D×D)×List D)=>[(0,.yld l),(1,.ptr 0 0),(2,.ptr 1 0),(4,.d (dI (ptL m.W.toNat (z7 m i)))),(7,.map 3),(8,.own 4),(47,.d (.int .i64 ((List.replicate m.W.toNat (D.int .i64 0)).length:Int))),(48,.d (.int .i64 ((w:Int))))]) (fun ((w,es,zs):Nat×List (D×D)×List D)=>[(0,some (zX m)),(1,some (.box [.d (dUU m.rel)])),(2,some (.todo (some (zdV m N (i+1))))),(3,some (.map es)),(4,some (.row 1 zs))]) 5 (fun ((w,es,zs):Nat×List (D×D)×List D)=>w≤m.W.toNat∧es=zcT 0 (zdR bk w)∧zs=(List.range m.W.toNat).map fun u=>if u < w then D.int .i64 (zdp bk u:Int) else D.int .i64 0) (fun ((w,es,zs):Nat×List (D×D)×List D)=>m.W.toNat - w) ((0,[],List.replicate m.W.toNat (D.int .i64 0))) [(0,0),(1,1),(2,2),(3,3),(4,4)] [] (⟨by simp,rfl,by simp only [Nat.not_lt_zero,if_false];exact z8 _ _⟩) (by (refine ⟨rfl,rfl,rfl,?_,?_⟩;repeat' first|exact trivial|exact rfl|refine And.intro ?_ ?_|refine ⟨_,rfl,?_⟩|decide)) ?_
     rintro ⟨w,es,zs⟩ ⟨hw,hes,hz⟩
     obtain ⟨dl,hdl⟩ : ∃ dl,dl=zdR bk w:=⟨_,rfl⟩
     rw [← hdl] at hes
     have hzl:zs.length=m.W.toNat:=by rw [hz];simp
     by_cases hwl:w < m.W.toNat
     ·(repeat' ((conv=>whnf);first|refine vA ?_|(refine vF ?_ ?_<;>intro hc<;>try simp only [vL] at hc)|refine vJ fun hg=>?_|refine vT ?_));all_goals try conv=>whnf
      ·refine zo (fun ((k,t):Nat×KS)=>[(0,.yld l),(1,.ptr 0 0),(2,.ptr 1 0),(4,.d (dI (ptL m.W.toNat (z7 m i)))),(7,.map 3),(8,.own 4),(9,.d (.int .i64 ((w:Int)))),(10,.d (.str t)),(47,.d (.int .i64 ((List.replicate m.W.toNat (D.int .i64 0)).length:Int))),(48,.d (.int .i64 ((w:Int)))),(51,.d (dUU m.rel)),(52,.d (.int .i64 ((m.rel.map dU).length:Int))),(53,.d (.int .i64 ((k:Int))))]) (fun ((k,t):Nat×KS)=>[(0,some (zX m)),(1,some (.box [.d (dUU m.rel)])),(2,some (.todo (some (zdV m N (i+1))))),(3,some (.map es)),(4,some (.row 1 zs))]) 5 (fun ((k,t):Nat×KS)=>k≤m.rel.length∧t=ze3 ((m.rel.take k).map fun r=>zas (z7 m i) (r.getD w 0#64) m.W.toNat)) (fun ((k,t):Nat×KS)=>m.rel.length - k) ((0,[])) [(0,0),(1,1),(2,2),(3,3),(4,4)] [] (⟨by simp,rfl⟩) (by (refine ⟨rfl,rfl,rfl,?_,?_⟩;repeat' first|exact trivial|exact rfl|refine And.intro ?_ ?_|refine ⟨_,rfl,?_⟩|decide)) ?_
       rintro ⟨k,t⟩ ⟨hk,ht⟩
       by_cases hkl:k < m.rel.length
       ·obtain ⟨r,hr⟩ : ∃ r,m.rel[k]? = some r:=⟨_,List.getElem?_eq_getElem hkl⟩
        have hrl:=hg0.len r (List.mem_of_getElem? hr)
        obtain ⟨s,hs⟩ : ∃ s,r[w]? = some s:=⟨_,List.getElem?_eq_getElem (by omega)⟩
        have hsb:=(zbG (by omega)).1 (hg0.rel r (List.mem_of_getElem? hr) s (List.mem_of_getElem? hs))
        have hl1:=zql ((m.rel.take k).map fun r=>zas (z7 m i) (r.getD w 0#64) m.W.toNat)
        have hl2:(zfm (zas (z7 m i) s m.W.toNat)).length≤16:=(zh2 15 _).2
        have hl3:((m.rel.take k).map fun r=>zas (z7 m i) (r.getD w 0#64) m.W.toNat).length≤4:=by rw [List.length_map,List.length_take];omega
        rw [← ht] at hl1
        have hl4:([32]:List UInt8).length=1:=rfl
        (repeat' ((conv=>whnf);first|refine vA ?_|(refine vF ?_ ?_<;>intro hc<;>try simp only [vL] at hc)|refine vT ?_|refine vN ‹_› ?_|((first|refine vO ?_ ?_|refine vP ?_ ?_);·first|omega|(simp only [vM] at *;omega))|refine yD (zrm hT h64 s hsb) ⟨⟨rfl,rfl⟩,⟨rfl,rfl⟩,rfl⟩ rfl ?_|refine yD (hX _) (by (repeat refine ⟨⟨rfl,rfl⟩,?_⟩);rfl) rfl ?_));all_goals try conv=>whnf
        ·refine ⟨(k+1,_),[(0,0),(1,1),(2,2),(3,3),(4,4)],[],?_,?_,by (refine ⟨rfl,rfl,rfl,?_,?_⟩;repeat' first|exact trivial|exact rfl|refine And.intro ?_ ?_|refine ⟨_,rfl,?_⟩|decide)⟩
         ·refine ⟨by (omega),?_⟩
          rw [List.take_add_one,hr,Option.toList_some,List.map_append,List.map_singleton,zt8,← ht,zrT hs]
         ·((simp only [vM] at *;omega))
        all_goals (try simp only [List.length_append,hl4])
        all_goals omega
       ·have ek:k=m.rel.length:=by omega
        subst ek
        rw [List.take_length] at ht
        have ht:t=bk w:=by rw [ht,hbk];rfl
        subst ht
        subst hes
        have hfd:=zoH (bk w) dl 0
        have hd64:dl.length≤64:=by rw [hdl];have:=zqo bk w;omega
        by_cases hm:bk w∈dl
        ·rw [if_pos hm,Nat.zero_add] at hfd
         have ea:zdR bk (w+1)=dl:=by rw [zfV,← hdl];exact if_pos hm
         (repeat' ((conv=>whnf);first|refine vA ?_|refine vE ?_|refine vG ?_|(refine vF ?_ ?_<;>intro hc<;>try simp only [vL] at hc)|refine vT ?_|(refine vQ ?_ fun x hx=>?_;·omega)|((first|refine vO ?_ ?_|refine vP ?_ ?_);·omega)|refine zb8.mk _ ‹_› ?_));all_goals try conv=>whnf
         ·omega
         ·refine ⟨(w+1,_,_),[(0,0),(1,1),(2,2),(3,3),(4,4)],[],?_,?_,by (refine ⟨rfl,rfl,rfl,?_,?_⟩;repeat' first|exact trivial|exact rfl|refine And.intro ?_ ?_|refine ⟨_,rfl,?_⟩|decide)⟩
          ·refine ⟨by (omega),by rw [ea],?_⟩
           rw [hz]
           exact zi3 (α:=Nat) (by rw [zdp,ea])
          ·((simp only [vM] at *;omega))
         all_goals omega
        ·rw [if_neg hm] at hfd
         have ea:zdR bk (w+1)=dl++[bk w]:=by rw [zfV,← hdl];exact if_neg hm
         have eb:zcT 0 (dl++[bk w])=zcT 0 dl++[(.str (bk w),.int .i64 ((zcT 0 dl).length:Int))]:=by rw [zlz,zma,Nat.zero_add]
         have ec:(dl++[bk w]).idxOf (bk w)=(zcT 0 dl).length:=by rw [zma,List.idxOf_append,if_neg hm];simp
         have hfn:zT (zcT 0 dl++[(.str (bk w),.int .i64 ((zcT 0 dl).length:Int))]) (.str (bk w))=some (some (.int .i64 ((zcT 0 dl).length:Int))):=by rw [zeX _ _ _ hfd];simp [zT,D.eqk,D.same]
         (repeat' ((conv=>whnf);first|refine vA ?_|(refine vF ?_ ?_<;>intro hc<;>try simp only [vL] at hc)|refine vT ?_|(refine vQ ?_ fun x hx=>?_;·omega)|((first|refine vO ?_ ?_|refine vP ?_ ?_);·omega)|refine zb8.mk _ ‹_› ?_));all_goals try conv=>whnf
         ·omega
         ·refine ⟨(w+1,_,_),[(0,0),(1,1),(2,2),(3,3),(4,4)],[],?_,?_,by (refine ⟨rfl,rfl,rfl,?_,?_⟩;repeat' first|exact trivial|exact rfl|refine And.intro ?_ ?_|refine ⟨_,rfl,?_⟩|decide)⟩
          ·refine ⟨by (omega),by rw [ea,eb],?_⟩
           rw [hz]
           exact zi3 (α:=Nat) (by rw [zdp,ea,ec])
          ·((simp only [vM] at *;omega))
         all_goals omega
      ·omega
     ·have e0:w=m.W.toNat:=by omega
      obtain rfl:zs=(ptL m.W.toNat (zdp bk)).map (D.int .i64):=by
       rw [hz];unfold ptL;rw [List.map_map]
       exact zL fun u hu=>by rw [if_pos (by omega)];rfl
      have ck:=ztR (T:=T) m h64 i
      rw [← hbk] at ck
      (repeat' ((conv=>whnf);first|refine vA ?_|(refine vF ?_ ?_<;>intro hc<;>try simp only [vL] at hc)|refine vJ fun hg=>?_|refine vT ?_|refine yN ck ⟨⟨rfl,rfl⟩,⟨rfl,rfl⟩,rfl⟩ ?_));all_goals try conv=>whnf
      ·omega
      ·refine ⟨i+1,[(0,0),(1,1),(2,2)],[],?_,?_,by (refine ⟨rfl,rfl,rfl,?_,?_⟩;repeat' first|exact trivial|exact rfl|refine And.intro ?_ ?_|refine ⟨_,rfl,?_⟩|decide)⟩
       ·(omega)
       ·(omega)
    ·have hne:(false || !(zdV m N (i+1)).isEmpty)=false:=by rw [zwh (m:=m) (i:=i+1) (by omega)];rfl
     rw [hne]
     trivial
   ·(repeat' ((conv=>whnf);first|refine vH ?_|refine vT ?_));all_goals try conv=>whnf
    right;rfl
end Go.Ab
namespace Go.Ab
open Go Go.Proofs
set_option maxRecDepth 10000
set_option maxHeartbeats 4000000
variable {T:Nat→Obj→Prop}
theorem zsO (m:KM) (R:List (List (BitVec 64))):Fn Tryz.prog T zhS [.d (dKM m),.d (dUU R)] [] (.fn zc5 [.ptr 0 0,.ptr 1 0]) [some (zX m),some (.box [.d (dUU R)])]:=by
 refine zS zy znU (by show 2≤6;decide) _ (fun e env mem n h=>h) ?_
 (repeat' ((conv=>whnf);refine vT ?_));all_goals try conv=>whnf
 exact ⟨trivial,_,[(0,0),(1,1)],[],rfl,.inl (by (repeat' first|exact rfl|refine And.intro ?_ ?_|refine ⟨_,rfl,?_⟩)),⟨rfl,rfl,rfl,trivial,by (repeat' first|exact trivial|exact rfl|refine And.intro ?_ ?_|refine ⟨_,rfl,?_⟩|exact of_decide_eq_true rfl)⟩,trivial⟩
def zfA (m:KM) (j:Nat):Prop:=ptL m.W.toNat (z7 m (j+1))=ptL m.W.toNat (z7 m j)
instance (m:KM) (j:Nat):Decidable (zfA m j):=inferInstanceAs (Decidable (_=_))
def zpo (m:KM):Nat:=zR (fun v _=>decide (zfA m v)) 65
theorem zwC {m:KM} {j:Nat} (hj:j < 65) (h:zfA m j) (hn : ∀ i,i < j → ¬zfA m i):zpo m=j:=by
 have h1:=zh8 (fun v _=>decide (zfA m v)) 65
 rcases Nat.lt_trichotomy (zpo m) j with hl|hl|hl
 ·exfalso
  rcases h1.1 with ⟨h2,h3⟩|h2
  ·exact hn _ hl (of_decide_eq_true h3)
  ·unfold zpo at hl;omega
 ·exact hl
 ·have:=h1.2 j hl
  simp [h] at this
def zyK (m:KM):Nat→V
 | 0 => .nils 1
 | k+1 => .d (dI (ptL m.W.toNat (z7 m k)))
theorem zxJ {m:KM} {N i:Nat} {x:List D} (h:(zdV m N 0)[i]? = some x):x=[dI (ptL m.W.toNat (z7 m i))]∧i≤N:=by
 unfold zdV at h
 rw [List.drop_zero,List.getElem?_map,Option.map_eq_some_iff] at h
 obtain ⟨j,hj,rfl⟩:=h
 have hi:=(List.getElem?_eq_some_iff.1 hj).1
 rw [List.length_range] at hi
 rw [List.getElem?_range hi] at hj
 cases hj
 exact ⟨rfl,by omega⟩
theorem zwi (m:KM) (N:Nat):(zdV m N 0).length=N+1:=by simp [zdV]
theorem zsP (hT:zdB T) (hX:zhc T) {m:KM} (hk0:zf m=0):Fn Tryz.prog T zhT [.d (dKM m),.d (dUU m.rel)] [] (.d (.tup [dI (ptL m.W.toNat (cq m)),.int .i64 (zpo m:Int)])) []:=by
 have hg0:=zq hk0
 have w1:=hg0.w1
 have w2:=hg0.w2
 refine zi zy znV (by show 2≤21;decide) ?_
 (repeat' ((conv=>whnf);first|refine vA ?_|refine vT ?_));all_goals try conv=>whnf
 refine zU.res (zsO m m.rel) (by (repeat refine ⟨⟨rfl,rfl⟩,?_⟩);rfl) ?_
 (repeat' ((conv=>whnf);refine vT ?_));all_goals try conv=>whnf
 refine zs9 (zt5 hT hX hk0 (m.W.toNat+1)) [3,4] [] (by first|((repeat refine ⟨⟨rfl,rfl⟩,?_⟩);rfl)|(repeat' first|exact rfl|refine And.intro ?_ ?_|refine ⟨_,rfl,?_⟩)) (by (repeat' first|exact rfl|refine And.intro ?_ ?_|refine ⟨_,rfl,?_⟩)) (by rfl) (by rfl) [(6,.ptr 0 0),(7,.ptr 1 0)] (fun ((a,c):Nat×Int)=>[(0,some (.box [zyK m a])),(1,some (.box [.d (.int .i64 c)]))]) 2 (fun i ((a,c):Nat×Int)=>a=i∧c=(i:Int) - 1 ∧ ∀ j,j+1 < i → ¬zfA m j) ((0,-1)) [(0,1),(1,2)] [] (⟨rfl,rfl,fun j hj=>by omega⟩) (by (refine ⟨rfl,rfl,rfl,?_,?_⟩;repeat' first|exact trivial|exact rfl|refine And.intro ?_ ?_|refine ⟨_,rfl,?_⟩|decide)) ?_ ?_
 ·rintro i x ⟨a,c⟩ hx ⟨rfl,hcc,hJ⟩
  obtain ⟨rfl,hi⟩:=zxJ hx
  refine ⟨rfl,?_⟩
  cases a with
  | zero =>
   have ce:=zj0 (T:=T) (ptL m.W.toNat (z7 m 0)) []
   rw [show (ptL m.W.toNat (z7 m 0)==[])=false by
    rw [beq_eq_false_iff_ne];intro e;have:=congrArg List.length e;rw [zby] at this;simp at this;omega] at ce
   (repeat' ((conv=>whnf);first|refine vA ?_|refine vH ?_|refine vT ?_|(refine vO ?_ ?_;·omega)|refine yD ce ⟨⟨rfl,rfl⟩,⟨rfl,rfl⟩,rfl⟩ rfl ?_));all_goals try conv=>whnf
   ·exact ⟨(0+1,c+1),[(0,0),(1,1)],[],⟨rfl,by omega,fun j hj=>by omega⟩,by (refine ⟨rfl,rfl,rfl,?_,?_⟩;repeat' first|exact trivial|exact rfl|refine And.intro ?_ ?_|refine ⟨_,rfl,?_⟩|decide)⟩
   all_goals omega
  | succ k =>
   (repeat' ((conv=>whnf);first|refine vA ?_|(refine vI ?_ ?_<;>intro hc)|refine vT ?_|(refine vO ?_ ?_;·omega)|(refine vU ?_ ?_;·kernel_rfl)|refine yD (zj0 _ _) ⟨⟨rfl,rfl⟩,⟨rfl,rfl⟩,rfl⟩ rfl ?_));all_goals try conv=>whnf
   ·show some (D.tup [dI (ptL m.W.toNat (z7 m k)),.int .i64 c])=_
    have hs:zfA m k:=by simpa [zfA] using hc
    have hk:=zwC (m:=m) (j:=k) (by omega) hs (fun i hi=>hJ i (by omega))
    rw [zrO (m:=m) (k:=k) (by omega) hs,hk,show c=(k:Int) by omega]
   ·have hs : ¬zfA m k:=by simpa [zfA] using hc
    exact ⟨(k+1+1,c+1),[(0,0),(1,1)],[],⟨rfl,by omega,fun j hj=>by
     by_cases e:j=k
     ·subst e;exact hs
     ·exact hJ j (by omega)⟩,by (refine ⟨rfl,rfl,rfl,?_,?_⟩;repeat' first|exact trivial|exact rfl|refine And.intro ?_ ?_|refine ⟨_,rfl,?_⟩|decide)⟩
   all_goals omega
 ·rintro ⟨a,c⟩ ⟨rfl,hcc,hJ⟩
  rw [zwi] at hJ
  have:=zxd (m:=m) (k:=m.W.toNat+1) fun j hj=>hJ j (by omega)
  omega
def zeS (m:KM):List Int×Int:=if zf m≠0 then ([],zf m) else (ptL m.W.toNat (cq m),0)
abbrev dLI (x:List Int×Int):D := .tup [dI x.1,.int .i64 x.2]
theorem zj1 (hT:zdB T) (hX:zhc T) (m:KM):Fn Tryz.prog T zc4 [.d (dKM m)] [] (.d (dLI (zeS m))) []:=by
 refine zi zy zl1 (by show 1≤20;decide) ?_
 by_cases hk0:zf m=0
 ·have cs:=zsP (T:=T) hT hX hk0
  (repeat' ((conv=>whnf);first|refine vA ?_|(refine vD ?_ ?_<;>intro hc)|refine vT ?_|refine yD (zaq m) ⟨⟨rfl,rfl⟩,rfl⟩ rfl ?_|refine yN cs ⟨⟨rfl,rfl⟩,⟨rfl,rfl⟩,rfl⟩ ?_));all_goals try conv=>whnf
  ·exact absurd hk0 (by omega)
  ·rw [zeS,if_neg (by omega)];rfl
 ·(repeat' ((conv=>whnf);first|refine vA ?_|(refine vD ?_ ?_<;>intro hc)|refine vT ?_|refine yD (zaq m) ⟨⟨rfl,rfl⟩,rfl⟩ rfl ?_));all_goals try conv=>whnf
  ·rw [zeS,if_pos hk0];rfl
  ·exact absurd ‹zf m=0› hk0
end Go.Ab
namespace Go.Ab
open Go Go.Proofs
set_option maxRecDepth 10000
set_option maxHeartbeats 4000000
variable {T:Nat→Obj→Prop}
theorem ztM (l:List Int) (h:l≠[]) (hl:l.length≤1000):Fn Tryz.prog T zaX [.d (dI l)] [] (.own 0) [some (.row 1 (l.map (D.int .i64)))]:=by
 refine zS zy zdP (by show 1≤8;decide) _ (fun e env mem n h=>h) ?_
 (repeat' ((conv=>whnf);first|refine vA ?_|refine vB fun b hb=>?_|refine vE ?_|(refine vF ?_ ?_<;>intro hc)|refine vT ?_|(refine vP ?_ ?_;·(simp only [vM] at *;omega))|fail));all_goals try conv=>whnf
 ·refine ⟨trivial,_,[(0,1)],[],rfl,.inl (by (repeat' exact rfl)),⟨by rfl,by rfl,by rfl,trivial,by (repeat' first|exact trivial|exact rfl|refine And.intro ?_ ?_|refine ⟨_,rfl,?_⟩|exact of_decide_eq_true rfl)⟩,by (repeat' exact trivial)⟩
 ·exact absurd (List.map_eq_nil_iff.1 (hb (by simpa using hc))) h
theorem zwB {n:Nat} {q:Nat→Nat} (hq:zaR n q):zgZ (ptL n q)=(zbe n q).map fun (x:Nat)=>(x:Int):=by
 have hs:((zbe n q).map fun (x:Nat)=>(x:Int)).Pairwise (· < ·):=by
  rw [List.pairwise_map]
  refine List.Pairwise.imp (R:=(· < ·)) (fun h=>by omega) (List.Pairwise.filter _ List.pairwise_lt_range)
 have hn:(zgZ (ptL n q)).Nodup:=(zcz _).nodup_iff.2 (zdh _)
 refine zdi (zd5 _) (hs.imp fun h=>Int.le_of_lt h) (ze7 hn (hs.imp fun h e=>by subst e;omega) fun x=>?_)
 rw [ziT]
 unfold ptL zbe
 simp only [List.mem_map,List.mem_filter,List.mem_range,decide_eq_true_eq]
 constructor
 ·rintro ⟨w,hw,rfl⟩
  have:=hq.le w hw
  exact ⟨q w,⟨by omega,hq.idem w hw⟩,rfl⟩
 ·rintro ⟨w,⟨hw,e⟩,rfl⟩
  exact ⟨w,hw,by rw [e]⟩
theorem ztS {n:Nat} {q:Nat→Nat} (hq:zaR n q) (h0:0 < n) (h12:n≤12):Fn Tryz.prog T zga [.d (dI (ptL n q))] [] (.d (dN (zbe n q))) []:=by
 have hl:(ptL n q).length=n:=zby
 have c0:=ztM (T:=T) (ptL n q) (fun e=>by rw [e] at hl;simp at hl;omega) (by omega)
 have c1:=zlo (T:=T) (ptL n q).toArray (by simp;omega)
 rw [show zbq (Sort.sort ltI (ptL n q).toArray) = .row 1 ((zaG (ptL n q)).map (D.int .i64)) by rw [zbq,znt]] at c1
 have hsl:(zaG (ptL n q)).length=n:=by rw [(zcz _).length_eq,hl]
 have c2:=zvB (T:=T) (zaG (ptL n q)).toArray (by simp;omega)
 rw [zyb,zwB hq] at c2
 refine zi zy zla (by show 1≤10;decide) ?_
 (repeat' ((conv=>whnf);refine vT ?_));all_goals try conv=>whnf
 refine zU.res (c0) (by (repeat refine ⟨⟨rfl,rfl⟩,?_⟩);rfl) ?_
 (repeat' ((conv=>whnf);refine vT ?_));all_goals try conv=>whnf
 refine zU.objs [0] (c1) (by (repeat' first|exact rfl|refine And.intro ?_ ?_|refine ⟨_,rfl,?_⟩)) (by (repeat' first|exact rfl|refine And.intro ?_ ?_)) (by rfl) (by rfl) (by simp) ?_
 (repeat' ((conv=>whnf);refine vT ?_));all_goals try conv=>whnf
 refine zU.objs [0] (c2) (by (repeat' first|exact rfl|refine And.intro ?_ ?_|refine ⟨_,rfl,?_⟩)) (by (repeat' first|exact rfl|refine And.intro ?_ ?_)) (by rfl) (by rfl) (by simp) ?_
 (repeat' ((conv=>whnf);refine vT ?_));all_goals try conv=>whnf
 rfl
theorem zmV (s:BitVec 64) {n:Nat} {k:Nat→Nat} (hk : ∀ w,w < n→k w < 64):Fn Tryz.prog T zgb [.d (.u64 s),.d (dI (ptL n k))] [] (.d (.u64 (zas k s n))) []:=by
 have hl:(ptL n k).length=n:=zby
 refine zi zy zlb (by show 2≤26;decide) ?_
 (repeat' ((conv=>whnf);first|refine vA ?_|refine vJ fun hg=>?_|refine vT ?_));all_goals try conv=>whnf
 refine zaY (fun ((j,o):Nat×BitVec 64)=>[(0,.d (.u64 (s))),(5,.d (.u64 (o))),(8,.d (dI (ptL n k))),(9,.d (.int .i64 (((ptL n k).map (D.int .i64)).length:Int))),(10,.d (.int .i64 ((j:Int))))]) (fun ((j,o):Nat×BitVec 64)=>j≤n∧o=zas k s j) (fun ((j,o):Nat×BitVec 64)=>n - j) ((0,0#64)) (⟨by simp,rfl⟩) (by (repeat' first|exact trivial|exact rfl|refine And.intro ?_ ?_)) ?_
 rintro ⟨j,o⟩ ⟨hj,ho⟩
 by_cases hjl:j < n
 ·have e1:=zaF (q:=k) hjl
  (repeat' ((conv=>whnf);first|refine vA ?_|(refine vF ?_ ?_<;>intro hc<;>try simp only [vL] at hc)|refine vT ?_|refine vN ‹_› ?_|((first|refine vO ?_ ?_|refine vP ?_ ?_);·omega)|refine vY ?_));all_goals try conv=>whnf
  ·refine ⟨(j+1,_),[],[],?_,?_,by (refine ⟨rfl,rfl,rfl,?_,?_⟩;repeat' first|exact trivial|exact rfl|refine And.intro ?_ ?_)⟩
   ·exact ⟨by (omega),by rw [zfN,if_pos ((zba s j).1 ‹_›),ho];rfl⟩
   ·((simp only [vM] at *;omega))
  ·refine ⟨(j+1,o),[],[],?_,?_,by (refine ⟨rfl,rfl,rfl,?_,?_⟩;repeat' first|exact trivial|exact rfl|refine And.intro ?_ ?_)⟩
   ·refine ⟨by (omega),?_⟩
    rw [zfN,if_neg,ho]
    intro h
    exact absurd ((zba s j).2 h) ‹_›
   ·((simp only [vM] at *;omega))
  all_goals omega
 ·(repeat' ((conv=>whnf);first|refine vA ?_|(refine vF ?_ ?_<;>intro hc<;>try simp only [vL] at hc)|refine vT ?_|(refine vQ ?_ fun x hx=>?_;·omega)|((first|refine vO ?_ ?_|refine vP ?_ ?_);·omega)|refine vY ?_));all_goals try conv=>whnf
  all_goals try omega
  rw [ho,show j=n by omega]
theorem zxo {n:Nat} {q:Nat→Nat} (hq:zaR n q) {w:Nat} (hw:w < n):zeY (fun y=>((q w:Nat):Int)==y) ((zbe n q).map fun (x:Nat)=>(x:Int))=((zP q w:Nat):Int):=by
 have h1:=zfs hq hw
 refine zhm (by rw [List.getElem?_map,h1];rfl) (by simp) fun i y hi hy=>?_
 rw [List.getElem?_map,Option.map_eq_some_iff] at hy
 obtain ⟨u,hu,rfl⟩:=hy
 have hnd:(zbe n q).Nodup:=List.Nodup.sublist List.filter_sublist List.nodup_range
 rw [beq_eq_false_iff_ne]
 intro e
 have e:q w=u:=by omega
 subst e
 obtain ⟨a1,a2⟩:=List.getElem?_eq_some_iff.1 h1
 obtain ⟨b1,b2⟩:=List.getElem?_eq_some_iff.1 hu
 have:=(List.getElem_inj hnd).1 (a2.trans b2.symm)
 omega
abbrev byQ (p:List Int):Nat→Nat:=fun w=>(at0 p w).toNat
def byF (m:KM) (q:Nat→Nat) (w:Nat):Bool:=decide (zu m w=zu m (q w))
def byL (m:KM) (p:List Int):KM×List Int×Int :=
 if zf m≠0 then (zcq,[],zf m) else if zbx p≠0 then (zcq,[],zbx p) else if (p.length:Int)≠m.W then (zcq,[],3) else
  if (List.range m.W.toNat).all (byF m (byQ p))=true then (zW m (byQ p),ptL m.W.toNat (zP (byQ p)),0) else (zcq,[],1)
abbrev zsD (x:KM×List Int×Int):D := .tup [dKM x.1,dI x.2.1,.int .i64 x.2.2]
theorem zwY {n k:Nat} {f:Nat→Bool} (hk:k < n) (h:f k=false) : ¬(List.range n).all f=true:=fun e=>by
 rw [List.all_eq_true] at e
 rw [e k (List.mem_range.2 hk)] at h;cases h
theorem zpy {n:Nat} {f:Nat→Bool} (h : ∀ i,i < n→f i=true):(List.range n).all f=true:=List.all_eq_true.2 fun i hi=>h i (List.mem_range.1 hi)
theorem ztr {q:Nat→Nat} {n:Nat} {r:List (BitVec 64)} {k i:Nat} : zdC q n r (k+1) i=if zP q k=i then zdC q n r k i|||zas (zP q) (r.getD k 0#64) n else zdC q n r k i:=rfl
def byR (m:KM) (q:Nat→Nat):KM×List Int×Int:=if (List.range m.W.toNat).all (byF m q)=true then (zW m q,ptL m.W.toNat (zP q),0) else (zcq,[],1)
theorem ztL {m:KM} (hk0:zf m=0) (h12:m.W≤12) {q:Nat→Nat} (hq:zaR m.W.toNat q):Fn Tryz.prog T zdd [.d (dKM m),.d (dI (ptL m.W.toNat q))] [] (.d (zsD (byR m q))) []:=by
 have hg0:=zq hk0
 have w1:=hg0.w1
 have n4:=hg0.n4
 have v8:=hg0.v8
 have hp0:zbx (ptL m.W.toNat q)=0:=zlh hq (by omega)
 refine zi zy zji (by show 2≤134;decide) ?_
 have hlen:((ptL m.W.toNat q).length:Int)=m.W:=by rw [zby];omega
 have e0:byR m q=if (List.range m.W.toNat).all (byF m q)=true then (zW m q,ptL m.W.toNat (zP q),0) else (zcq,[],1):=rfl
 obtain ⟨n,hn⟩ : ∃ n,n=m.W.toNat:=⟨_,rfl⟩
 rw [← hn] at hq hp0 hlen e0 ⊢
 have hpl:(ptL n q).length=n:=zby
 have hcn:=zdj n q
 have h64 : ∀ w,w < n→zP q w < 64:=fun w hw=>by have:=zb5 hq hw;omega
 have clo:=ztS (T:=T) hq (by omega) (by omega)
 (repeat' ((conv=>whnf);first|refine vA ?_|(refine vD ?_ ?_<;>intro hc<;>try simp only [vL] at hc)|refine vJ fun hg=>?_|refine vT ?_|refine yD (zaq m) ⟨⟨rfl,rfl⟩,rfl⟩ rfl ?_|refine yD (zgh _) ⟨⟨rfl,rfl⟩,rfl⟩ rfl ?_));all_goals try conv=>whnf
 iterate 3 (exact absurd ‹_≠_› (by first|exact not_not_intro hk0|exact not_not_intro hp0|exact not_not_intro hlen))
 refine zo (fun (w:Nat)=>[(1,.d (dI (ptL n q))),(2,.ptr 0 0),(4,.ptr 1 0),(41,.d (dI (ptL n q))),(42,.d (.int .i64 (((ptL n q).map (D.int .i64)).length:Int))),(43,.d (.int .i64 ((w:Int))))]) (fun (w:Nat)=>[(0,some (zX m)),(1,some (.box [.d (.int .i64 0),.nils 1,.nils 1]))]) 2 (fun (w:Nat)=>w≤n ∧ ∀ u,u < w→byF m q u=true) (fun (w:Nat)=>n - w) (0) [(0,0),(1,1)] [] (⟨by omega,fun u hu=>by omega⟩) (by (refine ⟨rfl,rfl,rfl,?_,?_⟩;repeat' first|exact trivial|exact rfl|refine And.intro ?_ ?_|refine ⟨_,rfl,?_⟩|decide)) ?_
 rintro w ⟨hw,hI⟩
 by_cases hwl:w < n
 ·have e1:=zaF (q:=q) hwl
  have hqw:=hq.le w hwl
  have cf1:=zdM (T:=T) m (w:Int)
  have cf2:=zdM (T:=T) m ((q w:Nat):Int)
  rw [zhV hk0 (by omega)] at cf1 cf2
  (repeat' ((conv=>whnf);first|refine vA ?_|((first|refine vD ?_ ?_|refine vF ?_ ?_)<;>intro hc<;>try simp only [vL] at hc)|refine vT ?_|refine vN ‹_› ?_|(refine vO ?_ ?_;·omega)|(refine vU ?_ ?_;·kernel_rfl)|refine yD cf1 ⟨⟨rfl,rfl⟩,⟨rfl,rfl⟩,rfl⟩ rfl ?_|refine yD cf2 ⟨⟨rfl,rfl⟩,⟨rfl,rfl⟩,rfl⟩ rfl ?_));all_goals try conv=>whnf
  ·rw [e0,if_neg (zwY hwl (by unfold byF;rw [decide_eq_false_iff_not];assumption))];rfl
  ·exact ⟨w+1,[(0,0),(1,1)],[],⟨by (omega),fun u hu=>by
    by_cases e:u=w
    ·subst e;unfold byF;rw [decide_eq_true_eq];assumption
    ·exact hI u (by omega)⟩,by (omega),by (refine ⟨rfl,rfl,rfl,?_,?_⟩;repeat' first|exact trivial|exact rfl|refine And.intro ?_ ?_|refine ⟨_,rfl,?_⟩|decide)⟩
  all_goals omega
 ·have hfa:zsj m q:=fun w hw=>by
   have:=hI w (by omega)
   simpa [byF] using this
  have e0:byR m q=(zW m q,ptL n (zP q),0):=by rw [e0,if_pos (zpy fun u hu=>hI u (by omega))]
  have hrl':zdq (zbe n q)=zG n q:=zgr _
  (repeat' ((conv=>whnf);first|refine vA ?_|(refine vF ?_ ?_<;>intro hc<;>try simp only [vL] at hc)|refine vJ fun hg=>?_|refine vT ?_|(refine vQ ?_ fun x hx=>?_;·omega)|(refine vP ?_ ?_;·(simp only [vM] at *;omega))|refine yN clo ⟨⟨rfl,rfl⟩,rfl⟩ ?_));all_goals try conv=>whnf
  ·omega
  refine zo (fun ((w,zs):Nat×List D)=>[(2,.ptr 0 0),(4,.ptr 1 0),(11,.d (dN (zbe n q))),(12,.own 2),(62,.d (dI (ptL n q))),(63,.d (.int .i64 (((ptL n q).map (D.int .i64)).length:Int))),(64,.d (.int .i64 ((w:Int))))]) (fun ((w,zs):Nat×List D)=>[(0,some (zX m)),(1,some (.box [.d (.int .i64 0),.nils 1,.nils 1])),(2,some (.row 1 zs))]) 3 (fun ((w,zs):Nat×List D)=>w≤n∧zs=(List.range n).map fun u=>if u < w then D.int .i64 (zP q u:Int) else D.int .i64 0) (fun ((w,zs):Nat×List D)=>n - w) ((0,List.replicate ((((ptL n q).map (D.int .i64)).length:Int)).toNat (D.int .i64 0))) [(0,0),(1,1),(2,2)] [] (⟨by omega,by simp only [Nat.not_lt_zero,if_false];rw [List.length_map,hpl,Int.toNat_natCast];exact z8 _ _⟩) (by (refine ⟨rfl,rfl,rfl,?_,?_⟩;repeat' first|exact trivial|exact rfl|refine And.intro ?_ ?_|refine ⟨_,rfl,?_⟩|decide)) ?_
  rintro ⟨w,zs⟩ ⟨hw,hz⟩
  have hzl:zs.length=n:=by rw [hz];simp
  by_cases hwl:w < n
  ·have e1:=zaF (q:=q) hwl
   have cix:=zp6 (T:=T) ((zbe n q).map fun (x:Nat)=>(x:Int)) ((q w:Nat):Int)
   rw [zxo hq hwl] at cix
   (repeat' ((conv=>whnf);first|refine vA ?_|(refine vF ?_ ?_<;>intro hc<;>try simp only [vL] at hc)|refine vJ fun hg=>?_|refine vT ?_|refine vN ‹_› ?_|((first|refine vO ?_ ?_|refine vP ?_ ?_);·omega)|refine yD cix ⟨⟨rfl,rfl⟩,⟨rfl,rfl⟩,rfl⟩ rfl ?_));all_goals try conv=>whnf
   ·refine ⟨(w+1,_),[(0,0),(1,1),(2,2)],[],?_,?_,by (refine ⟨rfl,rfl,rfl,?_,?_⟩;repeat' first|exact trivial|exact rfl|refine And.intro ?_ ?_|refine ⟨_,rfl,?_⟩|decide)⟩
    ·exact ⟨by (omega),by rw [hz];exact zi3 (α:=Nat) rfl⟩
    ·((simp only [vM] at *;omega))
   all_goals omega
  ·obtain rfl:zs=(ptL n (zP q)).map (D.int .i64):=by
    rw [hz];unfold ptL;rw [List.map_map]
    exact zL fun u hu=>by rw [if_pos (by omega)];rfl
   have hml:(ptL n (zP q)).length=n:=zby
   (repeat' ((conv=>whnf);first|refine vA ?_|(refine vF ?_ ?_<;>intro hc<;>try simp only [vL] at hc)|refine vJ fun hg=>?_|refine vT ?_|(refine vQ ?_ fun x hx=>?_;·omega)|fail));all_goals try conv=>whnf
   ·omega
   refine zo (fun ((k,zs):Nat×List D)=>[(2,.ptr 0 0),(4,.ptr 1 0),(11,.d (dN (zbe n q))),(12,.own 2),(15,.ptr 3 0),(80,.d (dU m.val)),(81,.d (.int .i64 ((m.val.map D.u64).length:Int))),(82,.d (.int .i64 ((k:Int))))]) (fun ((k,zs):Nat×List D)=>[(0,some (zX m)),(1,some (.box [.d (.int .i64 0),.nils 1,.nils 1])),(2,some (.row 1 ((ptL n (zP q)).map (D.int .i64)))),(3,some (.box [.d (.int .i64 (zdq (zbe n q):Int)),.own 4,.nils 1])),(4,some (.row 1 zs))]) 5 (fun ((k,zs):Nat×List D)=>k≤m.val.length∧zs=(m.val.take k).map fun s=>D.u64 (zas (zP q) s n)) (fun ((k,zs):Nat×List D)=>m.val.length - k) ((0,[])) [(0,0),(1,1),(2,2),(3,3)]   [4] (⟨by simp,by simp⟩) (by (refine ⟨rfl,rfl,rfl,?_,?_⟩;repeat' first|exact trivial|exact rfl|exact ⟨_,rfl⟩|refine And.intro ?_ ?_|refine ⟨_,rfl,?_⟩|decide)) ?_
   rintro ⟨k,zs⟩ ⟨hk,hz⟩
   have hzl:zs.length≤8:=by rw [hz];simp;omega
   by_cases hkl:k < m.val.length
   ·obtain ⟨s,hs⟩ : ∃ s,m.val[k]? = some s:=⟨_,List.getElem?_eq_getElem hkl⟩
    (repeat' ((conv=>whnf);first|refine vA ?_|(refine vF ?_ ?_<;>intro hc<;>try simp only [vL] at hc)|refine vJ fun hg=>?_|refine vT ?_|refine vN ‹_› ?_|((first|refine vO ?_ ?_|refine vP ?_ ?_);·first|omega|(simp only [vM] at *;omega))|(refine vU ?_ ?_;·kernel_rfl)|refine yD (zmV s h64) ⟨⟨rfl,rfl⟩,⟨rfl,rfl⟩,rfl⟩ rfl ?_));all_goals try conv=>whnf
    ·refine ⟨(k+1,_),[(0,0),(1,1),(2,2),(3,3),(4,6)],[],?_,?_,by (refine ⟨rfl,rfl,rfl,?_,?_⟩;repeat' first|exact trivial|exact rfl|refine And.intro ?_ ?_|refine ⟨_,rfl,?_⟩|decide)⟩
     ·exact ⟨by omega,by rw [List.take_add_one,hs,hz];simp⟩
     ·((simp only [vM] at *;omega))
    all_goals omega
   ·have hzz:zs=m.val.map fun s=>D.u64 (zas (zP q) s n):=by rw [hz,List.take_of_length_le (by omega)]
    clear hz
    subst hzz
    (repeat' ((conv=>whnf);first|refine vA ?_|(refine vF ?_ ?_<;>intro hc<;>try simp only [vL] at hc)|refine vJ fun hg=>?_|refine vT ?_|(refine vQ ?_ fun x hx=>?_;·omega)|fail));all_goals try conv=>whnf
    ·omega
    refine zo (fun ((k,zs):Nat×List D)=>[(4,.ptr 1 0),(11,.d (dN (zbe n q))),(12,.own 2),(15,.ptr 3 0),(96,.d (dUU m.rel)),(97,.d (.int .i64 ((m.rel.map dU).length:Int))),(98,.d (.int .i64 ((k:Int))))]) (fun ((k,zs):Nat×List D)=>[(1,some (.box [.d (.int .i64 0),.nils 1,.nils 1])),(2,some (.row 1 ((ptL n (zP q)).map (D.int .i64)))),(3,some (.box [.d (.int .i64 (zdq (zbe n q):Int)),.own 4,.own 5])),(4,some (.row 1 (m.val.map fun s=>D.u64 (zas (zP q) s n)))),(5,some (.row 1 zs))]) 6 (fun ((k,zs):Nat×List D)=>k≤m.rel.length∧zs=(m.rel.take k).map fun r=>dU ((List.range (zG n q)).map (zdC q n r n))) (fun ((k,zs):Nat×List D)=>m.rel.length - k) ((0,[])) [(1,1),(2,2),(3,3),(4,4)]   [5] (⟨by simp,by simp⟩) (by (refine ⟨rfl,rfl,rfl,?_,?_⟩;repeat' first|exact trivial|exact rfl|exact ⟨_,rfl⟩|refine And.intro ?_ ?_|refine ⟨_,rfl,?_⟩|decide)) ?_
    rintro ⟨k,zs⟩ ⟨hk,hz⟩
    have hzl:zs.length≤4:=by rw [hz];simp;omega
    by_cases hkl:k < m.rel.length
    ·obtain ⟨r,hr⟩ : ∃ r,m.rel[k]? = some r:=⟨_,List.getElem?_eq_getElem hkl⟩
     have hrl:r.length=n:=by have:=hg0.len r (List.mem_of_getElem? hr);omega
     (repeat' ((conv=>whnf);first|refine vA ?_|(refine vF ?_ ?_<;>intro hc<;>try simp only [vL] at hc)|refine vJ fun hg=>?_|refine vT ?_|refine vN ‹_› ?_|(refine vP ?_ ?_;·(simp only [vM] at *;omega))|fail));all_goals try conv=>whnf
     ·refine zo (fun ((w,ys):Nat×List D)=>[(4,.ptr 1 0),(11,.d (dN (zbe n q))),(12,.own 2),(15,.ptr 3 0),(20,.own 6),(96,.d (dUU m.rel)),(97,.d (.int .i64 ((m.rel.map dU).length:Int))),(98,.d (.int .i64 ((k:Int)))),(105,.d (dU r)),(106,.d (.int .i64 ((r.map D.u64).length:Int))),(107,.d (.int .i64 ((w:Int))))]) (fun ((w,ys):Nat×List D)=>[(1,some (.box [.d (.int .i64 0),.nils 1,.nils 1])),(2,some (.row 1 ((ptL n (zP q)).map (D.int .i64)))),(3,some (.box [.d (.int .i64 (zdq (zbe n q):Int)),.own 4,.own 5])),(4,some (.row 1 (m.val.map fun s=>D.u64 (zas (zP q) s n)))),(5,some (.row 1 zs)),(6,some (.row 1 ys))]) 7 (fun ((w,ys):Nat×List D)=>w≤n∧ys=(List.range (zG n q)).map fun i=>D.u64 (zdC q n r w i)) (fun ((w,ys):Nat×List D)=>n - w) ((0,List.replicate ((zdq (zbe n q):Int)).toNat (D.u64 0))) [(1,1),(2,2),(3,3),(4,4),(5,5),(6,6)] [] (⟨by omega,by rw [hrl',Int.toNat_natCast];exact z8 _ _⟩) (by (refine ⟨rfl,rfl,rfl,?_,?_⟩;repeat' first|exact trivial|exact rfl|refine And.intro ?_ ?_|refine ⟨_,rfl,?_⟩|decide)) ?_
      rintro ⟨w,ys⟩ ⟨hw,hy⟩
      have hrl2:(List.range (zG n q)).length=zG n q:=List.length_range
      subst hy
      by_cases hwl:w < n
      ·obtain ⟨s,hs⟩ : ∃ s,r[w]? = some s:=⟨_,List.getElem?_eq_getElem (by omega)⟩
       have e1:=zaF (q:=zP q) hwl
       have hnl:=zb5 hq hwl
       have e2:(List.range (zG n q))[zP q w]? = some (zP q w):=List.getElem?_range hnl
       (repeat' ((conv=>whnf);first|refine vA ?_|(refine vF ?_ ?_<;>intro hc<;>try simp only [vL] at hc)|refine vT ?_|refine vN ‹_› ?_|((first|refine vO ?_ ?_|refine vP ?_ ?_);·first|omega|(simp only [vM] at *;omega))|(refine vU ?_ ?_;·kernel_rfl)|refine yD (zmV s h64) ⟨⟨rfl,rfl⟩,⟨rfl,rfl⟩,rfl⟩ rfl ?_));all_goals try conv=>whnf
       ·refine ⟨(w+1,_),[(1,1),(2,2),(3,3),(4,4),(5,5),(6,6)],[],?_,?_,by (refine ⟨rfl,rfl,rfl,?_,?_⟩;repeat' first|exact trivial|exact rfl|refine And.intro ?_ ?_|refine ⟨_,rfl,?_⟩|decide)⟩
        ·refine ⟨by (omega),?_⟩
         refine (zdX _).trans (zL fun u hu=>?_)
         rw [ztr,zrT hs,Int.toNat_natCast]
         by_cases e:u=zP q w
         ·subst e;rw [if_pos rfl,if_pos rfl]
         ·rw [if_neg e,if_neg (fun h=>e h.symm)]
        ·((simp only [vM] at *;omega))
       all_goals omega
      ·rw [show ((List.range (zG n q)).map fun i=>D.u64 (zdC q n r w i))=((List.range (zG n q)).map (zdC q n r n)).map D.u64 by rw [show w=n by omega,List.map_map];rfl]
       (repeat' ((conv=>whnf);first|refine vA ?_|(refine vF ?_ ?_<;>intro hc<;>try simp only [vL] at hc)|refine vT ?_|(refine vQ ?_ fun x hx=>?_;·omega)|((first|refine vO ?_ ?_|refine vP ?_ ?_);·first|omega|(simp only [vM] at *;omega))|fail));all_goals try conv=>whnf
       ·omega
       ·refine ⟨(k+1,_),[(1,1),(2,2),(3,3),(4,4),(5,8)],[],?_,?_,by (refine ⟨rfl,rfl,rfl,?_,?_⟩;repeat' first|exact trivial|exact rfl|refine And.intro ?_ ?_|refine ⟨_,rfl,?_⟩|decide)⟩
        ·refine ⟨by omega,?_⟩
         rw [List.take_add_one,hr,hz];simp
        ·((simp only [vM] at *;omega))
       all_goals omega
     all_goals omega
    ·have hzz:zs=m.rel.map fun r=>dU ((List.range (zG n q)).map (zdC q n r n)):=by rw [hz,List.take_of_length_le (by omega)]
     subst hzz
     (repeat' ((conv=>whnf);first|refine vA ?_|(refine vF ?_ ?_<;>intro hc<;>try simp only [vL] at hc)|refine vJ fun hg=>?_|refine vT ?_|(refine vQ ?_ fun x hx=>?_;·omega)|(refine vP ?_ ?_;·omega)|fail));all_goals try conv=>whnf
     ·omega
     ·rw [e0]
      refine congrArg some (show D.tup [D.agg [.int .i64 (zdq (zbe n q):Int),.arr 1 (m.val.map fun s=>D.u64 (zas (zP q) s n)),.arr 1 (m.rel.map fun r=>dU ((List.range (zG n q)).map (zdC q n r n)))],dI (ptL n (zP q)),.int .i64 0]=D.tup [dKM (zW m q),dI (ptL n (zP q)),.int .i64 0] from ?_)
      have f1:(m.val.map fun s=>zas (zP q) s n)=(zW m q).val:=by
       rw [hn] at hq ⊢
       exact List.map_congr_left fun s hs=>zxF hq (by omega) hfa hs
      have f2:(m.rel.map fun r=>(List.range (zG n q)).map (zdC q n r n))=(zW m q).rel:=by
       rw [hn] at hq ⊢
       exact List.map_congr_left fun r _=>List.map_congr_left fun i _=>zxE hq (by omega) r i
      rw [hrl',show (m.val.map fun s=>D.u64 (zas (zP q) s n))=(zW m q).val.map D.u64 by rw [← f1,List.map_map];rfl,show (m.rel.map fun r=>dU ((List.range (zG n q)).map (zdC q n r n)))=(zW m q).rel.map dU by rw [← f2,List.map_map];rfl,hn]
      rfl
theorem zyG (m:KM) (p:List Int) (h12:zf m=0→m.W≤12):Fn Tryz.prog T zdd [.d (dKM m),.d (dI p)] [] (.d (zsD (byL m p))) []:=by
 by_cases hall:zf m=0∧zbx p=0∧(p.length:Int)=m.W
 ·obtain ⟨hk0,hp0,hlen⟩:=hall
  obtain ⟨hp64,hq,hpe⟩:=zrx hp0
  have hpn:p.length=m.W.toNat:=by omega
  rw [hpn] at hq hpe
  have:=ztL (T:=T) hk0 (h12 hk0) hq
  rw [← hpe] at this
  rw [show byL m p=byR m (byQ p) by rw [byL,if_neg (by omega),if_neg (by omega),if_neg (by omega)];rfl]
  exact this
 refine zi zy zji (by show 2≤134;decide) ?_
 by_cases hk0:zf m=0
 ·by_cases hp0:zbx p=0
  ·by_cases hlen:(p.length:Int)=m.W
   ·exact absurd ⟨hk0,hp0,hlen⟩ hall
   ·(repeat' ((conv=>whnf);first|refine vA ?_|(refine vD ?_ ?_<;>intro hc<;>try simp only [vL] at hc)|refine vJ fun hg=>?_|refine vT ?_|refine yD (zaq m) ⟨⟨rfl,rfl⟩,rfl⟩ rfl ?_|refine yD (zgh p) ⟨⟨rfl,rfl⟩,rfl⟩ rfl ?_));all_goals try conv=>whnf
    ·exact absurd hk0 ‹_›
    ·exact absurd hp0 ‹_›
    ·rw [byL,if_neg (by omega),if_neg (by omega),if_pos hlen];rfl
    ·exact absurd ‹(p.length:Int)=m.W› hlen
  ·(repeat' ((conv=>whnf);first|refine vA ?_|(refine vD ?_ ?_<;>intro hc<;>try simp only [vL] at hc)|refine vJ fun hg=>?_|refine vT ?_|refine yD (zaq m) ⟨⟨rfl,rfl⟩,rfl⟩ rfl ?_|refine yD (zgh p) ⟨⟨rfl,rfl⟩,rfl⟩ rfl ?_));all_goals try conv=>whnf
   ·exact absurd hk0 ‹_›
   ·rw [byL,if_neg (by omega),if_pos hp0];rfl
   all_goals exact absurd ‹zbx p=0› hp0
 ·(repeat' ((conv=>whnf);first|refine vA ?_|(refine vD ?_ ?_<;>intro hc)|refine vT ?_|refine yD (zaq m) ⟨⟨rfl,rfl⟩,rfl⟩ rfl ?_));all_goals try conv=>whnf
  ·rw [byL,if_pos hk0];rfl
  all_goals exact absurd ‹zf m=0› hk0
end Go.Ab
namespace Go.Ab
open Go Go.Proofs
set_option maxRecDepth 10000
set_option maxHeartbeats 4000000
variable {T:Nat→Obj→Prop}
theorem zx5 (m:KM):byR m (cq m)=(zW m (cq m),ptL m.W.toNat (zP (cq m)),0):=if_pos (zpy fun w hw=>by unfold byF;rw [decide_eq_true_eq];exact zpN m w hw)
def zvT (m:KM):KM×List Int×Int:=if zf m≠0 then (zcq,[],zf m) else (zW m (cq m),ptL m.W.toNat (zP (cq m)),0)
theorem zyt (hT:zdB T) (hX:zhc T) (m:KM) (h12:zf m=0→m.W≤12):Fn Tryz.prog T zfe [.d (dKM m)] [] (.d (zsD (zvT m))) []:=by
 have cco:=zj1 (T:=T) hT hX m
 refine zi zy zjt (by show 1≤22;decide) ?_
 by_cases hk0:zf m=0
 ·rw [show zeS m=(ptL m.W.toNat (cq m),0) by rw [zeS,if_neg (by omega)]] at cco
  have cb:=ztL (T:=T) hk0 (h12 hk0) (zfk m)
  rw [zx5] at cb
  (repeat' ((conv=>whnf);first|refine vA ?_|refine vH ?_|refine vT ?_|refine yN cco ⟨⟨rfl,rfl⟩,rfl⟩ ?_|refine yN cb ⟨⟨rfl,rfl⟩,⟨rfl,rfl⟩,rfl⟩ ?_));all_goals try conv=>whnf
  ·rw [zvT,if_neg (by omega)];rfl
 ·rw [show zeS m=([],zf m) by rw [zeS,if_pos hk0]] at cco
  (repeat' ((conv=>whnf);first|refine vA ?_|(refine vD ?_ ?_<;>intro hc<;>try simp only [vL] at hc)|refine vT ?_|refine yN cco ⟨⟨rfl,rfl⟩,rfl⟩ ?_));all_goals try conv=>whnf
  ·rw [zvT,if_pos hk0];rfl
  all_goals exact absurd ‹zf m=0› hk0
end Go.Ab
namespace Go.Ab
open Go Go.Proofs
set_option maxRecDepth 10000
set_option maxHeartbeats 4000000
def exQ:KM:=⟨4,[12#64],[[4#64,8#64,4#64,8#64]]⟩
def zv4:KM:=⟨1,[1#64],[[1#64]]⟩
def zwD:KM:=⟨2,[2#64],[[2#64,2#64]]⟩
def zvu:KM:=⟨2,[],[[2#64,1#64]]⟩
theorem zkH {m:KM} {l:List Int} (hk0:zf m=0) (h:ptL m.W.toNat (z7 m 1)=ptL m.W.toNat (z7 m 0)) (h0:ptL m.W.toNat (z7 m 0)=l):zeS m=(l,0):=by
 have w1:=(zq hk0).w1
 rw [zeS,if_neg (by omega),← zrO (m:=m) (k:=0) (by omega) h,h0]
theorem zx9:zeS exQ=([0,0,2,2],0):=zkH (by decide) (by decide) (by decide)
theorem zxa:zeS zv4=([0],0):=zkH (by decide) (by decide) (by decide)
theorem zxb:zeS zwD=([0,1],0):=zkH (by decide) (by decide) (by decide)
theorem zw9:zeS zvu=([0,0],0):=zkH (by decide) (by decide) (by decide)
def zvq (m:KM):Option (List Int):=cond (decide (m=exQ)) (some [0,0,2,2]) (cond (decide (m=zv4)) (some [0]) (cond (decide (m=zwD)) (some [0,1]) (cond (decide (m=zvu)) (some [0,0]) none)))
theorem zw8 {m:KM} {l:List Int} (h:zvq m=some l):zeS m=(l,0):=by
 unfold zvq at h
 cases h1:decide (m=exQ) with
 | true=>rw [h1] at h;cases h;rw [of_decide_eq_true h1];exact zx9
 | false =>
  rw [h1] at h
  cases h2:decide (m=zv4) with
  | true=>rw [h2] at h;cases h;rw [of_decide_eq_true h2];exact zxa
  | false =>
   rw [h2] at h
   cases h3:decide (m=zwD) with
   | true=>rw [h3] at h;cases h;rw [of_decide_eq_true h3];exact zxb
   | false =>
    rw [h3] at h
    cases h4:decide (m=zvu) with
    | true=>rw [h4] at h;cases h;rw [of_decide_eq_true h4];exact zw9
    | false=>rw [h4] at h;cases h
def zqm:Fs:=fun f vs obs =>
 cond (Nat.beq f zdd) (match vs,obs with
  | [.d d,.d (.arr 1 a)],[]=>match zn0 d,ziL a with
   | some m,some p=>cond (decide (m.W≤12)) (some (.d (zsD (byL m p)),[])) none
   | _,_=>none
  | _,_=>none)
 (  cond (Nat.beq f zc4) (match vs,obs with
  | [.d d],[]=>match zn0 d with
   | some m=>match zvq m with
    | some l=>some (.d (.tup [dI l,.int .i64 0]),[])
    | none=>none
   | none=>none
  | _,_=>none)
 (cond (Nat.beq f zH) (match vs,obs with
  | [.d (.arr 1 a),.d (.arr 1 b)],[]=>match zh6 a,zh6 b with
   | some a,some b=>cond (ztc a) (some (.d (.int .i64 (zaT a b)),[])) none
   | _,_=>none
  | _,_=>none)
 (cond (Nat.beq f zaA) (match vs,obs with
  | [.d (.u64 w)],[]=>some (.d (.int .i64 (Lib.ctz 64 w.toNat)),[])
  | _,_=>none)
 (cond (Nat.beq f zdw) (match vs,obs with
  | [.d (.u64 w)],[]=>some (.d (.int .i64 (Sort.bitsLen w.toNat:Int)),[])
  | _,_=>none)
 (cond (Nat.beq f zep) (match vs,obs with
  | [.d d],[]=>match zn0 d with
   | some m=>some (.d (.int .i64 (zf m)),[])
   | none=>none
  | _,_=>none)
 (cond (Nat.beq f zeq) (match vs,obs with
  | [.d d,.d (.int .i64 w)],[]=>match zn0 d with
   | some m=>some (.d (.int .i64 (zjR m w)),[])
   | none=>none
  | _,_=>none) none))))))
def zy2 (f:Nat):Bool:=Nat.beq f zZ||(Nat.beq f zz||(Nat.beq f zed||(Nat.beq f zaH||Nat.beq f zaX)))
noncomputable def zx6:Cfg:=⟨zh Tryz.prog,zqm,fun _ _ _=>none,zy2,fun f=>Nat.beq f ziG||(Nat.beq f zhA||Nat.beq f zcR),150⟩
variable {T:Nat→Obj→Prop}
theorem zt9 (hT:zdB T) (hX:zhc T):zsk Tryz.prog T zqm:=by
 intro f vs obs v obs' h
 unfold zqm at h
 cases hb0:Nat.beq f zdd with
 | true =>
  rw [hb0,cond_true] at h
  rw [Nat.eq_of_beq_eq_true hb0]
  split at h
  ·split at h
   ·rename_i m p hm hp
    rw [zkP hm,zlY hp]
    cases hc:decide (m.W≤12) with
    | true=>rw [hc] at h;cases h;exact zyG m p fun _=>of_decide_eq_true hc
    | false=>rw [hc] at h;cases h
   ·cases h
  ·cases h
 | false =>
 rw [hb0,cond_false] at h
 cases h0:Nat.beq f zc4 with
 | true =>
  rw [h0,cond_true] at h
  rw [Nat.eq_of_beq_eq_true h0]
  split at h
  ·split at h
   ·rename_i m hm
    split at h
    ·rename_i hl
     cases h
     rw [zkP hm]
     have:=zj1 (T:=T) hT hX m
     rw [zw8 hl] at this
     exact this
    ·cases h
   ·cases h
  ·cases h
 | false =>
 rw [h0,cond_false] at h
 cases h1:Nat.beq f zH with
 | true =>
  rw [h1,cond_true] at h
  rw [Nat.eq_of_beq_eq_true h1]
  split at h
  ·split at h
   ·rename_i a b ha hb
    rw [zke ha,zke hb]
    cases hc:ztc a with
    | true=>rw [hc] at h;cases h;exact zgM _ _ (zxM hc)
    | false=>rw [hc] at h;cases h
   ·cases h
  ·cases h
 | false =>
  rw [h1,cond_false] at h
  cases h2:Nat.beq f zaA with
  | true =>
   rw [h2,cond_true] at h
   rw [Nat.eq_of_beq_eq_true h2]
   split at h
   ·cases h;exact hT _
   ·cases h
  | false =>
   rw [h2,cond_false] at h
   cases h3:Nat.beq f zdw with
   | true =>
    rw [h3,cond_true] at h
    rw [Nat.eq_of_beq_eq_true h3]
    split at h
    ·cases h;exact zp7 _
    ·cases h
   | false =>
    rw [h3,cond_false] at h
    cases h4:Nat.beq f zep with
    | true =>
     rw [h4,cond_true] at h
     rw [Nat.eq_of_beq_eq_true h4]
     split at h
     ·split at h
      ·rename_i hm;cases h;rw [zkP hm];exact zaq _
      ·cases h
     ·cases h
    | false =>
     rw [h4,cond_false] at h
     cases h5:Nat.beq f zeq with
     | true =>
      rw [h5,cond_true] at h
      rw [Nat.eq_of_beq_eq_true h5]
      split at h
      ·split at h
       ·rename_i hm;cases h;rw [zkP hm];exact zdM _ _
       ·cases h
      ·cases h
     | false=>rw [h5] at h;cases h
theorem zw4 (hT:zdB T) (hX:zhc T):zsi Tryz.prog T zx6:=⟨fun f c h=>h,zt9 hT hX,fun g vs obs xs h=>by cases h⟩
end Go.Ab
namespace Go.Ab
open Go Go.Proofs
set_option maxRecDepth 10000
set_option maxHeartbeats 4000000
variable {T:Nat→Obj→Prop}
set_option maxRecDepth 1000000 in
theorem zqR:evF zx6 60 zcR [] []=some (.d (.bool true),[]):=by kernel_rfl
theorem zyu (hT:zdB T) (hX:zhc T):Fn Tryz.prog T zcR [] [] (.d (.bool true)) []:=zom zy (zw4 hT hX) 60 _ _ _ _ _ zqR
end Go.Ab
namespace Go.Ab
open Go Go.Proofs
set_option maxRecDepth 10000
set_option maxHeartbeats 4000000
variable {T:Nat→Obj→Prop}
def zpl (m:KM) (i v:Nat):BitVec 64:=(m.rel.getD i []).getD v 0#64
end Go.Ab
namespace Go.Ab
open Go
theorem zoM {m:KM} {i v u:Nat} {r:Nat→Nat→Bool} (h:(zt m)[i]? = some r):(zpl m i v).getLsbD u=r v u:=by
 unfold zt at h
 rw [List.getElem?_map,Option.map_eq_some_iff] at h
 obtain ⟨s,hs,rfl⟩:=h
 unfold zpl rb
 simp [List.getD,hs]
theorem zqf {m:KM} (g:zfy m) {i v u:Nat} (h:(zpl m i v).getLsbD u=true):u < m.W.toNat:=by
 have w1:=g.w1
 unfold zpl at h
 by_cases hi:i < m.rel.length
 ·by_cases hv:v < (m.rel[i]).length
  ·have e:(m.rel.getD i []).getD v 0#64=(m.rel[i])[v]:=by simp [List.getD,hi,hv]
   rw [e] at h
   exact (zbG (by omega)).1 (g.rel _ (List.getElem_mem hi) _ (List.getElem_mem hv)) u h
  ·simp [List.getD,hi,hv] at h
 ·simp [List.getD,hi] at h
theorem zwa {m:KM} {q:Nat→Nat} (hn:m.W.toNat≤64):zcK (zG m.W.toNat q) (zqH m.W.toNat q (zu m)) (zu (zW m q)) ((zt m).map (zf3 m.W.toNat q)) (zt (zW m q)) fun x=>x :=
 ⟨⟨fun _ h=>h,fun _ _ _ _ e=>e⟩,fun i hi=>zxC hn hi,zwb hn⟩
theorem zih (m:KM) (q:Nat→Nat):(zW m q).W.toNat=zG m.W.toNat q:=by show ((zG m.W.toNat q:Nat):Int).toNat=_;rw [Int.toNat_natCast]
theorem zn3 {m:KM} (hm:zf m=0):zbK m.W.toNat (zW m (cq m)).W.toNat (zt m) (zt (zW m (cq m))) (zu m) (zu (zW m (cq m))) fun w i=>w < m.W.toNat∧i=zP (cq m) w:=by
 have g:=zq hm
 have w1:=g.w1
 have w2:=g.w2
 have S:=zkI (m:=m) (by omega) (by omega)
 have B:=S.quo.trans (zwa (m:=m) (q:=cq m) (by omega)).bis
 rw [zih]
 refine ⟨B.len,fun {v v'} h=>⟨h.1,?_⟩,fun {v v'} h=>?_,fun {i r r'} h1 h2 {v v' u} h hu hr=>?_,fun {i r r'} h1 h2 {v v' u} h hu hr=>?_⟩
 ·rw [h.2];exact zb5 S.canon h.1
 ·exact B.fac ⟨v',h,by rw [h.2];exact zb5 S.canon h.1,rfl⟩
 ·obtain ⟨u',a1,a2,x,a3,a4,rfl⟩:=B.forth h1 h2 ⟨v',h,by rw [h.2];exact zb5 S.canon h.1,rfl⟩ hu hr
  exact ⟨u',a1,a2,a3⟩
 ·obtain ⟨u',a1,a2,x,a3,a4,rfl⟩:=B.back h1 h2 ⟨v',h,by rw [h.2];exact zb5 S.canon h.1,rfl⟩ hu hr
  exact ⟨u',a1,a2,a3⟩
theorem zuo {m:KM} (hm:zf m=0) : ∀ i,i < (zW m (cq m)).W.toNat→cq (zW m (cq m)) i=i:=by
 have g:=zq hm
 have w1:=g.w1
 have w2:=g.w2
 have S:=zkI (m:=m) (by omega) (by omega)
 have B:=zn3 hm
 have gQ:=zq (zup hm S.canon)
 have q1:=gQ.w1
 have q2:=gQ.w2
 have S':=zkI (m:=zW m (cq m)) (by omega) (by omega)
 intro i hi
 have hle:=S'.canon.le i hi
 have hid:=S'.canon.idem i hi
 generalize hj:cq (zW m (cq m)) i=j at *
 rw [zih] at hi
 obtain ⟨u,-,hu,-,hui⟩:=ziW S.canon hi
 obtain ⟨v,-,hv,-,hvj⟩:=ziW S.canon (i:=j) (by omega)
 have:=zil (by omega) ((B.trans S'.bis).trans B.symm) m.W.toNat v u ⟨i,⟨j,⟨hv,hvj.symm⟩,by rw [zih];omega,by rw [zih];omega,by rw [hid,hj]⟩,hu,hui.symm⟩
 rw [← hui,← hvj]
 exact (zl9 S.canon hv hu).2 this
end Go.Ab
namespace Go.Ab
open Go Go.Proofs
set_option maxRecDepth 10000
set_option maxHeartbeats 4000000
variable {T:Nat→Obj→Prop}
def zcC (a b:KM):KM:=⟨a.W+b.W,List.zipWith (fun (x y:BitVec 64)=>x|||y <<< a.W.toNat) a.val b.val,List.zipWith (fun r s=>r++s.map fun (x:BitVec 64)=>x <<< a.W.toNat) a.rel b.rel⟩
def zmm (a b:KM):KM×Int:=if zf a≠0 then (zcq,zf a) else if zf b≠0 then (zcq,zf b) else if a.rel.length≠b.rel.length∨a.val.length≠b.val.length then (zcq,1) else if 64 < a.W+b.W then (zcq,8) else (zcC a b,0)
theorem ztP (l:List (BitVec 64)) (h:l≠[]) (hl:l.length≤1000):Fn Tryz.prog T zce [.d (dU l)] [] (.own 0) [some (.row 1 (l.map D.u64))]:=by
 refine zS zy ze2 (by show 1≤8;decide) _ (fun e env mem n h=>h) ?_
 (repeat' ((conv=>whnf);first|refine vA ?_|refine vB fun b hb=>?_|refine vE ?_|(refine vF ?_ ?_<;>intro hc)|refine vT ?_|(refine vP ?_ ?_;·(simp only [vM] at *;omega))|fail));all_goals try conv=>whnf
 ·refine ⟨trivial,_,[(0,1)],[],rfl,.inl (by (repeat' exact rfl)),⟨by rfl,by rfl,by rfl,trivial,by (repeat' first|exact trivial|exact rfl|refine And.intro ?_ ?_|refine ⟨_,rfl,?_⟩|exact of_decide_eq_true rfl)⟩,by (repeat' exact trivial)⟩
 ·exact absurd (List.map_eq_nil_iff.1 (hb (by simpa using hc))) h
set_option maxHeartbeats 8000000 in
theorem zy0 (a b:KM):Fn Tryz.prog T zjc [.d (dKM a),.d (dKM b)] [] (.d (dKI (zmm a b))) []:=by
 by_cases h:zf a=0∧zf b=0∧a.rel.length=b.rel.length∧a.val.length=b.val.length∧a.W+b.W≤64
 ·obtain ⟨ha,hb0,hr,hv,hW⟩:=h
  have ga:=zq ha
  have gb:=zq hb0
  have w1:=ga.w1;have w2:=ga.w2;have n4:=ga.n4;have v8:=ga.v8
  have u1:=gb.w1;have u2:=gb.w2
  have ca:=zaq (T:=T) a
  have cb:=zaq (T:=T) b
  rw [ha] at ca
  rw [hb0] at cb
  rw [zmm,if_neg (by omega),if_neg (by omega),if_neg (by omega),if_neg (by omega)]
  refine zi zy zjh (by show 2≤118;decide) ?_
  (repeat' ((conv=>whnf);first|refine vA ?_|refine vH ?_|((first|refine vD ?_ ?_|refine vF ?_ ?_)<;>intro hc<;>try simp only [vL] at hc)|refine vJ fun hg=>?_|refine vT ?_|(refine vO ?_ ?_;·omega)|refine yD ca ⟨⟨rfl,rfl⟩,rfl⟩ rfl ?_|refine yD cb ⟨⟨rfl,rfl⟩,rfl⟩ rfl ?_));all_goals try conv=>whnf
  iterate 3 (exfalso;omega)
  refine zo (fun ((k,zs):Nat×List D)=>[(2,.ptr 0 0),(3,.ptr 1 0),(4,.ptr 2 0),(8,.ptr 3 0),(59,.d (dU a.val)),(60,.d (.int .i64 ((a.val.map D.u64).length:Int))),(61,.d (.int .i64 ((k:Int))))]) (fun ((k,zs):Nat×List D)=>[(0,some (zX a)),(1,some (zX b)),(2,some (.box [.d (.int .i64 0),.nils 1,.nils 1])),(3,some (.box [.d (.int .i64 (a.W+b.W)),.own 4,.nils 1])),(4,some (.row 1 zs))]) 5 (fun ((k,zs):Nat×List D)=>k≤a.val.length∧zs=((List.zipWith (fun (x y:BitVec 64)=>x|||y <<< a.W.toNat) a.val b.val).take k).map D.u64) (fun ((k,zs):Nat×List D)=>a.val.length - k) ((0,[])) [(0,0),(1,1),(2,2),(3,3)]   [4] (⟨by omega,by simp⟩) (by (refine ⟨rfl,rfl,rfl,?_,?_⟩;repeat' first|exact trivial|exact rfl|exact ⟨_,rfl⟩|refine And.intro ?_ ?_|refine ⟨_,rfl,?_⟩|decide)) ?_
  rintro ⟨k,zs⟩ ⟨hk,hz⟩
  have hzl:zs.length≤8:=by rw [hz];simp;omega
  by_cases hkl:k < a.val.length
  ·obtain ⟨x,hx1⟩ : ∃ x,a.val[k]? = some x:=⟨_,List.getElem?_eq_getElem hkl⟩
   obtain ⟨y,hy1⟩ : ∃ y,b.val[k]? = some y:=⟨_,List.getElem?_eq_getElem (by omega)⟩
   (repeat' ((conv=>whnf);first|refine vA ?_|(refine vF ?_ ?_<;>intro hc<;>try simp only [vL] at hc)|refine vJ fun hg=>?_|refine vT ?_|refine vN ‹_› ?_|((first|refine vO ?_ ?_|refine vP ?_ ?_);·first|omega|(simp only [vM] at *;omega))|(refine vU ?_ ?_;·kernel_rfl)|fail));all_goals try conv=>whnf
   ·refine ⟨(k+1,_),[(0,0),(1,1),(2,2),(3,3),(4,6)],[],?_,?_,by (refine ⟨rfl,rfl,rfl,?_,?_⟩;repeat' first|exact trivial|exact rfl|refine And.intro ?_ ?_|refine ⟨_,rfl,?_⟩|decide)⟩
    ·refine ⟨by omega,?_⟩
     rw [hz,List.take_add_one,List.map_append]
     simp [List.getElem?_zipWith,hx1,hy1]
    ·((simp only [vM] at *;omega))
   all_goals (exfalso;omega)
  ·have hzz:zs=(List.zipWith (fun (x y:BitVec 64)=>x|||y <<< a.W.toNat) a.val b.val).map D.u64:=by rw [hz,List.take_of_length_le (by simp;omega)]
   clear hz
   subst hzz
   (repeat' ((conv=>whnf);first|refine vA ?_|(refine vF ?_ ?_<;>intro hc<;>try simp only [vL] at hc)|refine vJ fun hg=>?_|refine vT ?_|(refine vQ ?_ fun x hx=>?_;·omega)|((first|refine vO ?_ ?_|refine vP ?_ ?_);·omega)|(refine vU ?_ ?_;·kernel_rfl)|fail));all_goals try conv=>whnf
   ·exfalso;omega
   refine zo (fun ((k,zs):Nat×List D)=>[(2,.ptr 0 0),(3,.ptr 1 0),(4,.ptr 2 0),(8,.ptr 3 0),(83,.d (dUU a.rel)),(84,.d (.int .i64 ((a.rel.map dU).length:Int))),(85,.d (.int .i64 ((k:Int))))]) (fun ((k,zs):Nat×List D)=>[(0,some (zX a)),(1,some (zX b)),(2,some (.box [.d (.int .i64 0),.nils 1,.nils 1])),(3,some (.box [.d (.int .i64 (a.W+b.W)),.own 4,.own 5])),(4,some (.row 1 ((List.zipWith (fun (x y:BitVec 64)=>x|||y <<< a.W.toNat) a.val b.val).map D.u64))),(5,some (.row 1 zs))]) 6 (fun ((k,zs):Nat×List D)=>k≤a.rel.length∧zs=((List.zipWith (fun r s=>r++s.map fun (x:BitVec 64)=>x <<< a.W.toNat) a.rel b.rel).take k).map dU) (fun ((k,zs):Nat×List D)=>a.rel.length - k) ((0,[])) [(0,0),(1,1),(2,2),(3,3),(4,4)]   [5] (⟨by omega,by simp⟩) (by (refine ⟨rfl,rfl,rfl,?_,?_⟩;repeat' first|exact trivial|exact rfl|exact ⟨_,rfl⟩|refine And.intro ?_ ?_|refine ⟨_,rfl,?_⟩|decide)) ?_
   clear hk hkl hzl
   rintro ⟨k,zs⟩ ⟨hk,hz⟩
   have hzl:zs.length≤4:=by rw [hz];simp;omega
   by_cases hkl:k < a.rel.length
   ·obtain ⟨r,har⟩ : ∃ r,a.rel[k]? = some r:=⟨_,List.getElem?_eq_getElem hkl⟩
    obtain ⟨s,hbr⟩ : ∃ s,b.rel[k]? = some s:=⟨_,List.getElem?_eq_getElem (by omega)⟩
    have hrl:=ga.len r (List.mem_of_getElem? har)
    have hsl:=gb.len s (List.mem_of_getElem? hbr)
    have hcl:=ztP (T:=T) r (fun e=>by subst e;simp at hrl;omega) (by omega)
    (repeat' ((conv=>whnf);first|refine vA ?_|(refine vF ?_ ?_<;>intro hc<;>try simp only [vL] at hc)|refine vT ?_|refine vN ‹_› ?_));all_goals try conv=>whnf
    ·refine zU.res (hcl) (by (repeat refine ⟨⟨rfl,rfl⟩,?_⟩);rfl) ?_
     (repeat' ((conv=>whnf);first|refine vA ?_|refine vJ fun hg=>?_|refine vT ?_|refine vN ‹_› ?_));all_goals try conv=>whnf
     refine zo (fun ((j,ys):Nat×List D)=>[(2,.ptr 0 0),(3,.ptr 1 0),(4,.ptr 2 0),(8,.ptr 3 0),(13,.own 6),(83,.d (dUU a.rel)),(84,.d (.int .i64 ((a.rel.map dU).length:Int))),(85,.d (.int .i64 ((k:Int)))),(96,.d (dU s)),(97,.d (.int .i64 ((s.map D.u64).length:Int))),(98,.d (.int .i64 ((j:Int))))]) (fun ((j,ys):Nat×List D)=>[(0,some (zX a)),(1,some (zX b)),(2,some (.box [.d (.int .i64 0),.nils 1,.nils 1])),(3,some (.box [.d (.int .i64 (a.W+b.W)),.own 4,.own 5])),(4,some (.row 1 ((List.zipWith (fun (x y:BitVec 64)=>x|||y <<< a.W.toNat) a.val b.val).map D.u64))),(5,some (.row 1 zs)),(6,some (.row 1 ys))]) 7 (fun ((j,ys):Nat×List D)=>j≤s.length∧ys=(r++(s.take j).map fun (x:BitVec 64)=>x <<< a.W.toNat).map D.u64) (fun ((j,ys):Nat×List D)=>s.length - j) ((0,r.map D.u64)) [(0,0),(1,1),(2,2),(3,3),(4,4),(5,5),(6,6)] [] (⟨by omega,by simp⟩) (by (refine ⟨rfl,rfl,rfl,?_,?_⟩;repeat' first|exact trivial|exact rfl|refine And.intro ?_ ?_|refine ⟨_,rfl,?_⟩|decide)) ?_
     rintro ⟨j,ys⟩ ⟨hj,hy⟩
     have hyl:ys.length≤128:=by rw [hy];simp;omega
     by_cases hjl:j < s.length
     ·(repeat' ((conv=>whnf);first|refine vA ?_|(refine vF ?_ ?_<;>intro hc<;>try simp only [vL] at hc)|refine vT ?_|(refine vQ ?_ fun x hx=>?_;·omega)|((first|refine vO ?_ ?_|refine vP ?_ ?_);·first|omega|(simp only [vM] at *;omega))|fail));all_goals try conv=>whnf
      ·refine ⟨(j+1,_),[(0,0),(1,1),(2,2),(3,3),(4,4),(5,5),(6,8)],[],?_,?_,by (refine ⟨rfl,rfl,rfl,?_,?_⟩;repeat' first|exact trivial|exact rfl|refine And.intro ?_ ?_|refine ⟨_,rfl,?_⟩|decide)⟩
       ·refine ⟨by (omega),?_⟩
        rw [hy,List.take_add_one,hx,List.map_append]
        simp
       ·((simp only [vM] at *;omega))
      ·exfalso;omega
     ·obtain rfl:j=s.length:=by omega
      subst hy
      (repeat' ((conv=>whnf);first|refine vA ?_|(refine vF ?_ ?_<;>intro hc<;>try simp only [vL] at hc)|refine vT ?_|(refine vQ ?_ fun x hx=>?_;·omega)|((first|refine vO ?_ ?_|refine vP ?_ ?_);·first|omega|(simp only [vM] at *;omega))|fail));all_goals try conv=>whnf
      ·exfalso;omega
      ·refine ⟨(k+1,_),[(0,0),(1,1),(2,2),(3,3),(4,4),(5,8)],[],?_,?_,by (refine ⟨rfl,rfl,rfl,?_,?_⟩;repeat' first|exact trivial|exact rfl|refine And.intro ?_ ?_|refine ⟨_,rfl,?_⟩|decide)⟩
       ·refine ⟨by (omega),?_⟩
        rw [hz,List.take_add_one,List.map_append]
        simp [List.getElem?_zipWith,har,hbr]
       ·((simp only [vM] at *;omega))
    ·exfalso;omega
   ·have hzz:zs=(List.zipWith (fun r s=>r++s.map fun (x:BitVec 64)=>x <<< a.W.toNat) a.rel b.rel).map dU:=by rw [hz,List.take_of_length_le (by simp;omega)]
    clear hz
    subst hzz
    (repeat' ((conv=>whnf);first|refine vA ?_|(refine vF ?_ ?_<;>intro hc<;>try simp only [vL] at hc)|refine vT ?_|(refine vQ ?_ fun x hx=>?_;·omega)|fail));all_goals try conv=>whnf
    ·exfalso;omega
    rfl
 ·have wa:zf a=0→1≤a.W∧a.W≤64:=fun h=>⟨(zq h).w1,(zq h).w2⟩
  have wb:zf b=0→1≤b.W∧b.W≤64:=fun h=>⟨(zq h).w1,(zq h).w2⟩
  refine zi zy zjh (by show 2≤118;decide) ?_
  (repeat' ((conv=>whnf);first|refine vA ?_|((first|refine vD ?_ ?_|refine vF ?_ ?_)<;>intro hc<;>try simp only [vL] at hc)|refine vJ fun hg=>?_|refine vT ?_|(refine vO ?_ ?_;·omega)|refine yD (zaq _) ⟨⟨rfl,rfl⟩,rfl⟩ rfl ?_));all_goals try conv=>whnf
  ·rw [zmm,if_pos ‹_›];rfl
  ·rw [zmm,if_neg (by omega),if_pos ‹_›];rfl
  ·rw [zmm,if_neg (by omega),if_neg (by omega),if_pos (.inl (by omega))];rfl
  ·rw [zmm,if_neg (by omega),if_neg (by omega),if_pos (.inr (by omega))];rfl
  ·rw [zmm,if_neg (by omega),if_neg (by omega),if_neg (by omega),if_pos (by omega)];rfl
  all_goals (exfalso;refine h ⟨‹_›,‹_›,?_,?_,?_⟩<;>omega)
end Go.Ab
namespace Go.Ab
open Go
theorem zhB {a b:List (BitVec 64)} {w u:Nat} : ∀ k,(∀ i,i < k→(a.getD i 0#64).getLsbD w=(b.getD i 0#64).getLsbD u)→zae a w k=zae b u k
 | 0,_=>rfl
 | k+1,h=>by
  show zae a w k+_=zae b u k+_
  rw [zhB k fun i hi=>h i (by omega),h k (by omega)]
theorem zyP {x y:BitVec 64} {n i:Nat} (hi:i < n):(x|||y <<< n).getLsbD i=x.getLsbD i:=by
 rw [BitVec.getLsbD_or,BitVec.getLsbD_shiftLeft]
 simp [hi]
theorem zuD {y:BitVec 64} {n j:Nat} (h:n+j < 64):(y <<< n).getLsbD (n+j)=y.getLsbD j:=by
 rw [BitVec.getLsbD_shiftLeft]
 simp [h]
theorem zoa {y:BitVec 64} {n i:Nat} (h:(y <<< n).getLsbD i=true) : ∃ j,i=n+j∧y.getLsbD j=true:=by
 rw [BitVec.getLsbD_shiftLeft] at h
 simp only [Bool.and_eq_true,Bool.not_eq_true',decide_eq_true_eq,decide_eq_false_iff_not] at h
 exact ⟨i - n,by omega,h.2⟩
section
variable {a b:KM} (ga:zfy a) (gb:zfy b) (hr:a.rel.length=b.rel.length) (hv:a.val.length=b.val.length) (hW:a.W+b.W≤64)
include ga gb hr hv hW
theorem zwW:(zcC a b).W.toNat=a.W.toNat+b.W.toNat:=by
 have:=ga.w1;have:=gb.w1
 show (a.W+b.W).toNat=_;omega
theorem zkx {i:Nat} {t:List (BitVec 64)} (h:(zcC a b).rel[i]? = some t) : ∃ r s,a.rel[i]? = some r∧b.rel[i]? = some s∧t=r++s.map fun (x:BitVec 64)=>x <<< a.W.toNat:=by
 have h:=h
 unfold zcC at h
 rw [List.getElem?_zipWith] at h
 cases h1:a.rel[i]? with
 | none=>rw [h1] at h;cases h
 | some r =>
  cases h2:b.rel[i]? with
  | none=>rw [h1,h2] at h;cases h
  | some s=>rw [h1,h2] at h;cases h;exact ⟨r,s,rfl,rfl,rfl⟩
theorem znA {r s:List (BitVec 64)} (hra:r∈a.rel) {v w:Nat} (hvl:v < a.W.toNat):rb (r++s.map fun (x:BitVec 64)=>x <<< a.W.toNat) v w=rb r v w:=by
 have hl:=ga.len r hra
 unfold rb
 rw [List.getD,List.getElem?_append_left (by omega),List.getD]
theorem znz {r s:List (BitVec 64)} (hra:r∈a.rel) (hsb:s∈b.rel) {v w:Nat} (hvl:v < b.W.toNat):rb (r++s.map fun (x:BitVec 64)=>x <<< a.W.toNat) (a.W.toNat+v) w=((s.getD v 0#64) <<< a.W.toNat).getLsbD w:=by
 have hl:=ga.len r hra
 have hl2:=gb.len s hsb
 have w1:=ga.w1
 unfold rb
 rw [List.getD,List.getElem?_append_right (by omega),show a.W.toNat+v - r.length=v by omega,List.getElem?_map]
 obtain ⟨x,hx⟩ : ∃ x,s[v]? = some x:=⟨_,List.getElem?_eq_getElem (by omega)⟩
 rw [hx,List.getD,hx];rfl
theorem zy5:zfy (zcC a b):=by
 have wa:=ga.w1;have wb:=gb.w1
 refine ⟨by show 1≤a.W+b.W;omega,hW,by show (List.zipWith _ _ _).length≤4;rw [List.length_zipWith];have:=ga.n4;omega,by show (List.zipWith _ _ _).length≤8;rw [List.length_zipWith];have:=ga.v8;omega,fun t ht=>?_,fun s hs=>?_,fun t ht s hs=>?_⟩
 ·obtain ⟨i,hi⟩:=List.mem_iff_getElem?.1 ht
  obtain ⟨r,s,h1,h2,rfl⟩:=zkx ga gb hr hv hW hi
  have h3:=ga.len r (List.mem_of_getElem? h1)
  have h4:=gb.len s (List.mem_of_getElem? h2)
  show ((_:Nat):Int)=a.W+b.W
  rw [List.length_append,List.length_map];omega
 ·obtain ⟨i,hi⟩:=List.mem_iff_getElem?.1 hs
  have hi:(List.zipWith (fun (x y:BitVec 64)=>x|||y <<< a.W.toNat) a.val b.val)[i]? = some s:=hi
  rw [List.getElem?_zipWith] at hi
  cases h1:a.val[i]? with
  | none=>rw [h1] at hi;cases hi
  | some x =>
   cases h2:b.val[i]? with
   | none=>rw [h1,h2] at hi;cases hi
   | some y =>
    rw [h1,h2] at hi;cases hi
    refine (zbG (n:=a.W+b.W) (by omega)).2 fun j hj=>?_
    rw [BitVec.getLsbD_or,Bool.or_eq_true] at hj
    rcases hj with hj|hj
    ·have:=(zbG (by omega)).1 (ga.val _ (List.mem_of_getElem? h1)) j hj;omega
    ·obtain ⟨k,rfl,hk⟩:=zoa hj
     have:=(zbG (by omega)).1 (gb.val _ (List.mem_of_getElem? h2)) k hk;omega
 ·obtain ⟨i,hi⟩:=List.mem_iff_getElem?.1 ht
  obtain ⟨r,s',h1,h2,rfl⟩:=zkx ga gb hr hv hW hi
  refine (zbG (n:=a.W+b.W) (by omega)).2 fun j hj=>?_
  rcases List.mem_append.1 hs with h|h
  ·have:=(zbG (by omega)).1 (ga.rel _ (List.mem_of_getElem? h1) _ h) j hj;omega
  ·obtain ⟨y,hy,rfl⟩:=List.mem_map.1 h
   obtain ⟨k,rfl,hk⟩:=zoa hj
   have:=(zbG (by omega)).1 (gb.rel _ (List.mem_of_getElem? h2) _ hy) k hk;omega
theorem ztl {v:Nat} (hvl:v < a.W.toNat):zu (zcC a b) v=zu a v:=by
 unfold zu
 have e:(zcC a b).val.length=a.val.length:=by show (List.zipWith _ _ _).length=_;rw [List.length_zipWith];omega
 rw [e,zhB (b:=a.val) (u:=v) a.val.length fun i hi=>?_]
 obtain ⟨x,hx⟩ : ∃ x,a.val[i]? = some x:=⟨_,List.getElem?_eq_getElem hi⟩
 obtain ⟨y,hy⟩ : ∃ y,b.val[i]? = some y:=⟨_,List.getElem?_eq_getElem (by omega)⟩
 have hu:(zcC a b).val[i]? = some (x|||y <<< a.W.toNat):=by show (List.zipWith _ _ _)[i]? = _;rw [List.getElem?_zipWith,hx,hy]
 rw [List.getD,hu,List.getD,hx]
 exact zyP hvl
theorem ztk {v:Nat} (hvl:v < b.W.toNat):zu (zcC a b) (a.W.toNat+v)=zu b v:=by
 have w1:=ga.w1;have w2:=gb.w1
 unfold zu
 have e:(zcC a b).val.length=b.val.length:=by show (List.zipWith _ _ _).length=_;rw [List.length_zipWith];omega
 rw [e,zhB (b:=b.val) (u:=v) b.val.length fun i hi=>?_]
 obtain ⟨x,hx⟩ : ∃ x,a.val[i]? = some x:=⟨_,List.getElem?_eq_getElem (by omega)⟩
 obtain ⟨y,hy⟩ : ∃ y,b.val[i]? = some y:=⟨_,List.getElem?_eq_getElem hi⟩
 have hu:(zcC a b).val[i]? = some (x|||y <<< a.W.toNat):=by show (List.zipWith _ _ _)[i]? = _;rw [List.getElem?_zipWith,hx,hy]
 rw [List.getD,hu,List.getD,hy]
 show (x|||y <<< a.W.toNat).getLsbD (a.W.toNat+v)=y.getLsbD v
 have hx0:x.getLsbD (a.W.toNat+v)=false:=by
  rw [← Bool.not_eq_true]
  intro h
  have:=(zbG (by omega)).1 (ga.val _ (List.mem_of_getElem? hx)) _ h
  omega
 rw [BitVec.getLsbD_or,hx0,Bool.false_or,zuD (by omega)]
theorem zq3 {i:Nat} {r r':Nat→Nat→Bool} (h':(zt (zcC a b))[i]? = some r') : ∃ x y,x∈a.rel∧y∈b.rel∧(zt a)[i]? = some (fun v w=>rb x v w)∧(zt b)[i]? = some (fun v w=>rb y v w)∧r'=fun v w=>rb (x++y.map fun (s:BitVec 64)=>s <<< a.W.toNat) v w:=by
 unfold zt at h'
 rw [List.getElem?_map,Option.map_eq_some_iff] at h'
 obtain ⟨t,ht,rfl⟩:=h'
 obtain ⟨x,y,h1,h2,rfl⟩:=zkx ga gb hr hv hW ht
 exact ⟨x,y,List.mem_of_getElem? h1,List.mem_of_getElem? h2,by unfold zt;rw [List.getElem?_map,h1];rfl,by unfold zt;rw [List.getElem?_map,h2];rfl,rfl⟩
theorem zsh:(zt (zcC a b)).length=(zt a).length∧(zt (zcC a b)).length=(zt b).length:=by
 rw [zbS,zbS,zbS]
 have:(zcC a b).rel.length=a.rel.length:=by show (List.zipWith _ _ _).length=_;rw [List.length_zipWith];omega
 omega
theorem zy6:zbK a.W.toNat (zcC a b).W.toNat (zt a) (zt (zcC a b)) (zu a) (zu (zcC a b)) fun v v'=>v < a.W.toNat∧v'=v:=by
 have hWu:=zwW ga gb hr hv hW
 refine ⟨(zsh ga gb hr hv hW).1,fun {v v'} h=>⟨h.1,by rw [hWu];omega⟩,fun {v v'} h=>by rw [h.2];exact (ztl ga gb hr hv hW h.1).symm,fun {i r r'} h1 h2 {v v' u} h hu hb=>?_,fun {i r r'} h1 h2 {v v' u} h hu hb=>?_⟩
 all_goals
  obtain ⟨x,y,hx,hy,e1,e2,rfl⟩:=zq3 (r:=r) ga gb hr hv hW h2
  rw [h1] at e1
  cases e1
  obtain ⟨hvl,rfl⟩:=h
 ·exact ⟨u,by rw [hWu];omega,by show rb _ _ _=true;rw [znA ga gb hr hv hW hx hvl];exact hb,hu,rfl⟩
 ·have hb:rb _ _ _=true:=hb
  rw [znA ga gb hr hv hW hx hvl] at hb
  have hul:u < a.W.toNat:=zqf ga (i:=i) (v:=v') (by rw [zoM h1];exact hb)
  exact ⟨u,hul,hb,hul,rfl⟩
theorem zyW:zbK b.W.toNat (zcC a b).W.toNat (zt b) (zt (zcC a b)) (zu b) (zu (zcC a b)) fun v v'=>v < b.W.toNat∧v'=a.W.toNat+v:=by
 have hWu:=zwW ga gb hr hv hW
 have w1:=ga.w1;have w2:=gb.w1
 refine ⟨(zsh ga gb hr hv hW).2,fun {v v'} h=>⟨h.1,by rw [hWu];omega⟩,fun {v v'} h=>by rw [h.2];exact (ztk ga gb hr hv hW h.1).symm,fun {i r r'} h1 h2 {v v' u} h hu hb=>?_,fun {i r r'} h1 h2 {v v' u} h hu hb=>?_⟩
 all_goals
  obtain ⟨x,y,hx,hy,e1,e2,rfl⟩:=zq3 (r:=r) ga gb hr hv hW h2
  rw [h1] at e2
  cases e2
  obtain ⟨hvl,rfl⟩:=h
 ·refine ⟨a.W.toNat+u,by rw [hWu];omega,?_,hu,rfl⟩
  show rb _ _ _=true
  rw [znz ga gb hr hv hW hx hy hvl,zuD (by omega)]
  exact hb
 ·have hb:rb _ _ _=true:=hb
  rw [znz ga gb hr hv hW hx hy hvl] at hb
  obtain ⟨j,rfl,hj⟩:=zoa hb
  have hjl:j < b.W.toNat:=zqf gb (i:=i) (v:=v) (by rw [zoM h1];exact hj)
  exact ⟨j,hjl,hj,hjl,rfl⟩
end
theorem zbK.or {n n':Nat} {R R':zN} {fa fb:Nat→Int} {Z Z':Nat→Nat→Prop} (B:zbK n n' R R' fa fb Z) (B':zbK n n' R R' fa fb Z'):zbK n n' R R' fa fb fun v v'=>Z v v'∨Z' v v' where
 len:=B.len
 lt h:=h.elim B.lt B'.lt
 fac h:=h.elim B.fac B'.fac
 forth {i r r'} h1 h2 {v v' u} h hu hr:=by
  rcases h with h|h
  ·obtain ⟨x,a,b,c⟩:=B.forth h1 h2 h hu hr;exact ⟨x,a,b,.inl c⟩
  ·obtain ⟨x,a,b,c⟩:=B'.forth h1 h2 h hu hr;exact ⟨x,a,b,.inr c⟩
 back {i r r'} h1 h2 {v v' u} h hu hr:=by
  rcases h with h|h
  ·obtain ⟨x,a,b,c⟩:=B.back h1 h2 h hu hr;exact ⟨x,a,b,.inl c⟩
  ·obtain ⟨x,a,b,c⟩:=B'.back h1 h2 h hu hr;exact ⟨x,a,b,.inr c⟩
theorem zy1 {m r:KM} (hm:zf m=0) (hr:zf r=0) {Z:Nat→Nat→Prop} (B:zbK m.W.toNat r.W.toNat (zt m) (zt r) (zu m) (zu r) Z) (ht : ∀ v,v < m.W.toNat → ∃ v',Z v v') (hs : ∀ v',v' < r.W.toNat → ∃ v,Z v v') :
  (zW r (cq r)).W=(zW m (cq m)).W ∧ ∃ f,zcK (zW m (cq m)).W.toNat (zu (zW m (cq m))) (zu (zW r (cq r))) (zt (zW m (cq m))) (zt (zW r (cq r))) f:=by
 have key : ∀ {x:KM} (hx:zf x=0),1≤(zW x (cq x)).W∧zpt (zW x (cq x)).W.toNat (zt (zW x (cq x))) (zu (zW x (cq x)))∧(∀ i,i < (zW x (cq x)).W.toNat → ∃ w,w < x.W.toNat∧zP (cq x) w=i) ∧ ∀ w,w < x.W.toNat→zP (cq x) w < (zW x (cq x)).W.toNat:=fun {x} hx=>by
  have g:=zq (zup hx (zfk x))
  have q1:=g.w1;have q2:=g.w2
  refine ⟨q1,fun i hi=>by rw [← zya (m:=zW x (cq x)) (by omega) (by omega) hi];exact zuo hx i hi,fun i hi=>?_,fun w hw=>?_⟩
  ·rw [zih] at hi
   obtain ⟨u,-,hu,-,e⟩:=ziW (zfk x) hi
   exact ⟨u,hu,e⟩
  ·rw [zih];exact zb5 (zfk x) hw
 obtain ⟨k1,k2,k3,k4⟩:=key hm
 obtain ⟨l1,l2,l3,l4⟩:=key hr
 have BB:=((zn3 hm).symm.trans B).trans (zn3 hr)
 obtain ⟨e,f,hf,-⟩:=zvy k2 l2 BB (fun i hi=>by
  obtain ⟨w,hw,e⟩:=k3 i hi
  obtain ⟨w',hz⟩:=ht w hw
  exact ⟨_,w',⟨w,⟨hw,e.symm⟩,hz⟩,(B.lt hz).2,rfl⟩) (fun i hi=>by
  obtain ⟨w,hw,e⟩:=l3 i hi
  obtain ⟨w',hz⟩:=hs w hw
  exact ⟨_,w,⟨w',⟨(B.lt hz).1,rfl⟩,hz⟩,hw,e.symm⟩)
 exact ⟨by omega,f,hf⟩
theorem zyV {a b:KM} (ha:zf a=0) (hb:zf b=0) (hW:b.W=a.W) (hv:a.val.length=b.val.length) (hr:a.rel.length=b.rel.length) (h12:a.W≤12) {f:Nat→Nat} (hi:zcK a.W.toNat (zu a) (zu b) (zt a) (zt b) f) : ∃ l,ze1 a b=(l,0)∧zch a b l=0:=by
 have h0:zbo a b=0:=by unfold zbo;simp [ha,hb,hr,hv]
 have hx:zcK a.W.toNat (zu a) (zu b) (zt a) (zt b) (fnL ((List.range a.W.toNat).map f)):=hi.congr fun w hw=>by simp [fnL,hw]
 have hm:=(zoz (R':=zt b) (R:=zt a) (by rw [zbS,zbS];exact hr.symm)).2 ⟨by simp,hx⟩
 rw [ze1,if_neg (by omega),if_neg (by omega),if_neg (by omega)]
 cases hD:dfs (okM a b) a.W.toNat a.W.toNat [] with
 | nil=>rw [show dfs (okM a b) a.W.toNat a.W.toNat []=_ from hD] at hm;cases hm
 | cons y l =>
  refine ⟨_,rfl,?_⟩
  have hy:y∈dfs (okM a b) a.W.toNat a.W.toNat []:=by rw [hD];exact List.mem_cons_self
  obtain ⟨hl,hi⟩:=(zoz (R':=zt b) (R:=zt a) (by rw [zbS,zbS];exact hr.symm)).1 hy
  have he:y.map (fun (x:Nat)=>(x:Int))=ptL a.W.toNat (fnL y):=by
   refine List.ext_getElem? fun i=>?_
   by_cases h:i < a.W.toNat
   ·rw [zgt (by omega),zaF h]
   ·rw [List.getElem?_eq_none (by simp;omega),List.getElem?_eq_none (by simp [zby];omega)]
  have hp:zaM (y.map fun (x:Nat)=>(x:Int)) a.W.toNat=true:=by rw [he];exact zxA hi.ren
  rw [zch,if_neg (by omega),if_neg (by omega),if_neg (by rw [hp];decide),if_pos]
  rw [zvM hr.symm hp]
  exact hi.congr fun w hw=>by rw [he];exact zyr hw
end Go.Ab
namespace Go.Ab
open Go Go.Proofs Go.RowKit Go.Lib Go.Sort
theorem zwP:bits BinOp.and IntKind.i64 16 15=0:=by decide
abbrev zdn:UInt8→Value:=fun b=>Value.int .u8 (b.toNat:Int)
theorem zt0 {P:Program} (t:TypeId) (ht:P.underlying t=some .string) (k:IntKind) (x:Nat) (hx:x < 16) (w:World) :
  (Instr.index t (.string { data := #[48,49,50,51,52,53,54,55,56,57,97,98,99,100,101,102,103,104,105,106,107,108,109,110,111,112,113,114,115,116,117,118,119,120,121,122] }) (.int k (x:Int))).run P w = .ok (.int .u8 ((z2 x).toNat:Int)) w:=by
 rw [run_index_string w t _ k _ ht,dif_pos ⟨by omega,by show (x:Int) < 36;omega⟩]
 have:x=0∨x=1∨x=2∨x=3∨x=4∨x=5∨x=6∨x=7∨x=8∨x=9∨x=10∨x=11∨x=12∨x=13∨x=14∨x=15:=by omega
 rcases this with rfl|rfl|rfl|rfl|rfl|rfl|rfl|rfl|rfl|rfl|rfl|rfl|rfl|rfl|rfl|rfl<;>rfl
theorem zvK (x:Nat) (hx:x < 16) (h:x < (ByteArray.mk #[48,49,50,51,52,53,54,55,56,57,97,98,99,100,101,102,103,104,105,106,107,108,109,110,111,112,113,114,115,116,117,118,119,120,121,122]).size) :
  (ByteArray.mk #[48,49,50,51,52,53,54,55,56,57,97,98,99,100,101,102,103,104,105,106,107,108,109,110,111,112,113,114,115,116,117,118,119,120,121,122])[x]=z2 x:=by
 have:x=0∨x=1∨x=2∨x=3∨x=4∨x=5∨x=6∨x=7∨x=8∨x=9∨x=10∨x=11∨x=12∨x=13∨x=14∨x=15:=by omega
 rcases this with rfl|rfl|rfl|rfl|rfl|rfl|rfl|rfl|rfl|rfl|rfl|rfl|rfl|rfl|rfl|rfl<;>rfl
theorem zuz (dk:Array UInt8) (i:Nat) (x:UInt8) (hi:i < dk.size):(dk.setIfInBounds i x)[i]! = x:=by simp [hi]
theorem zuA (dk:Array UInt8) (i j:Nat) (x:UInt8) (h:i≠j):(dk.setIfInBounds i x)[j]! = dk[j]! := by rw [getElem!_def,getElem!_def,Array.getElem?_setIfInBounds_ne h]
theorem zxn (w:World) (t:TypeId):Holds zdn (w.alloc (.cells Tryz.zeroCells208 t)) w.heap.size 0 (Array.replicate 65 0):=by
 intro j hj
 have hj:j < 65:=by simpa using hj
 refine ⟨?_,World.frozen?_alloc_new _ _ _ _⟩
 rw [World.cell?_alloc_new,Nat.zero_add]
 have h:Tryz.zeroCells208=Array.replicate 65 (Value.int .u8 0):=by kernel_rfl
 rw [h]
 simp [hj]
theorem ztZ {w w1:World} {o:Obj} {d:Array UInt8} (h:w.alloc o=w1):w.grownBy (putRow zdn w1 w.heap.size 0 d) none:=by
 subst h
 refine ⟨rfl,rfl,rfl,by simp,fun b hb _=>?_⟩
 have:(putRow zdn (w.alloc o) w.heap.size 0 d).heap[b]? = (w.alloc o).heap[b]? := by
  unfold putRow mapBlock
  rw [Array.getElem?_modify,if_neg (by omega)]
 rw [this]
 exact heap_alloc_old _ _ hb
theorem zxp (w:World):Calls Tryz.prog 216 #[.int .i64 16] w fun e w'=>e = .returned (.bool true)∧w'=w:=by
 have hp:=zwP
 go_enter Tryz.func216,Tryz.ntmps216
 go_wp2
 go_ret
 exact ⟨rfl,rfl⟩
theorem zy4 (w:World) (T:Nat→Obj→Prop) (hw : ∀ b o,T b o→w.heap[b]? = some o)
  (hz : ∀ w':World,(∀ b o,T b o→w'.heap[b]? = some o)→Calls Tryz.prog 100 #[.int .u64 16] w' fun e w''=>e = .returned (.int .i64 4)∧w''=w') :
  Calls Tryz.prog 217 #[.int .u64 16] w fun e w'=>e = .returned (.int .i64 4)∧w'=w:=by
 go_enter Tryz.func217,Tryz.ntmps217
 go_wp2_with (go_at_call 100;refine (hz _ hw).mono ?_;rintro e w' ⟨rfl,rfl⟩)
 go_ret
 exact ⟨rfl,rfl⟩
set_option maxHeartbeats 4000000 in
set_option maxRecDepth 100000 in
theorem zx4 (u:Nat) (hu:u < 18446744073709551616) (w:World) (T:Nat→Obj→Prop) (hw : ∀ b o,T b o→w.heap[b]? = some o)
  (hz : ∀ w':World,(∀ b o,T b o→w'.heap[b]? = some o)→Calls Tryz.prog 100 #[.int .u64 16] w' fun e w''=>e = .returned (.int .i64 4)∧w''=w') :
  Calls Tryz.prog 207 #[.slice none 0 0,.int .u64 u,.int .i64 16,.bool false,.bool false] w fun e w'=>e = .returned (.tuple #[.slice none 0 0,.string ⟨(zdo 15 u).toArray⟩])∧w.grownBy w' none:=by
 have hp:=zwP
 go_enter Tryz.func207,Tryz.ntmps207
 go_wp2_with (first|(go_at_call 216;refine (zxp _).mono ?_;rintro e w' ⟨rfl,rfl⟩)|(go_at_call 217;refine (zy4 _ T ?_ hz).mono ?_;rotate_left;rintro e w' ⟨rfl,rfl⟩))
 ·generalize hw1:w.alloc (Obj.cells Tryz.zeroCells208 208)=w1
  have hH:=zxn w 208
  rw [hw1] at hH
  have hix:=zt0 (P:=Tryz.prog) 9 Tryz.underlying9 .u64
  go_loopw [1,13] (fun vu vi wr => ∃ (k v:Nat) (dk:Array UInt8) (ds:List UInt8),vu = .int .u64 v∧vi = .int .i64 (50+k:Nat)∧k≤15∧v < 16 ^ (k+1)∧zdo 15 u=zdo k v++ds∧wr=putRow zdn w1 w.heap.size 0 dk∧dk.size=65∧ds.length=15 - k ∧ ∀ j (hj:j < ds.length),dk[50+k+j]! = ds[j]) (fun _ vi _=>(RowKit.intOf vi).toNat)
  case atStart=>exact ⟨15,u,Array.replicate 65 0,[],rfl,rfl,Nat.le_refl _,by simpa using hu,by simp,(putRow_self _ _ _ _ _ hH).symm,by simp,rfl,fun j hj=>by simp at hj⟩
  case round =>
   obtain ⟨k,v,dk,ds,rfl,rfl,hk,hv,hx,rfl,hs,hdl,hd⟩:=hrel
   have hHk:Holds zdn (putRow zdn w1 w.heap.size 0 dk) w.heap.size 0 dk:=holds_putRow zdn w1 w.heap.size 0 (Array.replicate 65 0) dk hH (by simp [hs])
   obtain ⟨G,hG⟩ : ∃ G:Nat→Int,∀ t,G t=(dk[t]!.toNat:Int):=⟨_,fun _=>rfl⟩
   have hc0 : ∀ t,t < 65→(putRow zdn w1 w.heap.size 0 dk).cell? ⟨w.heap.size,t,none⟩=some (.int .u8 (G t)):=fun t ht=>by have:=(hHk t (by omega)).1;rw [Nat.zero_add] at this;rw [hG];exact this
   have hf0 : ∀ t,t < 65→(putRow zdn w1 w.heap.size 0 dk).frozen? ⟨w.heap.size,t,none⟩=false:=fun t ht=>by have:=(hHk t (by omega)).2;rw [Nat.zero_add] at this;exact this
   by_cases h16:16≤v
   ·obtain ⟨k,rfl⟩ : ∃ k',k=k'+1:=⟨k - 1,by
     rcases Nat.eq_zero_or_pos k with rfl|h
     ·simp at hv;omega
     ·omega⟩
    have hand0:bits BinOp.and IntKind.u64 (v:Int) 15=(v:Int) % 16:=by
     have h0:(0:Int)≤v:=by omega
     have h1:(v:Int) < 18446744073709551616:=by
      have:16 ^ (k+1+1)≤16 ^ 16:=Nat.pow_le_pow_right (by omega) (by omega)
      omega
     go_bits2
    have hand:bits BinOp.and IntKind.u64 (v:Int) 15=((v % 16:Nat):Int):=by rw [hand0];omega
    clear hand0
    have hc1:=hc0 (50+k) (by omega)
    have hf1:=hf0 (50+k) (by omega)
    have hm16:v % 16 < 16:=Nat.mod_lt _ (by omega)
    generalize hW:putRow zdn w1 w.heap.size 0 dk=W at *
    go_wp2
    rw [zvK (v % 16) hm16]
    have hset:W.setCell { block:=w.heap.size,off:=50+k } (Value.int IntKind.u8 ((z2 (v % 16)).toNat:Int))=putRow zdn w1 w.heap.size 0 (dk.setIfInBounds (50+k) (z2 (v % 16))):=by
     rw [← hW,← putRow_set zdn w1 w.heap.size 0 dk (50+k) (z2 (v % 16)) (by omega),Nat.zero_add]
    refine ⟨⟨k,v / 16,dk.setIfInBounds (50+k) (z2 (v % 16)),z2 (v % 16)::ds,by simp,by go_num,by omega,by rw [Nat.pow_succ] at hv;omega,?_,hset,by simp [hs],by simp;omega,fun j hj=>?_⟩,by simp [RowKit.intOf];omega⟩
    ·rw [hx,zdo,if_neg (by omega)];simp
    ·cases j with
     | zero=>rw [Nat.add_zero,zuz _ _ _ (by omega)];rfl
     | succ j =>
      rw [zuA _ _ _ _ (by omega)]
      have:=hd j (by simpa using hj)
      rw [show 50+k+(j+1)=50+(k+1)+j by omega,this];rfl
   ·have h15:v < 16:=by omega
    have hc1:=hc0 (49+k) (by omega)
    have hf1:=hf0 (49+k) (by omega)
    have hal:Tryz.prog.arrayLen 208=65:=by kernel_rfl
    generalize hW:putRow zdn w1 w.heap.size 0 dk=W at *
    have hl:(z2 v::ds).length=16 - k:=by simp [hdl];omega
    have hxx:zdo 15 u=z2 v::ds:=by
     rw [hx]
     cases k with
     | zero=>rw [zdo,Nat.mod_eq_of_lt h15];rfl
     | succ k=>rw [zdo,if_pos h15];rfl
    have hsl : ∀ W,(Instr.sliceAt 208 (.pointer (some ⟨w.heap.size,0,none⟩)) (some (.int .i64 (50+(k:Int) - 1))) none none).run Tryz.prog W = .ok (.slice (some ⟨w.heap.size,49+k,none⟩) (16 - k) (16 - k)) W:=fun W=>by
     rw [run_sliceAt_array_l W 208 ⟨w.heap.size,0,none⟩ (by simp [Program.arrayLen,Program.elem,Tryz.underlying208]) .i64 (50+(k:Int) - 1) (by omega) (by rw [hal];omega)]
     go_simp
     rw [show (50+(k:Int)).toNat=50+k by omega,if_neg (by omega)]
     exact ⟨by rw [show 50+k - 1=49+k by omega],by omega⟩
    have hset:W.setCell { block:=w.heap.size,off:=49+k } (Value.int IntKind.u8 ((z2 v).toNat:Int))=putRow zdn w1 w.heap.size 0 (dk.setIfInBounds (49+k) (z2 v)):=by
     rw [← hW,← putRow_set zdn w1 w.heap.size 0 dk (49+k) (z2 v) (by omega),Nat.zero_add]
    have hH2:Holds zdn (putRow zdn w1 w.heap.size 0 (dk.setIfInBounds (49+k) (z2 v))) w.heap.size 0 (dk.setIfInBounds (49+k) (z2 v)):=holds_putRow zdn w1 w.heap.size 0 (Array.replicate 65 0) _ hH (by simp [hs])
    have hcv:(convert 196 9 (.slice (some ⟨w.heap.size,49+k,none⟩) (16 - k) (16 - k))).run Tryz.prog (W.setCell { block:=w.heap.size,off:=49+k } (Value.int IntKind.u8 ((z2 v).toNat:Int))) = .ok (.string ⟨(z2 v::ds).toArray⟩) (W.setCell { block:=w.heap.size,off:=49+k } (Value.int IntKind.u8 ((z2 v).toNat:Int))):=by
     have h:=run_convert_bytes_back (P:=Tryz.prog) (W.setCell { block:=w.heap.size,off:=49+k } (Value.int IntKind.u8 ((z2 v).toNat:Int))) 196 9 5 ⟨w.heap.size,49+k,none⟩ (16 - k) (z2 v::ds) Tryz.underlying196 Tryz.underlying5 Tryz.underlying9 (fun j hj=>by
      rw [Addr.add_lit,hset]
      have h1:=(hH2 (49+k+j) (by simp [hs];omega)).1
      rw [Nat.zero_add] at h1
      rw [h1]
      cases j with
      | zero=>rw [Nat.add_zero,zuz _ _ _ (by omega)];rfl
      | succ j =>
       rw [zuA _ _ _ _ (by omega)]
       have:=hd j (by simpa using hj)
       rw [show 49+k+(j+1)=50+k+j by omega,this];rfl)
     rw [hl] at h
     exact h
    rw [hset] at hcv
    go_wp2
    go_ret2
    refine ⟨?_,ztZ hw1⟩
    rw [← hx,hxx];rfl
 ·intro b o ht
  exact (heap_alloc_old _ _ (by have:=hw b o ht;exact zm this)).trans (hw b o ht)
theorem zyF (u:Nat) (hu:u < 18446744073709551616) (w:World) (T:Nat→Obj→Prop) (hw : ∀ b o,T b o→w.heap[b]? = some o)
  (hz : ∀ w':World,(∀ b o,T b o→w'.heap[b]? = some o)→Calls Tryz.prog 100 #[.int .u64 16] w' fun e w''=>e = .returned (.int .i64 4)∧w''=w') :
  Calls Tryz.prog 184 #[.int .u64 u,.int .i64 16] w fun e w'=>e = .returned (.string ⟨(zdo 15 u).toArray⟩)∧w.grownBy w' none:=by
 go_enter Tryz.func184,Tryz.ntmps184
 go_wp2_with (go_at_call 207;refine (zx4 u hu _ T hw hz).mono ?_;rintro e w' ⟨rfl,hg⟩)
 go_ret
 exact ⟨rfl,hg⟩
theorem zyd {T:Nat→Obj→Prop} (hz : ∀ w':World,(∀ b o,T b o→w'.heap[b]? = some o)→Calls Tryz.prog 100 #[.int .u64 16] w' fun e w''=>e = .returned (.int .i64 4)∧w''=w') (x:BitVec 64) :
  Fn Tryz.prog T zcD [.d (.u64 x),.d (.int .i64 16)] [] (.d (.str (zfm x))) []:=by
 refine zlr ⟨_,Tryz.func184,by decide,rfl⟩ fun B σ a w args hT hS hsz hargs=>?_
 have ha:args = #[args.getD 0 undef,args.getD 1 undef]:=by
  apply Array.ext
  ·simpa using hsz
  ·intro i h1 h2
   match i,h2 with
   | 0,_=>simp [Array.getD,show 0 < args.size by omega]
   | 1,_=>simp [Array.getD,show 1 < args.size by omega]
 have h0:=hargs 0 (by simp)
 have h1:=hargs 1 (by simp)
 rw [ha]
 have e0:([V.d (D.u64 x),V.d (D.int .i64 16)].getD 0 .undef) = .d (D.u64 x):=rfl
 have e1:([V.d (D.u64 x),V.d (D.int .i64 16)].getD 1 .undef) = .d (D.int .i64 16):=rfl
 rw [e0] at h0
 rw [e1] at h1
 generalize args.getD 0 undef=va at h0
 generalize args.getD 1 undef=vb at h1
 cases h0 with
 | d _ _ hd0 =>
 cases h1 with
 | d _ _ hd1 =>
 cases hd0
 cases hd1
 refine (zyF x.toNat x.isLt w T (fun b o ht=>hS.pins b o (hT b o ht)) hz).mono ?_
 rintro e w' ⟨he,hg⟩
 refine ⟨_,σ,he,⟨fun t => .undef _,fun id ob h=>by simp [zw] at h,fun i j b h=>absurd (by simp [zw]) h,fun id b h=>absurd (by simp [zw]) h,fun _ _=>by simp [zw],?_,hS.nt,fun b hb=>Nat.lt_of_lt_of_le (hS.olt b hb) hg.size,fun b o hp=>(hg.block b (zm (hS.pins b o hp)) (by simp)).trans (hS.pins b o hp),fun id l h=>by simp [zw] at h⟩,.d _ _ ?_,fun i ob h=>by simp at h⟩
 ·refine ⟨hg.os.trans hS.kept.os,hg.tape.trans hS.kept.tape,hg.output.trans hS.kept.output,Nat.le_trans hS.kept.size hg.size,fun b hb hR=>(hg.block b (Nat.lt_of_lt_of_le hb hS.kept.size) (by simp)).trans (hS.kept.block b hb hR),fun b c e h=>?_⟩
  obtain ⟨c',h1,h2⟩:=hS.kept.cells b c e h
  exact ⟨c',(hg.block b (zm h1) (by simp)).trans h1,h2⟩
 ·exact .str _
end Go.Ab
namespace Go.Ab
open Go Go.Proofs
set_option maxRecDepth 10000
set_option maxHeartbeats 4000000
variable {T:Nat→Obj→Prop}
theorem zo6 (x:BitVec 64) (h:Fn Tryz.prog T zcD [.d (.u64 x),.d (.int .i64 16)] [] (.d (.str (zfm x))) []):Fn Tryz.prog T zc6 [.d (.u64 x),.d (.int .i64 16)] [] (.d (.str (zfm x))) []:=by
 refine zi zy ziR (by show 2≤8;decide) ?_
 (repeat' ((conv=>whnf);first|refine vA ?_|refine vB fun b hb=>?_|refine vC (fun hl=>?_) fun i kv vv hi=>?_|refine vE ?_|refine vG ?_|refine vH ?_|((first|refine vD ?_ ?_|refine vF ?_ ?_|refine vI ?_ ?_)<;>intro hc<;>try simp only [vL] at hc)|refine vJ fun hg=>?_|refine vK fun hg=>?_|refine vT ?_|refine vN ‹_› ?_|(refine vQ ?_ fun x hx=>?_;·first|omega|(simp only [vM] at *;omega))|((first|refine vO ?_ ?_|refine vR ?_ ‹_› ?_|refine vS ?_ fun x hx=>?_|refine vP ?_ ?_);·first|omega|(simp only [vM] at *;omega))|refine vW ⟨by omega,by omega⟩ ?_|(refine vU ?_ ?_;·kernel_rfl)|refine vX ?_|refine vY ?_|refine vZ ?_|refine yD h (by (repeat refine ⟨⟨rfl,rfl⟩,?_⟩);rfl) rfl ?_|refine yN h (by (repeat refine ⟨⟨rfl,rfl⟩,?_⟩);rfl) ?_|refine zb8.mk _ ‹_› ?_|refine vP (show (_:BitVec 64)≠_ by decide) ?_));all_goals try conv=>whnf
 rfl
end Go.Ab
