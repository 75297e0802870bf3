/- A part of the proofs of this seat: functions and their contracts. -/
import Derived.Test.YtjehkdhnhfghiaaGreatDoorMD
import Derived.Shelf.Strconv.Itoa0
import Derived.Sort.WalkA14
import Derived.Test.YtjehkdhnhfghiaaGreatDoorProg
import Derived.Calls
set_option linter.unusedVariables false
set_option linter.unusedSimpArgs false
set_option linter.unusedSectionVars false
namespace Go.Ab
open Go Go.Proofs
set_option maxRecDepth 10000
set_option maxHeartbeats 4000000
variable {T:Nat→Obj→Prop}
def ztH (m:KM) (n:Int):Bool:=decide (¬(n < m.W∧m.W≤64)∧m.val.length≤20∧m.rel.length≤10 ∧ ∀ r∈m.rel,r.length≤70)
theorem zDt (m:KM) (n:Int):Fn Tryz.prog T zg4 [.d (dKM m),.d (.int .i64 n)] [] (.d (.bool (ztH m n))) []:=by
 have no:(n < m.W∧m.W≤64∨20 < m.val.length∨10 < m.rel.length)→false=ztH m n:=fun h=>by
  rw [ztH,decide_eq_false];rintro ⟨a,b,c,-⟩;omega
 refine zb zm znd (by show 2≤41;decide) ?_
 (repeat' ((conv=>whnf);first|refine vA ?_|(refine vF ?_ ?_<;>intro hc<;>try simp only [vL] at hc)|refine vJ fun hg=>?_|refine vT ?_|refine vZ ?_));all_goals try conv=>whnf
 iterate 3 exact no (by omega)
 rotate_left
 iterate 2 exact no (by omega)
 all_goals
  have h1 : ¬(n < m.W∧m.W≤64):=by omega
  refine zf (fun (k:Nat)=>[(2,.ptr 0 0),(5,.d (.int .i64 ((k:Int))))]) (fun (k:Nat)=>[(0,some (zR m))]) 1 (fun (k:Nat)=>k≤m.rel.length ∧ ∀ (i:Nat) r,i < k→m.rel[i]? = some r→r.length≤70) (fun (k:Nat)=>m.rel.length - k) (0) [(0,0)] [] (⟨by simp,fun i r hi=>by omega⟩) (by (refine ⟨rfl,rfl,rfl,?_,?_⟩;repeat' first|exact trivial|exact rfl|refine And.intro ?_ ?_|refine ⟨_,rfl,?_⟩|decide)) ?_
  rintro k ⟨hk,hI⟩
  (repeat' ((conv=>whnf);first|refine vA ?_|(refine vF ?_ ?_<;>intro hc<;>try simp only [vL] at hc)|refine vJ fun hg=>?_|refine vT ?_|(refine vQ ?_ fun x hx=>?_;·omega)|(refine vO ?_ ?_;·omega)|refine vZ ?_));all_goals try conv=>whnf
  ·rw [ztH,decide_eq_false]
   rintro ⟨-,-,-,h⟩
   have:=h _ (List.mem_of_getElem? hx);omega
  ·exact ⟨k+1,[(0,0)],[],⟨by (omega),fun i r hi hr=>by
    by_cases e:i=k
    ·subst e;rw [hx] at hr;cases hr;omega
    ·exact hI i r (by omega) hr⟩,by (omega),by (refine ⟨rfl,rfl,rfl,?_,?_⟩;repeat' first|exact trivial|exact rfl|refine And.intro ?_ ?_|refine ⟨_,rfl,?_⟩|decide)⟩
  ·rw [ztH,decide_eq_true]
   refine ⟨h1,by omega,by omega,fun r hr=>?_⟩
   obtain ⟨i,hi⟩:=List.getElem?_of_mem hr
   have:=(List.getElem?_eq_some_iff.1 hi).1
   exact hI i r (by omega) hi
theorem zf9 (m:KM) (w:Int):Fn Tryz.prog T zf5 [.d (dKM m),.d (.int .i64 w)] [] (.d (.int .i64 (zgw m w))) []:=by
 refine zb zm zlx (by show 2≤39;decide) ?_
 (repeat' ((conv=>whnf);first|refine vA ?_|((first|refine vD ?_ ?_|refine vF ?_ ?_)<;>intro hc<;>try simp only [vL] at hc)|refine vT ?_|refine vX ?_|refine yD (za8 m) ⟨⟨rfl,rfl⟩,rfl⟩ rfl ?_));all_goals try conv=>whnf
 ·rw [zgw,if_pos (by omega)]
 ·rw [zgw,if_pos (by omega)]
 ·rw [zgw,if_pos (by omega)]
 ·have hc0:za m=0:=by omega
  have hg0:=zn hc0
  have w2:=hg0.w2
  have v8:=hg0.v8
  obtain ⟨w,rfl⟩ : ∃ x:Nat,w=(x:Int):=⟨w.toNat,by omega⟩
  refine zf (fun ((i,x):Nat×Int)=>[(1,.d (.int .i64 ((w:Int)))),(2,.ptr 0 0),(5,.d (.int .i64 (x))),(6,.d (.int .i64 ((i:Int))))]) (fun ((i,x):Nat×Int)=>[(0,some (zR m))]) 1 (fun ((i,x):Nat×Int)=>i≤m.val.length∧x=(zax m.val w i:Int)) (fun ((i,x):Nat×Int)=>m.val.length - i) ((0,0)) [(0,0)] [] (⟨by simp,rfl⟩) (by (refine ⟨rfl,rfl,rfl,?_,?_⟩;repeat' first|exact trivial|exact rfl|refine And.intro ?_ ?_|refine ⟨_,rfl,?_⟩|decide)) ?_
  rintro ⟨i,x⟩ ⟨hi,hX⟩
  by_cases hil:i < m.val.length
  ·obtain ⟨s,hs⟩ : ∃ s,m.val[i]? = some s:=⟨_,List.getElem?_eq_getElem hil⟩
   obtain ⟨p1,p2⟩:=zyH (i:=(i:Int)) (by omega) (by omega)
   have p2:((2 ^ i:Nat):Int)=(1:Int) * 2 ^ (min (i:Int).toNat IntKind.i64.bits):=p2
   have f1:=zlc m.val w i
   have f2:2 ^ i≤2 ^ 7:=Nat.pow_le_pow_right (by decide) (by omega)
   have f3:zax m.val w (i+1)=zax m.val w i+if s.getLsbD w=true then 2 ^ i else 0:=by rw [zax,show m.val.getD i 0#64=s by rw [List.getD,hs];rfl]
   (repeat' ((conv=>whnf);first|refine vA ?_|refine vE ?_|(refine vF ?_ ?_<;>intro hc<;>try simp only [vL] at hc)|refine vJ fun hg=>?_|refine vT ?_|refine vN ‹_› ?_|((first|refine vO ?_ ?_|refine vP ?_ ?_);·omega)|refine vX ?_|refine yD (zig s w) ⟨⟨rfl,rfl⟩,⟨rfl,rfl⟩,rfl⟩ rfl ?_));all_goals try conv=>whnf
   ·refine ⟨(i+1,x),[(0,0)],[],?_,?_,by (refine ⟨rfl,rfl,rfl,?_,?_⟩;repeat' first|exact trivial|exact rfl|refine And.intro ?_ ?_|refine ⟨_,rfl,?_⟩|decide)⟩
    ·exact ⟨by (omega),by rw [f3,zkR ‹_›,hX];simp⟩
    ·((simp only [vM] at *;omega))
   ·refine ⟨(i+1,_),[(0,0)],[],?_,?_,by (refine ⟨rfl,rfl,rfl,?_,?_⟩;repeat' first|exact trivial|exact rfl|refine And.intro ?_ ?_|refine ⟨_,rfl,?_⟩|decide)⟩
    ·exact ⟨by (omega),by rw [f3,zje ‹_›,if_pos rfl,hX,Int.natCast_add,p2]⟩
    ·((simp only [vM] at *;omega))
   all_goals omega
  ·(repeat' ((conv=>whnf);first|refine vA ?_|(refine vF ?_ ?_<;>intro hc<;>try simp only [vL] at hc)|refine vJ fun hg=>?_|refine vT ?_|(refine vQ ?_ fun x hx=>?_;·omega)|refine vX ?_));all_goals try conv=>whnf
   ·omega
   ·unfold zgw
    rw [if_neg (by omega),hX,show i=m.val.length by omega];rfl
theorem zon (s:BitVec 64) (k:Nat):(List.range (k+1)).filter (fun i=>s.getLsbD i)=(List.range k).filter (fun i=>s.getLsbD i)++if s.getLsbD k=true then [k] else []:=by
 rw [List.range_succ,List.filter_append,List.filter_cons,List.filter_nil]
theorem zvh (s:BitVec 64):Fn Tryz.prog T ze9 [.d (.u64 s)] [] (.d (dN (zD s))) []:=by
 refine zb zm zjt (by show 1≤17;decide) ?_
 (repeat' ((conv=>whnf);first|refine vA ?_|refine vT ?_));all_goals try conv=>whnf
 refine zf (fun ((k,zs):Nat×List D)=>[(0,.d (.u64 (s))),(3,.own 0),(4,.d (.int .i64 ((k:Int))))]) (fun ((k,zs):Nat×List D)=>[(0,some (.row 1 zs))]) 1 (fun ((k,zs):Nat×List D)=>k≤64∧zs=((List.range k).filter fun i=>s.getLsbD i).map fun (x:Nat)=>D.int .i64 (x:Int)) (fun ((k,zs):Nat×List D)=>64 - k) ((0,[])) []   [0] (⟨by omega,rfl⟩) (by (refine ⟨rfl,rfl,rfl,?_,?_⟩;repeat' first|exact trivial|exact rfl|exact ⟨_,rfl⟩|refine And.intro ?_ ?_|decide)) ?_
 rintro ⟨k,zs⟩ ⟨hk,hz⟩
 have hzl:zs.length≤64:=by
  rw [hz,List.length_map]
  have:=List.length_filter_le (fun i=>s.getLsbD i) (List.range k)
  rw [List.length_range] at this;omega
 (repeat' ((conv=>whnf);first|refine vA ?_|refine vE ?_|(refine vF ?_ ?_<;>intro hc<;>try simp only [vL] at hc)|refine vT ?_|((first|refine vO ?_ ?_|refine vP ?_ ?_);·first|omega|(simp only [vM] at *;omega))|refine yD (zig s k) ⟨⟨rfl,rfl⟩,⟨rfl,rfl⟩,rfl⟩ rfl ?_));all_goals try conv=>whnf
 ·refine ⟨(k+1,_),[(0,0)],[],?_,?_,by (refine ⟨rfl,rfl,rfl,?_,?_⟩;repeat' first|exact trivial|exact rfl|refine And.intro ?_ ?_|refine ⟨_,rfl,?_⟩|decide)⟩
  ·exact ⟨by omega,by rw [zon,zkR ‹_›,hz];simp⟩
  ·((simp only [vM] at *;omega))
 ·refine ⟨(k+1,_),[(0,2)],[],?_,?_,by (refine ⟨rfl,rfl,rfl,?_,?_⟩;repeat' first|exact trivial|exact rfl|refine And.intro ?_ ?_|refine ⟨_,rfl,?_⟩|decide)⟩
  ·exact ⟨by omega,by rw [zon,zje ‹_›,hz];simp⟩
  ·((simp only [vM] at *;omega))
 ·have e0:k=64:=by omega
  subst e0
  show some (D.arr 1 _)=some (D.arr 1 _)
  rw [hz,List.map_map];rfl
theorem zql (s:BitVec 64) (l:List Nat) (hl:l.length≤64):Fn Tryz.prog T zfa [.d (.u64 s),.d (dN l)] [] (.d (.u64 (z6 s l))) []:=by
 refine zb zm zju (by show 2≤24;decide) ?_
 (repeat' ((conv=>whnf);first|refine vA ?_|refine vT ?_));all_goals try conv=>whnf
 refine zM (fun ((k,o):Nat×BitVec 64)=>[(0,.d (.u64 (s))),(1,.d (dN l)),(5,.d (.u64 (o))),(6,.d (.int .i64 ((k:Int))))]) (fun ((k,o):Nat×BitVec 64)=>k≤l.length∧o=zau (fun i=>s.getLsbD (l.getD i 0)) k) (fun ((k,o):Nat×BitVec 64)=>l.length - k) ((0,0#64)) (⟨by simp,rfl⟩) (by (repeat' first|exact trivial|exact rfl|refine And.intro ?_ ?_)) ?_
 rintro ⟨k,o⟩ ⟨hk,hI⟩
 by_cases hkl:k < l.length
 ·have e1:=zeJ hkl
  (repeat' ((conv=>whnf);first|refine vA ?_|refine vE ?_|(refine vF ?_ ?_<;>intro hc<;>try simp only [vL] at hc)|refine vJ fun hg=>?_|refine vT ?_|refine vN ‹_› ?_|((first|refine vO ?_ ?_|refine vP ?_ ?_);·omega)|refine vY ?_|refine yD (zig s (l.getD k 0)) ⟨⟨rfl,rfl⟩,⟨rfl,rfl⟩,rfl⟩ rfl ?_));all_goals try conv=>whnf
  ·refine ⟨(k+1,_),[],[],?_,?_,by (refine ⟨rfl,rfl,rfl,?_,?_⟩;repeat' first|exact trivial|exact rfl|refine And.intro ?_ ?_)⟩
   ·exact ⟨by omega,by rw [zau,zkR ‹_›,hI];rfl⟩
   ·((simp only [vM] at *;omega))
  ·refine ⟨(k+1,_),[],[],?_,?_,by (refine ⟨rfl,rfl,rfl,?_,?_⟩;repeat' first|exact trivial|exact rfl|refine And.intro ?_ ?_)⟩
   ·exact ⟨by omega,by rw [zau,zje ‹_›,if_pos rfl,hI];rfl⟩
   ·((simp only [vM] at *;omega))
  ·omega
 ·(repeat' ((conv=>whnf);first|refine vA ?_|(refine vF ?_ ?_<;>intro hc<;>try simp only [vL] at hc)|refine vJ fun hg=>?_|refine vT ?_|(refine vQ ?_ fun x hx=>?_;·omega)|refine vY ?_));all_goals try conv=>whnf
  ·omega
  ·rw [hI,show k=l.length by omega];rfl
theorem zvS {m:KM} (hk0:za m=0) {l:List Nat} (hl:l.length≤64) (h : ∀ w∈l,w < m.W.toNat):Fn Tryz.prog T zgm [.d (dKM m),.d (dN l)] [] (.d (dKM (zA m l))) []:=by
 have hr:=ztY hk0 h
 have hg0:=zn hk0
 have hrl:=hg0.n4
 have hv:=hg0.v8
 refine zb zm zme (by show 2≤68;decide) ?_
 (repeat' ((conv=>whnf);first|refine vA ?_|refine vJ fun hg=>?_|refine vT ?_));all_goals try conv=>whnf
 refine zf (fun ((k,zs):Nat×List D)=>[(1,.d (dN l)),(2,.ptr 0 0),(4,.ptr 1 0),(5,.ptr 2 0),(6,.d (.int .i64 ((k:Int))))]) (fun ((k,zs):Nat×List D)=>[(0,some (zR m)),(1,some (.box [.d (.int .i64 0),.nils 1,.nils 1])),(2,some (.box [.d (.int .i64 (zer l:Int)),.own 3,.nils 1])),(3,some (.row 1 zs))]) 4 (fun ((k,zs):Nat×List D)=>k≤m.val.length∧zs=(m.val.take k).map fun s=>D.u64 (z6 s l)) (fun ((k,zs):Nat×List D)=>m.val.length - k) ((0,[])) [(0,0),(1,1),(2,2)]   [3] (⟨by simp,by simp⟩) (by (refine ⟨rfl,rfl,rfl,?_,?_⟩;repeat' first|exact trivial|exact rfl|exact ⟨_,rfl⟩|refine And.intro ?_ ?_|refine ⟨_,rfl,?_⟩|decide)) ?_
 rintro ⟨k,zs⟩ ⟨hk,hz⟩
 have hzl:zs.length≤8:=by rw [hz];simp;omega
 by_cases hkl:k < m.val.length
 ·obtain ⟨s,hs⟩ : ∃ s,m.val[k]? = some s:=⟨_,List.getElem?_eq_getElem hkl⟩
  (repeat' ((conv=>whnf);first|refine vA ?_|(refine vF ?_ ?_<;>intro hc<;>try simp only [vL] at hc)|refine vJ fun hg=>?_|refine vT ?_|refine vN ‹_› ?_|((first|refine vO ?_ ?_|refine vP ?_ ?_);·first|omega|(simp only [vM] at *;omega))|(refine vU ?_ ?_;·kernel_rfl)|refine yD (zql s l hl) ⟨⟨rfl,rfl⟩,⟨rfl,rfl⟩,rfl⟩ rfl ?_));all_goals try conv=>whnf
  ·refine ⟨(k+1,_),[(0,0),(1,1),(2,2),(3,5)],[],?_,?_,by (refine ⟨rfl,rfl,rfl,?_,?_⟩;repeat' first|exact trivial|exact rfl|refine And.intro ?_ ?_|refine ⟨_,rfl,?_⟩|decide)⟩
   ·exact ⟨by omega,by rw [List.take_add_one,hs,hz];simp⟩
   ·((simp only [vM] at *;omega))
  all_goals omega
 ·have hzz:zs=m.val.map fun s=>D.u64 (z6 s l):=by rw [hz,List.take_of_length_le (by omega)]
  clear hz
  subst hzz
  (repeat' ((conv=>whnf);first|refine vA ?_|(refine vF ?_ ?_<;>intro hc<;>try simp only [vL] at hc)|refine vJ fun hg=>?_|refine vT ?_|(refine vQ ?_ fun x hx=>?_;·omega)|fail));all_goals try conv=>whnf
  ·omega
  refine zf (fun ((k,zs):Nat×List D)=>[(1,.d (dN l)),(2,.ptr 0 0),(4,.ptr 1 0),(5,.ptr 2 0),(7,.d (.int .i64 ((k:Int))))]) (fun ((k,zs):Nat×List D)=>[(0,some (zR m)),(1,some (.box [.d (.int .i64 0),.nils 1,.nils 1])),(2,some (.box [.d (.int .i64 (zer l:Int)),.own 3,.own 4])),(3,some (.row 1 (m.val.map fun s=>D.u64 (z6 s l)))),(4,some (.row 1 zs))]) 5 (fun ((k,zs):Nat×List D)=>k≤m.rel.length∧zs=(m.rel.take k).map fun r=>dU (l.map fun w=>z6 (r.getD w 0#64) l)) (fun ((k,zs):Nat×List D)=>m.rel.length - k) ((0,[])) [(0,0),(1,1),(2,2),(3,3)]   [4] (⟨by simp,by simp⟩) (by (refine ⟨rfl,rfl,rfl,?_,?_⟩;repeat' first|exact trivial|exact rfl|exact ⟨_,rfl⟩|refine And.intro ?_ ?_|refine ⟨_,rfl,?_⟩|decide)) ?_
  rintro ⟨k,zs⟩ ⟨hk,hz⟩
  have hzl:zs.length≤4:=by rw [hz];simp;omega
  by_cases hkl:k < m.rel.length
  ·obtain ⟨r,hrr⟩ : ∃ r,m.rel[k]? = some r:=⟨_,List.getElem?_eq_getElem hkl⟩
   have hrw:=hr r (List.mem_of_getElem? hrr)
   (repeat' ((conv=>whnf);first|refine vA ?_|(refine vF ?_ ?_<;>intro hc<;>try simp only [vL] at hc)|refine vJ fun hg=>?_|refine vT ?_));all_goals try conv=>whnf
   ·refine zf (fun ((j,ys):Nat×List D)=>[(1,.d (dN l)),(2,.ptr 0 0),(4,.ptr 1 0),(5,.ptr 2 0),(7,.d (.int .i64 ((k:Int)))),(8,.own 5),(9,.d (.int .i64 ((j:Int))))]) (fun ((j,ys):Nat×List D)=>[(0,some (zR m)),(1,some (.box [.d (.int .i64 0),.nils 1,.nils 1])),(2,some (.box [.d (.int .i64 (zer l:Int)),.own 3,.own 4])),(3,some (.row 1 (m.val.map fun s=>D.u64 (z6 s l)))),(4,some (.row 1 zs)),(5,some (.row 1 ys))]) 6 (fun ((j,ys):Nat×List D)=>j≤l.length∧ys=(l.take j).map fun w=>D.u64 (z6 (r.getD w 0#64) l)) (fun ((j,ys):Nat×List D)=>l.length - j) ((0,[])) [(0,0),(1,1),(2,2),(3,3),(4,4)]   [5] (⟨by simp,by simp⟩) (by (refine ⟨rfl,rfl,rfl,?_,?_⟩;repeat' first|exact trivial|exact rfl|exact ⟨_,rfl⟩|refine And.intro ?_ ?_|refine ⟨_,rfl,?_⟩|decide)) ?_
    rintro ⟨j,ys⟩ ⟨hj,hy⟩
    have hyl:ys.length≤64:=by rw [hy];simp;omega
    by_cases hjl:j < l.length
    ·have e1:=zeJ hjl
     have e2:=hrw _ (zdF hjl)
     have e3:r[l.getD j 0]? = some (r.getD (l.getD j 0) 0#64):=zbw e2
     (repeat' ((conv=>whnf);first|refine vA ?_|(refine vF ?_ ?_<;>intro hc<;>try simp only [vL] at hc)|refine vJ fun hg=>?_|refine vT ?_|refine vN ‹_› ?_|((first|refine vO ?_ ?_|refine vP ?_ ?_);·first|omega|(simp only [vM] at *;omega))|(refine vU ?_ ?_;·kernel_rfl)|refine yD (zql (r.getD (l.getD j 0) 0#64) l hl) ⟨⟨rfl,rfl⟩,⟨rfl,rfl⟩,rfl⟩ rfl ?_));all_goals try conv=>whnf
     ·refine ⟨(j+1,_),[(0,0),(1,1),(2,2),(3,3),(4,4),(5,7)],[],?_,?_,by (refine ⟨rfl,rfl,rfl,?_,?_⟩;repeat' first|exact trivial|exact rfl|refine And.intro ?_ ?_|refine ⟨_,rfl,?_⟩|decide)⟩
      ·exact ⟨by omega,by rw [List.take_add_one,hy,zbw (d:=0) hjl];simp⟩
      ·((simp only [vM] at *;omega))
     ·omega
    ·(repeat' ((conv=>whnf);first|refine vA ?_|(refine vF ?_ ?_<;>intro hc<;>try simp only [vL] at hc)|refine vJ fun hg=>?_|refine vT ?_|refine vN ‹_› ?_|(refine vQ ?_ fun x hx=>?_;·omega)|((first|refine vO ?_ ?_|refine vS ?_ fun x hx=>?_|refine vP ?_ ?_);·first|omega|(simp only [vM] at *;omega))|fail));all_goals try conv=>whnf
     ·omega
     ·have hyy:ys=l.map fun w=>D.u64 (z6 (r.getD w 0#64) l):=by rw [hy,List.take_of_length_le (by omega)]
      refine ⟨(k+1,_),[(0,0),(1,1),(2,2),(3,3),(4,7)],[],?_,?_,by (refine ⟨rfl,rfl,rfl,?_,?_⟩;repeat' first|exact trivial|exact rfl|refine And.intro ?_ ?_|refine ⟨_,rfl,?_⟩|decide)⟩
      ·refine ⟨by omega,?_⟩
       rw [List.take_add_one,hrr,hz,hyy];simp
      ·((simp only [vM] at *;omega))
   all_goals omega
  ·(repeat' ((conv=>whnf);first|refine vA ?_|(refine vF ?_ ?_<;>intro hc<;>try simp only [vL] at hc)|refine vJ fun hg=>?_|refine vT ?_));all_goals try conv=>whnf
   ·omega
   ·have hzz:zs=m.rel.map fun r=>dU (l.map fun w=>z6 (r.getD w 0#64) l):=by rw [hz,List.take_of_length_le (by omega)]
    subst hzz
    refine congrArg some (show D.agg [.int .i64 (zer l:Int),.arr 1 (m.val.map fun s=>D.u64 (z6 s l)),.arr 1 (m.rel.map fun r=>dU (l.map fun w=>z6 (r.getD w 0#64) l))]=dKM (zA m l) from ?_)
    rw [zhL]
    simp [zA,Function.comp_def]
theorem zj4 {m:KM} (hk0:za m=0) {s:BitVec 64} (h0:s≠0#64) (hs : ∀ v,s.getLsbD v=true→v < m.W.toNat):Fn Tryz.prog T zeQ [.d (dKM m),.d (.u64 s)] [] (.d (.tup [dKM (zA m (zD s)),dN (zD s),.int .i64 0])) []:=by
 have w1:=(zn hk0).w1
 have h1:=zqt hk0 hs
 have cc:=za8 (T:=T) m
 rw [hk0] at cc
 refine zb zm ziP (by show 2≤31;decide) ?_
 (repeat' ((conv=>whnf);first|refine vA ?_|refine vH ?_|((first|refine vD ?_ ?_|refine vF ?_ ?_)<;>intro hc)|refine vT ?_|refine yD cc ⟨⟨rfl,rfl⟩,rfl⟩ rfl ?_|refine yD (zpc m.W (by omega)) ⟨⟨rfl,rfl⟩,rfl⟩ rfl ?_|refine yN (zvh s) ⟨⟨rfl,rfl⟩,rfl⟩ ?_|refine yN (zvS hk0 (zkS s) (fun w hw=>hs w (zhC.1 hw))) ⟨⟨rfl,rfl⟩,⟨rfl,rfl⟩,rfl⟩ ?_));all_goals try conv=>whnf
 ·exact absurd h1 ‹_›
 ·exact absurd ‹s=0› h0
 ·rfl
theorem zlX {m:KM} (hk0:za m=0) {f:BitVec 64} (hf : ∀ v,f.getLsbD v=true→v < m.W.toNat):Fn Tryz.prog T zek [.d (dKM m),.d (.u64 f)] [] (.d (.tup [.u64 (zeo m f),.int .i64 0])) []:=by
 have hg0:=zn hk0
 have w1:=hg0.w1
 have w2:=hg0.w2
 have n4:=hg0.n4
 have h1:=zqt hk0 hf
 have cc:=za8 (T:=T) m
 rw [hk0] at cc
 refine zb zm zir (by show 2≤58;decide) ?_
 (repeat' ((conv=>whnf);first|refine vA ?_|refine vH ?_|(refine vD ?_ ?_<;>intro hc)|refine vT ?_|refine yD cc ⟨⟨rfl,rfl⟩,rfl⟩ rfl ?_|refine yD (zpc m.W (by omega)) ⟨⟨rfl,rfl⟩,rfl⟩ rfl ?_));all_goals try conv=>whnf
 ·exact absurd h1 ‹_›
 refine zf (fun ((i,s):Nat×BitVec 64)=>[(2,.ptr 0 0),(7,.d (.u64 (s))),(8,.d (.int .i64 ((i:Int))))]) (fun ((i,s):Nat×BitVec 64)=>[(0,some (zR m))]) 1 (fun ((i,s):Nat×BitVec 64)=>i≤m.W.toNat∧zoR m f i s) (fun ((i,s):Nat×BitVec 64)=>m.W.toNat - i) ((0,f)) [(0,0)] [] (⟨by omega,zw1 hf⟩) (by (refine ⟨rfl,rfl,rfl,?_,?_⟩;repeat' first|exact trivial|exact rfl|refine And.intro ?_ ?_|refine ⟨_,rfl,?_⟩|decide)) ?_
 rintro ⟨i,s0⟩ ⟨hi,hR⟩
 by_cases hil:i < m.W.toNat
 ·(repeat' ((conv=>whnf);first|refine vA ?_|(refine vF ?_ ?_<;>intro hc<;>try simp only [vL] at hc)|refine vT ?_));all_goals try conv=>whnf
  ·refine zf (fun ((w,s):Nat×BitVec 64)=>[(2,.ptr 0 0),(7,.d (.u64 (s))),(8,.d (.int .i64 ((i:Int)))),(9,.d (.int .i64 ((w:Int))))]) (fun ((w,s):Nat×BitVec 64)=>[(0,some (zR m))]) 1 (fun ((w,s):Nat×BitVec 64)=>w≤m.W.toNat∧zhT m f s0 w s) (fun ((w,s):Nat×BitVec 64)=>m.W.toNat - w) ((0,s0)) [(0,0)] [] (⟨by omega,zw2 hR.gs⟩) (by (refine ⟨rfl,rfl,rfl,?_,?_⟩;repeat' first|exact trivial|exact rfl|refine And.intro ?_ ?_|refine ⟨_,rfl,?_⟩|decide)) ?_
   rintro ⟨w,s⟩ ⟨hw,hW⟩
   by_cases hwl:w < m.W.toNat
   ·(repeat' ((conv=>whnf);first|refine vA ?_|(refine vF ?_ ?_<;>intro hc<;>try simp only [vL] at hc)|refine vT ?_|(refine vO ?_ ?_;·omega)|fail));all_goals try conv=>whnf
    ·refine zf (fun ((a,t):Nat×BitVec 64)=>[(2,.ptr 0 0),(7,.d (.u64 (t))),(8,.d (.int .i64 ((i:Int)))),(9,.d (.int .i64 ((w:Int)))),(10,.d (.int .i64 ((a:Int))))]) (fun ((a,t):Nat×BitVec 64)=>[(0,some (zR m))]) 1 (fun ((a,t):Nat×BitVec 64)=>a≤m.rel.length∧(zhT m f s0 w t∧t.getLsbD w=false∧a=0∨zoP m f s0 w a t)) (fun ((a,t):Nat×BitVec 64)=>m.rel.length - a) ((0,s)) [(0,0)] [] (⟨by omega,by
      by_cases e:s.getLsbD w=true
      ·exact .inr (zwY hW e)
      ·exact .inl ⟨hW,by simpa using e,rfl⟩⟩) (by (refine ⟨rfl,rfl,rfl,?_,?_⟩;repeat' first|exact trivial|exact rfl|refine And.intro ?_ ?_|refine ⟨_,rfl,?_⟩|decide)) ?_
     rintro ⟨a,t⟩ ⟨ha,hA⟩
     have hres:t.getLsbD w=false→zhT m f s0 (w+1) t:=fun e=>by
      rcases hA with ⟨h1,-,-⟩|h1
      ·exact h1.skip e
      ·rw [h1.has] at e;cases e
     by_cases hal:a < m.rel.length
     ·obtain ⟨r,hr⟩ : ∃ r,m.rel[a]? = some r:=⟨_,List.getElem?_eq_getElem hal⟩
      have hrl:=hg0.len r (List.mem_of_getElem? hr)
      obtain ⟨x,hx⟩ : ∃ x,r[w]? = some x:=⟨_,List.getElem?_eq_getElem (by omega)⟩
      (repeat' ((conv=>whnf);first|refine vA ?_|refine vE ?_|(refine vF ?_ ?_<;>intro hc<;>try simp only [vL] at hc)|refine vJ fun hg=>?_|refine vT ?_|refine vN ‹_› ?_|(refine vO ?_ ?_;·omega)|refine yD (zig t w) ⟨⟨rfl,rfl⟩,⟨rfl,rfl⟩,rfl⟩ rfl ?_));all_goals try conv=>whnf
      ·refine ⟨(w+1,t),[(0,0)],[],?_,?_,by (refine ⟨rfl,rfl,rfl,?_,?_⟩;repeat' first|exact trivial|exact rfl|refine And.intro ?_ ?_|refine ⟨_,rfl,?_⟩|decide)⟩
       ·exact ⟨by omega,hres (zkR ‹_›)⟩
       ·((simp only [vM] at *;omega))
      ·have hb:=zje ‹¬1&&&t.toNat >>> w=0›
       refine ⟨(a+1,_),[(0,0)],[],?_,?_,by (refine ⟨rfl,rfl,rfl,?_,?_⟩;repeat' first|exact trivial|exact rfl|refine And.intro ?_ ?_|refine ⟨_,rfl,?_⟩|decide)⟩
       ·refine ⟨by omega,.inr ?_⟩
        rcases hA with ⟨-,h2,-⟩|h2
        ·rw [hb] at h2;cases h2
        ·exact h2.next hk0 hr hx
       ·((simp only [vM] at *;omega))
      ·omega
     ·have e0:a=m.rel.length:=by omega
      (repeat' ((conv=>whnf);first|refine vA ?_|refine vE ?_|(refine vF ?_ ?_<;>intro hc<;>try simp only [vL] at hc)|refine vJ fun hg=>?_|refine vT ?_|(refine vQ ?_ fun x hx=>?_;·omega)|(refine vO ?_ ?_;·omega)|refine yD (zig t w) ⟨⟨rfl,rfl⟩,⟨rfl,rfl⟩,rfl⟩ rfl ?_));all_goals try conv=>whnf
      iterate 2 (exfalso;omega)
      refine ⟨(w+1,t),[(0,0)],[],?_,?_,by (refine ⟨rfl,rfl,rfl,?_,?_⟩;repeat' first|exact trivial|exact rfl|refine And.intro ?_ ?_|refine ⟨_,rfl,?_⟩|decide)⟩
      ·refine ⟨by omega,?_⟩
       rcases hA with ⟨h1,h2,-⟩|h2
       ·exact h1.skip h2
       ·subst e0;exact h2.end'
      ·((simp only [vM] at *;omega))
    ·omega
   ·(repeat' ((conv=>whnf);first|refine vA ?_|(refine vF ?_ ?_<;>intro hc<;>try simp only [vL] at hc)|refine vT ?_|(refine vO ?_ ?_;·omega)|fail));all_goals try conv=>whnf
    ·omega
    ·refine ⟨(i+1,s),[(0,0)],[],?_,?_,by (refine ⟨rfl,rfl,rfl,?_,?_⟩;repeat' first|exact trivial|exact rfl|refine And.intro ?_ ?_|refine ⟨_,rfl,?_⟩|decide)⟩
     ·exact ⟨by omega,hR.next hk0 (by rw [show m.W.toNat=w by omega];exact hW)⟩
     ·((simp only [vM] at *;omega))
  ·omega
 ·(repeat' ((conv=>whnf);first|refine vA ?_|(refine vF ?_ ?_<;>intro hc<;>try simp only [vL] at hc)|refine vT ?_));all_goals try conv=>whnf
  ·omega
  ·have e0:i=m.W.toNat:=by omega
   subst e0
   rw [hR.done hk0];rfl
def zdJ (to:List Int) (i:Int) (j:Nat):List Nat:=(List.range j).filter fun w=>decide (at0 to w=i)
theorem zsr (to:List Int) (i:Int) (j:Nat):zdJ to i (j+1)=zdJ to i j++if at0 to j=i then [j] else []:=by
 unfold zdJ
 rw [List.range_succ,List.filter_append,List.filter_cons,List.filter_nil]
 by_cases h:at0 to j=i
 ·rw [if_pos (by simpa using h),if_pos h]
 ·rw [if_neg (by simpa using h),if_neg h]
theorem zrC {to:List Int} {i:Int} {w:Nat} : w∈zdJ to i to.length↔to[w]? = some i:=by
 unfold zdJ
 rw [List.mem_filter,List.mem_range,decide_eq_true_eq]
 constructor
 ·rintro ⟨h,rfl⟩;exact zbT h
 ·intro h;exact ⟨(List.getElem?_eq_some_iff.1 h).1,zaj h⟩
theorem zB1 {to:List Int} {i:Int} {j:Nat} : (zdJ to i j).length≤j:=by
 unfold zdJ
 have:=List.length_filter_le (fun w=>decide (at0 to w=i)) (List.range j)
 rwa [List.length_range] at this
theorem zv4 {to:List Int} {n:Nat} (hp:za9 to n=true) {i:Nat} (hi:i < n):zdJ to i to.length=[to.idxOf (i:Int)]:=by
 obtain ⟨h1,h2,h3⟩:=zcV.1 hp
 have hm:=zus hp hi
 have key : ∀ w,w∈zdJ to i to.length↔w=to.idxOf (i:Int):=fun w=>by
  rw [zrC]
  constructor
  ·intro h
   obtain ⟨a,b⟩:=List.getElem?_eq_some_iff.1 h
   rw [← b];exact (h3.idxOf_getElem w a).symm
  ·rintro rfl
   have:=List.idxOf_lt_length_of_mem hm
   rw [List.getElem?_eq_getElem this,List.getElem_idxOf]
 have hnd:(zdJ to i to.length).Nodup:=List.nodup_range.filter _
 have h4:=zbi hnd (l':=[to.idxOf (i:Int)]) fun w hw=>by simpa using (key w).1 hw
 have h5:=(key _).2 rfl
 match hl:zdJ to i to.length with
 | []=>rw [hl] at h5;cases h5
 | [a]=>rw [hl] at h5;simp only [List.mem_singleton] at h5;rw [h5]
 | a::b::l=>rw [hl] at h4;simp at h4
theorem zAA {to:List Int} (h : ∀ i:Nat,i < to.length→(zdJ to i to.length).length=1):za9 to to.length=true:=by
 have hm : ∀ i:Nat,i < to.length→(i:Int)∈to:=fun i hi=>by
  have:=h i hi
  match hl:zdJ to i to.length with
  | []=>rw [hl] at this;cases this
  | a::l=>exact List.mem_of_getElem? (zrC.1 (by rw [hl];simp:a∈zdJ to i to.length))
 have hrn:((List.range to.length).map fun (i:Nat)=>(i:Int)).Nodup:=by
  rw [List.Nodup,List.pairwise_map]
  exact List.nodup_range.imp fun h e=>h (by omega)
 have hr : ∀ x∈to,0≤x∧x < to.length:=fun x hx=>by
  apply Classical.byContradiction
  intro hn
  have:=zbi hrn (l':=to.erase x) fun y hy=>by
   obtain ⟨i,hi,rfl⟩:=List.mem_map.1 hy
   have hi:=List.mem_range.1 hi
   exact (List.mem_erase_of_ne (by omega)).2 (hm i hi)
  rw [List.length_map,List.length_range,List.length_erase_of_mem hx] at this
  have:=List.length_pos_of_mem hx
  omega
 refine zcV.2 ⟨rfl,hr,?_⟩
 rw [List.Nodup,List.pairwise_iff_getElem]
 intro a b ha hb hab e
 have hx:=hr to[a] (List.getElem_mem ha)
 have h1:=h to[a].toNat (by omega)
 rw [show ((to[a].toNat:Nat):Int)=to[a] by omega] at h1
 have:=zbi (l:=[a,b]) (l':=zdJ to to[a] to.length) (by simp;omega) fun w hw=>by
  rw [zrC]
  simp only [List.mem_cons,List.not_mem_nil,or_false] at hw
  rcases hw with rfl|rfl
  ·exact List.getElem?_eq_getElem ha
  ·rw [e];exact List.getElem?_eq_getElem hb
 rw [h1] at this;simp at this
theorem zwH (to:List Int) (n:Nat) (h64:n≤64):Fn Tryz.prog T ze8 [.d (dI to),.d (.int .i64 (n:Int))] [] (.d (.tup [dN (if za9 to n=true then zde to n else []),.bool (za9 to n)])) []:=by
 refine zb zm zjs (by show 2≤39;decide) ?_
 (repeat' ((conv=>whnf);first|refine vA ?_|(refine vD ?_ ?_<;>intro hc<;>try simp only [vL] at hc)|refine vJ fun hg=>?_|refine vT ?_));all_goals try conv=>whnf
 ·have:za9 to n=false:=by rw [← Bool.not_eq_true];intro h;have:=(zcV.1 h).1;omega
  rw [this];rfl
 ·have e0:n=to.length:=by omega
  subst e0
  refine zf (fun ((i,zs):Nat×List D)=>[(0,.d (dI to)),(1,.d (.int .i64 ((to.length:Int)))),(6,.own 0),(7,.d (.int .i64 ((i:Int))))]) (fun ((i,zs):Nat×List D)=>[(0,some (.row 1 zs))]) 1 (fun ((i,zs):Nat×List D)=>i≤to.length∧zs.length=i∧(∀ j:Nat,j < i→(zdJ to j to.length).length=1)∧(za9 to to.length=true→zs=((List.range i).map fun (j:Nat)=>to.idxOf (j:Int)).map fun (x:Nat)=>D.int .i64 (x:Int))) (fun ((i,zs):Nat×List D)=>to.length - i) ((0,[])) []   [0] (⟨by omega,rfl,fun j hj=>by omega,fun _=>rfl⟩) (by (refine ⟨rfl,rfl,rfl,?_,?_⟩;repeat' first|exact trivial|exact rfl|exact ⟨_,rfl⟩|refine And.intro ?_ ?_|decide)) ?_
  rintro ⟨i,zs⟩ ⟨hi,hzl,hone,hz⟩
  by_cases hil:i < to.length
  ·(repeat' ((conv=>whnf);first|refine vA ?_|(refine vF ?_ ?_<;>intro hc<;>try simp only [vL] at hc)|refine vT ?_));all_goals try conv=>whnf
   ·refine zf (fun ((j,ys):Nat×List D)=>[(0,.d (dI to)),(1,.d (.int .i64 ((to.length:Int)))),(6,.own 0),(7,.d (.int .i64 ((i:Int)))),(8,.d (.int .i64 ((j:Int))))]) (fun ((j,ys):Nat×List D)=>[(0,some (.row 1 ys))]) 1 (fun ((j,ys):Nat×List D)=>j≤to.length∧ys=zs++(zdJ to i j).map fun (x:Nat)=>D.int .i64 (x:Int)) (fun ((j,ys):Nat×List D)=>to.length - j) ((0,zs)) [(0,0)] [] (⟨by omega,by simp [zdJ]⟩) (by (refine ⟨rfl,rfl,rfl,?_,?_⟩;repeat' first|exact trivial|exact rfl|refine And.intro ?_ ?_|refine ⟨_,rfl,?_⟩|decide)) ?_
    rintro ⟨j,ys⟩ ⟨hj,hy⟩
    have hyl:ys.length=i+(zdJ to i j).length:=by rw [hy];simp [hzl]
    have hpl:=zB1 (to:=to) (i:=(i:Int)) (j:=j)
    by_cases hjl:j < to.length
    ·have hx:=zbT hjl
     (repeat' ((conv=>whnf);first|refine vA ?_|((first|refine vD ?_ ?_|refine vF ?_ ?_)<;>intro hc<;>try simp only [vL] at hc)|refine vK fun hg=>?_|refine vT ?_|refine vN ‹_› ?_|((first|refine vO ?_ ?_|refine vP ?_ ?_);·first|omega|(simp only [vM] at *;omega))|fail));all_goals try conv=>whnf
     ·refine ⟨(j+1,_),[(0,2)],[],?_,?_,by (refine ⟨rfl,rfl,rfl,?_,?_⟩;repeat' first|exact trivial|exact rfl|refine And.intro ?_ ?_|refine ⟨_,rfl,?_⟩|decide)⟩
      ·exact ⟨by omega,by rw [zsr,if_pos ‹_›,hy];simp⟩
      ·((simp only [vM] at *;omega))
     ·refine ⟨(j+1,_),[(0,0)],[],?_,?_,by (refine ⟨rfl,rfl,rfl,?_,?_⟩;repeat' first|exact trivial|exact rfl|refine And.intro ?_ ?_|refine ⟨_,rfl,?_⟩|decide)⟩
      ·exact ⟨by omega,by rw [zsr,if_neg ‹_›,hy];simp⟩
      ·((simp only [vM] at *;omega))
     iterate 2 (exfalso;omega)
    ·have e1:j=to.length:=by omega
     subst e1
     (repeat' ((conv=>whnf);first|refine vA ?_|((first|refine vD ?_ ?_|refine vF ?_ ?_)<;>intro hc<;>try simp only [vL] at hc)|refine vK fun hg=>?_|refine vT ?_|(refine vQ ?_ fun x hx=>?_;·omega)|((first|refine vO ?_ ?_|refine vP ?_ ?_);·omega)|fail));all_goals try conv=>whnf
     iterate 2 (exfalso;omega)
     ·have hf:za9 to to.length=false:=by
       rw [← Bool.not_eq_true];intro hp
       rw [zv4 hp hil] at hyl;simp at hyl;omega
      rw [hf];rfl
     ·refine ⟨(i+1,ys),[(0,0)],[],?_,?_,by (refine ⟨rfl,rfl,rfl,?_,?_⟩;repeat' first|exact trivial|exact rfl|refine And.intro ?_ ?_|refine ⟨_,rfl,?_⟩|decide)⟩
      ·refine ⟨by omega,by omega,fun j hj=>?_,fun hp=>?_⟩
       ·by_cases e:j=i
        ·subst e;omega
        ·exact hone j (by omega)
       ·rw [hy,hz hp,zv4 hp hil,List.range_succ];simp
      ·((simp only [vM] at *;omega))
   ·omega
  ·(repeat' ((conv=>whnf);first|refine vA ?_|(refine vF ?_ ?_<;>intro hc<;>try simp only [vL] at hc)|refine vT ?_));all_goals try conv=>whnf
   ·omega
   ·have e1:i=to.length:=by omega
    subst e1
    have hp:=zAA hone
    have hz:=hz hp
    subst hz
    rw [hp,if_pos rfl]
    refine congrArg (fun l=>some (D.tup [D.arr 1 l,D.bool true])) ?_
    unfold zde
    simp only [List.map_map];rfl
theorem zwR (m:KM) (to:List Int):Fn Tryz.prog T zfF [.d (dKM m),.d (dI to)] [] (.d (dKI (zhl m to))) []:=by
 have cc:=za8 (T:=T) m
 refine zb zm zkd (by show 2≤28;decide) ?_
 (repeat' ((conv=>whnf);first|refine vA ?_|(refine vD ?_ ?_<;>intro hc)|refine vT ?_|refine yD cc ⟨⟨rfl,rfl⟩,rfl⟩ rfl ?_));all_goals try conv=>whnf
 ·rw [zhl,if_pos (by omega)];rfl
 ·have hk0:za m=0:=by omega
  have hg0:=zn hk0
  have w1:=hg0.w1
  have w2:=hg0.w2
  have ci:=zwH (T:=T) to m.W.toNat (by omega)
  rw [show ((m.W.toNat:Nat):Int)=m.W by omega] at ci
  cases hp:za9 to m.W.toNat with
  | false =>
   rw [hp,if_neg (by decide)] at ci
   (repeat' ((conv=>whnf);first|refine vA ?_|refine vE ?_|refine vH ?_|refine vT ?_|refine yN ci ⟨⟨rfl,rfl⟩,⟨rfl,rfl⟩,rfl⟩ ?_));all_goals try conv=>whnf
   rw [zhl,if_neg (by omega),hp,if_neg (by decide)];rfl
  | true =>
   rw [hp,if_pos rfl] at ci
   have ct:=zvS (T:=T) hk0 (l:=zde to m.W.toNat) (by rw [zkb];omega) (fun w hw=>by
    obtain ⟨i,hi,rfl⟩:=zlA hw
    rw [zkb] at hi
    exact zt1 hp hi)
   (repeat' ((conv=>whnf);first|refine vA ?_|refine vE ?_|refine vG ?_|refine vT ?_|refine yN ci ⟨⟨rfl,rfl⟩,⟨rfl,rfl⟩,rfl⟩ ?_|refine yN ct ⟨⟨rfl,rfl⟩,⟨rfl,rfl⟩,rfl⟩ ?_));all_goals try conv=>whnf
   rw [zhl,if_neg (by omega),if_pos hp];rfl
theorem zlU (a b:List (BitVec 64)):Fn Tryz.prog T zeR [.d (dU a),.d (dU b)] [] (.d (.bool (a==b))) []:=by
 refine zb zm ziQ (by show 2≤26;decide) ?_
 (repeat' ((conv=>whnf);first|refine vA ?_|(refine vD ?_ ?_<;>intro hc<;>try simp only [vL] at hc)|refine vJ fun hg=>?_|refine vT ?_|refine vZ ?_));all_goals try conv=>whnf
 ·have:a≠b:=fun e=>hc (by rw [e])
  simp [this]
 ·refine zM (fun (k:Nat)=>[(0,.d (dU a)),(1,.d (dU b)),(5,.d (.int .i64 ((k:Int))))]) (fun (k:Nat)=>k≤a.length∧(a==b)=(a.drop k==b.drop k)) (fun (k:Nat)=>a.length - k) (0) (⟨by simp,by simp⟩) (by (repeat' first|exact trivial|exact rfl|refine And.intro ?_ ?_)) ?_
  rintro k ⟨hk,hI⟩
  (repeat' ((conv=>whnf);first|refine vA ?_|((first|refine vD ?_ ?_|refine vF ?_ ?_)<;>intro hc<;>try simp only [vL] at hc)|refine vJ fun hg=>?_|refine vT ?_|(refine vQ ?_ fun x hx=>?_;·omega)|(refine vO ?_ ?_;·omega)|(refine vU ?_ ?_;·kernel_rfl)|refine vZ ?_));all_goals try conv=>whnf
  ·rw [hI,zt ‹a[k]? = some _›,zt ‹b[k]? = some _›];simp [hc]
  ·exact ⟨k+1,[],[],⟨by (omega),by rw [hI,zt ‹a[k]? = some _›,zt ‹b[k]? = some _›];simp [hc]⟩,by (omega),by (refine ⟨rfl,rfl,rfl,?_,?_⟩;repeat' first|exact trivial|exact rfl|refine And.intro ?_ ?_)⟩
  ·rw [hI,List.drop_eq_nil_of_le (by omega),List.drop_eq_nil_of_le (by omega)];rfl
theorem zwT (a b:KM):Fn Tryz.prog T zgl [.d (dKM a),.d (dKM b)] [] (.d (.bool (decide (a=b)))) []:=by
 have no:(a.W≠b.W∨a.val≠b.val∨a.rel≠b.rel)→false=decide (a=b):=fun h=>by
  rw [decide_eq_false];rintro rfl;simp at h
 refine zb zm zmd (by show 2≤47;decide) ?_
 (repeat' ((conv=>whnf);first|refine vA ?_|refine vE ?_|((first|refine vD ?_ ?_|refine vI ?_ ?_)<;>intro hc<;>try simp only [vL] at hc)|refine vJ fun hg=>?_|refine vT ?_|refine vZ ?_|refine yD (zlU _ _) ⟨⟨rfl,rfl⟩,⟨rfl,rfl⟩,rfl⟩ rfl ?_));all_goals try conv=>whnf
 ·exact no (.inl ‹_›)
 ·exact no (.inr (.inr fun e=>by have:=congrArg List.length e;omega))
 ·have e1:a.val=b.val:=by simpa using ‹(a.val==b.val)=true›
  refine zf (fun (k:Nat)=>[(2,.ptr 0 0),(3,.ptr 1 0),(5,.d (.int .i64 ((k:Int))))]) (fun (k:Nat)=>[(0,some (zR a)),(1,some (zR b))]) 2 (fun (k:Nat)=>k≤a.rel.length∧(a.rel==b.rel)=(a.rel.drop k==b.rel.drop k)) (fun (k:Nat)=>a.rel.length - k) (0) [(0,0),(1,1)] [] (⟨by simp,by simp⟩) (by (refine ⟨rfl,rfl,rfl,?_,?_⟩;repeat' first|exact trivial|exact rfl|refine And.intro ?_ ?_|refine ⟨_,rfl,?_⟩|decide)) ?_
  rintro k ⟨hk,hI⟩
  (repeat' ((conv=>whnf);first|refine vA ?_|refine vE ?_|((first|refine vF ?_ ?_|refine vI ?_ ?_)<;>intro hc<;>try simp only [vL] at hc)|refine vJ fun hg=>?_|refine vT ?_|(refine vQ ?_ fun x hx=>?_;·omega)|(refine vO ?_ ?_;·omega)|(refine vU ?_ ?_;·kernel_rfl)|refine vZ ?_|refine yD (zlU _ _) ⟨⟨rfl,rfl⟩,⟨rfl,rfl⟩,rfl⟩ rfl ?_));all_goals try conv=>whnf
  ·exact ⟨k+1,[(0,0),(1,1)],[],⟨by (omega),by rw [hI,zt ‹a.rel[k]? = some _›,zt ‹b.rel[k]? = some _›];simp_all⟩,by (omega),by (refine ⟨rfl,rfl,rfl,?_,?_⟩;repeat' first|exact trivial|exact rfl|refine And.intro ?_ ?_|refine ⟨_,rfl,?_⟩|decide)⟩
  ·refine no (.inr (.inr fun e=>?_))
   have g1:=‹a.rel[k]? = some _›
   rw [e,hx] at g1
   cases g1
   have:=‹(_==_)=false›
   simp at this
  ·rw [List.drop_eq_nil_of_le (by omega),List.drop_eq_nil_of_le (by omega)] at hI
   have e2:a.rel=b.rel:=by simpa using hI
   rw [decide_eq_true]
   cases a;cases b;simp_all
 ·exact no (.inr (.inl fun e=>by
   have:=‹(a.val==b.val)=false›
   rw [e] at this;simp at this))
end Go.Ab
namespace Go.Ab
def mkT (p:KM) (root:Int) (i:Nat):Tup:=[[if (i:Int)=root then (0:Int) else 1],[zF p i]]
def zcU (p:KM) (root:Int):(Nat→Nat)×Nat:=zbZ p.W.toNat (zd p) (mkT p root)
theorem zBq {m:KM} {l k:List Nat} (hl:l.length≤64) (hk:k.length≤64) (h : ∀ x∈k,x < l.length):zA (zA m l) k=zA m (k.map fun i=>l.getD i 0):=by
 have key : ∀ s,z6 (z6 s l) k=z6 s (k.map fun i=>l.getD i 0):=fun s=>by
  unfold z6
  rw [List.length_map]
  refine zoM fun i hi=>?_
  have hm:k.getD i 0∈k:=zdF hi
  rw [show (k.map fun i=>l.getD i 0).getD i 0=l.getD (k.getD i 0) 0 by simp [List.getD,List.getElem?_map,List.getElem?_eq_getElem hi]]
  rw [Bool.eq_iff_iff,zdn hl]
  exact ⟨fun h=>h.2,fun h'=>⟨h _ hm,h'⟩⟩
 unfold zA
 simp only [List.length_map,List.map_map]
 congr 1
 ·exact List.map_congr_left fun s _=>key s
 ·refine List.map_congr_left fun r _=>?_
  show List.map _ k=List.map _ k
  refine List.map_congr_left fun w hw=>?_
  have hw:=h w hw
  show z6 ((l.map fun w=>z6 (r.getD w 0#64) l).getD w 0#64) k=z6 (r.getD (l.getD w 0) 0#64) (k.map fun i=>l.getD i 0)
  rw [← key,show (l.map fun w=>z6 (r.getD w 0#64) l).getD w 0#64=z6 (r.getD (l.getD w 0) 0#64) l by
   simp [List.getD,List.getElem?_map,List.getElem?_eq_getElem hw]]
theorem zBU {m:KM} {l:List Nat} (hn:l.Nodup) (h2:l.length≤64) {w:Nat} (hw:w∈l) {i:Nat} (hi:i < l.length):mkT (zA m l) (l.idxOf w:Int) i=zqH l (zF m) w i:=by
 unfold mkT zqH
 rw [zra h2 hi]
 have h1:=zfu hw
 by_cases e:i=l.idxOf w
 ·rw [if_pos (by omega),if_pos (by rw [e];exact h1.2)]
 ·rw [if_neg (by omega),if_neg (fun e'=>e (zij hn hi h1.1 (by rw [h1.2,e'])))]
theorem zAt {m:KM} {l:List Nat} (hn:l.Nodup) (h2:l.length≤64) {w:Nat} (hw:w∈l):(∀ i,i < l.length→(zcU (zA m l) (l.idxOf w:Int)).1 i=(zpu l (zd m) (zF m) w).1 i)∧(zcU (zA m l) (l.idxOf w:Int)).2=(zpu l (zd m) (zF m) w).2:=by
 have hid:Ren l.length fun w=>w:=⟨fun _ h=>h,fun _ _ _ _ h=>h⟩
 have:=zrD hid (zth h2 (m:=m)) (first:=zqH l (zF m) w) (first':=mkT (zA m l) (l.idxOf w:Int)) fun i hi=>zBU hn h2 hw hi
 unfold zcU zpu
 rw [show (zA m l).W.toNat=l.length from Int.toNat_natCast _]
 exact this.2.2
def zfv (p:KM):Bool:=decide ((zcU p (-1)).2=p.W.toNat)
theorem zCJ {p:KM} (root:Int):(zcU p root).2≤p.W.toNat:=by
 unfold zcU;rw [zpA];exact zia _ _
theorem zBT {p:KM} (h:zfv p=true) (root:Int):Ren p.W.toNat (zcU p root).1:=by
 refine (zst (g:=mkT p (-1)) (fun v w _ _ e=>?_) (of_decide_eq_true h)).2
 unfold mkT at e ⊢
 have e2:zF p v=zF p w:=by
  simp only [List.cons.injEq,and_true] at e;exact e.2
 rw [e2,if_neg (by omega),if_neg (by omega)]
noncomputable def zcz (m:KM) (w:Nat):List Nat:=zCy (zH m.W.toNat (zd m) w) (zd m) (zF m) w
noncomputable def zcl (m:KM) (w:Int):KM×List Int×Int :=
 if za m≠0 then (zaF,[],za m) else if w < 0∨m.W≤w then (zaF,[],2) else
 if zfv (zA m (zH m.W.toNat (zd m) w.toNat))=false then (zaF,[],16) else (zA m (zcz m w.toNat),(zcz m w.toNat).map fun (x:Nat)=>(x:Int),0)
theorem zhJ {n:Nat} {R:zI} {w:Nat} : (zH n R w).length≤n:=by
 have:=zbi (zfM n R w) (l':=List.range n) fun x hx=>List.mem_range.2 (zeD.1 hx).lt
 simpa using this
theorem znT {n:Nat} {q:Nat→Nat} (h:Ren n q):za9 (ptL n q) n=true:=by
 rw [zcV]
 refine ⟨z1,fun x hx=>?_,?_⟩
 ·obtain ⟨w,hw,rfl⟩:=List.mem_map.1 hx
  have:=h.lt w (List.mem_range.1 hw);omega
 ·unfold ptL
  rw [List.Nodup,List.pairwise_map]
  exact List.Pairwise.imp_of_mem (fun {a b} ha hb hab e=>hab (h.inj a b (List.mem_range.1 ha) (List.mem_range.1 hb) (by omega))) List.nodup_range
theorem zCS {n:Nat} {q:Nat→Nat} {w:Nat} (hw:w < n):toF (ptL n q) w=q w:=by
 have:at0 (ptL n q) w=((q w:Nat):Int):=zaj (zG hw)
 unfold toF;omega
theorem zCF {n:Nat} {q:Nat→Nat} (h:Ren n q) {i:Nat} (hi:i < n):(zde (ptL n q) n).getD i 0=zcm n q i:=by
 obtain ⟨w,hw,rfl⟩:=h.surj hi
 have:=zyj (znT h) hw
 rw [zCS hw] at this
 rw [this,znN h hw]
theorem zts {m:KM} (hc:za m=0) {w:Nat} (hw:w < m.W.toNat) (hmin:zfv (zA m (zH m.W.toNat (zd m) w))=true) :
  let l:=zH m.W.toNat (zd m) w
  let q:=(zcU (zA m l) (l.idxOf w:Int)).1
  Ren l.length q∧zA (zA m l) (zde (ptL l.length q) l.length)=zA m (zcz m w)∧zcz m w=(List.range l.length).map fun k=>l.getD (zcm l.length q k) 0:=by
 intro l q
 have hg:=zn hc
 have w2:=hg.w2
 have hl:l.length≤64:=by have:=zhJ (n:=m.W.toNat) (R:=zd m) (w:=w);show (zH m.W.toNat (zd m) w).length≤64;omega
 have hwl:w∈l:=zdE hw
 have hp:=zAt (m:=m) (zfM m.W.toNat (zd m) w) hl hwl
 have hq:Ren l.length q:=by
  have:=zBT hmin (l.idxOf w:Int)
  rw [show (zA m (zH m.W.toNat (zd m) w)).W.toNat=l.length from Int.toNat_natCast _] at this
  exact this
 have e:zcz m w=(List.range l.length).map fun k=>l.getD (zcm l.length q k) 0:=by
  unfold zcz zCy
  refine zC fun k hk=>?_
  show l.getD (zcm l.length _ k) 0=_
  congr 1
  obtain ⟨v,hv,rfl⟩:=hq.surj hk
  have hq':Ren l.length (zpu l (zd m) (zF m) w).1:=⟨fun i hi=>(hp.1 i hi)▸hq.lt i hi,fun i j hi hj e=>hq.inj i j hi hj (((hp.1 i hi).trans e).trans (hp.1 j hj).symm)⟩
  rw [znN hq hv,show q v=(zpu l (zd m) (zF m) w).1 v from hp.1 v hv,znN hq' hv]
 refine ⟨hq,?_,e⟩
 have hk:(zde (ptL l.length q) l.length).length=l.length:=zkb _ _
 rw [zBq hl (by omega) (fun x hx=>?_),e]
 ·congr 1
  refine zfo (d:=0) (by simp [hk]) fun i hi=>?_
  rw [List.length_map,hk] at hi
  have h1:((zde (ptL l.length q) l.length).map fun i=>l.getD i 0).getD i 0=l.getD ((zde (ptL l.length q) l.length).getD i 0) 0:=by
   simp [List.getD,List.getElem?_map,List.getElem?_eq_getElem (show i < (zde (ptL l.length q) l.length).length by omega)]
  rw [h1,zCF hq hi]
  simp [List.getD,hi]
 ·obtain ⟨i,hi,rfl⟩:=zlA hx
  exact zt1 (znT hq) (by omega)
end Go.Ab
namespace Go.Proofs
def Tryz.lays129_ren:Go.Shelf.Ren:=⟨fun|129=>65|n=>n,fun|53=>43|3=>3|4=>4|46=>44|5=>5|9=>9|n=>n,fun|n=>n⟩
theorem Tryz.lays129:Go.Proofs.Lays.n129 Tryz.prog Tryz.lays129_ren := {
 mixed:=by kernel_rfl
 f129:=Tryz.func65.trans (congrArg some (by kernel_rfl))
 t3:=Tryz.underlying3
 a3:=Tryz.isAgg3
 z3:=Tryz.sizeOf3
 v3:=Tryz.zeroValue3
 t4:=Tryz.underlying4
 a4:=Tryz.isAgg4
 z4:=Tryz.sizeOf4
 v4:=Tryz.zeroValue4
 t5:=Tryz.underlying5
 a5:=Tryz.isAgg5
 z5:=Tryz.sizeOf5
 v5:=Tryz.zeroValue5
 t9:=Tryz.underlying9
 a9:=Tryz.isAgg9
 z9:=Tryz.sizeOf9
 v9:=Tryz.zeroValue9
 t46:=Tryz.underlying44
 a46:=Tryz.isAgg44
 z46:=Tryz.sizeOf44
 v46:=Tryz.zeroValue44
 t53:=Tryz.underlying43
 a53:=Tryz.isAgg43
 z53:=Tryz.sizeOf43
 v53:=Tryz.zeroValue43 }
end Go.Proofs
namespace Go.Ab
open Go Go.Proofs
set_option maxRecDepth 10000
set_option maxHeartbeats 4000000
variable {T:Nat→Obj→Prop}
theorem zwv:zcQ Tryz.prog zhp:=⟨_,Tryz.func65,by kernel_rfl,by kernel_rfl⟩
theorem zz3 (x:BitVec 64):Fn Tryz.prog T zhp [.d (.u64 x)] [] (.d (.int .i64 (Sort.bitsLen x.toNat:Int))) []:=by
 refine zvT (ds:=[.u64 x]) zwv fun w args hw hsz hargs=>?_
 obtain ⟨X,hX⟩:=hargs 0 (by simp)
 have ha:args = #[.int .u64 (x.toNat:Int)]:=by
  have h0:args.getD 0 undef = .int .u64 (x.toNat:Int):=by
   generalize args.getD 0 undef=y at hX
   cases hX;rfl
  obtain ⟨l⟩:=args
  match l,hsz with
  | [y],_=>rw [← h0];rfl
 rw [ha]
 have:=Any.bits_Len64 Tryz.lays129 (x.toNat:Int) w (by omega) (by have:=x.isLt;omega)
 refine this.mono fun e w' he=>⟨_,he.1,he.2,fun X=>?_⟩
 rw [Int.toNat_natCast,Go.Proofs.bitLen_eq _ x.isLt]
 exact .int _ _ (by decide)
theorem ztQ (x:BitVec 64):Fn Tryz.prog T zd4 [.d (.u64 x)] [] (.d (.int .i64 (Sort.bitsLen x.toNat:Int))) []:=by
 refine zb zm zqB (by show 1≤8;decide) ?_
 (repeat' ((conv=>whnf);first|refine vT ?_|refine vX ?_|refine yD (zz3 _) ⟨⟨rfl,rfl⟩,rfl⟩ rfl ?_));all_goals try conv=>whnf
end Go.Ab
namespace Go.Ab
open Go Go.Proofs
set_option maxRecDepth 10000
set_option maxHeartbeats 4000000
section
variable {α:Type} [Inhabited α] [DecidableEq α]
def ddA (d:Array α):Nat→List α
 | 0=>[]
 | n+1=>if 0 < n∧d[n]! = d[n - 1]! then ddA d n else ddA d n++[d[n]!]
def Steps (d:Array α):Prop := ∀ j,0 < j→j < d.size→d[j]! ≠ d[j - 1]!
theorem zzp {d:Array α} {n:Nat} (h:n < d.size):d.toList.take (n+1)=d.toList.take n++[d[n]!]:=by
 rw [List.take_add_one,zbQ h];rfl
theorem znJ {d:Array α} : ∀ {n:Nat},n≤d.size→(∀ j,0 < j→j < n→d[j]! ≠ d[j - 1]!)→ddA d n=d.toList.take n
 | 0,_,_=>rfl
 | n+1,h,hs=>by
  rw [ddA,if_neg (fun hh=>hs n hh.1 (by omega) hh.2),znJ (by omega) (fun j h0 h1=>hs j h0 (by omega)),zzp (by omega)]
theorem ztx {d:Array α} {k:Nat} (h0:0 < k) (h1:k < d.size) (hk : ∀ j,0 < j→j < k→d[j]! ≠ d[j - 1]!) (he:d[k]! = d[k - 1]!):d.toList.take k=ddA d (k+1):=by
 rw [ddA,if_pos ⟨h0,he⟩,znJ (by omega) hk]
theorem zuM {e:Array α} {a:Nat} {x:α} (h:a < e.size):(e.setIfInBounds a x).toList.take (a+1)=e.toList.take a++[x]:=by
 have hl:a < e.toList.length:=by simpa using h
 rw [Array.toList_setIfInBounds,List.take_add_one,List.getElem?_set_self hl,List.take_set_of_le (Nat.le_refl a)];rfl
theorem zwb {e:Array α} {a j:Nat} {x:α} (h:a≠j):(e.setIfInBounds a x)[j]! = e[j]! := by
 simp [getElem!_def,Array.getElem?_setIfInBounds_ne h]
theorem zvP {d:Array α} {n:Nat} (h:0 < n) (he:d[n]! = d[n - 1]!):ddA d (n+1)=ddA d n:=by rw [ddA,if_pos ⟨h,he⟩]
theorem zxU {d:Array α} {n:Nat} (he:d[n]! ≠ d[n - 1]!):ddA d (n+1)=ddA d n++[d[n]!]:=by rw [ddA,if_neg (fun h=>he h.2)]
theorem zvN {enc:α→D} {e:Array α} {z:D} {a n:Nat} (h:a≤e.size):((List.take a (e.toList.map enc))++(List.replicate n z++List.drop (a+n) (e.toList.map enc))).take a=(e.toList.take a).map enc:=by
 rw [List.take_append_of_le_length (by simp;omega),List.take_take,Nat.min_self,List.map_take]
end
end Go.Ab
namespace Go.Ab
section
variable {α:Type} [Inhabited α] [DecidableEq α]
theorem zfC {d:Array α} {x:α} : ∀ {n:Nat},x∈ddA d n ↔ ∃ i,i < n∧d[i]! = x
 | 0=>by simp [ddA]
 | n+1=>by
  rw [ddA]
  constructor
  ·intro h
   split at h
   ·obtain ⟨i,h1,h2⟩:=zfC.1 h
    exact ⟨i,by omega,h2⟩
   ·rcases List.mem_append.1 h with h|h
    ·obtain ⟨i,h1,h2⟩:=zfC.1 h
     exact ⟨i,by omega,h2⟩
    ·exact ⟨n,by omega,by simp at h;exact h.symm⟩
  ·rintro ⟨i,h1,h2⟩
   split
   ·rename_i hc
    by_cases e:i=n
    ·subst e
     exact zfC.2 ⟨i - 1,by omega,by rw [← hc.2];exact h2⟩
    ·exact zfC.2 ⟨i,by omega,h2⟩
   ·by_cases e:i=n
    ·subst e;exact List.mem_append.2 (.inr (by simp [h2]))
    ·exact List.mem_append.2 (.inl (zfC.2 ⟨i,by omega,h2⟩))
theorem zk9 {lt:α→α→Bool} {d:Array α} (hs : ∀ i j,i < j→j < d.size→lt d[j]! d[i]! = false) (tri : ∀ x y,lt x y=false→lt y x=false→x=y) : ∀ {n:Nat},n≤d.size→(ddA d n).Pairwise fun x y=>lt x y=true
 | 0,_=>List.Pairwise.nil
 | n+1,h=>by
  rw [ddA]
  split
  ·exact zk9 hs tri (by omega)
  ·rename_i hc
   refine List.pairwise_append.2 ⟨zk9 hs tri (by omega),List.pairwise_singleton _ _,fun x hx y hy=>?_⟩
   obtain ⟨i,hi,rfl⟩:=zfC.1 hx
   have hy:y=d[n]! := by simpa using hy
   subst hy
   cases hb:lt d[i]! d[n]! with
   | true=>rfl
   | false =>
    have e1:=tri _ _ hb (hs i n hi (by omega))
    refine absurd ⟨by omega,?_⟩ hc
    by_cases e:i=n - 1
    ·rw [← e];exact e1.symm
    ·refine (tri _ _ ?_ ?_)
     ·exact hs (n - 1) n (by omega) (by omega)
     ·rw [← e1];exact hs i (n - 1) (by omega) (by omega)
end
def ltT (x y:Tup):Bool:=decide (zaq x y < 0)
theorem zhM {x y:Tup} : ltT x y=true↔zaq x y < 0:=by simp [ltT]
theorem zuc {x y:Tup} : ltT x y=false↔0≤zaq x y:=by simp [ltT]
theorem zCR:Sort.SWO ltT:=by
 refine ⟨fun x=>zuc.2 (by rw [zal.refl];omega),fun x y z h1 h2=>zhM.2 (zal.tr (zhM.1 h1) (zhM.1 h2)),fun x y z h1 h2=>?_⟩
 rw [zuc] at *
 have a1:=zal.anti x y
 have a2:=zal.anti y z
 have a3:=zal.anti x z
 by_cases e1:zaq x y=0
 ·rw [zal.zero.1 e1];exact h2
 ·by_cases e2:zaq y z=0
  ·rw [← zal.zero.1 e2];exact h1
  ·have:=zal.tr (x:=z) (y:=y) (z:=x) (by omega) (by omega)
   omega
theorem zmR {α:Type} {p:α→Bool} : ∀ {S:List α} {i:Nat},i≤S.length→(∀ (k:Nat) x,k < i→S[k]? = some x→p x=true)→(∀ (k:Nat) x,i≤k→S[k]? = some x→p x=false)→(S.filter p).length=i
 | [],i,hi,_,_=>by simp at hi;simp [hi]
 | a::S,0,hi,h1,h2=>by
  have:(a::S).filter p=[]:=by
   rw [List.filter_eq_nil_iff]
   intro x hx
   obtain ⟨k,hk⟩:=List.getElem?_of_mem hx
   rw [h2 k x (by omega) hk];simp
  rw [this];rfl
 | a::S,i+1,hi,h1,h2=>by
  rw [List.filter_cons_of_pos (h1 0 a (by omega) rfl),List.length_cons,zmR (i:=i) (by simpa using hi) (fun k x hk hx=>h1 (k+1) x (by omega) (by simpa using hx)) fun k x hk hx=>h2 (k+1) x (by omega) (by simpa using hx)]
structure zcp (ts S:List Tup):Prop where
 pw:S.Pairwise fun x y=>zaq x y < 0
 mem : ∀ x,x∈S↔x∈ts
theorem zcp.nodup {ts S:List Tup} (h:zcp ts S):S.Nodup:=h.pw.imp fun {a b} h e=>by subst e;rw [zal.refl] at h;omega
theorem zcp.cnt {ts S:List Tup} (h:zcp ts S):S.length=cnN ts:=zA9 h.nodup h.mem
theorem zcp.le {ts S:List Tup} (h:zcp ts S):S.length≤ts.length:=zbi h.nodup fun x hx=>(h.mem x).1 hx
theorem zcp.rk {ts S:List Tup} (h:zcp ts S) {t:Tup} {i:Nat} (hi:i≤S.length) (h1 : ∀ (k:Nat) x,k < i→S[k]? = some x→zaq x t < 0) (h2 : ∀ (k:Nat) x,i≤k→S[k]? = some x → ¬zaq x t < 0):i=rkN ts t:=by
 rw [← zxh h.nodup h.mem]
 exact (zmR hi (fun k x hk hx=>decide_eq_true (h1 k x hk hx)) fun k x hk hx=>decide_eq_false (h2 k x hk hx)).symm
theorem zcp.lt_of {ts S:List Tup} (h:zcp ts S) {t:Tup} {i k:Nat} {x y:Tup} (hx:S[i]? = some x) (hy:S[k]? = some y) (hik:k≤i) (hl:zaq x t < 0):zaq y t < 0:=by
 by_cases e:k=i
 ·subst e;rw [hx] at hy;cases hy;exact hl
 ·obtain ⟨a,b⟩:=List.getElem?_eq_some_iff.1 hx
  obtain ⟨c,d⟩:=List.getElem?_eq_some_iff.1 hy
  have:=List.pairwise_iff_getElem.1 h.pw k i c a (by omega)
  rw [b,d] at this
  exact zal.tr this hl
theorem zsF (d:Array Tup):(Sort.sort ltT d).toList.Perm d.toList:=by
 obtain ⟨⟨h1,-,h2⟩,-⟩:=Sort.sort_sorts ltT zCR d
 have e1:(Sort.sort ltT d).extract 0 d.size=Sort.sort ltT d:=by rw [← h1];simp
 have e2:d.extract 0 d.size=d:=by simp
 rwa [e1,e2] at h2
theorem zxq {ts:List Tup} {S:Array Tup} (hS:S=Sort.sort ltT ts.toArray):zcp ts (ddA S S.size):=by
 subst hS
 obtain ⟨⟨h1,-,-⟩,h3⟩:=Sort.sort_sorts _ zCR ts.toArray
 have hp:=zsF ts.toArray
 generalize Sort.sort ltT ts.toArray=S at h1 h3 hp
 refine ⟨?_,fun x=>?_⟩
 ·refine (zk9 (fun i j hij hj=>h3 i j (Nat.zero_le _) hij (by rw [← h1];exact hj)) (fun x y h1 h2=>zal.zero.1 (by rw [zuc] at h1 h2;have:=zal.anti x y;omega)) (Nat.le_refl _)).imp fun h=>zhM.1 h
 ·rw [zfC]
  have:=hp.mem_iff (a:=x)
  rw [show ts.toArray.toList=ts from rfl] at this
  rw [← this]
  constructor
  ·rintro ⟨i,hi,rfl⟩;exact List.mem_of_getElem? (zbQ hi)
  ·intro hx
   obtain ⟨i,hi⟩:=List.getElem?_of_mem hx
   exact ⟨i,(za7 hi).2,(za7 hi).1⟩
end Go.Ab
namespace Go.Ab
open Go Go.Proofs
set_option maxRecDepth 10000
set_option maxHeartbeats 4000000
variable {T:Nat→Obj→Prop}
theorem zeC (a b:Int):Fn Tryz.prog T zbG [.d (.int .i64 a),.d (.int .i64 b)] [] (.d (.int .i64 (zap a b))) []:=by
 have hn : ∀ z:Int,Fn Tryz.prog T zfr [.d (.int .i64 z)] [] (.d (.bool false)) []:=fun z=>by
  refine zb zm zik (by show 1≤6;decide) ?_
  (repeat' ((conv=>whnf);first|refine vT ?_|refine vZ ?_));all_goals try conv=>whnf
  simp
 refine zb zm zm5 (by show 2≤20;decide) ?_
 (repeat' ((conv=>whnf);first|refine vA ?_|refine vH ?_|(refine vF ?_ ?_<;>intro hc<;>try simp only [vL] at hc)|refine vT ?_|refine vX ?_|refine yD (hn _) (by (repeat refine ⟨⟨rfl,rfl⟩,?_⟩);rfl) rfl ?_));all_goals try conv=>whnf
 all_goals (unfold zap;first|rw [if_pos ‹_›]|(rw [if_neg (by omega)];first|rw [if_pos ‹_›]|rw [if_neg (by omega)])|skip)
theorem ztt {α:Type} {c:α→α→Int} {a b:List α} {k:Nat} (h:k=min a.length b.length):zX c (a.drop k) (b.drop k)=zap (a.length:Int) (b.length:Int):=by
 rcases Nat.lt_trichotomy a.length b.length with h1|h1|h1
 ·rw [List.drop_eq_nil_of_le (show a.length≤k by omega)]
  obtain ⟨x,hx⟩ : ∃ x,b[k]? = some x:=⟨_,List.getElem?_eq_getElem (by omega)⟩
  rw [zt hx,zX,zap,if_pos (by omega)]
 ·rw [List.drop_eq_nil_of_le (show a.length≤k by omega),List.drop_eq_nil_of_le (show b.length≤k by omega),zX,zap,if_neg (by omega),if_neg (by omega)]
 ·rw [List.drop_eq_nil_of_le (show b.length≤k by omega)]
  obtain ⟨x,hx⟩ : ∃ x,a[k]? = some x:=⟨_,List.getElem?_eq_getElem (by omega)⟩
  rw [zt hx,zX,zap,if_neg (by omega),if_pos (by omega)]
theorem zrq (a b:List Int) (ha:a.length≤1000000):Fn Tryz.prog T zeO [.d (dI a),.d (dI b),.d (.fn zbG [])] [] (.d (.int .i64 (zX zap a b))) []:=by
 refine zb zm ziN (by show 3≤36;decide) ?_
 (repeat' ((conv=>whnf);first|refine vA ?_|refine vJ fun hg=>?_|refine vT ?_));all_goals try conv=>whnf
 refine zM (fun (k:Nat)=>[(0,.d (dI a)),(1,.d (dI b)),(2,.d (.fn zbG [])),(13,.d (.int .i64 ((min ((a.map (D.int .i64)).length:Int) ((b.map (D.int .i64)).length:Int))))),(14,.d (.int .i64 ((k:Int))))]) (fun (k:Nat)=>k≤a.length∧k≤b.length∧zX zap a b=zX zap (a.drop k) (b.drop k)) (fun (k:Nat)=>a.length - k) (0) (⟨by simp,by simp,rfl⟩) (by (repeat' first|exact trivial|exact rfl|refine And.intro ?_ ?_)) ?_
 rintro k ⟨hk,hk2,hI⟩
 by_cases hkl:k < a.length∧k < b.length
 ·obtain ⟨x,hx⟩ : ∃ x,a[k]? = some x:=⟨_,List.getElem?_eq_getElem hkl.1⟩
  obtain ⟨y,hy⟩ : ∃ y,b[k]? = some y:=⟨_,List.getElem?_eq_getElem hkl.2⟩
  have hs:zX zap a b=if zap x y=0 then zX zap (a.drop (k+1)) (b.drop (k+1)) else zap x y:=by rw [hI,zt hx,zt hy,zX]
  (repeat' ((conv=>whnf);first|refine vA ?_|((first|refine vD ?_ ?_|refine vF ?_ ?_)<;>intro hc<;>try simp only [vL] at hc)|refine vJ fun hg=>?_|refine vT ?_|refine vN ‹_› ?_|(refine vO ?_ ?_;·omega)|(refine vU ?_ ?_;·kernel_rfl)|refine vX ?_|refine yD (zeC _ _) ⟨⟨rfl,rfl⟩,⟨rfl,rfl⟩,rfl⟩ rfl ?_));all_goals try conv=>whnf
  ·rw [hs,if_neg hc]
  ·exact ⟨k+1,[],[],⟨by omega,by omega,by rw [hs,if_pos hc]⟩,by (omega),by (refine ⟨rfl,rfl,rfl,?_,?_⟩;repeat' first|exact trivial|exact rfl|refine And.intro ?_ ?_)⟩
  ·omega
 ·(repeat' ((conv=>whnf);first|refine vA ?_|((first|refine vD ?_ ?_|refine vF ?_ ?_)<;>intro hc<;>try simp only [vL] at hc)|refine vJ fun hg=>?_|refine vT ?_|(refine vQ ?_ fun x hx=>?_;·omega)|(refine vO ?_ ?_;·omega)|(refine vU ?_ ?_;·kernel_rfl)|refine vX ?_|refine yD (zeC _ _) ⟨⟨rfl,rfl⟩,⟨rfl,rfl⟩,rfl⟩ rfl ?_));all_goals try conv=>whnf
  iterate 2 (exfalso;omega)
  ·rw [hI,ztt (by omega),List.length_map,List.length_map]
def Sml (t:Tup):Prop:=t.length≤1000 ∧ ∀ r∈t,r.length≤1000
theorem zx4 (x y:List Int) (h:x.length≤1000000):Fn Tryz.prog T zbH [.d (dI x),.d (dI y)] [] (.d (.int .i64 (zX zap x y))) []:=by
 refine zb zm zm7 (by show 2≤8;decide) ?_
 (repeat' ((conv=>whnf);first|refine vT ?_|refine vX ?_|refine yD (zrq x y h) ⟨⟨rfl,rfl⟩,⟨rfl,rfl⟩,⟨rfl,rfl⟩,rfl⟩ rfl ?_));all_goals try conv=>whnf
theorem ztT (a b:Tup) (ha:a.length≤1000000) (hb : ∀ r∈a,r.length≤1000000):Fn Tryz.prog T zeg [.d (dII a),.d (dII b),.d (.fn zbH [])] [] (.d (.int .i64 (zX (zX zap) a b))) []:=by
 refine zb zm zil (by show 3≤36;decide) ?_
 (repeat' ((conv=>whnf);first|refine vA ?_|refine vJ fun hg=>?_|refine vT ?_));all_goals try conv=>whnf
 refine zM (fun (k:Nat)=>[(0,.d (dII a)),(1,.d (dII b)),(2,.d (.fn zbH [])),(13,.d (.int .i64 ((min ((a.map dI).length:Int) ((b.map dI).length:Int))))),(14,.d (.int .i64 ((k:Int))))]) (fun (k:Nat)=>k≤a.length∧k≤b.length∧zX (zX zap) a b=zX (zX zap) (a.drop k) (b.drop k)) (fun (k:Nat)=>a.length - k) (0) (⟨by simp,by simp,rfl⟩) (by (repeat' first|exact trivial|exact rfl|refine And.intro ?_ ?_)) ?_
 rintro k ⟨hk,hk2,hI⟩
 by_cases hkl:k < a.length∧k < b.length
 ·obtain ⟨x,hx⟩ : ∃ x,a[k]? = some x:=⟨_,List.getElem?_eq_getElem hkl.1⟩
  obtain ⟨y,hy⟩ : ∃ y,b[k]? = some y:=⟨_,List.getElem?_eq_getElem hkl.2⟩
  have hs:zX (zX zap) a b=if (zX zap) x y=0 then zX (zX zap) (a.drop (k+1)) (b.drop (k+1)) else (zX zap) x y:=by rw [hI,zt hx,zt hy,zX]
  have cA:=zx4 (T:=T) x y (hb x (List.mem_of_getElem? hx))
  (repeat' ((conv=>whnf);first|refine vA ?_|((first|refine vD ?_ ?_|refine vF ?_ ?_)<;>intro hc<;>try simp only [vL] at hc)|refine vJ fun hg=>?_|refine vT ?_|refine vN ‹_› ?_|(refine vO ?_ ?_;·omega)|(refine vU ?_ ?_;·kernel_rfl)|refine vX ?_|refine yD cA ⟨⟨rfl,rfl⟩,⟨rfl,rfl⟩,rfl⟩ rfl ?_|refine yD (zeC _ _) ⟨⟨rfl,rfl⟩,⟨rfl,rfl⟩,rfl⟩ rfl ?_));all_goals try conv=>whnf
  ·rw [hs,if_neg hc]
  ·exact ⟨k+1,[],[],⟨by omega,by omega,by rw [hs,if_pos hc]⟩,by (omega),by (refine ⟨rfl,rfl,rfl,?_,?_⟩;repeat' first|exact trivial|exact rfl|refine And.intro ?_ ?_)⟩
  ·omega
 ·(repeat' ((conv=>whnf);first|refine vA ?_|(refine vF ?_ ?_<;>intro hc<;>try simp only [vL] at hc)|refine vJ fun hg=>?_|refine vT ?_|(refine vQ ?_ fun x hx=>?_;·omega)|refine vX ?_|refine yD (zeC _ _) ⟨⟨rfl,rfl⟩,⟨rfl,rfl⟩,rfl⟩ rfl ?_));all_goals try conv=>whnf
  ·exfalso;omega
  ·rw [hI,ztt (by omega),List.length_map,List.length_map]
theorem zih (x y:Tup) (h:Sml x):Fn Tryz.prog T zS [.d (dII x),.d (dII y)] [] (.d (.int .i64 (zaq x y))) []:=by
 have cB:=ztT (T:=T) x y (by have:=h.1;omega) (fun r hr=>by have:=h.2 r hr;omega)
 refine zb zm zpk (by show 2≤8;decide) ?_
 (repeat' ((conv=>whnf);first|refine vT ?_|refine vX ?_|refine yD cB ⟨⟨rfl,rfl⟩,⟨rfl,rfl⟩,⟨rfl,rfl⟩,rfl⟩ rfl ?_));all_goals try conv=>whnf
 rfl
theorem zCl {α:Type} [Inhabited α] {d:Array α} {i j:Nat} (hi:i < d.size) (hj:j < d.size) {x:α} (h:x∈(Sort.swp d i j).toList):x∈d.toList:=by
 have a1:=List.mem_of_getElem? (zbQ hi)
 have a2:=List.mem_of_getElem? (zbQ hj)
 unfold Sort.swp at h
 simp only [Array.set!_eq_setIfInBounds,Array.toList_setIfInBounds] at h
 rcases List.mem_or_eq_of_mem_set h with h|rfl
 ·rcases List.mem_or_eq_of_mem_set h with h|rfl
  ·exact h
  ·exact a2
 ·exact a1
abbrev zgI (d:Array Tup):Ob := .row 1 (d.toList.map dII)
theorem zBI (d:Array Tup) (b:Nat) (hd : ∀ x∈d.toList,Sml x) (hb:b≤d.size) (hs:d.size≤1000) :
  Fn Tryz.prog T zaX [.own 0,.d (.int .i64 0),.d (.int .i64 (b:Int)),.d (.fn zS [])] [zgI d] (.tup []) [some (zgI (Sort.insertionSort ltT d 0 b))]:=by
 refine zaL zm zcF (by show 4≤53;decide) _ (fun e env mem n h=>h) ?_
 (repeat' ((conv=>whnf);first|refine vT ?_|(refine vO ?_ ?_;·omega)|fail));all_goals try conv=>whnf
 refine zf (fun ((ii,xs):Int×List D)=>[(0,.own 0),(1,.d (.int .i64 (0))),(2,.d (.int .i64 ((b:Int)))),(3,.d (.fn zS [])),(8,.d (.int .i64 (ii))),(zg,.own 0)]) (fun ((ii,xs):Int×List D)=>[(0,some (.row 1 xs))]) 1 (fun ((ii,xs):Int×List D) => ∃ (i:Nat) (e:Array Tup),ii=i∧xs=e.toList.map dII∧0 < i∧i≤b+1∧e.size=d.size∧(∀ x∈e.toList,Sml x)∧Sort.insOuter ltT 0 b i e=Sort.insertionSort ltT d 0 b) (fun ((ii,xs):Int×List D)=>(b - ii).toNat) (((0:Int)+1,d.toList.map dII)) [(0,0)] [] (⟨1,d,by omega,rfl,by omega,by omega,rfl,hd,rfl⟩) (by (refine ⟨rfl,rfl,rfl,?_,?_⟩;repeat' first|exact trivial|exact rfl|refine And.intro ?_ ?_|refine ⟨_,rfl,?_⟩|decide)) ?_
 rintro ⟨_,_⟩ ⟨i,e,rfl,rfl,hi,hi2,he,hsm,hI⟩
 (repeat' ((conv=>whnf);first|refine vA ?_|(refine vF ?_ ?_<;>intro hc<;>try simp only [vL] at hc)|refine vT ?_));all_goals try conv=>whnf
 ·refine zf (fun ((jj,xs):Int×List D)=>[(0,.own 0),(1,.d (.int .i64 (0))),(2,.d (.int .i64 ((b:Int)))),(3,.d (.fn zS [])),(8,.d (.int .i64 ((i:Int)))),(9,.d (.int .i64 (jj))),(zg,.own 0)]) (fun ((jj,xs):Int×List D)=>[(0,some (.row 1 xs))]) 1 (fun ((jj,xs):Int×List D) => ∃ (j:Nat) (g:Array Tup),jj=j∧xs=g.toList.map dII∧j≤i∧g.size=d.size∧(∀ x∈g.toList,Sml x)∧Sort.insInner ltT 0 j g=Sort.insInner ltT 0 i e) (fun ((jj,xs):Int×List D)=>jj.toNat) (((i:Int),e.toList.map dII)) [(0,0)] [] (⟨i,e,rfl,rfl,by omega,he,hsm,rfl⟩) (by (refine ⟨rfl,rfl,rfl,?_,?_⟩;repeat' first|exact trivial|exact rfl|refine And.intro ?_ ?_|refine ⟨_,rfl,?_⟩|decide)) ?_
  rintro ⟨_,_⟩ ⟨j,g,rfl,rfl,hj,hg,hgm,hJ⟩
  have hgl:g.toList.length=d.size:=by rw [Array.length_toList];exact hg
  have stop : ¬(0 < j∧ltT g[j]! g[j - 1]! = true)→Sort.insOuter ltT 0 b (i+1) g=Sort.insertionSort ltT d 0 b:=fun h=>by
   rw [← hI,Sort.insOuter.eq_def ltT 0 b i,if_pos (by omega),← hJ,zlZ h]
  by_cases hj0:0 < j
  ·have hx1:g.toList[j]? = some g[j]! := zbQ (by omega)
   have hx2:g.toList[((j:Int) - 1).toNat]? = some g[j - 1]! := by rw [show ((j:Int) - 1).toNat=j - 1 by omega];exact zbQ (by omega)
   have co:=zih (T:=T) g[j]! g[j - 1]! (hgm _ (List.mem_of_getElem? hx1))
   (repeat' ((conv=>whnf);first|refine vA ?_|(refine vF ?_ ?_<;>intro hc<;>try simp only [vL] at hc)|refine vT ?_|refine vN ‹_› ?_|((first|refine vO ?_ ?_|refine vP ?_ ?_);·first|omega|(simp only [vM] at *;omega))|(refine vU ?_ ?_;·kernel_rfl)|refine yD co ⟨⟨rfl,rfl⟩,⟨rfl,rfl⟩,rfl⟩ rfl ?_));all_goals try conv=>whnf
   ·refine ⟨(_,_),[(0,0)],[],?_,?_,by (refine ⟨rfl,rfl,rfl,?_,?_⟩;repeat' first|exact trivial|exact rfl|refine And.intro ?_ ?_|refine ⟨_,rfl,?_⟩|decide)⟩
    ·refine ⟨j - 1,Sort.swp g j (j - 1),by omega,?_,by omega,by rw [zuR,hg],fun x hx=>hgm x (zCl (by omega) (by omega) hx),?_⟩
     ·rw [show ((j:Int) - 1).toNat=j - 1 by omega] at hx2 ⊢
      exact zwi hx1 hx2
     ·exact (zlY (d:=g) (j:=j) (by omega) (zhM.2 ‹_›)).symm.trans hJ
    ·((simp only [vM] at *;omega))
   ·refine ⟨(_,_),[(0,0)],[],?_,?_,by (refine ⟨rfl,rfl,rfl,?_,?_⟩;repeat' first|exact trivial|exact rfl|refine And.intro ?_ ?_|refine ⟨_,rfl,?_⟩|decide)⟩
    ·exact ⟨i+1,g,by omega,rfl,by omega,by omega,hg,hgm,stop fun h=>by
      have:=zhM.1 h.2;omega⟩
    ·((simp only [vM] at *;omega))
   ·exfalso;omega
  ·(repeat' ((conv=>whnf);first|refine vA ?_|(refine vF ?_ ?_<;>intro hc<;>try simp only [vL] at hc)|refine vT ?_|(refine vQ ?_ fun x hx=>?_;·omega)|((first|refine vO ?_ ?_|refine vP ?_ ?_);·omega)|(refine vU ?_ ?_;·kernel_rfl)|fail));all_goals try conv=>whnf
   ·exfalso;omega
   ·refine ⟨(_,_),[(0,0)],[],?_,?_,by (refine ⟨rfl,rfl,rfl,?_,?_⟩;repeat' first|exact trivial|exact rfl|refine And.intro ?_ ?_|refine ⟨_,rfl,?_⟩|decide)⟩
    ·exact ⟨i+1,g,by omega,rfl,by omega,by omega,hg,hgm,stop fun h=>by omega⟩
    ·((simp only [vM] at *;omega))
 ·have e0:Sort.insertionSort ltT d 0 b=e:=by
   rw [← hI,Sort.insOuter,if_neg (by omega)]
  rw [e0]
  refine ⟨trivial,_,[(0,0)],[],rfl,.inl (by (repeat' first|exact rfl|refine ⟨_,rfl,?_⟩)),⟨by rfl,by rfl,by rfl,trivial,by (repeat' first|exact trivial|exact rfl|refine And.intro ?_ ?_|refine ⟨_,rfl,?_⟩|exact of_decide_eq_true rfl)⟩,by (repeat' first|exact trivial|exact rfl|refine And.intro ?_ ?_)⟩
theorem zBK (d:Array Tup) (hd : ∀ x∈d.toList,Sml x) (h12:d.size≤12) (l:Nat) :
  Fn Tryz.prog T zbo [.own 0,.d (.int .i64 0),.d (.int .i64 (d.size:Int)),.d (.int .i64 (l:Int)),.d (.fn zS [])] [zgI d] (.tup []) [some (zgI (Sort.pdq ltT d 0 d.size l true true))]:=by
 have hR:Sort.pdq ltT d 0 d.size l true true=Sort.insertionSort ltT d 0 d.size:=by rw [Sort.pdq,if_pos (by omega)]
 rw [hR]
 refine zaL zm zdT (by show 5≤148;decide) _ (fun e env mem n h=>h) ?_
 (repeat' ((conv=>whnf);refine vT ?_));all_goals try conv=>whnf
 refine zf (fun (u:Unit)=>[(0,.own 0),(1,.d (.int .i64 (0))),(2,.d (.int .i64 ((d.size:Int)))),(3,.d (.int .i64 ((l:Int)))),(4,.d (.fn zS [])),(10,.d (.bool (true))),(11,.d (.bool (true))),(zg,.own 0)]) (fun (u:Unit)=>[(0,some (zgI d))]) 1 (fun (u:Unit)=>True) (fun (u:Unit)=>0) (()) [(0,0)] [] (trivial) (by (refine ⟨rfl,rfl,rfl,?_,?_⟩;repeat' first|exact trivial|exact rfl|exact .inr (.inl ⟨rfl,rfl⟩)|refine And.intro ?_ ?_|refine ⟨_,rfl,?_⟩|decide)) ?_
 rintro u -
 (repeat' ((conv=>whnf);first|refine zhW.but 39 rfl ?_|(refine vF ?_ ?_<;>intro hc<;>try simp only [vL] at hc)|refine vT ?_|(refine vO ?_ ?_;·omega)|fail));all_goals try conv=>whnf
 ·refine zaO.objs [0] (zBI d d.size hd (Nat.le_refl _) (by omega)) (by (repeat' first|exact rfl|refine And.intro ?_ ?_|refine ⟨_,rfl,?_⟩)) (by (repeat' first|exact rfl|refine And.intro ?_ ?_)) (by rfl) (by rfl) (by simp) ?_
  (repeat' ((conv=>whnf);refine vT ?_));all_goals try conv=>whnf
  refine ⟨trivial,_,[(0,0)],[],rfl,.inl (by (repeat' first|exact rfl|refine ⟨_,rfl,?_⟩)),⟨by rfl,by rfl,by rfl,trivial,by (repeat' first|exact trivial|exact rfl|refine And.intro ?_ ?_|refine ⟨_,rfl,?_⟩|exact of_decide_eq_true rfl)⟩,by (repeat' first|exact trivial|exact rfl|refine And.intro ?_ ?_)⟩
 all_goals (exfalso;omega)
theorem ztR (d:Array Tup) (hd : ∀ x∈d.toList,Sml x) (h12:d.size≤12):Fn Tryz.prog T zaH [.own 0,.d (.fn zS [])] [zgI d] (.tup []) [some (zgI (Sort.sort ltT d))]:=by
 have hn:((BitVec.ofInt 64 (d.size:Int)).toNat)=d.size:=by simp;omega
 have hl:(d.toList.map dII).length=d.size:=by simp
 have hp:=zBK (T:=T) d hd h12 (Sort.bitsLen d.size)
 refine zaL zm zb5 (by show 2≤14;decide) _ (fun e env mem n h=>h) ?_
 (repeat' ((conv=>whnf);first|refine vJ fun hg=>?_|refine vT ?_|refine yD (ztQ _) ⟨⟨rfl,rfl⟩,rfl⟩ rfl ?_));all_goals try conv=>whnf
 have e1:((d.toList.map dII).length:Int)=(d.size:Int):=by rw [hl]
 have e2:(Sort.bitsLen (BitVec.ofInt 64 ((d.toList.map dII).length:Int)).toNat:Int)=(Sort.bitsLen d.size:Int):=by rw [hl,hn]
 rw [← e1,← e2] at hp
 refine zaO.objs [0] (hp) (by (repeat' first|exact rfl|refine And.intro ?_ ?_|refine ⟨_,rfl,?_⟩)) (by (repeat' first|exact rfl|refine And.intro ?_ ?_)) (by rfl) (by rfl) (by simp) ?_
 (repeat' ((conv=>whnf);refine vT ?_));all_goals try conv=>whnf
 refine ⟨trivial,_,[(0,0)],[],rfl,.inl (by (repeat' first|exact rfl|refine ⟨_,rfl,?_⟩)),⟨by rfl,by rfl,by rfl,trivial,by (repeat' first|exact trivial|exact rfl|refine And.intro ?_ ?_|refine ⟨_,rfl,?_⟩|exact of_decide_eq_true rfl)⟩,by (repeat' first|exact trivial|exact rfl|refine And.intro ?_ ?_)⟩
end Go.Ab
namespace Go.Ab
open Go Go.Proofs
set_option maxRecDepth 10000
set_option maxHeartbeats 4000000
variable {T:Nat→Obj→Prop}
theorem ztU (x y:Tup) (h:Sml x):Fn Tryz.prog T zcB [.d (dII x),.d (dII y)] [] (.d (.bool (decide (x=y)))) []:=by
 have cA:=zih (T:=T) x y h
 refine zb zm zm8 (by show 2≤9;decide) ?_
 (repeat' ((conv=>whnf);first|refine vT ?_|refine vZ ?_|refine yD cA ⟨⟨rfl,rfl⟩,⟨rfl,rfl⟩,rfl⟩ rfl ?_));all_goals try conv=>whnf
 rw [Bool.eq_iff_iff,decide_eq_true_eq,decide_eq_true_eq];exact zal.zero
abbrev fEq:D := .fn zcB []
theorem zu7 (d:Array Tup) (hm : ∀ x∈d.toList,Sml x) (hs:d.size≤1000) (hd:Steps d):Fn Tryz.prog T zE [.own 0,.d fEq] [zgI d] (.own 1) [none,some (zgI d)]:=by
 have hln:d.toList.length=d.size:=Array.length_toList
 refine zaL zm zaw (by show 2≤66;decide) _ (fun e env mem n h=>h) ?_
 (repeat' ((conv=>whnf);first|refine vA ?_|(refine vF ?_ ?_<;>intro hc<;>try simp only [vL] at hc)|refine vJ fun hg=>?_|refine vT ?_));all_goals try conv=>whnf
 ·refine ⟨trivial,_,[(1,0)],[],rfl,.inl (by (repeat' exact rfl)),⟨by rfl,by rfl,by rfl,trivial,by (repeat' first|exact trivial|exact rfl|refine And.intro ?_ ?_|refine ⟨_,rfl,?_⟩|exact of_decide_eq_true rfl)⟩,by (repeat' first|exact trivial|refine And.intro ?_ ?_)⟩
 refine zf (fun (i:Int)=>[(0,.own 0),(1,.d fEq),(5,.d (.int .i64 (i))),(zg,.own 0)]) (fun (i:Int)=>[(0,some (zgI d))]) 1 (fun (i:Int) => ∃ k:Nat,i=k∧0 < k∧k≤d.size) (fun (i:Int)=>(d.size - i).toNat) (1) [(0,0)] [] (⟨1,rfl,by omega,by omega⟩) (by (refine ⟨rfl,rfl,rfl,?_,?_⟩;repeat' first|exact trivial|exact rfl|refine And.intro ?_ ?_|refine ⟨_,rfl,?_⟩|decide)) ?_
 rintro _ ⟨k,rfl,hk0,hk1⟩
 by_cases hkl:k < d.size
 ·have hx1:d.toList[k]? = some d[k]! := zbQ hkl
  have hx2:d.toList[((k:Int) - 1).toNat]? = some d[k - 1]! := by rw [show ((k:Int) - 1).toNat=k - 1 by omega];exact zbQ (by omega)
  have cA:=ztU (T:=T) d[k]! d[k - 1]! (hm _ (List.mem_of_getElem? hx1))
  (repeat' ((conv=>whnf);first|refine vA ?_|(refine vF ?_ ?_<;>intro hc<;>try simp only [vL] at hc)|refine vJ fun hg=>?_|refine vT ?_|refine vN ‹_› ?_|((first|refine vO ?_ ?_|refine vP ?_ ?_);·first|omega|(simp only [vM] at *;omega))|(refine vU ?_ ?_;·kernel_rfl)|refine yD cA ⟨⟨rfl,rfl⟩,⟨rfl,rfl⟩,rfl⟩ rfl ?_));all_goals try conv=>whnf
  ·exact absurd ‹d[k]! = d[k - 1]!› (hd k hk0 hkl)
  ·refine ⟨_,[(0,0)],[],?_,?_,by (refine ⟨rfl,rfl,rfl,?_,?_⟩;repeat' first|exact trivial|exact rfl|refine And.intro ?_ ?_|refine ⟨_,rfl,?_⟩|decide)⟩
   ·exact ⟨k+1,by omega,by omega,by omega⟩
   ·(omega)
  ·exfalso;omega
 ·(repeat' ((conv=>whnf);first|refine vA ?_|(refine vF ?_ ?_<;>intro hc<;>try simp only [vL] at hc)|refine vJ fun hg=>?_|refine vT ?_|(refine vQ ?_ fun x hx=>?_;·omega)|((first|refine vO ?_ ?_|refine vP ?_ ?_);·omega)|fail));all_goals try conv=>whnf
  ·exfalso;omega
  ·refine ⟨trivial,_,[(1,0)],[],rfl,.inl (by (repeat' exact rfl)),⟨by rfl,by rfl,by rfl,trivial,by (repeat' first|exact trivial|exact rfl|refine And.intro ?_ ?_|refine ⟨_,rfl,?_⟩|exact of_decide_eq_true rfl)⟩,by (repeat' first|exact trivial|refine And.intro ?_ ?_)⟩
theorem ztP (d:Array Tup) (hm : ∀ x∈d.toList,Sml x) (hs:d.size≤1000) (hd : ¬Steps d):Fn Tryz.prog T zE [.own 0,.d fEq] [zgI d] (.own 1) [none,some (.row 1 ((ddA d d.size).map dII))]:=by
 generalize hR:(ddA d d.size).map dII=R
 have hln:d.toList.length=d.size:=Array.length_toList
 refine zaL zm zaw (by show 2≤66;decide) _ (fun e env mem n h=>h) ?_
 (repeat' ((conv=>whnf);first|refine vA ?_|(refine vF ?_ ?_<;>intro hc<;>try simp only [vL] at hc)|refine vJ fun hg=>?_|refine vT ?_));all_goals try conv=>whnf
 ·exact absurd (fun j hj0 hj1=>by omega) hd
 refine zf (fun (i:Int)=>[(0,.own 0),(1,.d fEq),(5,.d (.int .i64 (i))),(zg,.own 0)]) (fun (i:Int)=>[(0,some (zgI d))]) 1 (fun (i:Int) => ∃ k:Nat,i=k∧0 < k∧k≤d.size ∧ ∀ j,0 < j→j < k→d[j]! ≠ d[j - 1]!) (fun (i:Int)=>(d.size - i).toNat) (1) [(0,0)] [] (⟨1,rfl,by omega,by omega,fun j _ _=>by omega⟩) (by (refine ⟨rfl,rfl,rfl,?_,?_⟩;repeat' first|exact trivial|exact rfl|refine And.intro ?_ ?_|refine ⟨_,rfl,?_⟩|decide)) ?_
 rintro _ ⟨k,rfl,hk0,hk1,hk⟩
 by_cases hkl:k < d.size
 ·have hx1:d.toList[k]? = some d[k]! := zbQ hkl
  have hx2:d.toList[((k:Int) - 1).toNat]? = some d[k - 1]! := by rw [show ((k:Int) - 1).toNat=k - 1 by omega];exact zbQ (by omega)
  have cA:=ztU (T:=T) d[k]! d[k - 1]! (hm _ (List.mem_of_getElem? hx1))
  (repeat' ((conv=>whnf);first|refine vA ?_|(refine vF ?_ ?_<;>intro hc<;>try simp only [vL] at hc)|refine vJ fun hg=>?_|refine vT ?_|refine vN ‹_› ?_|((first|refine vO ?_ ?_|refine vP ?_ ?_);·first|omega|(simp only [vM] at *;omega))|(refine vU ?_ ?_;·kernel_rfl)|refine yD cA ⟨⟨rfl,rfl⟩,⟨rfl,rfl⟩,rfl⟩ rfl ?_));all_goals try conv=>whnf
  ·have hkk:d[k]! = d[k - 1]! := ‹_›
   refine zf (fun ((w,q,xs):Int×Int×List D)=>[(0,.own 0),(1,.d fEq),(5,.d (.int .i64 (w))),(6,.view 0 k ((d.toList.map dII).length - k)),(7,.d (.int .i64 (q))),(zg,.own 0)]) (fun ((w,q,xs):Int×Int×List D)=>[(0,some (.row 1 xs))]) 1 (fun ((w,q,xs):Int×Int×List D) => ∃ (a b:Nat) (e:Array Tup),w=a∧q=b∧xs=e.toList.map dII∧0 < b∧k+b≤d.size∧a < k+b∧e.size=d.size∧e.toList.take a=ddA d (k+b) ∧ ∀ j,k+b - 1≤j→j < d.size→e[j]! = d[j]!) (fun ((w,q,xs):Int×Int×List D)=>(d.size - k - q).toNat) (((k:Int),(1:Int),d.toList.map dII)) [(0,0)] [] (⟨k,1,d,rfl,rfl,rfl,by omega,by omega,by omega,rfl,ztx hk0 hkl hk hkk,fun _ _ _=>rfl⟩) (by (refine ⟨rfl,rfl,rfl,?_,?_⟩;repeat' first|exact trivial|exact rfl|refine And.intro ?_ ?_|refine ⟨_,rfl,?_⟩|decide)) ?_
   rintro ⟨_,_,_⟩ ⟨a,b,e,rfl,rfl,rfl,hb0,hb1,hab,he,ha,hj⟩
   have hle:e.toList.length=e.size:=Array.length_toList
   by_cases hbl:k+b < d.size
   ·have hy1:e.toList[k+((b:Nat):Int).toNat]? = some e[k+b]! := by rw [Int.toNat_natCast];exact zbQ (by omega)
    have hy2:e.toList[k+(((b:Nat):Int) - 1).toNat]? = some e[k+b - 1]! := by rw [show k+(((b:Nat):Int) - 1).toNat=k+b - 1 by omega];exact zbQ (by omega)
    have e1:=hj (k+b) (by omega) (by omega)
    have e2:=hj (k+b - 1) (by omega) (by omega)
    have cC:=ztU (T:=T) e[k+b]! e[k+b - 1]! (by rw [e1];exact hm _ (List.mem_of_getElem? (zbQ hbl)))
    (repeat' ((conv=>whnf);first|refine vA ?_|refine vE ?_|(refine vF ?_ ?_<;>intro hc<;>try simp only [vL] at hc)|refine vT ?_|refine vN ‹_› ?_|((first|refine vO ?_ ?_|refine vP ?_ ?_);·first|omega|(simp only [vM] at *;omega))|(refine vU ?_ ?_;·kernel_rfl)|refine yD cC ⟨⟨rfl,rfl⟩,⟨rfl,rfl⟩,rfl⟩ rfl ?_));all_goals try conv=>whnf
    ·refine ⟨(_,_,_),[(0,0)],[],?_,?_,by (refine ⟨rfl,rfl,rfl,?_,?_⟩;repeat' first|exact trivial|exact rfl|refine And.intro ?_ ?_|refine ⟨_,rfl,?_⟩|decide)⟩
     ·exact ⟨a,b+1,e,rfl,by omega,rfl,by omega,by omega,by omega,he,
       by rw [ha,← Nat.add_assoc,zvP (by omega) (by rw [← e1,← e2];assumption)],
       fun j h0 h1=>hj j (by omega) h1⟩
     ·((simp only [vM] at *;omega))
    ·refine ⟨(_,_,_),[(0,0)],[],?_,?_,by (refine ⟨rfl,rfl,rfl,?_,?_⟩;repeat' first|exact trivial|exact rfl|refine And.intro ?_ ?_|refine ⟨_,rfl,?_⟩|decide)⟩
     ·exact ⟨a+1,b+1,e.setIfInBounds a e[k+b]!,by omega,by omega,by simp [List.map_set],by omega,by omega,by omega,by simp [he],
       by rw [zuM (by omega),ha,← Nat.add_assoc,zxU (by rw [← e1,← e2];assumption),e1],
       fun j h0 h1=>by rw [zwb (by omega)];exact hj j (by omega) h1⟩
     ·((simp only [vM] at *;omega))
    ·exfalso;omega
   ·(repeat' ((conv=>whnf);first|refine vA ?_|(refine vF ?_ ?_<;>intro hc<;>try simp only [vL] at hc)|refine vT ?_|(refine vQ ?_ fun x hx=>?_;·omega)|((first|refine vO ?_ ?_|refine vP ?_ ?_);·first|omega|(simp only [vM] at *;omega))|fail));all_goals try conv=>whnf
    ·exfalso;omega
    ·have hE:=zvN (enc:=dII) (e:=e) (z:=D.arr 1 []) (a:=a) (n:=(e.toList.map dII).length - a) (by omega)
     rw [ha,show k+b=d.size by omega,hR] at hE
     subst hE
     refine zpM.mk (by simp only [List.length_append,List.length_take,List.length_replicate,List.length_drop,List.length_map,hle];omega) ?_
     (repeat' ((conv=>whnf);refine vT ?_));all_goals try conv=>whnf
     refine ⟨trivial,_,[(1,1)],[],rfl,.inl (by (repeat' exact rfl)),⟨by rfl,by rfl,by rfl,trivial,by (repeat' first|exact trivial|exact rfl|refine And.intro ?_ ?_|refine ⟨_,rfl,?_⟩|exact of_decide_eq_true rfl)⟩,by (repeat' first|exact trivial|refine And.intro ?_ ?_)⟩
  ·refine ⟨_,[(0,0)],[],?_,?_,by (refine ⟨rfl,rfl,rfl,?_,?_⟩;repeat' first|exact trivial|exact rfl|refine And.intro ?_ ?_|refine ⟨_,rfl,?_⟩|decide)⟩
   ·exact ⟨k+1,by omega,by omega,by omega,fun j h0 h1=>by
     by_cases hjk:j=k
     ·subst hjk;assumption
     ·exact hk j h0 (by omega)⟩
   ·(omega)
  ·exfalso;omega
 ·(repeat' ((conv=>whnf);first|refine vA ?_|(refine vF ?_ ?_<;>intro hc<;>try simp only [vL] at hc)|refine vJ fun hg=>?_|refine vT ?_|(refine vQ ?_ fun x hx=>?_;·omega)|((first|refine vO ?_ ?_|refine vP ?_ ?_);·omega)|fail));all_goals try conv=>whnf
  ·exfalso;omega
  ·exact absurd (fun j h0 h1=>hk j h0 (by omega)) hd
theorem zz1 (d:Array Tup) (hm : ∀ x∈d.toList,Sml x) (hs:d.size≤1000):Fn Tryz.prog T zE [.own 0,.d fEq] [zgI d] (.own 1) [none,some (.row 1 ((ddA d d.size).map dII))]:=by
 by_cases hd:Steps d
 ·have:=zu7 (T:=T) d hm hs hd
  rw [znJ (Nat.le_refl _) hd,List.take_of_length_le (by rw [Array.length_toList];exact Nat.le_refl _)]
  exact this
 ·exact ztP d hm hs hd
theorem zx1 (ts:List Tup) (h:ts≠[]) (hl:ts.length≤1000):Fn Tryz.prog T zae [.d (.arr 1 (ts.map dII))] [] (.own 0) [some (.row 1 (ts.map dII))]:=by
 refine zaL zm zcn (by show 1≤8;decide) _ (fun e env mem n h=>h) ?_
 (repeat' ((conv=>whnf);first|refine vA ?_|refine vB fun b hb=>?_|refine vE ?_|(refine vF ?_ ?_<;>intro hc)|refine vT ?_|(refine vP ?_ ?_;·(simp only [vM] at *;omega))|fail));all_goals try conv=>whnf
 ·refine ⟨trivial,_,[(0,1)],[],rfl,.inl (by (repeat' exact rfl)),⟨by rfl,by rfl,by rfl,trivial,by (repeat' first|exact trivial|exact rfl|refine And.intro ?_ ?_|refine ⟨_,rfl,?_⟩|exact of_decide_eq_true rfl)⟩,by (repeat' exact trivial)⟩
 ·exact absurd (List.map_eq_nil_iff.1 (hb (by simpa using hc))) h
theorem zCC (S:List Tup) (ts:List Tup) (hS:zcp ts S) (hl:S.length≤1000) (hm : ∀ x∈S,Sml x) (t:Tup) :
  ∃ b:Bool,Fn Tryz.prog T zZ [.d (.arr 1 (S.map dII)),.d (dII t),.d (.fn zS [])] [] (.d (.tup [.int .i64 (rkN ts t:Int),.bool b])) []:=by
 have key : ∀ i:Nat,i≤S.length→(∀ (k:Nat) x,k < i→S[k]? = some x→zaq x t < 0)→(∀ (k:Nat) x,i≤k→S[k]? = some x → ¬zaq x t < 0)→i=rkN ts t:=fun i h1 h2 h3=>hS.rk h1 h2 h3
 refine ⟨decide (rkN ts t < S.length∧zaq (S.getD (rkN ts t) []) t=0),?_⟩
 refine zb zm zaM (by show 3≤49;decide) ?_
 (repeat' ((conv=>whnf);first|refine vA ?_|refine vJ fun hg=>?_|refine vT ?_));all_goals try conv=>whnf
 refine zM (fun ((i,j):Nat×Nat)=>[(0,.d (.arr 1 (S.map dII))),(1,.d (dII t)),(2,.d (.fn zS [])),(8,.d (.int .i64 ((S.map dII).length:Int))),(9,.d (.int .i64 ((i:Int)))),(10,.d (.int .i64 ((j:Int))))]) (fun ((i,j):Nat×Nat)=>i≤j∧j≤S.length∧(∀ (k:Nat) x,k < i→S[k]? = some x→zaq x t < 0)∧(∀ (k:Nat) x,j≤k→S[k]? = some x → ¬zaq x t < 0)) (fun ((i,j):Nat×Nat)=>j - i) ((0,(S.map dII).length)) (⟨by omega,by simp,fun k x hk=>by omega,fun k x hk hx=>by have:=(List.getElem?_eq_some_iff.1 hx).1;simp at hk;omega⟩) (by (repeat' first|exact trivial|exact rfl|refine And.intro ?_ ?_)) ?_
 rintro ⟨i,j⟩ ⟨hij,hj,h1,h2⟩
 by_cases hlt:i < j
 ·have hh:(i+j) / 2 < S.length:=by omega
  have e2:(BitVec.ofInt 64 ((i:Int)+(j:Int)) >>> BitVec.toNat (1:BitVec 64)).toNat=(i+j) / 2:=by
   rw [BitVec.toNat_ushiftRight,show BitVec.toNat (1:BitVec 64)=1 from rfl,show ((i:Int)+(j:Int))=((i+j:Nat):Int) by omega,zja (by omega),Nat.shiftRight_eq_div_pow,Nat.pow_one]
  have hx:S[(BitVec.ofInt 64 ((i:Int)+(j:Int)) >>> BitVec.toNat (1:BitVec 64)).toNat]? = some (S.getD ((i+j) / 2) []):=by rw [e2];exact zbw hh
  have hx':=zbw (d:=[]) hh
  have cA:=zih (T:=T) (S.getD ((i+j) / 2) []) t (hm _ (List.mem_of_getElem? hx))
  (repeat' ((conv=>whnf);first|refine vA ?_|(refine vF ?_ ?_<;>intro hc<;>try simp only [vL] at hc)|refine vT ?_|refine vN ‹_› ?_|(refine vQ ?_ fun x hx=>?_;·omega)|(refine vO ?_ ?_;·omega)|refine yD cA ⟨⟨rfl,rfl⟩,⟨rfl,rfl⟩,rfl⟩ rfl ?_));all_goals try conv=>whnf
  ·refine ⟨((BitVec.ofInt 64 ((i:Int)+(j:Int)) >>> BitVec.toNat (1:BitVec 64)).toNat+1,j),[],[],?_,?_,by (refine ⟨rfl,rfl,rfl,?_,?_⟩;repeat' first|exact trivial|exact rfl|refine And.intro ?_ ?_)⟩
   ·rw [e2]
    refine ⟨by omega,hj,fun k x hk hxk=>?_,h2⟩
    by_cases e:k=(i+j) / 2
    ·subst e;rw [hx'] at hxk;cases hxk;assumption
    ·by_cases e':k < (i+j) / 2
     ·exact hS.lt_of hx' hxk (by omega) ‹_›
     ·exfalso;omega
   ·((simp only [vM] at *;omega))
  ·refine ⟨(i,(BitVec.ofInt 64 ((i:Int)+(j:Int)) >>> BitVec.toNat (1:BitVec 64)).toNat),[],[],?_,?_,by (refine ⟨rfl,rfl,rfl,?_,?_⟩;repeat' first|exact trivial|exact rfl|refine And.intro ?_ ?_)⟩
   ·rw [e2]
    refine ⟨by omega,by omega,h1,fun k x hk hxk hlk=>?_⟩
    have:=hS.lt_of hxk hx' hk hlk
    omega
   ·((simp only [vM] at *;omega))
  iterate 2 (exfalso;omega)
 ·have e0:j=i:=by omega
  subst e0
  have ek:=key j hj h1 h2
  by_cases hjl:j < S.length
  ·have hx:=zbw (d:=[]) hjl
   have cA:=zih (T:=T) (S.getD j []) t (hm _ (List.mem_of_getElem? hx))
   (repeat' ((conv=>whnf);first|refine vA ?_|(refine vF ?_ ?_<;>intro hc<;>try simp only [vL] at hc)|refine vT ?_|refine vN ‹_› ?_|(refine vQ ?_ fun x hx=>?_;·omega)|(refine vO ?_ ?_;·omega)|refine yD cA ⟨⟨rfl,rfl⟩,⟨rfl,rfl⟩,rfl⟩ rfl ?_));all_goals try conv=>whnf
   ·exfalso;omega
   ·show some (D.tup [.int .i64 (j:Int),.bool (decide (zaq (S.getD j []) t=0))])=_
    rw [← ek];simp [hjl]
   ·exfalso;omega
  ·(repeat' ((conv=>whnf);first|refine vA ?_|(refine vF ?_ ?_<;>intro hc<;>try simp only [vL] at hc)|refine vT ?_|(refine vQ ?_ fun x hx=>?_;·omega)|(refine vO ?_ ?_;·omega)|fail));all_goals try conv=>whnf
   iterate 2 (exfalso;omega)
   show some (D.tup [.int .i64 (j:Int),.bool false])=_
   rw [← ek];simp [hjl]
theorem zx9 (ts:List Tup) (h0:ts≠[]) (h12:ts.length≤12) (hm : ∀ x∈ts,Sml x):Fn Tryz.prog T zfs [.d (.arr 1 (ts.map dII))] [] (.d (.tup [dN (ts.map (rkN ts)),.int .i64 (cnN ts:Int)])) []:=by
 have c1:=zx1 (T:=T) ts h0 (by omega)
 have c2:=ztR (T:=T) ts.toArray hm (by simpa using h12)
 have hS:=zxq (ts:=ts) rfl
 have hp:=zsF ts.toArray
 have hms : ∀ x∈(Sort.sort ltT ts.toArray).toList,Sml x:=fun x hx=>hm x (hp.mem_iff.1 hx)
 have hsz:(Sort.sort ltT ts.toArray).size=ts.length:=by have:=hp.length_eq;simpa using this
 generalize Sort.sort ltT ts.toArray=A at c2 hS hp hms hsz
 have hmd : ∀ x∈ddA A A.size,Sml x:=fun x hx=>hm x ((hS.mem x).1 hx)
 have hcn:=hS.cnt
 have hle:=hS.le
 have cb:=fun t=>zCC (T:=T) (ddA A A.size) ts hS (by omega) hmd t
 have c3:=zz1 (T:=T) A hms (by omega)
 generalize ddA A A.size=S at hS hmd hcn hle cb c3
 refine zb zm zpl (by show 1≤37;decide) ?_
 (repeat' ((conv=>whnf);refine vT ?_));all_goals try conv=>whnf
 refine zaO.res (c1) (by (repeat refine ⟨⟨rfl,rfl⟩,?_⟩);rfl) ?_
 (repeat' ((conv=>whnf);refine vT ?_));all_goals try conv=>whnf
 refine zaO.objs [0] (c2) (by (repeat' first|exact rfl|refine And.intro ?_ ?_|refine ⟨_,rfl,?_⟩)) (by (repeat' first|exact rfl|refine And.intro ?_ ?_)) (by rfl) (by rfl) (by simp) ?_
 (repeat' ((conv=>whnf);refine vT ?_));all_goals try conv=>whnf
 refine zaO.objs [0] (c3) (by (repeat' first|exact rfl|refine And.intro ?_ ?_|refine ⟨_,rfl,?_⟩)) (by (repeat' first|exact rfl|refine And.intro ?_ ?_)) (by rfl) (by rfl) (by simp) ?_
 (repeat' ((conv=>whnf);first|refine vA ?_|refine vJ fun hg=>?_|refine vT ?_|(refine vP ?_ ?_;·(simp only [vM] at *;omega))|fail));all_goals try conv=>whnf
 refine zf (fun ((k,zs):Nat×List D)=>[(4,.own 0),(5,.own 1),(17,.d (.arr 1 (ts.map dII))),(18,.d (.int .i64 ((ts.map dII).length:Int))),(19,.d (.int .i64 ((k:Int))))]) (fun ((k,zs):Nat×List D)=>[(0,some (.row 1 (S.map dII))),(1,some (.row 1 zs))]) 2 (fun ((k,zs):Nat×List D)=>k≤ts.length∧zs=(List.range ts.length).map fun i=>D.int .i64 (if i < k then (rkN ts (ts.getD i []):Int) else 0)) (fun ((k,zs):Nat×List D)=>ts.length - k) ((0,List.replicate (((ts.map dII).length:Int)).toNat (D.int .i64 0))) [(0,1),(1,2)] [] (⟨by omega,by simp only [Nat.not_lt_zero,if_false];rw [List.length_map,Int.toNat_natCast];exact z2 _ _⟩) (by (refine ⟨rfl,rfl,rfl,?_,?_⟩;repeat' first|exact trivial|exact rfl|refine And.intro ?_ ?_|refine ⟨_,rfl,?_⟩|decide)) ?_
 rintro ⟨k,zs⟩ ⟨hk,hz⟩
 have hzl:zs.length=ts.length:=by rw [hz];simp
 by_cases hkl:k < ts.length
 ·have hx:=zbw (d:=[]) hkl
  obtain ⟨b,cbk⟩:=cb (ts.getD k [])
  (repeat' ((conv=>whnf);first|refine vA ?_|(refine vF ?_ ?_<;>intro hc<;>try simp only [vL] at hc)|refine vJ fun hg=>?_|refine vT ?_|refine vN ‹_› ?_|((first|refine vO ?_ ?_|refine vP ?_ ?_);·omega)|refine yD cbk (by (repeat refine ⟨⟨rfl,rfl⟩,?_⟩);rfl) rfl ?_));all_goals try conv=>whnf
  ·refine ⟨(k+1,_),[(0,0),(1,1)],[],?_,?_,by (refine ⟨rfl,rfl,rfl,?_,?_⟩;repeat' first|exact trivial|exact rfl|refine And.intro ?_ ?_|refine ⟨_,rfl,?_⟩|decide)⟩
   ·refine ⟨by omega,?_⟩
    rw [hz]
    refine (zbL _).trans (zC fun u hu=>?_)
    show (if u=k then _ else _)=_
    by_cases e:u=k
    ·subst e;rw [if_pos rfl,if_pos (by omega)]
    ·rw [if_neg e]
     by_cases e2:u < k
     ·rw [if_pos e2,if_pos (by omega)]
     ·rw [if_neg e2,if_neg (by omega)]
   ·((simp only [vM] at *;omega))
  ·exfalso;omega
 ·(repeat' ((conv=>whnf);first|refine vA ?_|(refine vF ?_ ?_<;>intro hc<;>try simp only [vL] at hc)|refine vJ fun hg=>?_|refine vT ?_|(refine vQ ?_ fun x hx=>?_;·omega)|fail));all_goals try conv=>whnf
  ·exfalso;omega
  ·have e0:k=ts.length:=by omega
   subst e0
   have hzz:zs=(ts.map (rkN ts)).map fun (x:Nat)=>D.int .i64 (x:Int):=by
    rw [hz]
    refine zfo (d := .nil) (by simp) fun i hi=>?_
    rw [List.length_map,List.length_range] at hi
    simp [List.getD,hi]
   refine congrArg some (show D.tup [.arr 1 zs,.int .i64 ((S.map dII).length:Int)]=_ from ?_)
   rw [hzz,List.length_map,hcn]
   simp [Function.comp_def]
end Go.Ab
namespace Go.Ab
open Go Go.Proofs
set_option maxRecDepth 10000
set_option maxHeartbeats 4000000
variable {T:Nat→Obj→Prop}
def ltI (x y:Int):Bool:=decide (x < y)
abbrev zbK (d:Array (Int)):Ob := .row 1 (d.toList.map (D.int .i64))
theorem zu8 (x y:Int):Fn Tryz.prog T ziY [.d (.int .i64 x),.d (.int .i64 y)] [] (.d (.bool (ltI x y))) []:=by
 have hn : ∀ z:Int,Fn Tryz.prog T zfr [.d (.int .i64 z)] [] (.d (.bool false)) []:=fun z=>by
  refine zb zm zik (by show 1≤6;decide) ?_
  (repeat' ((conv=>whnf);first|refine vT ?_|refine vZ ?_));all_goals try conv=>whnf
  simp
 refine zb zm zqA (by show 2≤17;decide) ?_
 (repeat' ((conv=>whnf);first|refine vA ?_|refine vH ?_|refine vT ?_|refine vZ ?_|refine yD (hn _) (by (repeat refine ⟨⟨rfl,rfl⟩,?_⟩);rfl) rfl ?_));all_goals try conv=>whnf
 rfl
theorem zwM (d:Array (Int)) (a b:Nat) (hb:b≤d.size) (hs:d.size≤1073741824) (ha:a≤b) :
  Fn Tryz.prog T zaT [.own 0,.d (.int .i64 (a:Int)),.d (.int .i64 (b:Int))] [zbK d] (.tup []) [some (zbK (Sort.insertionSort ltI d a b))]:=by
 refine zaL zm ze4 (by show 3≤49;decide) _ (fun e env mem n h=>h) ?_
 (repeat' ((conv=>whnf);first|refine vT ?_|(refine vO ?_ ?_;·omega)|fail));all_goals try conv=>whnf
 refine zf (fun ((ii,xs):Int×List D)=>[(0,.own 0),(1,.d (.int .i64 ((a:Int)))),(2,.d (.int .i64 ((b:Int)))),(6,.d (.int .i64 (ii))),(zg,.own 0)]) (fun ((ii,xs):Int×List D)=>[(0,some (.row 1 xs))]) 1 (fun ((ii,xs):Int×List D) => ∃ (i:Nat) (e:Array (Int)),ii=i∧xs=e.toList.map (D.int .i64)∧a < i∧i≤b+1∧e.size=d.size∧Sort.insOuter ltI a b i e=Sort.insertionSort ltI d a b) (fun ((ii,xs):Int×List D)=>(b - ii).toNat) (((a:Int)+1,d.toList.map (D.int .i64))) [(0,0)] [] (⟨a+1,d,by omega,rfl,by omega,by omega,rfl,rfl⟩) (by (refine ⟨rfl,rfl,rfl,?_,?_⟩;repeat' first|exact trivial|exact rfl|refine And.intro ?_ ?_|refine ⟨_,rfl,?_⟩|decide)) ?_
 rintro ⟨_,_⟩ ⟨i,e,rfl,rfl,hi,hi2,he,hI⟩
 (repeat' ((conv=>whnf);first|refine vA ?_|(refine vF ?_ ?_<;>intro hc<;>try simp only [vL] at hc)|refine vT ?_));all_goals try conv=>whnf
 ·refine zf (fun ((jj,xs):Int×List D)=>[(0,.own 0),(1,.d (.int .i64 ((a:Int)))),(2,.d (.int .i64 ((b:Int)))),(6,.d (.int .i64 ((i:Int)))),(7,.d (.int .i64 (jj))),(zg,.own 0)]) (fun ((jj,xs):Int×List D)=>[(0,some (.row 1 xs))]) 1 (fun ((jj,xs):Int×List D) => ∃ (j:Nat) (g:Array (Int)),jj=j∧xs=g.toList.map (D.int .i64)∧j≤i∧g.size=d.size∧Sort.insInner ltI a j g=Sort.insInner ltI a i e) (fun ((jj,xs):Int×List D)=>jj.toNat) (((i:Int),e.toList.map (D.int .i64))) [(0,0)] [] (⟨i,e,rfl,rfl,by omega,he,rfl⟩) (by (refine ⟨rfl,rfl,rfl,?_,?_⟩;repeat' first|exact trivial|exact rfl|refine And.intro ?_ ?_|refine ⟨_,rfl,?_⟩|decide)) ?_
  rintro ⟨_,_⟩ ⟨j,g,rfl,rfl,hj,hg,hJ⟩
  have hgl:g.toList.length=d.size:=by rw [Array.length_toList];exact hg
  have stop : ¬(a < j∧ltI g[j]! g[j - 1]! = true)→Sort.insOuter ltI a b (i+1) g=Sort.insertionSort ltI d a b:=fun h=>by
   rw [← hI,Sort.insOuter.eq_def ltI a b i,if_pos (by omega),← hJ,zlZ h]
  (repeat' ((conv=>whnf);first|refine vA ?_|(refine vF ?_ ?_<;>intro hc<;>try simp only [vL] at hc)|refine vT ?_|refine vN ‹_› ?_|(refine vQ ?_ fun x hx=>?_;·omega)|((first|refine vO ?_ ?_|refine vP ?_ ?_);·first|omega|(simp only [vM] at *;omega))|(refine vU ?_ ?_;·kernel_rfl)|refine yD (zu8 _ _) ⟨⟨rfl,rfl⟩,⟨rfl,rfl⟩,rfl⟩ rfl ?_));all_goals try conv=>whnf
  ·have e1:((j:Int) - 1).toNat=j - 1:=by omega
   have hx1:g.toList[j]? = some _:=‹g.toList[(j:Int).toNat]? = some _›
   have hx2:g.toList[j - 1]? = some x:=by rw [← e1];exact hx
   refine ⟨(_,_),[(0,0)],[],?_,?_,by (refine ⟨rfl,rfl,rfl,?_,?_⟩;repeat' first|exact trivial|exact rfl|refine And.intro ?_ ?_|refine ⟨_,rfl,?_⟩|decide)⟩
   ·refine ⟨j - 1,Sort.swp g j (j - 1),by omega,?_,by omega,by rw [zuR,hg],?_⟩
    ·rw [e1];exact zwi hx1 hx2
    ·exact (zlY (d:=g) (j:=j) (by omega) (by rw [(za7 hx1).1,(za7 hx2).1];exact decide_eq_true hc)).symm.trans hJ
   ·((simp only [vM] at *;omega))
  ·have e1:((j:Int) - 1).toNat=j - 1:=by omega
   have hx1:g.toList[j]? = some _:=‹g.toList[(j:Int).toNat]? = some _›
   have hx2:g.toList[j - 1]? = some x:=by rw [← e1];exact hx
   refine ⟨(_,_),[(0,0)],[],?_,?_,by (refine ⟨rfl,rfl,rfl,?_,?_⟩;repeat' first|exact trivial|exact rfl|refine And.intro ?_ ?_|refine ⟨_,rfl,?_⟩|decide)⟩
   ·exact ⟨i+1,g,by omega,rfl,by omega,by omega,hg,stop fun h=>by
     rw [(za7 hx1).1,(za7 hx2).1] at h
     have:=of_decide_eq_true h.2;omega⟩
   ·((simp only [vM] at *;omega))
  ·refine ⟨(_,_),[(0,0)],[],?_,?_,by (refine ⟨rfl,rfl,rfl,?_,?_⟩;repeat' first|exact trivial|exact rfl|refine And.intro ?_ ?_|refine ⟨_,rfl,?_⟩|decide)⟩
   ·exact ⟨i+1,g,by omega,rfl,by omega,by omega,hg,stop fun h=>by omega⟩
   ·((simp only [vM] at *;omega))
 ·have e0:Sort.insertionSort ltI d a b=e:=by
   rw [← hI,Sort.insOuter,if_neg (by omega)]
  rw [e0]
  refine ⟨trivial,_,[(0,0)],[],rfl,.inl (by (repeat' first|exact rfl|refine ⟨_,rfl,?_⟩)),⟨by rfl,by rfl,by rfl,trivial,by (repeat' first|exact trivial|exact rfl|refine And.intro ?_ ?_|refine ⟨_,rfl,?_⟩|exact of_decide_eq_true rfl)⟩,by (repeat' first|exact trivial|exact rfl|refine And.intro ?_ ?_)⟩
theorem zvd (d:Array Int) {a b:Nat} {ai bi:Int} (ea:ai=a) (eb:bi=b) (hb:b≤d.size) (hs:d.size≤1073741824) (ha:a≤b) :
  Fn Tryz.prog T zaT [.own 0,.d (.int .i64 ai),.d (.int .i64 bi)] [zbK d] (.tup []) [some (zbK (Sort.insertionSort ltI d a b))]:=by
 subst ea;subst eb;exact zwM d a b hb hs ha
theorem zwP (d:Array Int) {b l:Nat} {bi li:Int} (eb:bi=b) (el:li=l) (h12:b≤12) (hb:b≤d.size) (hs:d.size≤536870912) :
  Fn Tryz.prog T zdb [.own 0,.d (.int .i64 0),.d (.int .i64 bi),.d (.int .i64 li)] [zbK d] (.tup []) [some (zbK (Sort.pdq ltI d 0 b l true true))]:=by
 subst eb;subst el
 have hR:Sort.pdq ltI d 0 b l true true=Sort.insertionSort ltI d 0 b:=by rw [Sort.pdq,if_pos (by omega)]
 rw [hR]
 refine zaL zm zgA (by show 4≤134;decide) _ (fun e env mem n h=>h) ?_
 (repeat' ((conv=>whnf);refine vT ?_));all_goals try conv=>whnf
 refine zf (fun (u:Unit)=>[(0,.own 0),(1,.d (.int .i64 (0))),(2,.d (.int .i64 ((b:Int)))),(3,.d (.int .i64 ((l:Int)))),(8,.d (.bool (true))),(9,.d (.bool (true))),(zg,.own 0)]) (fun (u:Unit)=>[(0,some (zbK d))]) 1 (fun (u:Unit)=>True) (fun (u:Unit)=>0) (()) [(0,0)] [] (trivial) (by (refine ⟨rfl,rfl,rfl,?_,?_⟩;repeat' first|exact trivial|exact rfl|exact .inr (.inl ⟨rfl,rfl⟩)|refine And.intro ?_ ?_|refine ⟨_,rfl,?_⟩|decide)) ?_
 rintro u -
 (repeat' ((conv=>whnf);first|refine zhW.but 35 rfl ?_|(refine vF ?_ ?_<;>intro hc<;>try simp only [vL] at hc)|refine vT ?_|(refine vO ?_ ?_;·omega)|fail));all_goals try conv=>whnf
 ·refine zaO.objs [0] (zvd d (a:=0) (b:=b) rfl rfl (by omega) (by omega) (by omega)) (by (repeat' first|exact rfl|refine And.intro ?_ ?_|refine ⟨_,rfl,?_⟩)) (by (repeat' first|exact rfl|refine And.intro ?_ ?_)) (by rfl) (by rfl) (by simp) ?_
  (repeat' ((conv=>whnf);refine vT ?_));all_goals try conv=>whnf
  refine ⟨trivial,_,[(0,0)],[],rfl,.inl (by (repeat' first|exact rfl|refine ⟨_,rfl,?_⟩)),⟨by rfl,by rfl,by rfl,trivial,by (repeat' first|exact trivial|exact rfl|refine And.intro ?_ ?_|refine ⟨_,rfl,?_⟩|exact of_decide_eq_true rfl)⟩,by (repeat' first|exact trivial|exact rfl|refine And.intro ?_ ?_)⟩
 all_goals (exfalso;omega)
set_option maxHeartbeats 1000000 in
theorem zow (d:Array Int) (hs:d.size≤12):Fn Tryz.prog T zeP [.own 0] [zbK d] (.tup []) [some (zbK (Sort.sort ltI d))]:=by
 have hn:((BitVec.ofInt 64 (d.size:Int)).toNat)=d.size:=by simp;omega
 refine zaL zm ziO (by show 1≤11;decide) _ (fun e env mem n h=>h) ?_
 (repeat' ((conv=>whnf);first|refine vJ fun hg=>?_|refine vT ?_|refine yD (ztQ _) ⟨⟨rfl,rfl⟩,rfl⟩ rfl ?_));all_goals try conv=>whnf
 refine zaO.objs [0] (zwP d (b:=d.size) (l:=Sort.bitsLen d.size) (bi:=((d.toList.map (D.int .i64)).length:Int)) (li:=((Sort.bitsLen (BitVec.ofInt 64 ((d.toList.map (D.int .i64)).length:Int)).toNat:Nat):Int)) (by simp) (by rw [List.length_map,Array.length_toList,hn]) hs (Nat.le_refl _) (by omega)) (by (repeat' first|exact rfl|refine And.intro ?_ ?_|refine ⟨_,rfl,?_⟩)) (by (repeat' first|exact rfl|refine And.intro ?_ ?_)) (by rfl) (by rfl) (by simp) ?_
 (repeat' ((conv=>whnf);refine vT ?_));all_goals try conv=>whnf
 refine ⟨trivial,_,[(0,0)],[],rfl,.inl (by (repeat' first|exact rfl|refine ⟨_,rfl,?_⟩)),⟨by rfl,by rfl,by rfl,trivial,by (repeat' first|exact trivial|exact rfl|refine And.intro ?_ ?_|refine ⟨_,rfl,?_⟩|exact of_decide_eq_true rfl)⟩,by (repeat' first|exact trivial|exact rfl|refine And.intro ?_ ?_)⟩
set_option maxHeartbeats 1000000 in
theorem zmT (d:Array Int) (hs:d.size≤536870912) (hd : ¬Steps d):Fn Tryz.prog T za2 [.own 0] [zbK d] (.own 1) [none,some (.row 1 ((ddA d d.size).map (D.int .i64)))]:=by
 generalize hR:(ddA d d.size).map (D.int .i64)=R
 have hln:d.toList.length=d.size:=Array.length_toList
 refine zaL zm zdR (by show 1≤61;decide) _ (fun e env mem n h=>h) ?_
 (repeat' ((conv=>whnf);first|refine vA ?_|(refine vF ?_ ?_<;>intro hc<;>try simp only [vL] at hc)|refine vJ fun hg=>?_|refine vT ?_));all_goals try conv=>whnf
 ·exact absurd (fun j hj0 hj1=>by omega) hd
 refine zf (fun (i:Int)=>[(0,.own 0),(3,.d (.int .i64 (i))),(zg,.own 0)]) (fun (i:Int)=>[(0,some (zbK d))]) 1 (fun (i:Int) => ∃ k:Nat,i=k∧0 < k∧k≤d.size ∧ ∀ j,0 < j→j < k→d[j]! ≠ d[j - 1]!) (fun (i:Int)=>(d.size - i).toNat) (1) [(0,0)] [] (⟨1,rfl,by omega,by omega,fun j _ _=>by omega⟩) (by (refine ⟨rfl,rfl,rfl,?_,?_⟩;repeat' first|exact trivial|exact rfl|refine And.intro ?_ ?_|refine ⟨_,rfl,?_⟩|decide)) ?_
 rintro _ ⟨k,rfl,hk0,hk1,hk⟩
 (repeat' ((conv=>whnf);first|refine vA ?_|(refine vF ?_ ?_<;>intro hc<;>try simp only [vL] at hc)|refine vJ fun hg=>?_|refine vT ?_|(refine vQ ?_ fun x hx=>?_;·omega)|((first|refine vO ?_ ?_|refine vP ?_ ?_);·first|omega|(simp only [vM] at *;omega))|(refine vU ?_ ?_;·kernel_rfl)|fail));all_goals try conv=>whnf
 ·have g1:=za7 (zgW k ‹d.toList[(k:Int).toNat]? = some _› rfl)
  have g2:=za7 (zgW (k - 1) ‹d.toList[((k:Int) - 1).toNat]? = some _› (by omega))
  have hkk:d[k]! = d[k - 1]! := g1.1.trans (‹_=_›.trans g2.1.symm)
  refine zf (fun ((w,q,xs):Int×Int×List D)=>[(0,.own 0),(3,.d (.int .i64 (w))),(4,.view 0 k ((d.toList.map (D.int .i64)).length - k)),(5,.d (.int .i64 (q))),(zg,.own 0)]) (fun ((w,q,xs):Int×Int×List D)=>[(0,some (.row 1 xs))]) 1 (fun ((w,q,xs):Int×Int×List D) => ∃ (a b:Nat) (e:Array Int),w=a∧q=b∧xs=e.toList.map (D.int .i64)∧0 < b∧k+b≤d.size∧a < k+b∧e.size=d.size∧e.toList.take a=ddA d (k+b) ∧ ∀ j,k+b - 1≤j→j < d.size→e[j]! = d[j]!) (fun ((w,q,xs):Int×Int×List D)=>(d.size - k - q).toNat) (((k:Int),(1:Int),d.toList.map (D.int .i64))) [(0,0)] [] (⟨k,1,d,rfl,rfl,rfl,by omega,by omega,by omega,rfl,ztx hk0 g1.2 hk hkk,fun _ _ _=>rfl⟩) (by (refine ⟨rfl,rfl,rfl,?_,?_⟩;repeat' first|exact trivial|exact rfl|refine And.intro ?_ ?_|refine ⟨_,rfl,?_⟩|decide)) ?_
  rintro ⟨_,_,_⟩ ⟨a,b,e,rfl,rfl,rfl,hb0,hb1,hab,he,ha,hj⟩
  have hle:e.toList.length=e.size:=Array.length_toList
  (repeat' ((conv=>whnf);first|refine vA ?_|((first|refine vD ?_ ?_|refine vF ?_ ?_)<;>intro hc<;>try simp only [vL] at hc)|refine vT ?_|refine vN ‹_› ?_|(refine vQ ?_ fun x hx=>?_;·omega)|((first|refine vO ?_ ?_|refine vP ?_ ?_);·first|omega|(simp only [vM] at *;omega))|(refine vU ?_ ?_;·kernel_rfl)|fail));all_goals try conv=>whnf
  ·have h1:=za7 ‹e.toList[k+((b:Nat):Int).toNat]? = some _›
   have h2:=za7 (zgW (i:=((k+b - 1:Nat):Int)) (k+b - 1) (by rw [← ‹e.toList[k+(((b:Nat):Int) - 1).toNat]? = some _›];congr 1;omega) rfl)
   simp only [Int.toNat_natCast] at h1
   have e1:=hj (k+b) (by omega) (by omega)
   have e2:=hj (k+b - 1) (by omega) (by omega)
   refine ⟨(_,_,_),[(0,0)],[],?_,?_,by (refine ⟨rfl,rfl,rfl,?_,?_⟩;repeat' first|exact trivial|exact rfl|refine And.intro ?_ ?_|refine ⟨_,rfl,?_⟩|decide)⟩
   ·exact ⟨a+1,b+1,e.setIfInBounds a e[k+b]!,by omega,by omega,by rw [h1.1];simp [List.map_set],by omega,by omega,by omega,by simp [he],
     by rw [zuM (by omega),ha,← Nat.add_assoc,zxU (by rw [← e1,← e2,h1.1,h2.1];assumption),e1],
     fun j h0 h1=>by rw [zwb (by omega)];exact hj j (by omega) h1⟩
   ·((simp only [vM] at *;omega))
  ·have h1:=za7 ‹e.toList[k+((b:Nat):Int).toNat]? = some _›
   have h2:=za7 (zgW (i:=((k+b - 1:Nat):Int)) (k+b - 1) (by rw [← ‹e.toList[k+(((b:Nat):Int) - 1).toNat]? = some _›];congr 1;omega) rfl)
   simp only [Int.toNat_natCast] at h1
   have e1:=hj (k+b) (by omega) (by omega)
   have e2:=hj (k+b - 1) (by omega) (by omega)
   refine ⟨(_,_,_),[(0,0)],[],?_,?_,by (refine ⟨rfl,rfl,rfl,?_,?_⟩;repeat' first|exact trivial|exact rfl|refine And.intro ?_ ?_|refine ⟨_,rfl,?_⟩|decide)⟩
   ·exact ⟨a,b+1,e,rfl,by omega,rfl,by omega,by omega,by omega,he,
     by rw [ha,← Nat.add_assoc,zvP (by omega) (by rw [← e1,← e2,h1.1,h2.1];assumption)],
     fun j h0 h1=>hj j (by omega) h1⟩
   ·((simp only [vM] at *;omega))
  ·have hE:=zvN (enc:=(D.int .i64)) (e:=e) (z:=(D.int .i64 0)) (a:=a) (n:=(e.toList.map (D.int .i64)).length - a) (by omega)
   rw [ha,show k+b=d.size by omega,hR] at hE
   subst hE
   refine zpM.mk (by simp only [List.length_append,List.length_take,List.length_replicate,List.length_drop,List.length_map,hle];omega) ?_
   (repeat' ((conv=>whnf);refine vT ?_));all_goals try conv=>whnf
   refine ⟨trivial,_,[(1,1)],[],rfl,.inl (by (repeat' exact rfl)),⟨by rfl,by rfl,by rfl,trivial,by (repeat' first|exact trivial|exact rfl|refine And.intro ?_ ?_|refine ⟨_,rfl,?_⟩|exact of_decide_eq_true rfl)⟩,by (repeat' first|exact trivial|refine And.intro ?_ ?_)⟩
 ·refine ⟨_,[(0,0)],[],?_,?_,by (refine ⟨rfl,rfl,rfl,?_,?_⟩;repeat' first|exact trivial|exact rfl|refine And.intro ?_ ?_|refine ⟨_,rfl,?_⟩|decide)⟩
  ·exact ⟨k+1,by omega,by omega,by omega,fun j h0 h1=>by
    by_cases hjk:j=k
    ·subst hjk
     have g1:=za7 (zgW j ‹d.toList[(j:Int).toNat]? = some _› rfl)
     have g2:=za7 (zgW (j - 1) ‹d.toList[((j:Int) - 1).toNat]? = some _› (by omega))
     rw [g1.1,g2.1];assumption
    ·exact hk j h0 (by omega)⟩
  ·(omega)
 ·exact absurd (fun j h0 h1=>hk j h0 (by omega)) hd
end Go.Ab
namespace Go.Ab
def zen (ts:List Tup) (j:Nat):Bool:=(List.range j).all fun k=>decide (zaq (ts.getD k []) (ts.getD j [])≠0)
def zo4 (ts:List Tup) (t:Tup) (j:Nat):Nat:=((List.range j).filter fun j=>decide (zaq (ts.getD j []) t < 0)&&zen ts j).length
theorem zxQ (ts:List Tup) (t:Tup) (j:Nat):zo4 ts t (j+1)=zo4 ts t j+if zaq (ts.getD j []) t < 0∧zen ts j=true then 1 else 0:=by
 unfold zo4
 rw [List.range_succ,List.filter_append,List.length_append]
 congr 1
 rw [List.filter_cons,List.filter_nil]
 by_cases h1:zaq (ts.getD j []) t < 0∧zen ts j=true
 ·rw [if_pos h1,if_pos (by rw [Bool.and_eq_true,decide_eq_true_eq];exact h1)];rfl
 ·rw [if_neg h1,if_neg (by rw [Bool.and_eq_true,decide_eq_true_eq];exact h1)];rfl
theorem zle {ts:List Tup} {j:Nat} : zen ts j=true ↔ ∀ k,k < j→ts.getD k []≠ts.getD j []:=by
 unfold zen
 simp only [List.all_eq_true,List.mem_range,decide_eq_true_eq]
 exact ⟨fun h k hk e=>h k hk (by rw [e,zal.refl]),fun h k hk e=>h k hk (zal.zero.1 e)⟩
theorem zz0 {ts:List Tup} {x:Tup} (h:x∈ts) : ∃ j,j < ts.length∧ts.getD j []=x∧zen ts j=true:=by
 obtain ⟨i,hi,hx⟩:=List.mem_iff_getElem.1 h
 have hd : ∀ n,n < ts.length→ts.getD n []=x → ∃ j,j < ts.length∧ts.getD j []=x∧zen ts j=true:=fun n=>by
  induction n using Nat.strongRecOn with
  | _ n ih =>
   intro hn e
   by_cases hf:zen ts n=true
   ·exact ⟨n,hn,e,hf⟩
   ·rw [zle] at hf
    simp only [Classical.not_forall,Classical.not_not] at hf
    obtain ⟨k,hk,e'⟩:=hf
    exact ih k hk (by omega) (by rw [e',e])
 exact hd i hi (by simp [List.getD,hi,hx])
theorem zBx (ts:List Tup) (t:Tup):zo4 ts t ts.length=rkN ts t:=by
 rw [← zxh (ts:=ts) (S:=((List.range ts.length).filter (zen ts)).map fun j=>ts.getD j [])]
 ·unfold zo4
  rw [List.filter_map,List.length_map,List.filter_filter]
  rfl
 ·rw [List.Nodup,List.pairwise_map]
  have h1:((List.range ts.length).filter (zen ts)).Pairwise (· < ·):=List.Pairwise.filter _ List.pairwise_lt_range
  refine List.Pairwise.imp_of_mem (fun {a b} ha hb hab e=>?_) h1
  exact zle.1 (List.mem_filter.1 hb).2 a hab e
 ·intro x
  rw [List.mem_map]
  constructor
  ·rintro ⟨j,hj,rfl⟩
   have:=List.mem_range.1 (List.mem_filter.1 hj).1
   rw [List.getD,List.getElem?_eq_getElem this];exact List.getElem_mem this
  ·intro h
   obtain ⟨j,h1,h2,h3⟩:=zz0 h
   exact ⟨j,List.mem_filter.2 ⟨List.mem_range.2 h1,h3⟩,h2⟩
theorem zCI {ts:List Tup} (h:ts≠[]) : ∃ t∈ts,rkN ts t+1=cnN ts:=by
 apply Classical.byContradiction
 intro hn
 have h0:0 < cnN ts:=by
  cases ts with
  | nil=>exact absurd rfl h
  | cons a l=>have:=ziy (ts:=a::l) (t:=a) (by simp);omega
 have h1:(((ddT ts).map (rkN ts))).Nodup:=by
  rw [List.Nodup,List.pairwise_map]
  exact List.Pairwise.imp_of_mem (fun {a b} ha hb hab e=>hab (znq (zag.1 ha) (zag.1 hb) e)) (zbv ts)
 have h2:=zbi h1 (l':=List.range (cnN ts - 1)) fun x hx=>by
  obtain ⟨t,ht,rfl⟩:=List.mem_map.1 hx
  have ht:=zag.1 ht
  have a1:=ziy ht
  have a2:rkN ts t+1≠cnN ts:=fun e=>hn ⟨t,ht,e⟩
  exact List.mem_range.2 (by omega)
 rw [List.length_map,List.length_range] at h2
 have:(ddT ts).length=cnN ts:=rfl
 omega
def atI (out:List Int) (x:Int):Nat:=(out.takeWhile fun y=>decide (y < x)).length
def zlk (out:List Int) (x:Int):List Int:=out.take (atI out x)++x::out.drop (atI out x)
theorem zxE (out:List Int) (x:Int):atI out x≤out.length:=(List.takeWhile_sublist _).length_le
theorem zpS : ∀ {out:List Int} {x:Int} {k:Nat} {y:Int},k < atI out x→out[k]? = some y→y < x
 | [],x,k,y,h,_=>by simp [atI] at h
 | a::l,x,k,y,h,hy=>by
  unfold atI at h
  rw [List.takeWhile_cons] at h
  split at h
  ·rename_i hc
   cases k with
   | zero=>cases hy;simpa using hc
   | succ k=>exact zpS (out:=l) (k:=k) (by unfold atI;simpa using h) (by simpa using hy)
  ·simp at h
theorem zkO : ∀ {out:List Int} {x:Int} {y:Int},out[atI out x]? = some y→x≤y
 | [],x,y,h=>by simp at h
 | a::l,x,y,h=>by
  unfold atI at h
  rw [List.takeWhile_cons] at h
  split at h
  ·rw [List.length_cons,List.getElem?_cons_succ] at h
   exact zkO (out:=l) h
  ·rename_i hc
   simp at h hc;omega
theorem zxD {out:List Int} {x:Int} {k:Nat} (hk:k≤out.length) (h1 : ∀ (j:Nat) y,j < k→out[j]? = some y→y < x) (h2 : ∀ y,out[k]? = some y→x≤y):atI out x=k:=by
 rcases Nat.lt_trichotomy (atI out x) k with h|h|h
 ·have:atI out x < out.length:=by omega
  have e:=List.getElem?_eq_getElem this
  have:=h1 _ _ h e
  have:=zkO e
  omega
 ·exact h
 ·have h3:=zxE out x
  have e:=List.getElem?_eq_getElem (show k < out.length by omega)
  have:=zpS h e
  have:=h2 _ e
  omega
theorem zqu {out:List Int} (h:out.Pairwise (· ≤ ·)) (x:Int):(zlk out x).Pairwise (· ≤ ·):=by
 unfold zlk
 refine List.pairwise_append.2 ⟨h.sublist (List.take_sublist _ _),List.pairwise_cons.2 ⟨fun y hy=>?_,h.sublist (List.drop_sublist _ _)⟩,fun a ha y hy=>?_⟩
 ·obtain ⟨j,hj⟩:=List.getElem?_of_mem hy
  rw [List.getElem?_drop] at hj
  have h0:atI out x < out.length:=by obtain ⟨q,-⟩:=List.getElem?_eq_some_iff.1 hj;omega
  have e:=List.getElem?_eq_getElem h0
  have h1:=zkO e
  by_cases e0:j=0
  ·subst e0;rw [Nat.add_zero,e] at hj;cases hj;exact h1
  ·obtain ⟨q,r⟩:=List.getElem?_eq_some_iff.1 hj
   have:=List.pairwise_iff_getElem.1 h (atI out x) (atI out x+j) h0 q (by omega)
   rw [r] at this;omega
 ·obtain ⟨j,hj⟩:=List.getElem?_of_mem ha
  rw [List.getElem?_take] at hj
  split at hj
  ·rename_i hlt
   have h1:=zpS hlt hj
   rcases List.mem_cons.1 hy with rfl|hy
   ·omega
   ·obtain ⟨i,hi⟩:=List.getElem?_of_mem hy
    rw [List.getElem?_drop] at hi
    obtain ⟨q,r⟩:=List.getElem?_eq_some_iff.1 hi
    obtain ⟨q',r'⟩:=List.getElem?_eq_some_iff.1 hj
    have:=List.pairwise_iff_getElem.1 h j (atI out x+i) q' q (by omega)
    rw [r,r'] at this;exact this
  ·cases hj
theorem zpe (out:List Int) (x:Int):(zlk out x).Perm (x::out):=by
 unfold zlk
 refine (List.perm_middle).trans ?_
 rw [List.take_append_drop]
def zll (once:Bool) (out:List Int) (x:Int):List Int:=if once=true∧out[atI out x]? = some x then out else zlk out x
theorem zw4 {out:List Int} (h:out.Pairwise (· < ·)) (x:Int):(zll true out x).Pairwise (· < ·) ∧ ∀ y,y∈zll true out x↔y∈out∨y=x:=by
 unfold zll
 by_cases e:out[atI out x]? = some x
 ·rw [if_pos ⟨rfl,e⟩]
  exact ⟨h,fun y=>⟨.inl,fun h=>h.elim id fun e'=>by subst e';exact List.mem_of_getElem? e⟩⟩
 ·rw [if_neg (fun h=>e h.2)]
  have h1:=zqu (h.imp fun h=>Int.le_of_lt h) x
  have hx:x ∉ out:=fun hx=>by
   obtain ⟨j,hj⟩:=List.getElem?_of_mem hx
   have h2 : ¬j < atI out x:=fun hl=>by have:=zpS hl hj;omega
   have h3:j≠atI out x:=fun e'=>e (by rw [← e'];exact hj)
   obtain ⟨q,r⟩:=List.getElem?_eq_some_iff.1 hj
   have e0:=List.getElem?_eq_getElem (show atI out x < out.length by omega)
   have:=zkO e0
   have:=List.pairwise_iff_getElem.1 h (atI out x) j (by omega) q (by omega)
   rw [r] at this;omega
  have hn:(zlk out x).Nodup:=(zpe out x).nodup_iff.2 (List.nodup_cons.2 ⟨hx,h.imp fun h e=>by subst e;omega⟩)
  refine ⟨?_,fun y=>?_⟩
  ·have:=h1.and hn
   exact this.imp fun ⟨a,b⟩=>by omega
  ·rw [(zpe out x).mem_iff,List.mem_cons];exact Or.comm
def zgh (once:Bool) (l:List Int):List Int:=if once=true then zd2 l else zbq l
theorem zzm (once:Bool) (l:List Int) (x:Int):zgh once (l++[x])=zll once (zgh once l) x:=by
 unfold zgh
 cases once with
 | false =>
  simp only [Bool.false_eq_true,if_false]
  unfold zll
  rw [if_neg (by simp)]
  refine (zzn (zqu (zcL l) x) ((zpe _ _).trans ?_)).symm
  exact ((za5 l).cons x).trans (List.perm_append_singleton x l).symm
 | true =>
  simp only [if_true]
  have hs : ∀ l:List Int,(zd2 l).Pairwise (· < ·):=fun l=>by
   have hn:(zd2 l).Nodup:=(za5 _).nodup_iff.2 (zbv l)
   exact ((zcL (ddT l)).and hn).imp fun ⟨a,b⟩=>by omega
  have h1:=zw4 (hs l) x
  refine zcq ((hs _).imp fun h=>Int.le_of_lt h) (h1.1.imp fun h=>Int.le_of_lt h) (zeH ((hs _).imp fun h e=>by subst e;omega) (h1.1.imp fun h e=>by subst e;omega) fun y=>?_)
  rw [h1.2,zgE,zgE,List.mem_append,List.mem_singleton]
end Go.Ab
namespace Go.Ab
open Go Go.Proofs
set_option maxRecDepth 10000
set_option maxHeartbeats 4000000
variable {T:Nat→Obj→Prop}
theorem zDq:Sort.SWO ltI:=⟨fun x=>by simp [ltI],fun x y z h1 h2=>by simp [ltI] at *;omega,fun x y z h1 h2=>by simp [ltI] at *;omega⟩
theorem zqZ (l:List Int):(Sort.sort ltI l.toArray).toList=zbq l:=by
 obtain ⟨⟨h1,-,h2⟩,h3⟩:=Sort.sort_sorts ltI zDq l.toArray
 have e1:(Sort.sort ltI l.toArray).extract 0 l.toArray.size=Sort.sort ltI l.toArray:=by rw [← h1];simp
 have e2:l.toArray.extract 0 l.toArray.size=l.toArray:=by simp
 rw [e1,e2] at h2
 refine zzn ?_ h2
 rw [List.pairwise_iff_getElem]
 intro i j hi hj hij
 rw [Array.length_toList] at hi hj
 have:=h3 i j (Nat.zero_le _) hij (by rw [← h1];exact hj)
 have a1:=(za7 (List.getElem?_eq_getElem (l:=(Sort.sort ltI l.toArray).toList) (by rw [Array.length_toList];exact hi))).1
 have a2:=(za7 (List.getElem?_eq_getElem (l:=(Sort.sort ltI l.toArray).toList) (by rw [Array.length_toList];exact hj))).1
 rw [a1,a2] at this
 have:=of_decide_eq_false this
 omega
theorem ztO (d:Array Int) (hs:d.size≤1000):Fn Tryz.prog T za2 [.own 0] [zbK d] (.own 1) [none,some (.row 1 ((ddA d d.size).map (D.int .i64)))]:=by
 by_cases hd:Steps d
 ·have hln:d.toList.length=d.size:=Array.length_toList
  have e0:ddA d d.size=d.toList:=by rw [znJ (Nat.le_refl _) hd,List.take_of_length_le (by omega)]
  rw [e0]
  refine zaL zm zdR (by show 1≤61;decide) _ (fun e env mem n h=>h) ?_
  (repeat' ((conv=>whnf);first|refine vA ?_|(refine vF ?_ ?_<;>intro hc<;>try simp only [vL] at hc)|refine vJ fun hg=>?_|refine vT ?_));all_goals try conv=>whnf
  ·refine ⟨trivial,_,[(1,0)],[],rfl,.inl (by (repeat' exact rfl)),⟨by rfl,by rfl,by rfl,trivial,by (repeat' first|exact trivial|exact rfl|refine And.intro ?_ ?_|refine ⟨_,rfl,?_⟩|exact of_decide_eq_true rfl)⟩,by (repeat' first|exact trivial|refine And.intro ?_ ?_)⟩
  refine zf (fun (i:Int)=>[(0,.own 0),(3,.d (.int .i64 (i))),(zg,.own 0)]) (fun (i:Int)=>[(0,some (zbK d))]) 1 (fun (i:Int) => ∃ k:Nat,i=k∧0 < k∧k≤d.size) (fun (i:Int)=>(d.size - i).toNat) (1) [(0,0)] [] (⟨1,rfl,by omega,by omega⟩) (by (refine ⟨rfl,rfl,rfl,?_,?_⟩;repeat' first|exact trivial|exact rfl|refine And.intro ?_ ?_|refine ⟨_,rfl,?_⟩|decide)) ?_
  rintro _ ⟨k,rfl,hk0,hk1⟩
  (repeat' ((conv=>whnf);first|refine vA ?_|(refine vF ?_ ?_<;>intro hc<;>try simp only [vL] at hc)|refine vJ fun hg=>?_|refine vT ?_|(refine vQ ?_ fun x hx=>?_;·omega)|((first|refine vO ?_ ?_|refine vP ?_ ?_);·first|omega|(simp only [vM] at *;omega))|(refine vU ?_ ?_;·kernel_rfl)|fail));all_goals try conv=>whnf
  ·have g1:=za7 (zgW k ‹d.toList[(k:Int).toNat]? = some _› rfl)
   have g2:=za7 (zgW (k - 1) ‹d.toList[((k:Int) - 1).toNat]? = some _› (by omega))
   exact absurd (g1.1.trans (‹_=_›.trans g2.1.symm)) (hd k hk0 g1.2)
  ·refine ⟨_,[(0,0)],[],?_,?_,by (refine ⟨rfl,rfl,rfl,?_,?_⟩;repeat' first|exact trivial|exact rfl|refine And.intro ?_ ?_|refine ⟨_,rfl,?_⟩|decide)⟩
   ·exact ⟨k+1,by omega,by omega,by omega⟩
   ·(omega)
  ·refine ⟨trivial,_,[(1,0)],[],rfl,.inl (by (repeat' exact rfl)),⟨by rfl,by rfl,by rfl,trivial,by (repeat' first|exact trivial|exact rfl|refine And.intro ?_ ?_|refine ⟨_,rfl,?_⟩|exact of_decide_eq_true rfl)⟩,by (repeat' first|exact trivial|refine And.intro ?_ ?_)⟩
 ·exact zmT d (by omega) hd
theorem zxV (l:List Int):ddA (zbq l).toArray (zbq l).toArray.size=zd2 l:=by
 have hs:=zcL l
 have hg : ∀ i,i < (zbq l).length→(zbq l)[i]? = some (zbq l).toArray[i]! := fun i hi=>by
  have:=zbQ (d:=(zbq l).toArray) (i:=i) (by simpa using hi)
  simpa using this
 have hsz:(zbq l).toArray.size=(zbq l).length:=by simp
 have h1:(ddA (zbq l).toArray (zbq l).toArray.size).Pairwise fun x y=>ltI x y=true:=zk9 (lt:=ltI) (fun i j hij hj=>by
   rw [hsz] at hj
   have a1:=hg i (by omega);have a2:=hg j hj
   obtain ⟨p1,q1⟩:=List.getElem?_eq_some_iff.1 a1
   obtain ⟨p2,q2⟩:=List.getElem?_eq_some_iff.1 a2
   have:=List.pairwise_iff_getElem.1 hs i j p1 p2 hij
   rw [q1,q2] at this
   unfold ltI
   rw [decide_eq_false_iff_not];omega) (fun x y h1 h2=>by simp [ltI] at h1 h2;omega) (Nat.le_refl _)
 have h1':(ddA (zbq l).toArray (zbq l).toArray.size).Pairwise (· < ·):=h1.imp fun h=>by simpa [ltI] using h
 have h2:(zd2 l).Nodup:=(za5 _).nodup_iff.2 (zbv l)
 refine zcq (h1'.imp fun h=>Int.le_of_lt h) (zcL _) (zeH (h1'.imp fun h e=>by subst e;omega) h2 fun x=>?_)
 rw [zfC,zgE]
 rw [← (za5 l).mem_iff]
 constructor
 ·rintro ⟨i,hi,rfl⟩;rw [hsz] at hi;exact List.mem_of_getElem? (hg i hi)
 ·intro hx
  obtain ⟨i,hi⟩:=List.getElem?_of_mem hx
  have hl:=(List.getElem?_eq_some_iff.1 hi).1
  refine ⟨i,by rw [hsz];exact hl,?_⟩
  have:=hg i hl;rw [hi] at this;exact (Option.some.inj this).symm
theorem zvc (hT:zbV T) (s:BitVec 64):Fn Tryz.prog T zgZ [.d (.u64 s)] [] (.d (dN (zD s))) []:=by
 refine zb zm zm6 (by show 1≤16;decide) ?_
 (repeat' ((conv=>whnf);first|refine vA ?_|refine vT ?_));all_goals try conv=>whnf
 refine zf (fun ((r,zs):BitVec 64×List D)=>[(0,.d (.u64 (r))),(3,.own 0)]) (fun ((r,zs):BitVec 64×List D)=>[(0,some (.row 1 zs))]) 1 (fun ((r,zs):BitVec 64×List D) => ∃ l:List Nat,zs=l.map (fun (x:Nat)=>D.int .i64 (x:Int))∧zD s=l++zD r) (fun ((r,zs):BitVec 64×List D)=>(zD r).length) ((s,[])) []   [0] (⟨[],rfl,rfl⟩) (by (refine ⟨rfl,rfl,rfl,?_,?_⟩;repeat' first|exact trivial|exact rfl|exact ⟨_,rfl⟩|refine And.intro ?_ ?_|decide)) ?_
 rintro ⟨r,zs⟩ ⟨l,rfl,hI⟩
 by_cases hr:r=0#64
 ·subst hr
  (repeat' ((conv=>whnf);first|refine vA ?_|refine vH ?_|refine vT ?_));all_goals try conv=>whnf
  rw [hI,zcP,List.append_nil]
  show some (D.arr 1 _)=some (D.arr 1 _)
  rw [List.map_map];rfl
 ·have hb:=zgN r hr
  have hl:=congrArg List.length hI
  have hlen:=zkS s
  rw [List.length_append] at hl
  (repeat' ((conv=>whnf);first|refine vA ?_|(refine vD ?_ ?_<;>intro hc)|refine vT ?_|(refine vP ?_ ?_;·(simp only [vM] at *;omega))|refine yD (hT r) (by (repeat refine ⟨⟨rfl,rfl⟩,?_⟩);rfl) rfl ?_));all_goals try conv=>whnf
  ·refine ⟨(r&&&(r - 1#64),_),[(0,2)],[],?_,?_,by (refine ⟨rfl,rfl,rfl,?_,?_⟩;repeat' first|exact trivial|exact rfl|refine And.intro ?_ ?_|refine ⟨_,rfl,?_⟩|decide)⟩
   ·exact ⟨l++[Lib.ctz 64 r.toNat],by simp,by rw [hI,hb];simp⟩
   ·show (zD (r&&&(r - 1#64))).length < (zD r).length
    rw [hb];simp
  ·exact absurd ‹r=0› hr
def zcM (q:Nat→Nat) (s:BitVec 64):List Int:=(zD s).map fun v=>(q v:Int)
theorem zvF {n:Nat} {s:BitVec 64} (hs : ∀ v,s.getLsbD v=true→v < n):(zD s).length≤n:=zvK hs
theorem zyc (hT:zbV T) (q:Nat→Nat) {n:Nat} (hn:n≤12) {s:BitVec 64} (hs : ∀ v,s.getLsbD v=true→v < n) :
  Fn Tryz.prog T ze0 [.d (dI (ptL n q)),.d (.u64 s)] [] (.own 0) [some (.row 1 ((zbq (zcM q s)).map (D.int .i64)))]:=by
 have hbl:=zvF hs
 have hvl:(zcM q s).length=(zD s).length:=by simp [zcM]
 have c1:=zow (T:=T) (zcM q s).toArray (by simp [hvl];omega)
 rw [show zbK (Sort.sort ltI (zcM q s).toArray) = .row 1 ((zbq (zcM q s)).map (D.int .i64)) by rw [zbK,zqZ]] at c1
 have hln:(ptL n q).length=n:=z1
 refine zaL zm zod (by show 2≤26;decide) _ (fun e env mem n h=>h) ?_
 (repeat' ((conv=>whnf);first|refine vA ?_|refine vJ fun hg=>?_|refine vT ?_|refine yN (zvc hT s) ⟨⟨rfl,rfl⟩,rfl⟩ ?_));all_goals try conv=>whnf
 refine zf (fun ((k,zs):Nat×List D)=>[(0,.d (dI (ptL n q))),(5,.own 0),(9,.d (dN (zD s))),(10,.d (.int .i64 ((zer (zD s):Int)))),(11,.d (.int .i64 ((k:Int))))]) (fun ((k,zs):Nat×List D)=>[(0,some (.row 1 zs))]) 1 (fun ((k,zs):Nat×List D)=>k≤(zD s).length∧zs=((zcM q s).take k).map (D.int .i64)) (fun ((k,zs):Nat×List D)=>(zD s).length - k) ((0,[])) []   [0] (⟨by omega,by simp⟩) (by (refine ⟨rfl,rfl,rfl,?_,?_⟩;repeat' first|exact trivial|exact rfl|exact ⟨_,rfl⟩|refine And.intro ?_ ?_|decide)) ?_
 rintro ⟨k,zs⟩ ⟨hk,hz⟩
 have hzl:zs.length≤12:=by rw [hz];simp;omega
 have hlD:=zhL (zD s)
 by_cases hkl:k < (zD s).length
 ·have e1:=zeJ hkl
  have hw:=hs _ (zhC.1 (zdF hkl))
  have e2:=zG (q:=q) hw
  (repeat' ((conv=>whnf);first|refine vA ?_|(refine vF ?_ ?_<;>intro hc<;>try simp only [vL] at hc)|refine vT ?_|refine vN ‹_› ?_|((first|refine vO ?_ ?_|refine vP ?_ ?_);·first|omega|(simp only [vM] at *;omega))|fail));all_goals try conv=>whnf
  ·refine ⟨(k+1,_),[(0,2)],[],?_,?_,by (refine ⟨rfl,rfl,rfl,?_,?_⟩;repeat' first|exact trivial|exact rfl|refine And.intro ?_ ?_|refine ⟨_,rfl,?_⟩|decide)⟩
   ·refine ⟨by omega,?_⟩
    have e3:(zcM q s)[k]? = some ((q ((zD s).getD k 0):Nat):Int):=by
     rw [zcM,List.getElem?_map,zbw (d:=0) hkl];rfl
    rw [List.take_add_one,e3,hz];simp
   ·((simp only [vM] at *;omega))
  ·exfalso;omega
 ·(repeat' ((conv=>whnf);first|refine vA ?_|(refine vF ?_ ?_<;>intro hc<;>try simp only [vL] at hc)|refine vT ?_|(refine vQ ?_ fun x hx=>?_;·omega)|((first|refine vO ?_ ?_|refine vS ?_ fun x hx=>?_|refine vP ?_ ?_);·omega)|fail));all_goals try conv=>whnf
  ·exfalso;omega
  ·have e0:zs=(zcM q s).map (D.int .i64):=by rw [hz,List.take_of_length_le (by omega)]
   clear hz
   subst e0
   refine zaO.objs [0] (c1) (by (repeat' first|exact rfl|refine And.intro ?_ ?_|refine ⟨_,rfl,?_⟩)) (by (repeat' first|exact rfl|refine And.intro ?_ ?_)) (by rfl) (by rfl) (by simp) ?_
   (repeat' ((conv=>whnf);refine vT ?_));all_goals try conv=>whnf
   refine ⟨trivial,_,[(0,0)],[],rfl,.inl (by (repeat' exact rfl)),⟨by rfl,by rfl,by rfl,trivial,by (repeat' first|exact trivial|exact rfl|refine And.intro ?_ ?_|refine ⟨_,rfl,?_⟩|exact of_decide_eq_true rfl)⟩,by (repeat' exact trivial)⟩
theorem zAO {n:Nat} {q:Nat→Nat} {s:BitVec 64} (hn:n≤64) (hs : ∀ v,s.getLsbD v=true→v < n) {r:Nat→Nat→Bool} {w:Nat} (hr : ∀ v,v < n→r w v=s.getLsbD v):zce n r q w=zcM q s:=by
 unfold zce zcM zD
 rw [zf7 (n:=n) hs 64 hn]
 congr 1
 exact List.filter_congr fun v hv=>hr v (List.mem_range.1 hv)
end Go.Ab
namespace Go.Ab
open Go Go.Proofs
set_option maxRecDepth 10000
set_option maxHeartbeats 4000000
variable {T:Nat→Obj→Prop}
abbrev dTs (l:List Tup):D := .arr 1 (l.map dII)
theorem zuv {n:Nat} (t:Nat→Tup):(((List.range n).map t).map (rkN ((List.range n).map t))).map (fun (x:Nat)=>(x:Int))=ptL n fun w=>rkN ((List.range n).map t) (t w):=by
 unfold ptL;simp [Function.comp_def]
theorem zr7 {n:Nat} (t:Nat→Tup) (h1:1≤n) (h12:n≤12) (hs : ∀ w,w < n→Sml (t w)) :
  Fn Tryz.prog T zfs [.d (dTs ((List.range n).map t))] [] (.d (.tup [dI (ptL n fun w=>rkN ((List.range n).map t) (t w)),.int .i64 (cnN ((List.range n).map t):Int)])) []:=by
 have h:=zx9 (T:=T) ((List.range n).map t) (fun h=>by have:=congrArg List.length h;simp at this;omega) (by simpa using h12) (fun x hx=>by
  obtain ⟨w,hw,rfl⟩:=List.mem_map.1 hx
  exact hs w (List.mem_range.1 hw))
 rw [show dN (((List.range n).map t).map (rkN ((List.range n).map t)))=dI (ptL n fun w=>rkN ((List.range n).map t) (t w)) by rw [← zuv]] at h
 exact h
theorem zwV {n:Nat} (h1:1≤n) (h12:n≤12) (g:Nat) (y:D) (next:(Nat→Nat)→Nat→Tup) (first:Nat→Tup) (hF : ∀ q v w,v < n→w < n→next q v=next q w→q v=q w)
  (hs : ∀ q w,w < n→Sml (next q w)) (hf : ∀ w,w < n→Sml (first w)) (hx : ∀ (q:Nat→Nat) (w:Nat),w < n→Fn Tryz.prog T g [.d (dI (ptL n q)),.d (.int .i64 (w:Int)),.d y] [] (.d (dII (next q w))) []) :
  Fn Tryz.prog T zho [.d (dTs ((List.range n).map first)),.d (.fn g [y])] []
   (.d (.tup [dI (ptL n (zbj n next (n+1) (fun w=>rkN ((List.range n).map first) (first w)) (cnN ((List.range n).map first))).1),.int .i64 ((zbj n next (n+1) (fun w=>rkN ((List.range n).map first) (first w)) (cnN ((List.range n).map first))).2:Int)])) []:=by
 have c1:=zr7 (T:=T) first h1 h12 hf
 have c2:=fun q=>zr7 (T:=T) (next q) h1 h12 (hs q)
 generalize hq0:(fun w=>rkN ((List.range n).map first) (first w))=q0 at c1
 have hd0:cnN ((List.range n).map first)=dcN n q0:=by
  have:=zcX (n:=n) (next:=fun _=>first) (fun _=>0)
  unfold zaP rfT zdi rfT at this
  rw [hq0] at this
  exact this.symm
 rw [hd0] at c1 ⊢
 generalize hR:zbj n next (n+1) q0 (dcN n q0)=R
 refine zb zm zoc (by show 2≤45;decide) ?_
 (repeat' ((conv=>whnf);first|refine vT ?_|refine yN c1 ⟨⟨rfl,rfl⟩,rfl⟩ ?_));all_goals try conv=>whnf
 refine zM (fun ((q,c):(Nat→Nat)×Nat)=>[(1,.d (.fn g [y])),(6,.d (dI (ptL n q))),(7,.d (.int .i64 ((c:Int))))]) (fun ((q,c):(Nat→Nat)×Nat)=>c=dcN n q∧zbj n next (n+1) q (dcN n q)=R) (fun ((q,c):(Nat→Nat)×Nat)=>n+1 - c) ((q0,dcN n q0)) (⟨rfl,hR⟩) (by (repeat' first|exact trivial|exact rfl|refine And.intro ?_ ?_)) ?_
 rintro ⟨q,c⟩ ⟨hc0,hI⟩
 have hln:(ptL n q).length=n:=z1
 (repeat' ((conv=>whnf);first|refine vA ?_|refine vJ fun hg=>?_|refine vK fun hg=>?_|refine vT ?_|(refine vP ?_ ?_;·(simp only [vM] at *;omega))|fail));all_goals try conv=>whnf
 ·refine zf (fun ((k,zs):Nat×List D)=>[(1,.d (.fn g [y])),(6,.d (dI (ptL n q))),(7,.d (.int .i64 ((c:Int)))),(8,.own 0),(21,.d (.int .i64 (((List.replicate ((((ptL n q).map (D.int .i64)).length:Int)).toNat (D.arr 1 []))).length:Int))),(22,.d (.int .i64 ((k:Int))))]) (fun ((k,zs):Nat×List D)=>[(0,some (.row 1 zs))]) 1 (fun ((k,zs):Nat×List D)=>k≤n∧zs=(List.range n).map fun w=>if w < k then dII (next q w) else D.arr 1 []) (fun ((k,zs):Nat×List D)=>n - k) ((0,List.replicate ((((ptL n q).map (D.int .i64)).length:Int)).toNat (D.arr 1 []))) [(0,0)] [] (⟨by omega,by simp only [Nat.not_lt_zero,if_false];rw [List.length_map,hln,Int.toNat_natCast];exact z2 _ _⟩) (by (refine ⟨rfl,rfl,rfl,?_,?_⟩;repeat' first|exact trivial|exact rfl|refine And.intro ?_ ?_|refine ⟨_,rfl,?_⟩|decide)) ?_
  rintro ⟨k,zs⟩ ⟨hk,hz⟩
  by_cases hkl:k < n
  ·subst hz
   have er:(List.range n)[k]? = some k:=List.getElem?_range hkl
   (repeat' ((conv=>whnf);first|refine vA ?_|(refine vF ?_ ?_<;>intro hc<;>try simp only [vL] at hc)|refine vT ?_));all_goals try conv=>whnf
   ·refine zaO.dataN (hx q k hkl) (by (repeat refine ⟨⟨rfl,rfl⟩,?_⟩);rfl) ?_
    (repeat' ((conv=>whnf);first|refine vT ?_|((first|refine vO ?_ ?_|refine vP ?_ ?_);·first|omega|(simp only [vM] at *;omega))|fail));all_goals try conv=>whnf
    refine ⟨(k+1,_),[(0,0)],[],?_,?_,by (refine ⟨rfl,rfl,rfl,?_,?_⟩;repeat' first|exact trivial|exact rfl|refine And.intro ?_ ?_|refine ⟨_,rfl,?_⟩|decide)⟩
    ·refine ⟨by omega,(zbL _).trans (zC fun u hu=>?_)⟩
     show (if u=k then _ else _)=_
     by_cases e:u=k
     ·subst e;rw [if_pos rfl,if_pos (by omega)]
     ·rw [if_neg e]
      by_cases e2:u < k
      ·rw [if_pos e2,if_pos (by omega)]
      ·rw [if_neg e2,if_neg (by omega)]
    ·((simp only [vM] at *;omega))
   ·exfalso
    simp only [vM] at *;omega
  ·have hzz:zs=((List.range n).map (next q)).map dII:=by
    rw [hz,List.map_map];exact zC fun u hu=>by rw [if_pos (by omega)];rfl
   clear hz
   subst hzz
   have c3:=c2 q
   (repeat' ((conv=>whnf);first|refine vA ?_|(refine vF ?_ ?_<;>intro hc<;>try simp only [vL] at hc)|refine vT ?_|refine yN c3 (by (repeat refine ⟨⟨rfl,rfl⟩,?_⟩);rfl) ?_));all_goals try conv=>whnf
   ·exfalso;simp only [vM] at *;omega
   ·have e1:zaP n next q=dcN n q:=by have h:(cnN ((List.range n).map (next q)):Int)=(c:Int):=‹_›;unfold zaP rfT;omega
    rw [zbj,if_pos e1] at hI
    rw [← hI,hc0];rfl
   ·have e1:zaP n next q≠dcN n q:=fun e=>by
     have h : ¬(cnN ((List.range n).map (next q)):Int)=(c:Int):=‹_›
     unfold zaP rfT at e;omega
    have e2:=zqa hF q
    have e3:=zcX (n:=n) (next:=next) q
    have e4:=ztu (n:=n) (next:=next) q
    refine ⟨(zdi n next q,zaP n next q),[],[],?_,?_,by (refine ⟨rfl,rfl,rfl,?_,?_⟩;repeat' first|exact trivial|exact rfl|refine And.intro ?_ ?_)⟩
    ·refine ⟨e3.symm,?_⟩
     rw [zbj,if_neg e1,← e3] at hI
     rw [← hI]
     exact zrE hF _ _ _ (by omega) (by omega)
    ·show n+1 - zaP n next q < n+1 - c
     omega
end Go.Ab
namespace Go.Ab
open Go Go.Proofs
set_option maxRecDepth 10000
set_option maxHeartbeats 4000000
variable {T:Nat→Obj→Prop}
theorem zAQ {n:Nat} (h12:n≤12) {R:zI} (hR:R.length≤8) (q:Nat→Nat) (w:Nat):Sml (zi9 n R q w)∧Sml (zx n R q w):=by
 have hsee : ∀ r:Nat→Nat→Bool,(zce n r q w).length≤12:=fun r=>by
  unfold zce
  rw [List.length_map]
  have:=List.length_filter_le (fun v=>r w v) (List.range n)
  rw [List.length_range] at this;omega
 refine ⟨⟨by simp [zi9];omega,fun x hx=>?_⟩,⟨by simp [zx];omega,fun x hx=>?_⟩⟩
 ·rcases List.mem_cons.1 hx with rfl|hx
  ·simp
  ·obtain ⟨r,-,rfl⟩:=List.mem_map.1 hx
   have:=hsee r
   rw [(za5 _).length_eq];omega
 ·rcases List.mem_cons.1 hx with rfl|hx
  ·simp
  ·obtain ⟨r,-,rfl⟩:=List.mem_map.1 hx
   have:=hsee r
   have h2:=zbi (zbv (zce n r q w)) (l':=zce n r q w) fun y hy=>zag.1 hy
   unfold zd2
   rw [(za5 _).length_eq];omega
theorem zuA {m:KM} (hk0:za m=0) {r:List (BitVec 64)} (hr:r∈m.rel) (w:Nat) : ∀ v,(r.getD w 0#64).getLsbD v=true→v < m.W.toNat:=fun v hv=>(zBi hk0 hr (v:=w) (u:=v) hv).2
theorem zwO (hT:zbV T) {m:KM} (hk0:za m=0) (h12:m.W≤12) (q:Nat→Nat) (w:Nat) (hw:w < m.W.toNat) :
  Fn Tryz.prog T zch [.d (dI (ptL m.W.toNat q)),.d (.int .i64 (w:Int)),.d (bKM m)] [] (.d (dII (zx m.W.toNat (zd m) q w))) []:=by
 have hg0:=zn hk0
 have n4:=hg0.n4
 have e0:=zG (q:=q) hw
 refine zb zm zmb (by show 3≤34;decide) ?_
 (repeat' ((conv=>whnf);first|refine vA ?_|refine vJ fun hg=>?_|refine vT ?_|refine vN ‹_› ?_));all_goals try conv=>whnf
 refine zf (fun ((k,zs):Nat×List D)=>[(0,.d (dI (ptL m.W.toNat q))),(1,.d (.int .i64 ((w:Int)))),(6,.own 0),(16,.d (dUU m.rel)),(17,.d (.int .i64 ((m.rel.map dU).length:Int))),(18,.d (.int .i64 ((k:Int))))]) (fun ((k,zs):Nat×List D)=>[(0,some (.row 1 zs))]) 1 (fun ((k,zs):Nat×List D)=>k≤m.rel.length∧zs=dI [(q w:Int)]::(m.rel.take k).map fun r=>dI (zd2 (zcM q (r.getD w 0#64)))) (fun ((k,zs):Nat×List D)=>m.rel.length - k) ((0,[dI [(q w:Int)]])) [(0,1)] [] (⟨by omega,by simp⟩) (by (refine ⟨rfl,rfl,rfl,?_,?_⟩;repeat' first|exact trivial|exact rfl|refine And.intro ?_ ?_|refine ⟨_,rfl,?_⟩|decide)) ?_
 rintro ⟨k,zs⟩ ⟨hk,hz⟩
 have hzl:zs.length≤5:=by rw [hz];simp;omega
 by_cases hkl:k < m.rel.length
 ·obtain ⟨r,hr⟩ : ∃ r,m.rel[k]? = some r:=⟨_,List.getElem?_eq_getElem hkl⟩
  have hrm:=List.mem_of_getElem? hr
  have hrl:=hg0.len r hrm
  have hx:=zbw (l:=r) (d:=0#64) (show w < r.length by omega)
  have hvl:=zvF (zuA hk0 hrm w)
  have c2:=ztO (T:=T) (zbq (zcM q (r.getD w 0#64))).toArray (by rw [List.size_toArray,(za5 _).length_eq,zcM,List.length_map];omega)
  rw [zxV] at c2
  (repeat' ((conv=>whnf);first|refine vA ?_|(refine vF ?_ ?_<;>intro hc<;>try simp only [vL] at hc)|refine vT ?_|refine vN ‹_› ?_));all_goals try conv=>whnf
  ·refine zaO.res (zyc hT q (n:=m.W.toNat) (by omega) (zuA hk0 hrm w)) (by (repeat refine ⟨⟨rfl,rfl⟩,?_⟩);rfl) ?_
   (repeat' ((conv=>whnf);refine vT ?_));all_goals try conv=>whnf
   refine zaO.objs [1] (c2) (by (repeat' first|exact rfl|refine And.intro ?_ ?_|refine ⟨_,rfl,?_⟩)) (by (repeat' first|exact rfl|refine And.intro ?_ ?_)) (by rfl) (by rfl) (by simp) ?_
   (repeat' ((conv=>whnf);first|refine vT ?_|((first|refine vO ?_ ?_|refine vP ?_ ?_);·first|omega|(simp only [vM] at *;omega))|fail));all_goals try conv=>whnf
   refine ⟨(k+1,_),[(0,4)],[],?_,?_,by (refine ⟨rfl,rfl,rfl,?_,?_⟩;repeat' first|exact trivial|exact rfl|refine And.intro ?_ ?_|refine ⟨_,rfl,?_⟩|decide)⟩
   ·refine ⟨by omega,?_⟩
    rw [List.take_add_one,hr,hz];simp
   ·((simp only [vM] at *;omega))
  ·exfalso;omega
 ·have hzz:zs=dI [(q w:Int)]::m.rel.map fun r=>dI (zd2 (zcM q (r.getD w 0#64))):=by rw [hz,List.take_of_length_le (by omega)]
  clear hz
  (repeat' ((conv=>whnf);first|refine vA ?_|(refine vF ?_ ?_<;>intro hc<;>try simp only [vL] at hc)|refine vT ?_|(refine vQ ?_ fun x hx=>?_;·omega)|fail));all_goals try conv=>whnf
  ·exfalso;omega
  ·refine congrArg some (show D.arr 1 zs=dII (zx m.W.toNat (zd m) q w) from ?_)
   rw [hzz]
   unfold zx zd
   have a1 : ∀ r∈m.rel,zce m.W.toNat (fun v w=>rb r v w) q w=zcM q (r.getD w 0#64):=fun r hr=>zAO (by omega) (zuA hk0 hr w) fun v _=>rfl
   simp only [List.map_map,List.map_cons]
   refine congrArg (fun l=>D.arr 1 (dI [(q w:Int)]::l)) ?_
   rw [List.map_map]
   exact List.map_congr_left fun r hr=>by show dI _=dI (zd2 (zce _ (fun v w=>rb r v w) q w));rw [a1 r hr]
theorem zr5 (hT:zbV T) {m:KM} (hk0:za m=0) (h12:m.W≤12) (root:Int) :
  Fn Tryz.prog T zhn [.d (dKM m),.d (.int .i64 root)] [] (.d (.tup [dI (ptL m.W.toNat (zcU m root).1),.int .i64 ((zcU m root).2:Int)])) []:=by
 have hg0:=zn hk0
 have w1:=hg0.w1
 have n4:=hg0.n4
 have cr:=zwV (T:=T) (n:=m.W.toNat) (by omega) (by omega) zch (bKM m) (zx m.W.toNat (zd m)) (mkT m root) (fun q v w hv hw h=>zdI q v w hv hw h) (fun q w hw=>(zAQ (by omega) (by simp [zd];omega) q w).2) (fun w hw=>⟨by simp [mkT],fun r hr=>by unfold mkT at hr;simp at hr;rcases hr with rfl|rfl<;>simp⟩) (fun q w hw=>zwO hT hk0 h12 q w hw)
 refine zb zm zob (by show 2≤33;decide) ?_
 (repeat' ((conv=>whnf);first|refine vA ?_|refine vT ?_));all_goals try conv=>whnf
 refine zf (fun ((k,zs):Nat×List D)=>[(1,.d (.int .i64 (root))),(2,.ptr 0 0),(6,.own 1),(10,.d (.int .i64 (m.W))),(11,.d (.int .i64 ((k:Int))))]) (fun ((k,zs):Nat×List D)=>[(0,some (zR m)),(1,some (.row 1 zs))]) 2 (fun ((k,zs):Nat×List D)=>k≤m.W.toNat∧zs=((List.range k).map (mkT m root)).map dII) (fun ((k,zs):Nat×List D)=>m.W.toNat - k) ((0,[])) [(0,0)]   [1] (⟨by omega,rfl⟩) (by (refine ⟨rfl,rfl,rfl,?_,?_⟩;repeat' first|exact trivial|exact rfl|exact ⟨_,rfl⟩|refine And.intro ?_ ?_|refine ⟨_,rfl,?_⟩|decide)) ?_
 rintro ⟨k,zs⟩ ⟨hk,hz⟩
 have hzl:zs.length≤12:=by rw [hz];simp;omega
 by_cases hkl:k < m.W.toNat
 ·have cf:=zg8 (T:=T) m (k:Int)
  rw [zgx hk0 hkl] at cf
  (repeat' ((conv=>whnf);first|refine vA ?_|(refine vF ?_ ?_<;>intro hc<;>try simp only [vL] at hc)|refine vT ?_|((first|refine vO ?_ ?_|refine vP ?_ ?_);·first|omega|(simp only [vM] at *;omega))|refine yD cf ⟨⟨rfl,rfl⟩,⟨rfl,rfl⟩,rfl⟩ rfl ?_));all_goals try conv=>whnf
  ·refine ⟨(k+1,_),[(0,0),(1,6)],[],?_,?_,by (refine ⟨rfl,rfl,rfl,?_,?_⟩;repeat' first|exact trivial|exact rfl|refine And.intro ?_ ?_|refine ⟨_,rfl,?_⟩|decide)⟩
   ·refine ⟨by omega,?_⟩
    rw [hz,List.range_succ,List.map_append,List.map_append]
    refine congrArg _ ?_
    show [D.arr 1 [D.arr 1 [D.int .i64 0],D.arr 1 [D.int .i64 (zF m k)]]]=[dII (mkT m root k)]
    unfold mkT;rw [if_pos ‹_›];rfl
   ·((simp only [vM] at *;omega))
  ·refine ⟨(k+1,_),[(0,0),(1,6)],[],?_,?_,by (refine ⟨rfl,rfl,rfl,?_,?_⟩;repeat' first|exact trivial|exact rfl|refine And.intro ?_ ?_|refine ⟨_,rfl,?_⟩|decide)⟩
   ·refine ⟨by omega,?_⟩
    rw [hz,List.range_succ,List.map_append,List.map_append]
    refine congrArg _ ?_
    show [D.arr 1 [D.arr 1 [D.int .i64 1],D.arr 1 [D.int .i64 (zF m k)]]]=[dII (mkT m root k)]
    unfold mkT;rw [if_neg ‹_›];rfl
   ·((simp only [vM] at *;omega))
  ·exfalso;omega
 ·have hzz:zs=((List.range m.W.toNat).map (mkT m root)).map dII:=by rw [hz,show k=m.W.toNat by omega]
  clear hz
  subst hzz
  (repeat' ((conv=>whnf);first|refine vA ?_|(refine vF ?_ ?_<;>intro hc<;>try simp only [vL] at hc)|refine vT ?_|refine yN cr ⟨⟨rfl,rfl⟩,⟨rfl,rfl⟩,rfl⟩ ?_));all_goals try conv=>whnf
  iterate 2 (exfalso;omega)
  rfl
end Go.Ab
namespace Go.Ab
open Go Go.Proofs
set_option maxRecDepth 10000
set_option maxHeartbeats 4000000
variable {T:Nat→Obj→Prop}
theorem zr0 {l:List Nat} {w:Nat} (h:w∈l):zfn (fun y=>(w:Int)==y) (l.map fun (x:Nat)=>(x:Int))=(l.idxOf w:Int):=by
 have h1:=zfu h
 refine zg7 (x:=(w:Int)) (by rw [zeJ h1.1,h1.2]) (by simp) fun i y hi hy=>?_
 rw [List.getElem?_map,Option.map_eq_some_iff] at hy
 obtain ⟨x,hx,rfl⟩:=hy
 have hne:x≠w:=fun e=>by
  subst e
  have h2:=List.idxOf_lt_length_of_mem h
  obtain ⟨p1,q1⟩:=List.getElem?_eq_some_iff.1 hx
  have : ∀ (l:List Nat) (i:Nat) (hi:i < l.length),l.idxOf l[i]≤i:=fun l=>by
   induction l with
   | nil=>intro i hi;simp at hi
   | cons a l ih =>
    intro i hi
    cases i with
    | zero=>simp
    | succ i =>
     rw [List.getElem_cons_succ,List.idxOf_cons]
     cases hb:a==l[i]'(by simpa using hi) with
     | true=>simp
     | false=>have:=ih i (by simpa using hi);simp;exact this
  have:=this l i p1
  rw [q1] at this;omega
 simp;omega
theorem ztN (hT:zbV T) (m:KM) (h12:za m=0→m.W≤12) (w:Int):Fn Tryz.prog T zfZ [.d (dKM m),.d (.int .i64 w)] [] (.d (.tup [dKM (zcl m w).1,dI (zcl m w).2.1,.int .i64 (zcl m w).2.2])) []:=by
 have cc:=zaY (T:=T) m
 by_cases hk0:za m=0
 ·have h12:=h12 hk0
  have hg0:=zn hk0
  have w1:=hg0.w1
  rw [hk0] at cc
  by_cases hw:w < 0∨m.W≤w
  ·refine zb zm zdG (by show 2≤95;decide) ?_
   (repeat' ((conv=>whnf);first|refine vA ?_|refine vH ?_|(refine vF ?_ ?_<;>intro hc<;>try simp only [vL] at hc)|refine vT ?_|(refine vP ?_ ?_;·omega)|refine yD cc ⟨⟨rfl,rfl⟩,rfl⟩ rfl ?_));all_goals try conv=>whnf
   iterate 2 (rw [zcl,if_neg (by omega),if_pos hw];rfl)
   exfalso;omega
  ·obtain ⟨w,rfl⟩ : ∃ v:Nat,w=(v:Int):=⟨w.toNat,by omega⟩
   have hwl:w < m.W.toNat:=by omega
   have hbit : ∀ v,(1#64 <<< w).getLsbD v=true→v < m.W.toNat:=fun v hv=>by have:=(zhN (by omega)).1 hv;omega
   have hl:=zlh hk0 hwl
   have hroot:=zdE (R:=zd m) hwl
   have hlen:=zhJ (n:=m.W.toNat) (R:=zd m) (w:=w)
   have hlt : ∀ x∈zH m.W.toNat (zd m) w,x < m.W.toNat:=fun x hx=>(zeD.1 hx).lt
   have hnd:=zfM m.W.toNat (zd m) w
   have hcan:zcl m (w:Int)=if zfv (zA m (zH m.W.toNat (zd m) w))=false then (zaF,[],16) else (zA m (zcz m w),(zcz m w).map fun (x:Nat)=>(x:Int),0):=by
    rw [zcl,if_neg (by omega),if_neg hw,Int.toNat_natCast]
   have hcc:=zts hk0 hwl
   have cg:=zlV hT hk0 hbit
   have cr:=zmW hT hk0 (s:=zeo m (1#64 <<< w)) (fun e=>by
    rw [e,zcP] at hl;rw [← hl] at hroot;cases hroot) (fun v hv=>((zfL hk0).1 hv).lt)
   rw [hl] at cr
   generalize zeo m (1#64 <<< w)=gs at cg cr
   clear hl
   generalize hL:zH m.W.toNat (zd m) w=l at hroot hlen hlt hnd hcan hcc cr
   have hll:1≤l.length:=List.length_pos_of_mem hroot
   have hp0:=zpQ hk0 hll (by omega)
   have hpW:(zA m l).W.toNat=l.length:=Int.toNat_natCast _
   have hpI:(zA m l).W=(l.length:Int):=rfl
   have c1:=zr5 hT hp0 (by rw [hpI];omega) (-1)
   have ci:=zie (T:=T) (l.map fun (x:Nat)=>(x:Int)) (w:Int)
   rw [zr0 hroot] at ci
   have c2:=zr5 hT hp0 (by rw [hpI];omega) (l.idxOf w:Int)
   have hn:=zCJ (p:=zA m l) (-1)
   rw [hpW] at c1 c2 hn
   refine zb zm zdG (by show 2≤95;decide) ?_
   cases hmin:zfv (zA m l) with
   | false =>
    have hne:(zcU (zA m l) (-1)).2≠l.length:=fun e=>by
     unfold zfv at hmin;rw [hpW,e] at hmin;simp at hmin
    rw [hcan,hmin,if_pos rfl]
    (repeat' ((conv=>whnf);first|refine vA ?_|refine vH ?_|(refine vF ?_ ?_<;>intro hc<;>try simp only [vL] at hc)|refine vT ?_|(refine vP ?_ ?_;·omega)|(refine vU ?_ ?_;·kernel_rfl)|refine yD cc ⟨⟨rfl,rfl⟩,rfl⟩ rfl ?_|refine yN cg ⟨⟨rfl,rfl⟩,⟨rfl,rfl⟩,rfl⟩ ?_|refine yN cr ⟨⟨rfl,rfl⟩,⟨rfl,rfl⟩,rfl⟩ ?_|refine yN c1 ⟨⟨rfl,rfl⟩,⟨rfl,rfl⟩,rfl⟩ ?_));all_goals try conv=>whnf
    ·exfalso;omega
    ·rfl
    ·have h : ¬((zcU (zA m l) (-1)).2:Int) < (l.length:Int):=by rw [← hpI];omega
     exfalso;omega
   | true =>
    have he:(zcU (zA m l) (-1)).2=l.length:=by
     unfold zfv at hmin;rw [hpW] at hmin;exact of_decide_eq_true hmin
    rw [hcan,hmin,if_neg (by decide)]
    obtain ⟨hq,ha,hw2⟩:=hcc hmin
    have c3:=zwN (T:=T) (zA m l) (ptL l.length (zcU (zA m l) (l.idxOf w:Int)).1)
    rw [zhl,if_neg (by omega),if_pos (by rw [hpW];exact znT hq),hpW,ha] at c3
    generalize (zcU (zA m l) (l.idxOf w:Int)).1=q at c2 c3 hq hw2
    have hln:(ptL l.length q).length=l.length:=z1
    (repeat' ((conv=>whnf);first|refine vA ?_|refine vH ?_|(refine vF ?_ ?_<;>intro hc<;>try simp only [vL] at hc)|refine vJ fun hg=>?_|refine vT ?_|(refine vP ?_ ?_;·first|omega|(simp only [vM] at *;omega))|(refine vU ?_ ?_;·kernel_rfl)|refine yD cc ⟨⟨rfl,rfl⟩,rfl⟩ rfl ?_|refine yN cg ⟨⟨rfl,rfl⟩,⟨rfl,rfl⟩,rfl⟩ ?_|refine yN cr ⟨⟨rfl,rfl⟩,⟨rfl,rfl⟩,rfl⟩ ?_|refine yN c1 ⟨⟨rfl,rfl⟩,⟨rfl,rfl⟩,rfl⟩ ?_|refine yD ci ⟨⟨rfl,rfl⟩,⟨rfl,rfl⟩,rfl⟩ rfl ?_|refine yN c2 ⟨⟨rfl,rfl⟩,⟨rfl,rfl⟩,rfl⟩ ?_|refine yN c3 ⟨⟨rfl,rfl⟩,⟨rfl,rfl⟩,rfl⟩ ?_));all_goals try conv=>whnf
    ·exfalso;omega
    ·exfalso;rw [hpI] at *;omega
    refine zf (fun ((k,zs):Nat×List D)=>[(4,.ptr 0 0),(11,.d (dN l)),(17,.ptr 1 0),(19,.own 2),(78,.d (dI (ptL l.length q))),(79,.d (.int .i64 (((ptL l.length q).map (D.int .i64)).length:Int))),(80,.d (.int .i64 ((k:Int))))]) (fun ((k,zs):Nat×List D)=>[(0,some (.box [.d (.int .i64 0),.nils 1,.nils 1])),(1,some (zR (zA m (zcz m w)))),(2,some (.row 1 zs))]) 3 (fun ((k,zs):Nat×List D)=>k≤l.length∧zs=(List.range l.length).map fun i=>D.int .i64 (if zcm l.length q i < k then (l.getD (zcm l.length q i) 0:Int) else 0)) (fun ((k,zs):Nat×List D)=>l.length - k) ((0,List.replicate ((((ptL l.length q).map (D.int .i64)).length:Int)).toNat (D.int .i64 0))) [(0,1),(1,3),(2,4)] [] (⟨by omega,by simp only [Nat.not_lt_zero,if_false];rw [List.length_map,z1,Int.toNat_natCast];exact z2 _ _⟩) (by (refine ⟨rfl,rfl,rfl,?_,?_⟩;repeat' first|exact trivial|exact rfl|refine And.intro ?_ ?_|refine ⟨_,rfl,?_⟩|decide)) ?_
    rintro ⟨k,zs⟩ ⟨hk,hz⟩
    subst hz
    by_cases hkl:k < l.length
    ·have e1:=zG (q:=q) hkl
     have e2:=zeJ hkl
     have er:(List.range l.length)[q k]? = some (q k):=List.getElem?_range (hq.lt k hkl)
     have hqk:=hq.lt k hkl
     (repeat' ((conv=>whnf);first|refine vA ?_|(refine vF ?_ ?_<;>intro hc<;>try simp only [vL] at hc)|refine vT ?_|refine vN ‹_› ?_|((first|refine vO ?_ ?_|refine vP ?_ ?_);·first|omega|(simp only [vM] at *;omega))|fail));all_goals try conv=>whnf
     ·refine ⟨(k+1,_),[(0,0),(1,1),(2,2)],[],?_,?_,by (refine ⟨rfl,rfl,rfl,?_,?_⟩;repeat' first|exact trivial|exact rfl|refine And.intro ?_ ?_|refine ⟨_,rfl,?_⟩|decide)⟩
      ·refine ⟨by omega,(zbL _).trans (zC fun u hu=>?_)⟩
       show (if u=q k then _ else _)=_
       by_cases e:u=q k
       ·subst e
        rw [if_pos rfl,znN hq hkl,if_pos (by omega)]
       ·rw [if_neg e]
        have hne:zcm l.length q u≠k:=fun e'=>e (by rw [← e'];exact (zeA hq hu).2.symm)
        by_cases e2:zcm l.length q u < k
        ·rw [if_pos e2,if_pos (by omega)]
        ·rw [if_neg e2,if_neg (by omega)]
      ·((simp only [vM] at *;omega))
     all_goals (exfalso;omega)
    ·(repeat' ((conv=>whnf);first|refine vA ?_|(refine vF ?_ ?_<;>intro hc<;>try simp only [vL] at hc)|refine vT ?_|(refine vQ ?_ fun x hx=>?_;·omega)|((first|refine vO ?_ ?_|refine vP ?_ ?_);·omega)|fail));all_goals try conv=>whnf
     all_goals try (exfalso;omega)
     have e0:k=l.length:=by omega
     refine congrArg (fun x=>some (D.tup [dKM (zA m (zcz m w)),D.arr 1 x,D.int .i64 0])) ?_
     rw [hw2,List.map_map,List.map_map]
     exact zC fun u hu=>by rw [if_pos (by rw [e0];exact (zeA hq hu).1)];rfl
 ·refine zb zm zdG (by show 2≤95;decide) ?_
  (repeat' ((conv=>whnf);first|refine vA ?_|((first|refine vD ?_ ?_|refine vF ?_ ?_)<;>intro hc<;>try simp only [vL] at hc)|refine vT ?_|(refine vP ?_ ?_;·omega)|refine yD cc ⟨⟨rfl,rfl⟩,rfl⟩ rfl ?_));all_goals try conv=>whnf
  ·rw [zcl,if_pos hk0];rfl
  all_goals exact absurd ‹za m=0› hk0
end Go.Ab
namespace Go.Ab
open Go Go.Proofs
set_option maxRecDepth 10000
set_option maxHeartbeats 4000000
variable {T:Nat→Obj→Prop}
theorem zBJ (a b:List Int):Fn Tryz.prog T zgn [.d (dI a),.d (dI b)] [] (.d (.int .i64 (zX zap a b))) []:=by
 refine zb zm zmf (by show 2≤39;decide) ?_
 (repeat' ((conv=>whnf);first|refine vA ?_|refine vJ fun hg=>?_|refine vT ?_));all_goals try conv=>whnf
 refine zM (fun (k:Nat)=>[(0,.d (dI a)),(1,.d (dI b)),(7,.d (.int .i64 ((a.map (D.int .i64)).length:Int))),(8,.d (.int .i64 ((k:Int))))]) (fun (k:Nat)=>k≤a.length∧k≤b.length∧zX zap a b=zX zap (a.drop k) (b.drop k)) (fun (k:Nat)=>a.length - k) (0) (⟨by simp,by simp,rfl⟩) (by (repeat' first|exact trivial|exact rfl|refine And.intro ?_ ?_)) ?_
 rintro k ⟨hk,hk2,hI⟩
 by_cases hkl:k < a.length
 ·obtain ⟨x,hx⟩ : ∃ x,a[k]? = some x:=⟨_,List.getElem?_eq_getElem hkl⟩
  by_cases hkb:k < b.length
  ·obtain ⟨y,hy⟩ : ∃ y,b[k]? = some y:=⟨_,List.getElem?_eq_getElem hkb⟩
   have hs:zX zap a b=if zap x y=0 then zX zap (a.drop (k+1)) (b.drop (k+1)) else zap x y:=by rw [hI,zt hx,zt hy,zX]
   have hlt:x < y→zap x y = -1:=fun h=>if_pos h
   have hgt : ¬x < y→x≠y→zap x y=1:=fun h h'=>by rw [zap,if_neg h,if_pos (by omega)]
   (repeat' ((conv=>whnf);first|refine vA ?_|((first|refine vD ?_ ?_|refine vF ?_ ?_)<;>intro hc<;>try simp only [vL] at hc)|refine vJ fun hg=>?_|refine vT ?_|refine vN ‹_› ?_|(refine vO ?_ ?_;·omega)|(refine vU ?_ ?_;·kernel_rfl)|refine vX ?_));all_goals try conv=>whnf
   ·exfalso;omega
   ·rw [hs,hlt ‹x < y›,if_neg (by decide)]
   ·rw [hs,hgt (by omega) ‹x≠y›,if_neg (by decide)]
   ·have he:x=y:=‹_›
    subst he
    exact ⟨k+1,[],[],⟨by omega,by omega,by rw [hs,if_pos (zvJ.refl x)]⟩,by (omega),by (refine ⟨rfl,rfl,rfl,?_,?_⟩;repeat' first|exact trivial|exact rfl|refine And.intro ?_ ?_)⟩
   all_goals (exfalso;omega)
  ·(repeat' ((conv=>whnf);first|refine vA ?_|((first|refine vD ?_ ?_|refine vF ?_ ?_)<;>intro hc<;>try simp only [vL] at hc)|refine vJ fun hg=>?_|refine vT ?_|refine vN ‹_› ?_|(refine vQ ?_ fun x hx=>?_;·omega)|(refine vO ?_ ?_;·omega)|(refine vU ?_ ?_;·kernel_rfl)|refine vX ?_));all_goals try conv=>whnf
   ·rw [hI,List.drop_eq_nil_of_le (show b.length≤k by omega),zt hx,zX]
   all_goals (exfalso;omega)
 ·rw [List.drop_eq_nil_of_le (show a.length≤k by omega)] at hI
  (repeat' ((conv=>whnf);first|refine vA ?_|((first|refine vD ?_ ?_|refine vF ?_ ?_)<;>intro hc<;>try simp only [vL] at hc)|refine vJ fun hg=>?_|refine vT ?_|refine vN ‹_› ?_|(refine vQ ?_ fun x hx=>?_;·omega)|(refine vO ?_ ?_;·omega)|(refine vU ?_ ?_;·kernel_rfl)|refine vX ?_));all_goals try conv=>whnf
  iterate 4 (exfalso;omega)
  ·obtain ⟨y,hy⟩ : ∃ y,b[k]? = some y:=⟨_,List.getElem?_eq_getElem (by omega)⟩
   rw [hI,zt hy,zX]
  ·rw [hI,List.drop_eq_nil_of_le (show b.length≤k by omega),zX]
theorem zr2 (a b:Tup) (h:a.length=b.length):Fn Tryz.prog T zfH [.d (dII a),.d (dII b)] [] (.d (.int .i64 (zaq a b))) []:=by
 refine zb zm zkf (by show 2≤25;decide) ?_
 (repeat' ((conv=>whnf);first|refine vA ?_|refine vJ fun hg=>?_|refine vT ?_));all_goals try conv=>whnf
 refine zM (fun (k:Nat)=>[(0,.d (dII a)),(1,.d (dII b)),(8,.d (.int .i64 ((a.map dI).length:Int))),(9,.d (.int .i64 ((k:Int))))]) (fun (k:Nat)=>k≤a.length∧zaq a b=zX (zX zap) (a.drop k) (b.drop k)) (fun (k:Nat)=>a.length - k) (0) (⟨by simp,rfl⟩) (by (repeat' first|exact trivial|exact rfl|refine And.intro ?_ ?_)) ?_
 rintro k ⟨hk,hI⟩
 by_cases hkl:k < a.length
 ·obtain ⟨x,hx⟩ : ∃ x,a[k]? = some x:=⟨_,List.getElem?_eq_getElem hkl⟩
  obtain ⟨y,hy⟩ : ∃ y,b[k]? = some y:=⟨_,List.getElem?_eq_getElem (by omega)⟩
  have hs:zaq a b=if zX zap x y=0 then zX (zX zap) (a.drop (k+1)) (b.drop (k+1)) else zX zap x y:=by rw [hI,zt hx,zt hy,zX]
  (repeat' ((conv=>whnf);first|refine vA ?_|((first|refine vD ?_ ?_|refine vF ?_ ?_)<;>intro hc<;>try simp only [vL] at hc)|refine vT ?_|refine vN ‹_› ?_|(refine vO ?_ ?_;·omega)|(refine vU ?_ ?_;·kernel_rfl)|refine vX ?_|refine yD (zBJ x y) ⟨⟨rfl,rfl⟩,⟨rfl,rfl⟩,rfl⟩ rfl ?_));all_goals try conv=>whnf
  ·rw [hs,if_neg hc]
  ·exact ⟨k+1,[],[],⟨by omega,by rw [hs,if_pos hc]⟩,by (omega),by (refine ⟨rfl,rfl,rfl,?_,?_⟩;repeat' first|exact trivial|exact rfl|refine And.intro ?_ ?_)⟩
  ·exfalso;omega
 ·(repeat' ((conv=>whnf);first|refine vA ?_|(refine vF ?_ ?_<;>intro hc<;>try simp only [vL] at hc)|refine vT ?_|(refine vQ ?_ fun x hx=>?_;·omega)|refine vX ?_));all_goals try conv=>whnf
  ·exfalso;omega
  ·rw [hI,List.drop_eq_nil_of_le (by omega),List.drop_eq_nil_of_le (by omega),zX]
theorem zya (ts:List Tup) (h0:ts≠[]) (h64:ts.length≤64) (hl : ∀ s∈ts,∀ t∈ts,s.length=t.length):Fn Tryz.prog T zdD [.d (.arr 1 (ts.map dII))] [] (.d (.tup [dN (ts.map (rkN ts)),.int .i64 (cnN ts:Int)])) []:=by
 have hcn:cnN ts≤ts.length:=zbi (zbv ts) fun x hx=>zag.1 hx
 refine zb zm zly (by show 1≤64;decide) ?_
 (repeat' ((conv=>whnf);first|refine vA ?_|refine vJ fun hg=>?_|refine vT ?_));all_goals try conv=>whnf
 refine zf (fun ((i,most,zs):Nat×Int×List D)=>[(0,.d (.arr 1 (ts.map dII))),(4,.own 0),(5,.d (.int .i64 (most))),(12,.d (.int .i64 ((ts.map dII).length:Int))),(13,.d (.int .i64 ((i:Int))))]) (fun ((i,most,zs):Nat×Int×List D)=>[(0,some (.row 1 zs))]) 1 (fun ((i,most,zs):Nat×Int×List D)=>i≤ts.length∧zs=((ts.take i).map (rkN ts)).map (fun (x:Nat)=>D.int .i64 (x:Int))∧(0≤most∧most≤cnN ts) ∧ ∀ t∈ts.take i,(rkN ts t:Int)+1≤most) (fun ((i,most,zs):Nat×Int×List D)=>ts.length - i) ((0,0,[])) []   [0] (⟨by omega,by simp,⟨by omega,by omega⟩,by simp⟩) (by (refine ⟨rfl,rfl,rfl,?_,?_⟩;repeat' first|exact trivial|exact rfl|exact ⟨_,rfl⟩|refine And.intro ?_ ?_|decide)) ?_
 rintro ⟨i,most,zs⟩ ⟨hi,hz,hm,hM⟩
 have hzl:zs.length≤64:=by rw [hz];simp;omega
 by_cases hil:i < ts.length
 ·have hti:=zbw (d:=[]) hil
  have htm:=List.mem_of_getElem? hti
  generalize ts.getD i []=t at hti htm
  (repeat' ((conv=>whnf);first|refine vA ?_|(refine vF ?_ ?_<;>intro hc<;>try simp only [vL] at hc)|refine vJ fun hg=>?_|refine vT ?_));all_goals try conv=>whnf
  ·refine zf (fun ((j,n):Nat×Nat)=>[(0,.d (.arr 1 (ts.map dII))),(4,.own 0),(5,.d (.int .i64 (most))),(6,.d (.int .i64 ((i:Int)))),(7,.d (.int .i64 ((n:Int)))),(12,.d (.int .i64 ((ts.map dII).length:Int))),(13,.d (.int .i64 ((i:Int)))),(17,.d (.int .i64 ((ts.map dII).length:Int))),(18,.d (.int .i64 ((j:Int))))]) (fun ((j,n):Nat×Nat)=>[(0,some (.row 1 zs))]) 1 (fun ((j,n):Nat×Nat)=>j≤ts.length∧n=zo4 ts t j) (fun ((j,n):Nat×Nat)=>ts.length - j) ((0,0)) [(0,0)] [] (⟨by omega,rfl⟩) (by (refine ⟨rfl,rfl,rfl,?_,?_⟩;repeat' first|exact trivial|exact rfl|refine And.intro ?_ ?_|refine ⟨_,rfl,?_⟩|decide)) ?_
   rintro ⟨j,n⟩ ⟨hj,hn⟩
   have hnj:n≤j:=by
    rw [hn];unfold zo4
    have:=List.length_filter_le (fun j=>decide (zaq (ts.getD j []) t < 0)&&zen ts j) (List.range j)
    rwa [List.length_range] at this
   by_cases hjl:j < ts.length
   ·have htj:=zbw (d:=[]) hjl
    have hjm:=List.mem_of_getElem? htj
    have hsucc:=zxQ ts t j
    have hfB:=zle (ts:=ts) (j:=j)
    generalize htjd:ts.getD j []=tj at htj hjm hsucc hfB
    have cb:=zr2 (T:=T) tj t (hl _ hjm _ htm)
    (repeat' ((conv=>whnf);first|refine vA ?_|(refine vF ?_ ?_<;>intro hc<;>try simp only [vL] at hc)|refine vT ?_|refine vN ‹_› ?_|((first|refine vO ?_ ?_|refine vP ?_ ?_);·omega)|(refine vU ?_ ?_;·kernel_rfl)|refine yD cb ⟨⟨rfl,rfl⟩,⟨rfl,rfl⟩,rfl⟩ rfl ?_));all_goals try conv=>whnf
    ·refine ⟨(j+1,n),[(0,0)],[],?_,?_,by (refine ⟨rfl,rfl,rfl,?_,?_⟩;repeat' first|exact trivial|exact rfl|refine And.intro ?_ ?_|refine ⟨_,rfl,?_⟩|decide)⟩
     ·refine ⟨by omega,?_⟩
      rw [hsucc,if_neg (fun h=>by have:=h.1;omega)];exact hn
     ·((simp only [vM] at *;omega))
    ·refine zf (fun ((k,f):Nat×Bool)=>[(0,.d (.arr 1 (ts.map dII))),(4,.own 0),(5,.d (.int .i64 (most))),(6,.d (.int .i64 ((i:Int)))),(7,.d (.int .i64 ((n:Int)))),(8,.d (.int .i64 ((j:Int)))),(9,.d (.bool (f))),(10,.d (.int .i64 ((k:Int)))),(12,.d (.int .i64 ((ts.map dII).length:Int))),(13,.d (.int .i64 ((i:Int)))),(17,.d (.int .i64 ((ts.map dII).length:Int))),(18,.d (.int .i64 ((j:Int))))]) (fun ((k,f):Nat×Bool)=>[(0,some (.row 1 zs))]) 1 (fun ((k,f):Nat×Bool)=>k≤j∧(f=true ↔ ∀ k',k' < k→ts.getD k' []≠tj)) (fun ((k,f):Nat×Bool)=>j - k) ((0,true)) [(0,0)] [] (⟨by omega,by simp⟩) (by (refine ⟨rfl,rfl,rfl,?_,?_⟩;repeat' first|exact trivial|exact rfl|exact .inr (.inl ⟨rfl,rfl⟩)|refine And.intro ?_ ?_|refine ⟨_,rfl,?_⟩|decide)) ?_
     rintro ⟨k,f⟩ ⟨hk,hf⟩
     by_cases hkj:k < j
     ·have htk:=zbw (d:=[]) (show k < ts.length by omega)
      have cd:=zr2 (T:=T) (ts.getD k []) tj (hl _ (List.mem_of_getElem? htk) _ hjm)
      have hnx : ∀ g:Bool,(g=true↔f=true∧ts.getD k []≠tj)→(g=true ↔ ∀ k',k' < k+1→ts.getD k' []≠tj):=fun g hg=>by
       rw [hg,hf]
       refine ⟨fun h k' hk'=>?_,fun h=>⟨fun k' hk'=>h k' (by omega),h k (by omega)⟩⟩
       by_cases e:k'=k
       ·subst e;exact h.2
       ·exact h.1 k' (by omega)
      have hne:zaq (ts.getD k []) tj≠0↔ts.getD k []≠tj:=not_congr zal.zero
      (repeat' ((conv=>whnf);first|refine vA ?_|((first|refine vF ?_ ?_|refine vI ?_ ?_)<;>intro hc<;>try simp only [vL] at hc)|refine vT ?_|refine vN ‹_› ?_|(refine vO ?_ ?_;·omega)|(refine vU ?_ ?_;·kernel_rfl)|refine yD cd ⟨⟨rfl,rfl⟩,⟨rfl,rfl⟩,rfl⟩ rfl ?_));all_goals try conv=>whnf
      ·refine ⟨(k+1,decide (zaq (ts.getD k []) tj≠0)),[(0,0)],[],?_,?_,by (refine ⟨rfl,rfl,rfl,?_,?_⟩;repeat' first|exact trivial|exact rfl|exact .inl rfl|refine And.intro ?_ ?_|refine ⟨_,rfl,?_⟩|decide)⟩
       ·exact ⟨by omega,hnx _ (by rw [decide_eq_true_eq,hne];exact ⟨fun h=>⟨‹f=true›,h⟩,fun h=>h.2⟩)⟩
       ·((simp only [vM] at *;omega))
      ·refine ⟨(k+1,false),[(0,0)],[],?_,?_,by (refine ⟨rfl,rfl,rfl,?_,?_⟩;repeat' first|exact trivial|exact rfl|exact .inr (.inr ⟨rfl,rfl⟩)|refine And.intro ?_ ?_|refine ⟨_,rfl,?_⟩|decide)⟩
       ·exact ⟨by omega,hnx _ (by have h2:=‹f=false›;rw [h2];simp)⟩
       ·((simp only [vM] at *;omega))
      all_goals (exfalso;omega)
     ·(repeat' ((conv=>whnf);first|refine vA ?_|((first|refine vF ?_ ?_|refine vI ?_ ?_)<;>intro hc<;>try simp only [vL] at hc)|refine vT ?_|refine vN ‹_› ?_|(refine vQ ?_ fun x hx=>?_;·omega)|(refine vO ?_ ?_;·omega)|(refine vU ?_ ?_;·kernel_rfl)|fail));all_goals try conv=>whnf
      iterate 2 (exfalso;omega)
      ·refine ⟨(j+1,n+1),[(0,0)],[],?_,?_,by (refine ⟨rfl,rfl,rfl,?_,?_⟩;repeat' first|exact trivial|exact rfl|refine And.intro ?_ ?_|refine ⟨_,rfl,?_⟩|decide)⟩
       ·refine ⟨by omega,?_⟩
        rw [hsucc,if_pos ⟨by omega,hfB.2 fun k' hk'=>(hf.1 ‹f=true›) k' (by omega)⟩,← hn]
       ·((simp only [vM] at *;omega))
      ·refine ⟨(j+1,n),[(0,0)],[],?_,?_,by (refine ⟨rfl,rfl,rfl,?_,?_⟩;repeat' first|exact trivial|exact rfl|refine And.intro ?_ ?_|refine ⟨_,rfl,?_⟩|decide)⟩
       ·refine ⟨by omega,?_⟩
        rw [hsucc,if_neg (fun h=>by
         have h2:=hf.2 fun k' hk'=>(hfB.1 h.2) k' (by omega)
         rw [‹f=false›] at h2;cases h2),← hn];rfl
       ·((simp only [vM] at *;omega))
    ·exfalso;omega
   ·(repeat' ((conv=>whnf);first|refine vA ?_|(refine vF ?_ ?_<;>intro hc<;>try simp only [vL] at hc)|refine vT ?_|refine vN ‹_› ?_|(refine vQ ?_ fun x hx=>?_;·omega)|((first|refine vO ?_ ?_|refine vP ?_ ?_);·first|omega|(simp only [vM] at *;omega))|fail));all_goals try conv=>whnf
    ·exfalso;omega
    ·have e0:j=ts.length:=by omega
     rw [e0,zBx] at hn
     have hlt:=ziy htm
     refine ⟨(i+1,max most ((n:Int)+1),_),[(0,2)],[],?_,?_,by (refine ⟨rfl,rfl,rfl,?_,?_⟩;repeat' first|exact trivial|exact rfl|refine And.intro ?_ ?_|refine ⟨_,rfl,?_⟩|decide)⟩
     ·refine ⟨by omega,?_,⟨by omega,by omega⟩,fun s hs=>?_⟩
      ·rw [List.take_add_one,hti,hz,hn];simp
      ·rw [List.take_add_one,hti] at hs
       rcases List.mem_append.1 hs with hs|hs
       ·have:=hM s hs;omega
       ·simp only [Option.toList_some,List.mem_singleton] at hs;subst hs;omega
     ·((simp only [vM] at *;omega))
  ·exfalso;omega
 ·(repeat' ((conv=>whnf);first|refine vA ?_|(refine vF ?_ ?_<;>intro hc<;>try simp only [vL] at hc)|refine vJ fun hg=>?_|refine vT ?_));all_goals try conv=>whnf
  ·exfalso;omega
  ·obtain ⟨t,ht,ht2⟩:=zCI h0
   rw [List.take_of_length_le (by omega)] at hM hz
   have:=hM t ht
   have e0:most=(cnN ts:Int):=by omega
   refine congrArg some (show D.tup [.arr 1 zs,.int .i64 most]=_ from ?_)
   rw [hz,e0]
   simp [Function.comp_def]
end Go.Ab
namespace Go.Ab
open Go Go.Proofs
set_option maxRecDepth 10000
set_option maxHeartbeats 4000000
variable {T:Nat→Obj→Prop}
def shF (o:List Int) (i j:Nat):Int:=if j≤i then (o++[0]).getD j 0 else o.getD (j - 1) 0
theorem zyZ {o:List Int} : (List.range (o.length+1)).map (fun j=>D.int .i64 (shF o o.length j))=(o.map (D.int .i64))++[D.int .i64 0]:=by
 refine zfo (d := .nil) (by simp) fun j hj=>?_
 simp only [List.length_map,List.length_range] at hj
 rw [show ((List.range (o.length+1)).map fun j=>D.int .i64 (shF o o.length j)).getD j .nil=D.int .i64 (shF o o.length j) by simp [List.getD,hj]]
 unfold shF
 rw [if_pos (by omega)]
 rw [show (o.map (D.int .i64))++[D.int .i64 0]=(o++[0]).map (D.int .i64) by simp,List.getD,List.getD,List.getElem?_map,List.getElem?_eq_getElem (show j < (o++[0]).length by simp;omega)];rfl
theorem zBO {o:List Int} {x:Int} {a:Nat} (ha:a=atI o x):(List.range (o.length+1)).map (fun j=>D.int .i64 (if j=a then x else shF o a j))=(zlk o x).map (D.int .i64):=by
 subst ha
 have hle:=zxE o x
 unfold zlk
 refine zfo (d := .nil) (by simp;omega) fun j hj=>?_
 simp only [List.length_map,List.length_range] at hj
 rw [show ((List.range (o.length+1)).map fun j=>D.int .i64 (if j=atI o x then x else shF o (atI o x) j)).getD j .nil=D.int .i64 (if j=atI o x then x else shF o (atI o x) j) by simp [List.getD,hj]]
 rw [List.getD,List.getElem?_map]
 have key:(o.take (atI o x)++x::o.drop (atI o x))[j]? = some (if j=atI o x then x else shF o (atI o x) j):=by
  have htl:(o.take (atI o x)).length=atI o x:=by simp;omega
  by_cases h1:j < atI o x
  ·rw [List.getElem?_append_left (by omega),List.getElem?_take,if_pos h1,if_neg (by omega),shF,if_pos (by omega),List.getD,List.getElem?_append_left (by omega),List.getElem?_eq_getElem (by omega)];rfl
  ·rw [List.getElem?_append_right (by omega),htl]
   by_cases h2:j=atI o x
   ·subst h2;rw [Nat.sub_self,if_pos rfl];rfl
   ·rw [show j - atI o x=(j - 1 - atI o x)+1 by omega,List.getElem?_cons_succ,List.getElem?_drop,show atI o x+(j - 1 - atI o x)=j - 1 by omega,if_neg h2,shF,if_neg (by omega),List.getD,List.getElem?_eq_getElem (by omega)];rfl
 rw [key];rfl
theorem zuP (once:Bool) (l:List Int):(zgh once l).length≤l.length:=by
 unfold zgh
 split
 ·unfold zd2
  rw [(za5 _).length_eq]
  exact zbi (zbv l) fun x hx=>zag.1 hx
 ·rw [(za5 _).length_eq];exact Nat.le_refl _
theorem zyb (l:List Int) (hl:l.length≤1000) (once:Bool):Fn Tryz.prog T zfJ [.d (dI l),.d (.bool once)] [] (.d (dI (zgh once l))) []:=by
 refine zb zm zkh (by show 2≤70;decide) ?_
 (repeat' ((conv=>whnf);first|refine vA ?_|refine vJ fun hg=>?_|refine vT ?_));all_goals try conv=>whnf
 refine zf (fun ((k,zs):Nat×List D)=>[(1,.d (.bool (once))),(5,.own 0),(10,.d (dI l)),(11,.d (.int .i64 ((l.map (D.int .i64)).length:Int))),(12,.d (.int .i64 ((k:Int))))]) (fun ((k,zs):Nat×List D)=>[(0,some (.row 1 zs))]) 1 (fun ((k,zs):Nat×List D)=>k≤l.length∧zs=(zgh once (l.take k)).map (D.int .i64)) (fun ((k,zs):Nat×List D)=>l.length - k) ((0,[])) []   [0] (⟨by omega,by
  have h:zgh once []=[]:=List.eq_nil_of_length_eq_zero (Nat.le_zero.1 (zuP once []))
  simp [h]⟩) (by (refine ⟨rfl,rfl,rfl,?_,?_⟩;repeat' first|exact trivial|exact rfl|exact ⟨_,rfl⟩|exact .inl rfl|refine And.intro ?_ ?_|decide)) ?_
 rintro ⟨k,zs⟩ ⟨hk,hz⟩
 have hol:=zuP once (l.take k)
 have hsn:=fun x (hx:l[k]? = some x)=>zzm once (l.take k) x
 generalize hO:zgh once (l.take k)=o at hz hol hsn
 subst hz
 have hol':o.length≤1000:=by rw [List.length_take] at hol;omega
 by_cases hkl:k < l.length
 ·obtain ⟨z,hz⟩ : ∃ z,l[k]? = some z:=⟨_,List.getElem?_eq_getElem hkl⟩
  have hnx:zgh once (l.take (k+1))=zll once o z:=by rw [List.take_add_one,hz];exact hsn z hz
  (repeat' ((conv=>whnf);first|refine vA ?_|(refine vF ?_ ?_<;>intro hc<;>try simp only [vL] at hc)|refine vT ?_|refine vN ‹_› ?_));all_goals try conv=>whnf
  ·refine zf (fun (a:Nat)=>[(1,.d (.bool (once))),(5,.own 0),(7,.d (.int .i64 (z))),(8,.d (.int .i64 ((a:Int)))),(10,.d (dI l)),(11,.d (.int .i64 ((l.map (D.int .i64)).length:Int))),(12,.d (.int .i64 ((k:Int))))]) (fun (a:Nat)=>[(0,some (.row 1 (o.map (D.int .i64))))]) 1 (fun (a:Nat)=>a≤o.length ∧ ∀ (j:Nat) y,j < a→o[j]? = some y→y < z) (fun (a:Nat)=>o.length - a) (0) [(0,0)] [] (⟨by omega,fun j y hj=>by omega⟩) (by (refine ⟨rfl,rfl,rfl,?_,?_⟩;repeat' first|exact trivial|exact rfl|exact .inl rfl|refine And.intro ?_ ?_|refine ⟨_,rfl,?_⟩|decide)) ?_
   rintro a ⟨ha,hA⟩
   (repeat' ((conv=>whnf);first|refine vA ?_|((first|refine vF ?_ ?_|refine vI ?_ ?_)<;>intro hc<;>try simp only [vL] at hc)|refine vJ fun hg=>?_|refine vK fun hg=>?_|refine vT ?_|refine vN ‹_› ?_|(refine vQ ?_ fun x hx=>?_;·omega)|((first|refine vO ?_ ?_|refine vP ?_ ?_);·first|omega|(simp only [vM] at *;omega))|fail));all_goals try conv=>whnf
   ·exact ⟨a+1,[(0,0)],[],⟨by omega,fun j y hj hy=>by
     by_cases e:j=a
     ·subst e;rw [show o[j]? = some _ from hx] at hy;cases hy;assumption
     ·exact hA j y (by omega) hy⟩,by (omega),by (refine ⟨rfl,rfl,rfl,?_,?_⟩;repeat' first|exact trivial|exact rfl|exact .inl rfl|refine And.intro ?_ ?_|refine ⟨_,rfl,?_⟩|decide)⟩
   ·have ho:o[a]? = some _:=hx
    have he:x=z:=‹x=z›
    have ea:atI o z=a:=zxD ha hA (fun y hy=>by rw [ho] at hy;cases hy;omega)
    refine ⟨(k+1,_),[(0,0)],[],?_,?_,by (refine ⟨rfl,rfl,rfl,?_,?_⟩;repeat' first|exact trivial|exact rfl|exact .inl rfl|refine And.intro ?_ ?_|refine ⟨_,rfl,?_⟩|decide)⟩
    ·refine ⟨by omega,?_⟩
     rw [hnx,zll,if_pos ⟨‹once=true›,by rw [ea,ho,he]⟩]
    ·((simp only [vM] at *;omega))
   all_goals try (exfalso;omega)
   all_goals
    have ea:atI o z=a:=zxD ha hA (fun y hy=>by
     first
     | (have:=(List.getElem?_eq_some_iff.1 hy).1;exfalso;omega)
     | (have hq:o[a]? = some _:=hx;rw [hq] at hy;cases hy;omega))
    have eins:zll once o z=zlk o z:=by
     rw [zll,if_neg]
     rintro ⟨h1,h2⟩
     rw [ea] at h2
     first
     | (have:=(List.getElem?_eq_some_iff.1 h2).1;omega)
     | (have h3:=‹once=false›;rw [h3] at h1;cases h1)
     | (have hq:o[a]? = some _:=hx;rw [hq] at h2;cases h2;exact ‹¬_=(_:Int)› rfl)
    refine zf (fun ((i,ys):Int×List D)=>[(1,.d (.bool (once))),(5,.own 0),(7,.d (.int .i64 (z))),(8,.d (.int .i64 ((a:Int)))),(9,.d (.int .i64 (i))),(10,.d (dI l)),(11,.d (.int .i64 ((l.map (D.int .i64)).length:Int))),(12,.d (.int .i64 ((k:Int))))]) (fun ((i,ys):Int×List D)=>[(0,some (.row 1 ys))]) 1 (fun ((i,ys):Int×List D) => ∃ j:Nat,i=j∧a≤j∧j≤o.length∧ys=(List.range (o.length+1)).map fun u=>D.int .i64 (shF o j u)) (fun ((i,ys):Int×List D)=>(i - a).toNat) (((((o.map (D.int .i64)++(List.replicate 1 (D.int .i64 0)).set 0 (D.int .i64 0)).length:Nat):Int) - 1,o.map (D.int .i64)++(List.replicate 1 (D.int .i64 0)).set 0 (D.int .i64 0))) [(0,2)] [] (⟨o.length,by simp,ha,Nat.le_refl _,zyZ.symm⟩) (by (refine ⟨rfl,rfl,rfl,?_,?_⟩;repeat' first|exact trivial|exact rfl|exact .inl rfl|refine And.intro ?_ ?_|refine ⟨_,rfl,?_⟩|decide)) ?_
    rintro ⟨_,_⟩ ⟨j,rfl,haj,hjo,rfl⟩
    by_cases hja:a < j
    ·have er:(List.range (o.length+1))[((j:Int) - 1).toNat]? = some (j - 1):=by rw [show ((j:Int) - 1).toNat=j - 1 by omega];exact List.getElem?_range (by omega)
     (repeat' ((conv=>whnf);first|refine vA ?_|(refine vF ?_ ?_<;>intro hc<;>try simp only [vL] at hc)|refine vT ?_|refine vN ‹_› ?_|((first|refine vO ?_ ?_|refine vP ?_ ?_);·first|omega|(simp only [vM] at *;omega))|fail));all_goals try conv=>whnf
     ·refine ⟨(_,_),[(0,0)],[],?_,?_,by (refine ⟨rfl,rfl,rfl,?_,?_⟩;repeat' first|exact trivial|exact rfl|exact .inl rfl|refine And.intro ?_ ?_|refine ⟨_,rfl,?_⟩|decide)⟩
      ·refine ⟨j - 1,by omega,by omega,by omega,(zbL _).trans (zC fun u hu=>?_)⟩
       show (if u=j then D.int .i64 (shF o j (j - 1)) else D.int .i64 (shF o j u))=D.int .i64 (shF o (j - 1) u)
       by_cases e:u=j
       ·subst e
        rw [if_pos rfl,shF,if_pos (by omega),shF,if_neg (by omega),List.getD,List.getElem?_append_left (by omega)];rfl
       ·rw [if_neg e]
        by_cases e2:u < j
        ·rw [shF,if_pos (by omega),shF,if_pos (by omega)]
        ·rw [shF,if_neg (by omega),shF,if_neg (by omega)]
      ·(first|omega|(simp only [vM] at *;omega))
     ·exfalso;omega
    ·have e0:j=a:=by omega
     subst e0
     (repeat' ((conv=>whnf);first|refine vA ?_|(refine vF ?_ ?_<;>intro hc<;>try simp only [vL] at hc)|refine vT ?_|(refine vQ ?_ fun x hx=>?_;·omega)|((first|refine vO ?_ ?_|refine vP ?_ ?_);·first|omega|(simp only [vM] at *;omega))|fail));all_goals try conv=>whnf
     ·exfalso;omega
     ·refine ⟨(k+1,_),[(0,0)],[],?_,?_,by (refine ⟨rfl,rfl,rfl,?_,?_⟩;repeat' first|exact trivial|exact rfl|exact .inl rfl|refine And.intro ?_ ?_|refine ⟨_,rfl,?_⟩|decide)⟩
      ·refine ⟨by omega,(zbL _).trans ?_⟩
       rw [hnx,eins,← zBO ea.symm]
       refine zC fun u hu=>?_
       show (if u=j then _ else _)=_
       by_cases e:u=j
       ·rw [if_pos e,if_pos e]
       ·rw [if_neg e,if_neg e]
      ·((simp only [vM] at *;omega))
  ·exfalso;omega
 ·(repeat' ((conv=>whnf);first|refine vA ?_|(refine vF ?_ ?_<;>intro hc<;>try simp only [vL] at hc)|refine vT ?_|(refine vQ ?_ fun x hx=>?_;·omega)|fail));all_goals try conv=>whnf
  ·exfalso;omega
  ·rw [List.take_of_length_le (by omega)] at hO
   rw [hO];rfl
end Go.Ab
namespace Go.Ab
open Go Go.Proofs
set_option maxRecDepth 10000
set_option maxHeartbeats 4000000
variable {T:Nat→Obj→Prop}
abbrev zjD (n:Nat) (q:Nat→Nat) (s:BitVec 64):List Int:=zce n (fun _ v=>s.getLsbD v) q 0
theorem zB9 {n:Nat} {r:Nat→Nat→Bool} {q:Nat→Nat} {w:Nat} : (zce n r q w).length≤n:=by
 unfold zce
 rw [List.length_map]
 have:=List.length_filter_le (fun v=>r w v) (List.range n)
 rwa [List.length_range] at this
theorem zuK {n:Nat} {q:Nat→Nat} {s:BitVec 64} : (zjD n q s).length≤n:=zB9
theorem zsz {k:Nat} {q:Nat→Nat} {s:BitVec 64} : zjD (k+1) q s=zjD k q s++if s.getLsbD k=true then [(q k:Int)] else []:=by
 unfold zjD zce
 rw [List.range_succ,List.filter_append,List.map_append,List.filter_cons,List.filter_nil]
 split<;>rfl
theorem zvU (q:Nat→Nat) {n:Nat} (hn:n≤64) (s:BitVec 64) (once:Bool):Fn Tryz.prog T zgo [.d (dI (ptL n q)),.d (.u64 s),.d (.bool once)] [] (.d (dI (zgh once (zjD n q s)))) []:=by
 have hln:(ptL n q).length=n:=z1
 have cS:=zyb (T:=T) (zjD n q s) (by have:=zuK (n:=n) (q:=q) (s:=s);omega) once
 refine zb zm zmg (by show 3≤28;decide) ?_
 (repeat' ((conv=>whnf);first|refine vA ?_|refine vB fun b hb=>?_|refine vC (fun hl=>?_) fun i kv vv hi=>?_|refine vE ?_|refine vG ?_|refine vH ?_|((first|refine vD ?_ ?_|refine vF ?_ ?_|refine vI ?_ ?_)<;>intro hc<;>try simp only [vL] at hc)|refine vJ fun hg=>?_|refine vK fun hg=>?_|refine vT ?_|refine vN ‹_› ?_|(refine vQ ?_ fun x hx=>?_;·first|omega|(simp only [vM] at *;omega))|((first|refine vO ?_ ?_|refine vR ?_ ‹_› ?_|refine vS ?_ fun x hx=>?_|refine vP ?_ ?_);·first|omega|(simp only [vM] at *;omega))|refine vW ⟨by omega,by omega⟩ ?_|(refine vU ?_ ?_;·kernel_rfl)|refine vX ?_|refine vY ?_|refine vZ ?_|refine zc1.mk _ ‹_› ?_|refine vP (show (_:BitVec 64)≠_ by decide) ?_));all_goals try conv=>whnf
 refine zf (fun ((k,zs):Nat×List D)=>[(0,.d (dI (ptL n q))),(1,.d (.u64 (s))),(2,.d (.bool (once))),(7,.own 0),(10,.d (.int .i64 (((ptL n q).map (D.int .i64)).length:Int))),(11,.d (.int .i64 ((k:Int))))]) (fun ((k,zs):Nat×List D)=>[(0,some (.row 1 zs))]) 1 (fun ((k,zs):Nat×List D)=>k≤n∧zs=(zjD k q s).map (D.int .i64)) (fun ((k,zs):Nat×List D)=>n - k) ((0,[])) []   [0] (⟨by omega,rfl⟩) (by (refine ⟨rfl,rfl,rfl,?_,?_⟩;repeat' first|exact trivial|exact rfl|exact ⟨_,rfl⟩|exact .inl rfl|exact .inr (.inl ⟨rfl,rfl⟩)|exact .inr (.inr ⟨rfl,rfl⟩)|refine And.intro ?_ ?_|refine ⟨_,rfl,?_⟩|decide|exact of_decide_eq_true rfl)) ?_
 rintro ⟨k,zs⟩ ⟨hk,hz⟩
 have hzl:zs.length≤64:=by
  rw [hz,List.length_map]
  have:=zuK (n:=k) (q:=q) (s:=s)
  omega
 by_cases hkl:k < n
 ·have e1:=zG (q:=q) hkl
  (repeat' ((conv=>whnf);first|refine vA ?_|refine vB fun b hb=>?_|refine vC (fun hl=>?_) fun i kv vv hi=>?_|refine vE ?_|refine vG ?_|refine vH ?_|((first|refine vD ?_ ?_|refine vF ?_ ?_|refine vI ?_ ?_)<;>intro hc<;>try simp only [vL] at hc)|refine vJ fun hg=>?_|refine vK fun hg=>?_|refine vT ?_|refine vN ‹_› ?_|(refine vQ ?_ fun x hx=>?_;·first|omega|(simp only [vM] at *;omega))|((first|refine vO ?_ ?_|refine vR ?_ ‹_› ?_|refine vS ?_ fun x hx=>?_|refine vP ?_ ?_);·first|omega|(simp only [vM] at *;omega))|refine vW ⟨by omega,by omega⟩ ?_|(refine vU ?_ ?_;·kernel_rfl)|refine vX ?_|refine vY ?_|refine vZ ?_|refine yD (zig s k) ⟨⟨rfl,rfl⟩,⟨rfl,rfl⟩,rfl⟩ rfl ?_|refine zc1.mk _ ‹_› ?_|refine vP (show (_:BitVec 64)≠_ by decide) ?_));all_goals try conv=>whnf
  ·refine ⟨(k+1,_),[(0,0)],[],?_,?_,by (refine ⟨rfl,rfl,rfl,?_,?_⟩;repeat' first|exact trivial|exact rfl|exact ⟨_,rfl⟩|exact .inl rfl|exact .inr (.inl ⟨rfl,rfl⟩)|exact .inr (.inr ⟨rfl,rfl⟩)|refine And.intro ?_ ?_|refine ⟨_,rfl,?_⟩|decide|exact of_decide_eq_true rfl)⟩
   ·exact ⟨by omega,by rw [zsz,zkR ‹_›,hz];simp⟩
   ·(first|omega|(simp only [vM] at *;omega))
  ·refine ⟨(k+1,_),[(0,2)],[],?_,?_,by (refine ⟨rfl,rfl,rfl,?_,?_⟩;repeat' first|exact trivial|exact rfl|exact ⟨_,rfl⟩|exact .inl rfl|exact .inr (.inl ⟨rfl,rfl⟩)|exact .inr (.inr ⟨rfl,rfl⟩)|refine And.intro ?_ ?_|refine ⟨_,rfl,?_⟩|decide|exact of_decide_eq_true rfl)⟩
   ·exact ⟨by omega,by rw [zsz,zje ‹_›,hz];simp⟩
   ·(first|omega|(simp only [vM] at *;omega))
  ·exfalso;omega
 ·have e0:k=n:=by omega
  subst e0
  subst hz
  (repeat' ((conv=>whnf);first|refine vA ?_|refine vB fun b hb=>?_|refine vC (fun hl=>?_) fun i kv vv hi=>?_|refine vE ?_|refine vG ?_|refine vH ?_|((first|refine vD ?_ ?_|refine vF ?_ ?_|refine vI ?_ ?_)<;>intro hc<;>try simp only [vL] at hc)|refine vJ fun hg=>?_|refine vK fun hg=>?_|refine vT ?_|refine vN ‹_› ?_|(refine vQ ?_ fun x hx=>?_;·first|omega|(simp only [vM] at *;omega))|((first|refine vO ?_ ?_|refine vR ?_ ‹_› ?_|refine vS ?_ fun x hx=>?_|refine vP ?_ ?_);·first|omega|(simp only [vM] at *;omega))|refine vW ⟨by omega,by omega⟩ ?_|(refine vU ?_ ?_;·kernel_rfl)|refine vX ?_|refine vY ?_|refine vZ ?_|refine yN cS ⟨⟨rfl,rfl⟩,⟨rfl,rfl⟩,rfl⟩ ?_|refine zc1.mk _ ‹_› ?_|refine vP (show (_:BitVec 64)≠_ by decide) ?_));all_goals try conv=>whnf
  ·exfalso;omega
  ·rfl
theorem zqY (v:Nat):(1#64 <<< v) * 2#64=1#64 <<< (v+1):=by
 rw [BitVec.shiftLeft_add,show (2#64:BitVec 64)=BitVec.twoPow 64 1 by decide,BitVec.mul_twoPow_eq_shiftLeft]
theorem zxR {n:Nat} (first:Nat→Tup):cnN ((List.range n).map first)=dcN n fun w=>rkN ((List.range n).map first) (first w):=by
 have:=zcX (n:=n) (next:=fun _=>first) (fun _=>0)
 unfold zaP rfT zdi rfT at this
 exact this.symm
theorem zlg {n:Nat} (t:Nat→Tup) (h1:1≤n) (h64:n≤64) (hs : ∀ v w,v < n→w < n→(t v).length=(t w).length) :
  Fn Tryz.prog T zdD [.d (dTs ((List.range n).map t))] [] (.d (.tup [dI (ptL n fun w=>rkN ((List.range n).map t) (t w)),.int .i64 (cnN ((List.range n).map t):Int)])) []:=by
 have h:=zya (T:=T) ((List.range n).map t) (fun h=>by have:=congrArg List.length h;simp at this;omega) (by simpa using h64) (fun x hx y hy=>by
  obtain ⟨w,hw,rfl⟩:=List.mem_map.1 hx
  obtain ⟨v,hv,rfl⟩:=List.mem_map.1 hy
  exact hs w v (List.mem_range.1 hw) (List.mem_range.1 hv))
 rw [show dN (((List.range n).map t).map (rkN ((List.range n).map t)))=dI (ptL n fun w=>rkN ((List.range n).map t) (t w)) by rw [← zuv]] at h
 exact h
end Go.Ab
namespace Go.Ab
open Go Go.Proofs
set_option maxRecDepth 10000
set_option maxHeartbeats 4000000
variable {T:Nat→Obj→Prop}
theorem zoH {m:KM} (q:Nat→Nat) (w:Nat):(zx m.W.toNat (zd m) q w).map dI=dI [(q w:Int)]::m.rel.map fun r=>dI (zgh true (zjD m.W.toNat q (r.getD w 0#64))):=by
 unfold zx zd
 simp only [List.map_map,List.map_cons]
 rfl
def mkW (p:KM) (ws:List Nat) (root:Int) (i:Nat):Tup:=[[if (ws.getD i 0:Int)=root then (0:Int) else 1],[zF p i]]
set_option maxHeartbeats 8000000 in
theorem zwW {m:KM} (hk0:za m=0) (ws:List Nat) (hws:ws.length=m.W.toNat) (root:Int):Fn Tryz.prog T zfI [.d (dKM m),.d (dN ws),.d (.int .i64 root)] [] (.d (dI (ptL m.W.toNat (zbZ m.W.toNat (zd m) (mkW m ws root)).1))) []:=by
 have hg0:=zn hk0
 have w1:=hg0.w1;have w2:=hg0.w2
 have n4:=hg0.n4
 have c1:=zlg (T:=T) (n:=m.W.toNat) (mkW m ws root) (by omega) (by omega) (fun v w _ _=>rfl)
 have c2:=fun q=>zlg (T:=T) (n:=m.W.toNat) (zx m.W.toNat (zd m) q) (by omega) (by omega) (fun v w _ _=>by simp [zx])
 have hd0:=zxR (n:=m.W.toNat) (mkW m ws root)
 unfold zbZ
 generalize (fun w=>rkN ((List.range m.W.toNat).map (mkW m ws root)) (mkW m ws root w))=q0 at c1 hd0
 rw [hd0] at c1 ⊢
 generalize hR:zbj m.W.toNat (zx m.W.toNat (zd m)) (m.W.toNat+1) q0 (dcN m.W.toNat q0)=R
 refine zb zm zkg (by show 3≤92;decide) ?_
 (repeat' ((conv=>whnf);first|refine vA ?_|refine vT ?_));all_goals try conv=>whnf
 refine zf (fun ((k,zs):Nat×List D)=>[(1,.d (dN ws)),(2,.d (.int .i64 (root))),(3,.ptr 0 0),(7,.own 1),(8,.d (.int .i64 ((k:Int))))]) (fun ((k,zs):Nat×List D)=>[(0,some (zR m)),(1,some (.row 1 zs))]) 2 (fun ((k,zs):Nat×List D)=>k≤m.W.toNat∧zs=((List.range k).map (mkW m ws root)).map dII) (fun ((k,zs):Nat×List D)=>m.W.toNat - k) ((0,[])) [(0,0)]   [1] (⟨by omega,rfl⟩) (by (refine ⟨rfl,rfl,rfl,?_,?_⟩;repeat' first|exact trivial|exact rfl|exact ⟨_,rfl⟩|refine And.intro ?_ ?_|refine ⟨_,rfl,?_⟩|decide)) ?_
 rintro ⟨k,zs⟩ ⟨hk,hz⟩
 have hzl:zs.length≤64:=by rw [hz];simp;omega
 by_cases hkl:k < m.W.toNat
 ·have cf:=zf9 (T:=T) m (k:Int)
  rw [zgx hk0 hkl] at cf
  have e1:=zeJ (show k < ws.length by omega)
  (repeat' ((conv=>whnf);first|refine vA ?_|(refine vF ?_ ?_<;>intro hc<;>try simp only [vL] at hc)|refine vT ?_|refine vN ‹_› ?_|((first|refine vO ?_ ?_|refine vP ?_ ?_);·first|omega|(simp only [vM] at *;omega))|refine yD cf ⟨⟨rfl,rfl⟩,⟨rfl,rfl⟩,rfl⟩ rfl ?_));all_goals try conv=>whnf
  ·refine ⟨(k+1,_),[(0,0),(1,6)],[],?_,?_,by (refine ⟨rfl,rfl,rfl,?_,?_⟩;repeat' first|exact trivial|exact rfl|refine And.intro ?_ ?_|refine ⟨_,rfl,?_⟩|decide)⟩
   ·refine ⟨by omega,?_⟩
    rw [hz,List.range_succ,List.map_append,List.map_append]
    refine congrArg _ ?_
    show [D.arr 1 [D.arr 1 [D.int .i64 0],D.arr 1 [D.int .i64 (zF m k)]]]=[dII (mkW m ws root k)]
    unfold mkW;rw [if_pos ‹_›];rfl
   ·((simp only [vM] at *;omega))
  ·refine ⟨(k+1,_),[(0,0),(1,6)],[],?_,?_,by (refine ⟨rfl,rfl,rfl,?_,?_⟩;repeat' first|exact trivial|exact rfl|refine And.intro ?_ ?_|refine ⟨_,rfl,?_⟩|decide)⟩
   ·refine ⟨by omega,?_⟩
    rw [hz,List.range_succ,List.map_append,List.map_append]
    refine congrArg _ ?_
    show [D.arr 1 [D.arr 1 [D.int .i64 1],D.arr 1 [D.int .i64 (zF m k)]]]=[dII (mkW m ws root k)]
    unfold mkW;rw [if_neg ‹_›];rfl
   ·((simp only [vM] at *;omega))
  ·exfalso;omega
 ·have hzz:zs=((List.range m.W.toNat).map (mkW m ws root)).map dII:=by rw [hz,show k=m.W.toNat by omega]
  clear hz
  subst hzz
  (repeat' ((conv=>whnf);first|refine vA ?_|(refine vF ?_ ?_<;>intro hc<;>try simp only [vL] at hc)|refine vT ?_|(refine vQ ?_ fun x hx=>?_;·omega)|refine yN c1 ⟨⟨rfl,rfl⟩,rfl⟩ ?_));all_goals try conv=>whnf
  iterate 2 (exfalso;omega)
  refine zf (fun ((q,c):(Nat→Nat)×Nat)=>[(3,.ptr 0 0),(10,.d (dI (ptL m.W.toNat q))),(11,.d (.int .i64 ((c:Int))))]) (fun ((q,c):(Nat→Nat)×Nat)=>[(0,some (zR m))]) 1 (fun ((q,c):(Nat→Nat)×Nat)=>c=dcN m.W.toNat q∧zbj m.W.toNat (zx m.W.toNat (zd m)) (m.W.toNat+1) q (dcN m.W.toNat q)=R) (fun ((q,c):(Nat→Nat)×Nat)=>m.W.toNat+1 - c) ((q0,dcN m.W.toNat q0)) [(0,0)] [] (⟨rfl,hR⟩) (by (refine ⟨rfl,rfl,rfl,?_,?_⟩;repeat' first|exact trivial|exact rfl|refine And.intro ?_ ?_|refine ⟨_,rfl,?_⟩|decide)) ?_
  clear hk hkl hzl
  rintro ⟨q,c⟩ ⟨hc0,hI⟩
  (repeat' ((conv=>whnf);first|refine vA ?_|refine vT ?_));all_goals try conv=>whnf
  refine zf (fun ((w,zs):Nat×List D)=>[(3,.ptr 0 0),(10,.d (dI (ptL m.W.toNat q))),(11,.d (.int .i64 ((c:Int)))),(12,.own 1),(13,.d (.int .i64 ((w:Int))))]) (fun ((w,zs):Nat×List D)=>[(0,some (zR m)),(1,some (.row 1 zs))]) 2 (fun ((w,zs):Nat×List D)=>w≤m.W.toNat∧zs=((List.range w).map (zx m.W.toNat (zd m) q)).map dII) (fun ((w,zs):Nat×List D)=>m.W.toNat - w) ((0,[])) [(0,0)]   [1] (⟨by omega,rfl⟩) (by (refine ⟨rfl,rfl,rfl,?_,?_⟩;repeat' first|exact trivial|exact rfl|exact ⟨_,rfl⟩|refine And.intro ?_ ?_|refine ⟨_,rfl,?_⟩|decide)) ?_
  rintro ⟨w,zs⟩ ⟨hw,hz⟩
  have hzl:zs.length≤64:=by rw [hz];simp;omega
  by_cases hwl:w < m.W.toNat
  ·have e0:=zG (q:=q) hwl
   (repeat' ((conv=>whnf);first|refine vA ?_|(refine vF ?_ ?_<;>intro hc<;>try simp only [vL] at hc)|refine vJ fun hg=>?_|refine vT ?_|refine vN ‹_› ?_));all_goals try conv=>whnf
   ·refine zf (fun ((i,xs):Nat×List D)=>[(3,.ptr 0 0),(10,.d (dI (ptL m.W.toNat q))),(11,.d (.int .i64 ((c:Int)))),(12,.own 1),(13,.d (.int .i64 ((w:Int)))),(14,.own 2),(59,.d (.int .i64 ((m.rel.map dU).length:Int))),(60,.d (.int .i64 ((i:Int))))]) (fun ((i,xs):Nat×List D)=>[(0,some (zR m)),(1,some (.row 1 zs)),(2,some (.row 1 xs))]) 3 (fun ((i,xs):Nat×List D)=>i≤m.rel.length∧xs=dI [(q w:Int)]::(m.rel.take i).map fun r=>dI (zgh true (zjD m.W.toNat q (r.getD w 0#64)))) (fun ((i,xs):Nat×List D)=>m.rel.length - i) ((0,[dI [(q w:Int)]])) [(0,0),(1,1),(2,3)] [] (⟨by omega,by simp⟩) (by (refine ⟨rfl,rfl,rfl,?_,?_⟩;repeat' first|exact trivial|exact rfl|refine And.intro ?_ ?_|refine ⟨_,rfl,?_⟩|decide)) ?_
    rintro ⟨i,xs⟩ ⟨hi,hx⟩
    have hxl:xs.length≤5:=by rw [hx];simp;omega
    by_cases hil:i < m.rel.length
    ·obtain ⟨r,hr⟩ : ∃ r,m.rel[i]? = some r:=⟨_,List.getElem?_eq_getElem hil⟩
     have hrl:=hg0.len r (List.mem_of_getElem? hr)
     have hy:=zbw (l:=r) (d:=0#64) (show w < r.length by omega)
     (repeat' ((conv=>whnf);first|refine vA ?_|(refine vF ?_ ?_<;>intro hc<;>try simp only [vL] at hc)|refine vT ?_|refine vN ‹_› ?_|((first|refine vO ?_ ?_|refine vP ?_ ?_);·first|omega|(simp only [vM] at *;omega))|refine yN (zvU q (n:=m.W.toNat) (by omega) _ true) ⟨⟨rfl,rfl⟩,⟨rfl,rfl⟩,⟨rfl,rfl⟩,rfl⟩ ?_));all_goals try conv=>whnf
     ·refine ⟨(i+1,_),[(0,0),(1,1),(2,4)],[],?_,?_,by (refine ⟨rfl,rfl,rfl,?_,?_⟩;repeat' first|exact trivial|exact rfl|refine And.intro ?_ ?_|refine ⟨_,rfl,?_⟩|decide)⟩
      ·exact ⟨by omega,by rw [List.take_add_one,hr,hx];simp⟩
      ·((simp only [vM] at *;omega))
     ·exfalso;omega
    ·(repeat' ((conv=>whnf);first|refine vA ?_|(refine vF ?_ ?_<;>intro hc<;>try simp only [vL] at hc)|refine vT ?_|(refine vQ ?_ fun x hx=>?_;·omega)|((first|refine vO ?_ ?_|refine vP ?_ ?_);·first|omega|(simp only [vM] at *;omega))|fail));all_goals try conv=>whnf
     ·exfalso;omega
     ·refine ⟨(w+1,_),[(0,0),(1,4)],[],?_,?_,by (refine ⟨rfl,rfl,rfl,?_,?_⟩;repeat' first|exact trivial|exact rfl|refine And.intro ?_ ?_|refine ⟨_,rfl,?_⟩|decide)⟩
      ·refine ⟨by omega,?_⟩
       rw [List.range_succ,List.map_append,List.map_append,← hz]
       have h1:xs=(zx m.W.toNat (zd m) q w).map dI:=by
        rw [hx,List.take_of_length_le (by omega),zoH]
       show zs++[D.arr 1 xs]=zs++[D.arr 1 _]
       rw [h1]
      ·((simp only [vM] at *;omega))
   ·exfalso;omega
  ·have hzz:zs=((List.range m.W.toNat).map (zx m.W.toNat (zd m) q)).map dII:=by rw [hz,show w=m.W.toNat by omega]
   clear hz
   subst hzz
   have c3:=c2 q
   (repeat' ((conv=>whnf);first|refine vA ?_|(refine vF ?_ ?_<;>intro hc<;>try simp only [vL] at hc)|refine vJ fun hg=>?_|refine vT ?_|(refine vQ ?_ fun x hx=>?_;·omega)|refine yN c3 (by (repeat refine ⟨⟨rfl,rfl⟩,?_⟩);rfl) ?_));all_goals try conv=>whnf
   ·exfalso;omega
   ·have e1:zaP m.W.toNat (zx m.W.toNat (zd m)) q=dcN m.W.toNat q:=by have h:(cnN ((List.range m.W.toNat).map (zx m.W.toNat (zd m) q)):Int)=(c:Int):=‹_›;unfold zaP rfT;omega
    rw [zbj,if_pos e1] at hI
    rw [← hI];rfl
   ·have e1:zaP m.W.toNat (zx m.W.toNat (zd m)) q≠dcN m.W.toNat q:=fun e=>by
     have h : ¬(cnN ((List.range m.W.toNat).map (zx m.W.toNat (zd m) q)):Int)=(c:Int):=‹_›
     unfold zaP rfT at e;omega
    have hF:=fun q v w hv hw h=>zdI (n:=m.W.toNat) (R:=zd m) q v w hv hw h
    have e2:=zqa hF q
    have e3:=zcX (n:=m.W.toNat) (next:=zx m.W.toNat (zd m)) q
    have e4:=ztu (n:=m.W.toNat) (next:=zx m.W.toNat (zd m)) q
    refine ⟨(zdi m.W.toNat (zx m.W.toNat (zd m)) q,zaP m.W.toNat (zx m.W.toNat (zd m)) q),[(0,0)],[],?_,?_,by (refine ⟨rfl,rfl,rfl,?_,?_⟩;repeat' first|exact trivial|exact rfl|refine And.intro ?_ ?_|refine ⟨_,rfl,?_⟩|decide)⟩
    ·refine ⟨e3.symm,?_⟩
     rw [zbj,if_neg e1,← e3] at hI
     rw [← hI]
     exact zrE hF _ _ _ (by omega) (by omega)
    ·show m.W.toNat+1 - zaP m.W.toNat (zx m.W.toNat (zd m)) q < m.W.toNat+1 - c
     omega
end Go.Ab
namespace Go.Ab
open Go Go.Proofs
set_option maxRecDepth 10000
set_option maxHeartbeats 4000000
def zlm:List D→Option (List Int)
 | []=>some []
 | .int .i64 n::r=>match zlm r with
  | some l=>some (n::l)
  | none=>none
 | _=>none
theorem zpf : ∀ {ds:List D} {l:List Int},zlm ds=some l→ds=l.map (D.int .i64)
 | [],l,h=>by cases h;rfl
 | .int .i64 n::r,l,h=>by
  unfold zlm at h
  split at h
  ·rename_i l' h';cases h;rw [zpf h'];rfl
  ·cases h
def ziD:List D→Option (List (BitVec 64))
 | []=>some []
 | .u64 n::r=>match ziD r with
  | some l=>some (n::l)
  | none=>none
 | _=>none
theorem znA : ∀ {ds:List D} {l:List (BitVec 64)},ziD ds=some l→ds=l.map D.u64
 | [],l,h=>by cases h;rfl
 | .u64 n::r,l,h=>by
  unfold ziD at h
  split at h
  ·rename_i l' h';cases h;rw [znA h'];rfl
  ·cases h
def zkm:List D→Option (List (List Int))
 | []=>some []
 | .arr 1 x::r=>match zlm x with
  | some a=>match zkm r with
   | some l=>some (a::l)
   | none=>none
  | none=>none
 | _=>none
theorem znf : ∀ {ds:List D} {l:List (List Int)},zkm ds=some l→ds=l.map dI
 | [],l,h=>by cases h;rfl
 | .arr 1 x::r,l,h=>by
  replace h:(match zlm x with
   | some a=>match zkm r with
    | some l=>some (a::l)
    | none=>none
   | none=>none)=some l:=h
  cases h1:zlm x with
  | none=>rw [h1] at h;cases h
  | some a =>
   cases h2:zkm r with
   | none=>rw [h1,h2] at h;cases h
   | some l'=>rw [h1,h2] at h;cases h;rw [znf h2,zpf h1];rfl
def zqP:List D→Option (List (List (BitVec 64)))
 | []=>some []
 | .arr 1 x::r=>match ziD x with
  | some a=>match zqP r with
   | some l=>some (a::l)
   | none=>none
  | none=>none
 | _=>none
theorem zuB : ∀ {ds:List D} {l:List (List (BitVec 64))},zqP ds=some l→ds=l.map dU
 | [],l,h=>by cases h;rfl
 | .arr 1 x::r,l,h=>by
  replace h:(match ziD x with
   | some a=>match zqP r with
    | some l=>some (a::l)
    | none=>none
   | none=>none)=some l:=h
  cases h1:ziD x with
  | none=>rw [h1] at h;cases h
  | some a =>
   cases h2:zqP r with
   | none=>rw [h1,h2] at h;cases h
   | some l'=>rw [h1,h2] at h;cases h;rw [zuB h2,znA h1];rfl
def zrA:D→Option KM
 | .agg [.int .i64 W,.arr 1 v,.arr 1 r]=>match ziD v,zqP r with
  | some v,some r=>some ⟨W,v,r⟩
  | _,_=>none
 | _=>none
theorem znQ {d:D} {m:KM} (h:zrA d=some m):d=dKM m:=by
 unfold zrA at h
 split at h
 ·split at h
  ·rename_i h1 h2;cases h;rw [znA h1,zuB h2]
  ·cases h
 ·cases h
def zxn (t:Tup):Bool:=Nat.ble t.length 1000&&t.all fun r=>Nat.ble r.length 1000
theorem zCd {t:Tup} (h:zxn t=true):Sml t:=by
 unfold zxn at h
 rw [Bool.and_eq_true,Nat.ble_eq] at h
 exact ⟨h.1,fun r hr=>by have:=List.all_eq_true.1 h.2 r hr;rwa [Nat.ble_eq] at this⟩
variable {T:Nat→Obj→Prop}
end Go.Ab
namespace Go.Ab
open Go Go.Proofs
set_option maxRecDepth 10000
set_option maxHeartbeats 4000000
variable {T:Nat→Obj→Prop}
def za4 (a b:List Int) (v w:Nat):Bool:=decide (at0 a v=at0 a w∧at0 b v=at0 b w)
theorem zjp {n:Nat} {q:Nat→Nat} (hq:zad n q) (hn:n≤64):Fn Tryz.prog T zdC [.d (dI (ptL n q))] [] (.d (.int .i64 0)) []:=by
 have hl:(ptL n q).length=n:=z1
 refine zb zm zgd (by show 1≤31;decide) ?_
 (repeat' ((conv=>whnf);first|refine vA ?_|(refine vF ?_ ?_<;>intro hc<;>try simp only [vL] at hc)|refine vJ fun hg=>?_|refine vT ?_|refine vX ?_));all_goals try conv=>whnf
 ·omega
 ·refine zM (fun (k:Nat)=>[(0,.d (dI (ptL n q))),(8,.d (dI (ptL n q))),(9,.d (.int .i64 (((ptL n q).map (D.int .i64)).length:Int))),(10,.d (.int .i64 ((k:Int))))]) (fun (k:Nat)=>k≤n) (fun (k:Nat)=>n - k) (0) (by simp) (by (repeat' first|exact trivial|exact rfl|refine And.intro ?_ ?_)) ?_
  rintro k hk
  by_cases hkl:k < n
  ·have e1:(ptL n q)[k]? = some ((q k:Nat):Int):=zG hkl
   have b1:=hq.le k hkl
   have e2:(ptL n q)[q k]? = some ((q k:Nat):Int):=by rw [zG (by omega),hq.idem k hkl]
   (repeat' ((conv=>whnf);first|refine vA ?_|refine vH ?_|((first|refine vD ?_ ?_|refine vF ?_ ?_)<;>intro hc<;>try simp only [vL] at hc)|refine vT ?_|refine vN ‹_› ?_|(refine vO ?_ ?_;·omega)|refine vX ?_));all_goals try conv=>whnf
   all_goals try omega
   exact ⟨k+1,[],[],by (omega),by (omega),by (refine ⟨rfl,rfl,rfl,?_,?_⟩;repeat' first|exact trivial|exact rfl|refine And.intro ?_ ?_)⟩
  ·(repeat' ((conv=>whnf);first|refine vA ?_|((first|refine vD ?_ ?_|refine vF ?_ ?_)<;>intro hc<;>try simp only [vL] at hc)|refine vT ?_|(refine vQ ?_ fun x hx=>?_;·omega)|((first|refine vO ?_ ?_|refine vS ?_ fun x hx=>?_);·omega)|refine vX ?_));all_goals try conv=>whnf
   all_goals omega
def zhh (e:Nat→Nat→Bool) (w k:Nat):Nat:=((List.range' k (w - k)).find? fun v=>e v w).getD w
theorem zt9 (e:Nat→Nat→Bool) (w:Nat):zhh e w (w+1)=w:=by simp [zhh]
theorem zyt (e:Nat→Nat→Bool) (w:Nat):zhh e w w=w:=by simp [zhh]
theorem zsf (e:Nat→Nat→Bool) (w:Nat):zhh e w 0=zK e w:=by simp [zhh,zK,List.range_eq_range']
theorem zse (e:Nat→Nat→Bool) {w k:Nat} (h:k≤w):zhh e w k=if e k w=true then k else zhh e w (k+1):=by
 by_cases hw:k=w
 ·subst hw;rw [zt9];simp [zhh]
 ·unfold zhh
  rw [show w - k=(w - (k+1))+1 by omega,List.range'_succ,List.find?_cons]
  by_cases hk:e k w=true
  ·rw [hk,if_pos rfl];rfl
  ·rw [if_neg hk];simp only [Bool.not_eq_true] at hk;rw [hk]
theorem zx6 (a b:List Int) (hl:a.length=b.length) (h64:a.length≤64):Fn Tryz.prog T zej [.d (dI a),.d (dI b)] [] (.d (dI (ptL a.length (zK (za4 a b))))) []:=by
 refine zb zm ziq (by show 2≤47;decide) ?_
 (repeat' ((conv=>whnf);first|refine vA ?_|refine vJ fun hg=>?_|refine vT ?_));all_goals try conv=>whnf
 refine zf (fun ((i,zs):Nat×List D)=>[(0,.d (dI a)),(1,.d (dI b)),(5,.own 0),(10,.d (.int .i64 (((a.map (D.int .i64)).length:Int)))),(11,.d (.int .i64 ((i:Int))))]) (fun ((i,zs):Nat×List D)=>[(0,some (.row 1 zs))]) 1 (fun ((i,zs):Nat×List D)=>i≤a.length∧zs=(ptL i (zK (za4 a b))).map (D.int .i64)) (fun ((i,zs):Nat×List D)=>a.length - i) ((0,[])) []   [0] (⟨by simp,rfl⟩) (by (refine ⟨rfl,rfl,rfl,?_,?_⟩;repeat' first|exact trivial|exact rfl|exact ⟨_,rfl⟩|refine And.intro ?_ ?_|decide)) ?_
 rintro ⟨i,zs⟩ ⟨hi,hz⟩
 have hzl:zs.length=i:=by rw [hz];simp [ptL]
 by_cases hil:i < a.length
 ·have a1:=zpR hil
  have b1:b[i]? = some (at0 b i):=zpR (by omega)
  (repeat' ((conv=>whnf);first|refine vA ?_|(refine vF ?_ ?_<;>intro hc<;>try simp only [vL] at hc)|refine vT ?_));all_goals try conv=>whnf
  ·refine zf (fun ((d,j):Int×Nat)=>[(0,.d (dI a)),(1,.d (dI b)),(5,.own 0),(6,.d (.int .i64 ((i:Int)))),(7,.d (.int .i64 ((j:Int)))),(8,.d (.int .i64 (d))),(10,.d (.int .i64 (((a.map (D.int .i64)).length:Int)))),(11,.d (.int .i64 ((i:Int))))]) (fun ((d,j):Int×Nat)=>[(0,some (.row 1 zs))]) 1 (fun ((d,j):Int×Nat) => -1≤d∧d≤i∧j=zhh (za4 a b) i (d+1).toNat) (fun ((d,j):Int×Nat)=>(d+1).toNat) (((i:Int),i)) [(0,0)] [] (⟨by omega,by omega,by rw [show ((i:Int)+1).toNat=i+1 by omega,zt9]⟩) (by (refine ⟨rfl,rfl,rfl,?_,?_⟩;repeat' first|exact trivial|exact rfl|refine And.intro ?_ ?_|refine ⟨_,rfl,?_⟩|decide)) ?_
   rintro ⟨d,j⟩ ⟨hd1,hd2,hj⟩
   by_cases hd:0≤d
   ·obtain ⟨v,rfl⟩ : ∃ v:Nat,d=(v:Int):=⟨d.toNat,by omega⟩
    have a2:a[v]? = some (at0 a v):=zpR (by omega)
    have b2:b[v]? = some (at0 b v):=zpR (by omega)
    have hs:=zse (za4 a b) (w:=i) (k:=v) (by omega)
    rw [show ((v:Int)+1).toNat=v+1 by omega] at hj
    (repeat' ((conv=>whnf);first|refine vA ?_|refine vG ?_|(refine vF ?_ ?_<;>intro hc)|refine vT ?_|refine vN ‹_› ?_|(refine vO ?_ ?_;·omega)|(refine vU ?_ ?_;·kernel_rfl)|fail));all_goals try conv=>whnf
    ·refine ⟨((v:Int) - 1,v),[(0,0)],[],?_,?_,by (refine ⟨rfl,rfl,rfl,?_,?_⟩;repeat' first|exact trivial|exact rfl|refine And.intro ?_ ?_|refine ⟨_,rfl,?_⟩|decide)⟩
     ·refine ⟨by omega,by omega,?_⟩
      rw [show ((v:Int) - 1+1).toNat=v by omega,hs,if_pos (by simp_all [za4])]
     ·((simp only [vM] at *;omega))
    all_goals try (exact absurd ‹(v:Int) < 0› (by omega))
    all_goals
     refine ⟨((v:Int) - 1,j),[(0,0)],[],?_,?_,by (refine ⟨rfl,rfl,rfl,?_,?_⟩;repeat' first|exact trivial|exact rfl|refine And.intro ?_ ?_|refine ⟨_,rfl,?_⟩|decide)⟩
     ·refine ⟨by omega,by omega,?_⟩
      rw [show ((v:Int) - 1+1).toNat=v by omega,hs,if_neg (by simp_all [za4]),hj]
     ·((simp only [vM] at *;omega))
   ·(repeat' ((conv=>whnf);first|refine vA ?_|(refine vF ?_ ?_<;>intro hc<;>try simp only [vL] at hc)|refine vT ?_|refine vN ‹_› ?_|((first|refine vO ?_ ?_|refine vS ?_ fun x hx=>?_|refine vP ?_ ?_);·first|omega|(simp only [vM] at *;omega))|(refine vU ?_ ?_;·kernel_rfl)|fail));all_goals try conv=>whnf
    all_goals try omega
    refine ⟨(i+1,_),[(0,2)],[],?_,?_,by (refine ⟨rfl,rfl,rfl,?_,?_⟩;repeat' first|exact trivial|exact rfl|refine And.intro ?_ ?_|refine ⟨_,rfl,?_⟩|decide)⟩
    ·refine ⟨by omega,?_⟩
     rw [← zuu,← hz,hj,show (d+1).toNat=0 by omega,zsf];rfl
    ·((simp only [vM] at *;omega))
  all_goals omega
 ·(repeat' ((conv=>whnf);first|refine vA ?_|(refine vF ?_ ?_<;>intro hc<;>try simp only [vL] at hc)|refine vT ?_));all_goals try conv=>whnf
  ·omega
  ·have e0:i=a.length:=by omega
   subst e0
   rw [hz];rfl
theorem zi5 {n:Nat} {q:Nat→Nat} (hq:zad n q) (hn:n≤64) (ks:List Int) (hk:ks.length=n):Fn Tryz.prog T zf3 [.d (dI (ptL n q)),.d (dI ks)] [] (.d (.tup [dI (ptL n (zK (za4 (ptL n q) ks))),.int .i64 0])) []:=by
 have hl:(ptL n q).length=n:=z1
 have cc:=zx6 (T:=T) (ptL n q) ks (by omega) (by omega)
 rw [hl] at cc
 refine zb zm zlv (by show 2≤20;decide) ?_
 (repeat' ((conv=>whnf);first|refine vA ?_|refine vH ?_|(refine vD ?_ ?_<;>intro hc<;>try simp only [vL] at hc)|refine vJ fun hg=>?_|refine vT ?_|refine yD (zjp hq hn) ⟨⟨rfl,rfl⟩,rfl⟩ rfl ?_|refine yN cc ⟨⟨rfl,rfl⟩,⟨rfl,rfl⟩,rfl⟩ ?_));all_goals try conv=>whnf
 ·omega
 ·rfl
theorem zoA (n:Nat) (hn:n≤64):Fn Tryz.prog T ze7 [.d (.int .i64 (n:Int))] [] (.d (.tup [dI (ptL n fun _=>0),.int .i64 0])) []:=by
 refine zb zm zjr (by show 1≤12;decide) ?_
 (repeat' ((conv=>whnf);first|refine vA ?_|refine vH ?_|(refine vF ?_ ?_<;>intro hc<;>try simp only [vL] at hc)|refine vT ?_|(refine vP ?_ ?_;·omega)|fail));all_goals try conv=>whnf
 ·omega
 ·refine congrArg (fun l=>some (D.tup [D.arr 1 l,D.int .i64 0])) ?_
  rw [z2];unfold ptL;rw [List.map_map];rfl
theorem zx8 (a b:List Int):Fn Tryz.prog T zdX [.d (dI a),.d (dI b)] [] (.d (.bool (a==b))) []:=by
 refine zb zm zgq (by show 2≤26;decide) ?_
 (repeat' ((conv=>whnf);first|refine vA ?_|(refine vD ?_ ?_<;>intro hc<;>try simp only [vL] at hc)|refine vJ fun hg=>?_|refine vT ?_|refine vZ ?_));all_goals try conv=>whnf
 ·have:a≠b:=fun e=>hc (by rw [e])
  simp [this]
 ·refine zM (fun (k:Nat)=>[(0,.d (dI a)),(1,.d (dI b)),(12,.d (.int .i64 ((a.map (D.int .i64)).length:Int))),(13,.d (.int .i64 ((k:Int))))]) (fun (k:Nat)=>k≤a.length∧(a==b)=(a.drop k==b.drop k)) (fun (k:Nat)=>a.length - k) (0) (⟨by simp,by simp⟩) (by (repeat' first|exact trivial|exact rfl|refine And.intro ?_ ?_)) ?_
  rintro k ⟨hk,hI⟩
  (repeat' ((conv=>whnf);first|refine vA ?_|((first|refine vD ?_ ?_|refine vF ?_ ?_)<;>intro hc<;>try simp only [vL] at hc)|refine vT ?_|(refine vQ ?_ fun x hx=>?_;·omega)|(refine vO ?_ ?_;·omega)|(refine vU ?_ ?_;·kernel_rfl)|refine vZ ?_));all_goals try conv=>whnf
  ·rw [hI,zt ‹a[k]? = some _›,zt ‹b[k]? = some _›];simp [hc]
  ·exact ⟨k+1,[],[],⟨by (omega),by rw [hI,zt ‹a[k]? = some _›,zt ‹b[k]? = some _›];simp [hc]⟩,by (omega),by (refine ⟨rfl,rfl,rfl,?_,?_⟩;repeat' first|exact trivial|exact rfl|refine And.intro ?_ ?_)⟩
  ·rw [hI,List.drop_eq_nil_of_le (by omega),List.drop_eq_nil_of_le (by omega)];rfl
theorem zr6 {n:Nat} {q:Nat→Nat} (hq:zad n q) (hn:n≤64) {i:Nat} (hi:i < n) : ∃ s,Fn Tryz.prog T zdB [.d (dI (ptL n q)),.d (.int .i64 (i:Int))] [] (.d (.u64 s)) []:=by
 have hl:(ptL n q).length=n:=z1
 have ei:=zG (q:=q) hi
 generalize hf:(fun (s:BitVec 64) (j:Nat)=>if q j=q i then s+1#64 <<< j else s)=f
 refine ⟨(List.range n).foldl f 0#64,?_⟩
 refine zb zm zlt (by show 2≤42;decide) ?_
 (repeat' ((conv=>whnf);first|refine vA ?_|refine vH ?_|(refine vF ?_ ?_<;>intro hc<;>try simp only [vL] at hc)|refine vJ fun hg=>?_|refine vT ?_|refine vY ?_|refine yD (zjp hq hn) ⟨⟨rfl,rfl⟩,rfl⟩ rfl ?_));all_goals try conv=>whnf
 all_goals try (exfalso;omega)
 refine zM (fun ((j,s,bt):Nat×BitVec 64×BitVec 64)=>[(0,.d (dI (ptL n q))),(1,.d (.int .i64 ((i:Int)))),(5,.d (.u64 (s))),(6,.d (.u64 (bt))),(22,.d (.int .i64 (((ptL n q).map (D.int .i64)).length:Int))),(23,.d (.int .i64 ((j:Int))))]) (fun ((j,s,bt):Nat×BitVec 64×BitVec 64)=>j≤n∧s=(List.range j).foldl f 0#64∧bt=1#64 <<< j) (fun ((j,s,bt):Nat×BitVec 64×BitVec 64)=>n - j) ((0,0#64,1#64)) (⟨by omega,rfl,by simp⟩) (by (repeat' first|exact trivial|exact rfl|refine And.intro ?_ ?_)) ?_
 rintro ⟨j,s,bt⟩ ⟨hj,hs,hbt⟩
 by_cases hjl:j < n
 ·have ej:=zG (q:=q) hjl
  have hsucc:(List.range (j+1)).foldl f 0#64=f ((List.range j).foldl f 0#64) j:=by rw [List.range_succ,List.foldl_append];rfl
  (repeat' ((conv=>whnf);first|refine vA ?_|(refine vF ?_ ?_<;>intro hc<;>try simp only [vL] at hc)|refine vT ?_|refine vN ‹_› ?_|(refine vO ?_ ?_;·omega)|(refine vU ?_ ?_;·kernel_rfl)|refine vY ?_));all_goals try conv=>whnf
  ·refine ⟨(j+1,_,_),[],[],?_,?_,by (refine ⟨rfl,rfl,rfl,?_,?_⟩;repeat' first|exact trivial|exact rfl|refine And.intro ?_ ?_)⟩
   ·refine ⟨by omega,?_,by rw [hbt];exact zqY j⟩
    have h1:((q j:Nat):Int)=((q i:Nat):Int):=‹_›
    rw [hsucc,← hs,hbt,← hf]
    exact (if_pos (by omega)).symm
   ·((simp only [vM] at *;omega))
  ·refine ⟨(j+1,s,_),[],[],?_,?_,by (refine ⟨rfl,rfl,rfl,?_,?_⟩;repeat' first|exact trivial|exact rfl|refine And.intro ?_ ?_)⟩
   ·refine ⟨by omega,?_,by rw [hbt];exact zqY j⟩
    have h1 : ¬((q j:Nat):Int)=((q i:Nat):Int):=‹_›
    rw [hsucc,← hs,← hf]
    exact (if_neg (by omega)).symm
   ·((simp only [vM] at *;omega))
  ·exfalso;omega
 ·(repeat' ((conv=>whnf);first|refine vA ?_|(refine vF ?_ ?_<;>intro hc<;>try simp only [vL] at hc)|refine vT ?_|refine vN ‹_› ?_|(refine vQ ?_ fun x hx=>?_;·omega)|(refine vO ?_ ?_;·omega)|(refine vU ?_ ?_;·kernel_rfl)|refine vY ?_));all_goals try conv=>whnf
  iterate 2 (exfalso;omega)
  rw [hs,show j=n by omega]
theorem zx7 {n:Nat} {q:Nat→Nat} (hq:zad n q) (hn:n≤64):Fn Tryz.prog T zf2 [.d (dI (ptL n q))] [] (.d (.int .i64 (zo n q:Int))) []:=by
 have hl:(ptL n q).length=n:=z1
 have hB : ∃ blk:Nat→BitVec 64,∀ i,i < n→Fn Tryz.prog T zdB [.d (dI (ptL n q)),.d (.int .i64 (i:Int))] [] (.d (.u64 (blk i))) [] :=
  ⟨fun i=>if h:i < n then Classical.choose (zr6 (T:=T) hq hn h) else 0#64,fun i hi=>by
   simp only [hi,dite_true]
   exact Classical.choose_spec (zr6 (T:=T) hq hn hi)⟩
 obtain ⟨blk,hB⟩:=hB
 have cb:Fn Tryz.prog T zfE [.d (dI (ptL n q))] [] (.d (dU (((List.range n).filter fun w=>decide (q w=w)).map blk))) []:=by
  refine zb zm zkc (by show 1≤27;decide) ?_
  (repeat' ((conv=>whnf);first|refine vA ?_|refine vH ?_|refine vJ fun hg=>?_|refine vT ?_|refine yD (zjp hq hn) ⟨⟨rfl,rfl⟩,rfl⟩ rfl ?_));all_goals try conv=>whnf
  refine zf (fun ((k,zs):Nat×List D)=>[(0,.d (dI (ptL n q))),(3,.own 0),(9,.d (.int .i64 (((ptL n q).map (D.int .i64)).length:Int))),(10,.d (.int .i64 ((k:Int))))]) (fun ((k,zs):Nat×List D)=>[(0,some (.row 1 zs))]) 1 (fun ((k,zs):Nat×List D)=>k≤n∧zs=(((List.range k).filter fun w=>decide (q w=w)).map blk).map D.u64) (fun ((k,zs):Nat×List D)=>n - k) ((0,[])) []   [0] (⟨by omega,rfl⟩) (by (refine ⟨rfl,rfl,rfl,?_,?_⟩;repeat' first|exact trivial|exact rfl|exact ⟨_,rfl⟩|refine And.intro ?_ ?_|decide)) ?_
  rintro ⟨k,zs⟩ ⟨hk,hz⟩
  have hzl:zs.length≤64:=by
   rw [hz,List.length_map,List.length_map]
   have:=List.length_filter_le (fun w=>decide (q w=w)) (List.range k)
   rw [List.length_range] at this;omega
  have hsucc:((List.range (k+1)).filter fun w=>decide (q w=w))=((List.range k).filter fun w=>decide (q w=w))++if q k=k then [k] else []:=by
   rw [List.range_succ,List.filter_append,List.filter_cons,List.filter_nil]
   by_cases h:q k=k
   ·rw [if_pos (by simpa using h),if_pos h]
   ·rw [if_neg (by simpa using h),if_neg h]
  by_cases hkl:k < n
  ·have ek:=zG (q:=q) hkl
   have hBk:=hB k hkl
   (repeat' ((conv=>whnf);first|refine vA ?_|(refine vF ?_ ?_<;>intro hc<;>try simp only [vL] at hc)|refine vT ?_|refine vN ‹_› ?_|((first|refine vO ?_ ?_|refine vP ?_ ?_);·first|omega|(simp only [vM] at *;omega))|refine yD hBk (by (repeat refine ⟨⟨rfl,rfl⟩,?_⟩);rfl) rfl ?_));all_goals try conv=>whnf
   ·refine ⟨(k+1,_),[(0,2)],[],?_,?_,by (refine ⟨rfl,rfl,rfl,?_,?_⟩;repeat' first|exact trivial|exact rfl|refine And.intro ?_ ?_|refine ⟨_,rfl,?_⟩|decide)⟩
    ·refine ⟨by omega,?_⟩
     have h1:((q k:Nat):Int)=((k:Nat):Int):=‹_›
     rw [hsucc,if_pos (by omega),hz];simp
    ·((simp only [vM] at *;omega))
   ·refine ⟨(k+1,_),[(0,0)],[],?_,?_,by (refine ⟨rfl,rfl,rfl,?_,?_⟩;repeat' first|exact trivial|exact rfl|refine And.intro ?_ ?_|refine ⟨_,rfl,?_⟩|decide)⟩
    ·refine ⟨by omega,?_⟩
     have h1 : ¬((q k:Nat):Int)=((k:Nat):Int):=‹_›
     rw [hsucc,if_neg (by omega),hz];simp
    ·((simp only [vM] at *;omega))
   ·exfalso;omega
  ·(repeat' ((conv=>whnf);first|refine vA ?_|(refine vF ?_ ?_<;>intro hc<;>try simp only [vL] at hc)|refine vT ?_|(refine vQ ?_ fun x hx=>?_;·omega)|(refine vO ?_ ?_;·omega)|fail));all_goals try conv=>whnf
   iterate 2 (exfalso;omega)
   rw [hz,show k=n by omega];rfl
 refine zb zm zlu (by show 1≤6;decide) ?_
 (repeat' ((conv=>whnf);first|refine vJ fun hg=>?_|refine vT ?_|refine vX ?_|refine yN cb (by (repeat refine ⟨⟨rfl,rfl⟩,?_⟩);rfl) ?_));all_goals try conv=>whnf
 rw [List.length_map,List.length_map];rfl
theorem zzl {n:Nat} {R:zI} {p:Nat→Nat} {w:Nat} (hw:w < n):zK (za4 (ptL n p) (ptL n fun w=>rkN (rfT n (zx n R) p) (zx n R p w))) w=zbA n R p w:=by
 refine zet fun v hv=>?_
 have h1:at0 (ptL n p) v=((p v:Nat):Int):=zaj (zG (by omega))
 have h2:at0 (ptL n p) w=((p w:Nat):Int):=zaj (zG hw)
 have h3:at0 (ptL n fun w=>rkN (rfT n (zx n R) p) (zx n R p w)) v=((rkN (rfT n (zx n R) p) (zx n R p v):Nat):Int):=zaj (zG (q:=fun w=>rkN (rfT n (zx n R) p) (zx n R p w)) (by omega))
 have h4:at0 (ptL n fun w=>rkN (rfT n (zx n R) p) (zx n R p w)) w=((rkN (rfT n (zx n R) p) (zx n R p w):Nat):Int):=zaj (zG (q:=fun w=>rkN (rfT n (zx n R) p) (zx n R p w)) hw)
 unfold za4 zaz
 rw [h1,h2,h3,h4,Bool.eq_iff_iff,decide_eq_true_eq,decide_eq_true_eq]
 constructor
 ·rintro ⟨-,h⟩
  exact znq (zkB (by omega)) (zkB hw) (by omega)
 ·intro h
  exact ⟨by rw [zdI p v w (by omega) hw h],by rw [h]⟩
theorem zvt {n:Nat} {fa:Nat→Int} {w:Nat} (hw:w < n):zK (za4 (ptL n fun _=>0) ((List.range n).map fa)) w=zK (zaz fa) w:=by
 refine zet fun v hv=>?_
 have h1:at0 (ptL n fun _=>0) v=0:=zaj (zG (q:=fun _=>0) (by omega))
 have h2:at0 (ptL n fun _=>0) w=0:=zaj (zG (q:=fun _=>0) hw)
 have h3:at0 ((List.range n).map fa) v=fa v:=zaj (by rw [List.getElem?_map,List.getElem?_range (by omega)];rfl)
 have h4:at0 ((List.range n).map fa) w=fa w:=zaj (by simp [hw])
 unfold za4 zaz
 rw [h1,h2,h3,h4,Bool.eq_iff_iff,decide_eq_true_eq,decide_eq_true_eq]
 exact ⟨fun h=>h.2,fun h=>⟨rfl,h⟩⟩
theorem zAh {p:KM} : zo p.W.toNat (zd6 p.W.toNat (zd p) (p.W.toNat+1) (zK (zaz (zF p))))=p.W.toNat↔zfv p=true:=by
 rw [zfv,decide_eq_true_eq]
 exact zpq (first:=mkT p (-1)) fun v w _ _=>by
  unfold mkT
  rw [if_neg (by omega),if_neg (by omega)]
  simp
theorem zxx (n:Nat):zad n (fun _=>0):=⟨fun w _=>Nat.zero_le w,fun w _=>rfl⟩
set_option maxHeartbeats 8000000 in
theorem zvj {m:KM} (hk0:za m=0):Fn Tryz.prog T zfb [.d (dKM m)] [] (.d (.bool (zfv m))) []:=by
 have hg0:=zn hk0
 have w1:=hg0.w1;have w2:=hg0.w2
 have n4:=hg0.n4
 have ct:=zoA (T:=T) m.W.toNat (by omega)
 rw [show ((m.W.toNat:Nat):Int)=m.W by omega] at ct
 have c1:=zi5 (T:=T) (zxx m.W.toNat) (by omega) ((List.range m.W.toNat).map (zF m)) (by simp)
 rw [show ptL m.W.toNat (zK (za4 (ptL m.W.toNat fun _=>0) ((List.range m.W.toNat).map (zF m))))=ptL m.W.toNat (zK (zaz (zF m))) from zb2 fun w hw=>zvt hw] at c1
 have c2:=fun q=>zlg (T:=T) (n:=m.W.toNat) (zx m.W.toNat (zd m) q) (by omega) (by omega) (fun v w _ _=>by simp [zx])
 have c4:=fun p (hp:zad m.W.toNat p)=>zi5 (T:=T) hp (by omega) (ptL m.W.toNat fun w=>rkN (rfT m.W.toNat (zx m.W.toNat (zd m)) p) (zx m.W.toNat (zd m) p w)) z1
 have c4' : ∀ p,ptL m.W.toNat (zK (za4 (ptL m.W.toNat p) (ptL m.W.toNat fun w=>rkN (rfT m.W.toNat (zx m.W.toNat (zd m)) p) (zx m.W.toNat (zd m) p w))))=ptL m.W.toNat (zbA m.W.toNat (zd m) p):=fun p=>zb2 fun w hw=>zzl hw
 simp only [c4'] at c4
 have hmin:=zAh (p:=m)
 refine zb zm zjv (by show 1≤97;decide) ?_
 (repeat' ((conv=>whnf);first|refine vA ?_|refine vT ?_|refine yN ct ⟨⟨rfl,rfl⟩,rfl⟩ ?_));all_goals try conv=>whnf
 refine zf (fun ((k,zs):Nat×List D)=>[(1,.ptr 0 0),(3,.d (dI (ptL m.W.toNat fun _=>0))),(5,.own 1),(6,.d (.int .i64 ((k:Int))))]) (fun ((k,zs):Nat×List D)=>[(0,some (zR m)),(1,some (.row 1 zs))]) 2 (fun ((k,zs):Nat×List D)=>k≤m.W.toNat∧zs=((List.range k).map (zF m)).map (D.int .i64)) (fun ((k,zs):Nat×List D)=>m.W.toNat - k) ((0,[])) [(0,0)]   [1] (⟨by omega,rfl⟩) (by (refine ⟨rfl,rfl,rfl,?_,?_⟩;repeat' first|exact trivial|exact rfl|exact ⟨_,rfl⟩|refine And.intro ?_ ?_|refine ⟨_,rfl,?_⟩|decide)) ?_
 rintro ⟨k,zs⟩ ⟨hk,hz⟩
 have hzl:zs.length≤64:=by rw [hz];simp;omega
 by_cases hkl:k < m.W.toNat
 ·have cf:=zf9 (T:=T) m (k:Int)
  rw [zgx hk0 hkl] at cf
  (repeat' ((conv=>whnf);first|refine vA ?_|(refine vF ?_ ?_<;>intro hc<;>try simp only [vL] at hc)|refine vT ?_|((first|refine vO ?_ ?_|refine vP ?_ ?_);·first|omega|(simp only [vM] at *;omega))|refine yD cf ⟨⟨rfl,rfl⟩,⟨rfl,rfl⟩,rfl⟩ rfl ?_));all_goals try conv=>whnf
  ·refine ⟨(k+1,_),[(0,0),(1,3)],[],?_,?_,by (refine ⟨rfl,rfl,rfl,?_,?_⟩;repeat' first|exact trivial|exact rfl|refine And.intro ?_ ?_|refine ⟨_,rfl,?_⟩|decide)⟩
   ·exact ⟨by omega,by rw [hz,List.range_succ,List.map_append,List.map_append];rfl⟩
   ·((simp only [vM] at *;omega))
  ·exfalso;omega
 ·have hzz:zs=((List.range m.W.toNat).map (zF m)).map (D.int .i64):=by rw [hz,show k=m.W.toNat by omega]
  clear hz
  subst hzz
  (repeat' ((conv=>whnf);first|refine vA ?_|(refine vF ?_ ?_<;>intro hc<;>try simp only [vL] at hc)|refine vT ?_|refine yN c1 ⟨⟨rfl,rfl⟩,⟨rfl,rfl⟩,rfl⟩ ?_));all_goals try conv=>whnf
  ·exfalso;omega
  refine zf (fun ((p,f):(Nat→Nat)×Nat)=>[(1,.ptr 0 0),(7,.d (dI (ptL m.W.toNat p)))]) (fun ((p,f):(Nat→Nat)×Nat)=>[(0,some (zR m))]) 1 (fun ((p,f):(Nat→Nat)×Nat)=>zad m.W.toNat p∧m.W.toNat < f+zo m.W.toNat p∧zd6 m.W.toNat (zd m) f p=zd6 m.W.toNat (zd m) (m.W.toNat+1) (zK (zaz (zF m)))) (fun ((p,f):(Nat→Nat)×Nat)=>f) ((zK (zaz (zF m)),m.W.toNat+1)) [(0,0)] [] (⟨zdH (zbz _) _,by omega,rfl⟩) (by (refine ⟨rfl,rfl,rfl,?_,?_⟩;repeat' first|exact trivial|exact rfl|refine And.intro ?_ ?_|refine ⟨_,rfl,?_⟩|decide)) ?_
  clear hk hkl hzl
  rintro ⟨p,f⟩ ⟨hp,hf,hG⟩
  have hcp:=zbS m.W.toNat p
  (repeat' ((conv=>whnf);first|refine vA ?_|refine vT ?_));all_goals try conv=>whnf
  refine zf (fun ((w,zs):Nat×List D)=>[(1,.ptr 0 0),(7,.d (dI (ptL m.W.toNat p))),(9,.own 1),(10,.d (.int .i64 ((w:Int))))]) (fun ((w,zs):Nat×List D)=>[(0,some (zR m)),(1,some (.row 1 zs))]) 2 (fun ((w,zs):Nat×List D)=>w≤m.W.toNat∧zs=((List.range w).map (zx m.W.toNat (zd m) p)).map dII) (fun ((w,zs):Nat×List D)=>m.W.toNat - w) ((0,[])) [(0,0)]   [1] (⟨by omega,rfl⟩) (by (refine ⟨rfl,rfl,rfl,?_,?_⟩;repeat' first|exact trivial|exact rfl|exact ⟨_,rfl⟩|refine And.intro ?_ ?_|refine ⟨_,rfl,?_⟩|decide)) ?_
  rintro ⟨w,zs⟩ ⟨hw,hz⟩
  have hzl:zs.length≤64:=by rw [hz];simp;omega
  by_cases hwl:w < m.W.toNat
  ·have e0:=zG (q:=p) hwl
   (repeat' ((conv=>whnf);first|refine vA ?_|(refine vF ?_ ?_<;>intro hc<;>try simp only [vL] at hc)|refine vJ fun hg=>?_|refine vT ?_|refine vN ‹_› ?_));all_goals try conv=>whnf
   ·refine zf (fun ((i,xs):Nat×List D)=>[(1,.ptr 0 0),(7,.d (dI (ptL m.W.toNat p))),(9,.own 1),(10,.d (.int .i64 ((w:Int)))),(11,.own 2),(55,.d (.int .i64 ((m.rel.map dU).length:Int))),(56,.d (.int .i64 ((i:Int))))]) (fun ((i,xs):Nat×List D)=>[(0,some (zR m)),(1,some (.row 1 zs)),(2,some (.row 1 xs))]) 3 (fun ((i,xs):Nat×List D)=>i≤m.rel.length∧xs=dI [(p w:Int)]::(m.rel.take i).map fun r=>dI (zgh true (zjD m.W.toNat p (r.getD w 0#64)))) (fun ((i,xs):Nat×List D)=>m.rel.length - i) ((0,[dI [(p w:Int)]])) [(0,0),(1,1),(2,3)] [] (⟨by omega,by simp⟩) (by (refine ⟨rfl,rfl,rfl,?_,?_⟩;repeat' first|exact trivial|exact rfl|refine And.intro ?_ ?_|refine ⟨_,rfl,?_⟩|decide)) ?_
    rintro ⟨i,xs⟩ ⟨hi,hx⟩
    have hxl:xs.length≤5:=by rw [hx];simp;omega
    by_cases hil:i < m.rel.length
    ·obtain ⟨r,hr⟩ : ∃ r,m.rel[i]? = some r:=⟨_,List.getElem?_eq_getElem hil⟩
     have hrl:=hg0.len r (List.mem_of_getElem? hr)
     have hy:=zbw (l:=r) (d:=0#64) (show w < r.length by omega)
     (repeat' ((conv=>whnf);first|refine vA ?_|(refine vF ?_ ?_<;>intro hc<;>try simp only [vL] at hc)|refine vT ?_|refine vN ‹_› ?_|((first|refine vO ?_ ?_|refine vP ?_ ?_);·first|omega|(simp only [vM] at *;omega))|refine yN (zvU p (n:=m.W.toNat) (by omega) _ true) ⟨⟨rfl,rfl⟩,⟨rfl,rfl⟩,⟨rfl,rfl⟩,rfl⟩ ?_));all_goals try conv=>whnf
     ·refine ⟨(i+1,_),[(0,0),(1,1),(2,4)],[],?_,?_,by (refine ⟨rfl,rfl,rfl,?_,?_⟩;repeat' first|exact trivial|exact rfl|refine And.intro ?_ ?_|refine ⟨_,rfl,?_⟩|decide)⟩
      ·exact ⟨by omega,by rw [List.take_add_one,hr,hx];simp⟩
      ·((simp only [vM] at *;omega))
     ·exfalso;omega
    ·(repeat' ((conv=>whnf);first|refine vA ?_|(refine vF ?_ ?_<;>intro hc<;>try simp only [vL] at hc)|refine vT ?_|(refine vQ ?_ fun x hx=>?_;·omega)|((first|refine vO ?_ ?_|refine vP ?_ ?_);·first|omega|(simp only [vM] at *;omega))|fail));all_goals try conv=>whnf
     ·exfalso;omega
     ·refine ⟨(w+1,_),[(0,0),(1,4)],[],?_,?_,by (refine ⟨rfl,rfl,rfl,?_,?_⟩;repeat' first|exact trivial|exact rfl|refine And.intro ?_ ?_|refine ⟨_,rfl,?_⟩|decide)⟩
      ·refine ⟨by omega,?_⟩
       rw [List.range_succ,List.map_append,List.map_append,← hz]
       have h1:xs=(zx m.W.toNat (zd m) p w).map dI:=by
        rw [hx,List.take_of_length_le (by omega),zoH]
       show zs++[D.arr 1 xs]=zs++[D.arr 1 _]
       rw [h1]
      ·((simp only [vM] at *;omega))
   ·exfalso;omega
  ·have hzz:zs=((List.range m.W.toNat).map (zx m.W.toNat (zd m) p)).map dII:=by rw [hz,show w=m.W.toNat by omega]
   clear hz
   subst hzz
   have c3:=c2 p
   have c5:=c4 p hp
   have c6:=zx7 (T:=T) hp (by omega)
   have c7:=zx8 (T:=T) (ptL m.W.toNat p) (ptL m.W.toNat (zbA m.W.toNat (zd m) p))
   obtain ⟨f',rfl⟩ : ∃ f',f=f'+1:=⟨f - 1,by omega⟩
   have hpt:((ptL m.W.toNat p==ptL m.W.toNat (zbA m.W.toNat (zd m) p))=true)↔((List.range m.W.toNat).map (zbA m.W.toNat (zd m) p)=(List.range m.W.toNat).map p):=by
    rw [beq_iff_eq,zfp]
    exact ⟨fun h w hw=>(zv5 h hw).symm,fun h=>zb2 fun w hw=>(h w hw).symm⟩
   (repeat' ((conv=>whnf);first|refine vA ?_|((first|refine vF ?_ ?_|refine vI ?_ ?_)<;>intro hc<;>try simp only [vL] at hc)|refine vJ fun hg=>?_|refine vT ?_|(refine vQ ?_ fun x hx=>?_;·omega)|(refine vU ?_ ?_;·kernel_rfl)|refine vZ ?_|refine yN c3 (by (repeat refine ⟨⟨rfl,rfl⟩,?_⟩);rfl) ?_|refine yN c5 (by (repeat refine ⟨⟨rfl,rfl⟩,?_⟩);rfl) ?_|refine yD c6 ⟨⟨rfl,rfl⟩,rfl⟩ rfl ?_|refine yD c7 ⟨⟨rfl,rfl⟩,⟨rfl,rfl⟩,rfl⟩ rfl ?_));all_goals try conv=>whnf
   ·exfalso;omega
   ·have h3:zd6 m.W.toNat (zd m) (f'+1) p=p:=by
     show (if _ then p else _)=p
     exact if_pos (hpt.1 hc)
    rw [← hG,h3] at hmin
    rw [Bool.eq_iff_iff,decide_eq_true_eq,← hmin]
    omega
   ·have hne : ¬ (List.range m.W.toNat).map (zbA m.W.toNat (zd m) p)=(List.range m.W.toNat).map p:=fun h=>by
     rw [hpt.2 h] at hc;cases hc
    have hne2 : ∃ w,w < m.W.toNat∧zbA m.W.toNat (zd m) p w≠p w:=Classical.byContradiction fun hn=>hne (zfp.2 fun w hw=>Classical.byContradiction fun h=>hn ⟨w,hw,h⟩)
    have hgr:=zsg hp hne2
    have h3:zd6 m.W.toNat (zd m) (f'+1) p=zd6 m.W.toNat (zd m) f' (zbA m.W.toNat (zd m) p):=by
     show (if _ then p else _)=_
     exact if_neg hne
    refine ⟨(zbA m.W.toNat (zd m) p,f'),[(0,0)],[],?_,?_,by (refine ⟨rfl,rfl,rfl,?_,?_⟩;repeat' first|exact trivial|exact rfl|refine And.intro ?_ ?_|refine ⟨_,rfl,?_⟩|decide)⟩
    ·exact ⟨zeG _ _ _ _,by omega,by rw [← h3,hG]⟩
    ·((simp only [vM] at *;omega))
end Go.Ab
namespace Go.Ab
open Go Go.Proofs
set_option maxRecDepth 10000
set_option maxHeartbeats 4000000
variable {T:Nat→Obj→Prop}
def pOk (p:List Int) (i:Nat):Bool:=decide (0≤at0 p i∧at0 p i≤i∧at0 p (at0 p i).toNat=at0 p i)
def zas (p:List Int):Int:=if 64 < p.length then 8 else if (List.range p.length).all (pOk p)=true then 0 else 3
theorem znS {p:List Int} {k:Nat} (hk:k < p.length) (h:pOk p k=false) : ¬(List.range p.length).all (pOk p)=true:=fun e=>by
 rw [List.all_eq_true] at e
 rw [e k (List.mem_range.2 hk)] at h;cases h
theorem zpx {p:List Int} (h : ∀ i,i < p.length→pOk p i=true):(List.range p.length).all (pOk p)=true:=List.all_eq_true.2 fun i hi=>h i (List.mem_range.1 hi)
theorem zoJ {p:List Int} (h:zas p=0):p.length≤64∧zad p.length (fun w=>(at0 p w).toNat)∧p=ptL p.length fun w=>(at0 p w).toNat:=by
 unfold zas at h
 split at h
 ·cases h
 ·rename_i h1
  split at h
  ·rename_i h2
   have h3 : ∀ i,i < p.length→0≤at0 p i∧at0 p i≤i∧at0 p (at0 p i).toNat=at0 p i:=fun i hi=>by
    have:=List.all_eq_true.1 h2 i (List.mem_range.2 hi)
    simpa [pOk] using this
   refine ⟨by omega,⟨fun w hw=>by have:=h3 w hw;show (at0 p w).toNat≤w;omega,fun w hw=>by have:=h3 w hw;show (at0 p (at0 p w).toNat).toNat=_;rw [this.2.2]⟩,?_⟩
   refine List.ext_getElem? fun i=>?_
   by_cases hi:i < p.length
   ·rw [zG hi,zbT hi]
    have:=h3 i hi
    congr 1;omega
   ·rw [List.getElem?_eq_none (by omega),List.getElem?_eq_none (by rw [z1];omega)]
  ·cases h
theorem zjn {n:Nat} {q:Nat→Nat} (hq:zad n q) (hn:n≤64):zas (ptL n q)=0:=by
 have hl:(ptL n q).length=n:=z1
 have ha : ∀ i,i < n→at0 (ptL n q) i=((q i:Nat):Int):=fun i hi=>zaj (zG hi)
 unfold zas
 rw [if_neg (by omega),if_pos (zpx fun i hi=>?_)]
 rw [hl] at hi
 have h1:=hq.le i hi
 unfold pOk
 rw [decide_eq_true_eq,ha i hi,Int.toNat_natCast,ha (q i) (by omega),hq.idem i hi]
 exact ⟨by omega,by omega,rfl⟩
theorem zhz (p:List Int):Fn Tryz.prog T ze1 [.d (dI p)] [] (.d (.int .i64 (zas p))) []:=by
 refine zb zm zog (by show 1≤31;decide) ?_
 (repeat' ((conv=>whnf);first|refine vA ?_|(refine vF ?_ ?_<;>intro hc<;>try simp only [vL] at hc)|refine vJ fun hg=>?_|refine vT ?_|refine vX ?_));all_goals try conv=>whnf
 ·rw [zas,if_pos (by omega)]
 ·have e0:zas p=if (List.range p.length).all (pOk p)=true then 0 else 3:=by rw [zas,if_neg (by omega)]
  refine zM (fun (k:Nat)=>[(0,.d (dI p)),(8,.d (dI p)),(9,.d (.int .i64 ((p.map (D.int .i64)).length:Int))),(10,.d (.int .i64 ((k:Int))))]) (fun (k:Nat)=>k≤p.length ∧ ∀ i,i < k→pOk p i=true) (fun (k:Nat)=>p.length - k) (0) (⟨by simp,fun i hi=>by omega⟩) (by (repeat' first|exact trivial|exact rfl|refine And.intro ?_ ?_)) ?_
  rintro k ⟨hk,hI⟩
  by_cases hkl:k < p.length
  ·have e1:p[k]? = some (at0 p k):=zbT hkl
   by_cases hb:0≤at0 p k∧at0 p k≤k
   ·have e2:p[(at0 p k).toNat]? = some (at0 p (at0 p k).toNat):=zbT (by omega)
    (repeat' ((conv=>whnf);first|refine vA ?_|((first|refine vD ?_ ?_|refine vF ?_ ?_)<;>intro hc<;>try simp only [vL] at hc)|refine vT ?_|refine vN ‹_› ?_|((first|refine vO ?_ ?_|refine vR ?_ ‹_› ?_);·omega)|refine vX ?_));all_goals try conv=>whnf
    all_goals try omega
    ·rw [e0,if_neg (znS hkl (by unfold pOk;rw [decide_eq_false_iff_not];rintro ⟨-,-,h3⟩;exact absurd h3 ‹_›))]
    ·exact ⟨k+1,[],[],⟨by (omega),fun i hi=>by
      by_cases e:i=k
      ·subst e;unfold pOk;rw [decide_eq_true_eq];exact ⟨hb.1,hb.2,by assumption⟩
      ·exact hI i (by omega)⟩,by (omega),by (refine ⟨rfl,rfl,rfl,?_,?_⟩;repeat' first|exact trivial|exact rfl|refine And.intro ?_ ?_)⟩
   ·(repeat' ((conv=>whnf);first|refine vA ?_|((first|refine vD ?_ ?_|refine vF ?_ ?_)<;>intro hc<;>try simp only [vL] at hc)|refine vT ?_|refine vN ‹_› ?_|((first|refine vO ?_ ?_|refine vS ?_ fun x hx=>?_);·omega)|refine vX ?_));all_goals try conv=>whnf
    all_goals try omega
    all_goals exact (by rw [e0,if_neg (znS hkl (by unfold pOk;rw [decide_eq_false_iff_not];rintro ⟨h1,h2,-⟩;exact hb ⟨h1,h2⟩))])
  ·(repeat' ((conv=>whnf);first|refine vA ?_|((first|refine vD ?_ ?_|refine vF ?_ ?_)<;>intro hc<;>try simp only [vL] at hc)|refine vT ?_|(refine vQ ?_ fun x hx=>?_;·omega)|((first|refine vO ?_ ?_|refine vS ?_ fun x hx=>?_);·omega)|refine vX ?_));all_goals try conv=>whnf
   all_goals try omega
   rw [e0,if_pos (zpx fun i hi=>hI i (by omega))]
theorem zx5 {n:Nat} {q:Nat→Nat} (hq:zad n q) (hn:n≤64):Fn Tryz.prog T ze1 [.d (dI (ptL n q))] [] (.d (.int .i64 0)) []:=by
 have:=zhz (T:=T) (ptL n q)
 rwa [zjn hq hn] at this
theorem zii (p:List Int):Fn Tryz.prog T zdC [.d (dI p)] [] (.d (.int .i64 (zas p))) []:=by
 refine zb zm zgd (by show 1≤31;decide) ?_
 (repeat' ((conv=>whnf);first|refine vA ?_|(refine vF ?_ ?_<;>intro hc<;>try simp only [vL] at hc)|refine vJ fun hg=>?_|refine vT ?_|refine vX ?_));all_goals try conv=>whnf
 ·rw [zas,if_pos (by omega)]
 ·have e0:zas p=if (List.range p.length).all (pOk p)=true then 0 else 3:=by rw [zas,if_neg (by omega)]
  refine zM (fun (k:Nat)=>[(0,.d (dI p)),(8,.d (dI p)),(9,.d (.int .i64 ((p.map (D.int .i64)).length:Int))),(10,.d (.int .i64 ((k:Int))))]) (fun (k:Nat)=>k≤p.length ∧ ∀ i,i < k→pOk p i=true) (fun (k:Nat)=>p.length - k) (0) (⟨by simp,fun i hi=>by omega⟩) (by (repeat' first|exact trivial|exact rfl|refine And.intro ?_ ?_)) ?_
  rintro k ⟨hk,hI⟩
  by_cases hkl:k < p.length
  ·have e1:p[k]? = some (at0 p k):=zbT hkl
   by_cases hb:0≤at0 p k∧at0 p k≤k
   ·have e2:p[(at0 p k).toNat]? = some (at0 p (at0 p k).toNat):=zbT (by omega)
    (repeat' ((conv=>whnf);first|refine vA ?_|((first|refine vD ?_ ?_|refine vF ?_ ?_)<;>intro hc<;>try simp only [vL] at hc)|refine vT ?_|refine vN ‹_› ?_|((first|refine vO ?_ ?_|refine vR ?_ ‹_› ?_);·omega)|refine vX ?_));all_goals try conv=>whnf
    all_goals try omega
    ·rw [e0,if_neg (znS hkl (by unfold pOk;rw [decide_eq_false_iff_not];rintro ⟨-,-,h3⟩;exact absurd h3 ‹_›))]
    ·exact ⟨k+1,[],[],⟨by (omega),fun i hi=>by
      by_cases e:i=k
      ·subst e;unfold pOk;rw [decide_eq_true_eq];exact ⟨hb.1,hb.2,by assumption⟩
      ·exact hI i (by omega)⟩,by (omega),by (refine ⟨rfl,rfl,rfl,?_,?_⟩;repeat' first|exact trivial|exact rfl|refine And.intro ?_ ?_)⟩
   ·(repeat' ((conv=>whnf);first|refine vA ?_|((first|refine vD ?_ ?_|refine vF ?_ ?_)<;>intro hc<;>try simp only [vL] at hc)|refine vT ?_|refine vN ‹_› ?_|((first|refine vO ?_ ?_|refine vS ?_ fun x hx=>?_);·omega)|refine vX ?_));all_goals try conv=>whnf
    all_goals try omega
    all_goals exact (by rw [e0,if_neg (znS hkl (by unfold pOk;rw [decide_eq_false_iff_not];rintro ⟨h1,h2,-⟩;exact hb ⟨h1,h2⟩))])
  ·(repeat' ((conv=>whnf);first|refine vA ?_|((first|refine vD ?_ ?_|refine vF ?_ ?_)<;>intro hc<;>try simp only [vL] at hc)|refine vT ?_|(refine vQ ?_ fun x hx=>?_;·omega)|((first|refine vO ?_ ?_|refine vS ?_ fun x hx=>?_);·omega)|refine vX ?_));all_goals try conv=>whnf
   all_goals try omega
   rw [e0,if_pos (zpx fun i hi=>hI i (by omega))]
abbrev pkD (x y:Int):D := .agg [.int .i64 x,.int .i64 y]
def zdd (a b:List Int) (k:Nat) (x y:Int):Option Nat:=(List.range k).find? fun j=>decide (at0 a j=x∧at0 b j=y)
def zmj (a b:List Int) (k:Nat) (es:List (D×D)):Prop := ∀ x y,zaa es (pkD x y)=some ((zdd a b k x y).map fun (j:Nat)=>D.int .i64 (j:Int))
theorem zf8 (k:D) (l:List (D×D)) : ∀ es:List (D×D),zaa es k=some none→zaa (es++l) k=zaa l k
 | [],_=>rfl
 | (a,v)::r,h=>by
  simp only [zaa] at h
  show zaa ((a,v)::(r++l)) k=_
  simp only [zaa]
  split at h
  ·cases h
  ·exact zf8 k l r h
  ·cases h
theorem zot (k:D) (l:List (D×D)) : ∀ (es:List (D×D)) (x:D),zaa es k=some (some x)→zaa (es++l) k=some (some x)
 | [],_,h=>by cases h
 | (a,v)::r,x,h=>by
  simp only [zaa] at h
  show zaa ((a,v)::(r++l)) k=_
  simp only [zaa]
  split at h
  ·exact h
  ·exact zot k l r x h
  ·cases h
theorem zyG (x y x' y':Int):D.eqk (pkD x y) (pkD x' y')=some (decide (x=x')&&(decide (y=y')&&true)):=rfl
theorem zmS (a b:List Int) (k:Nat) (x y:Int):zdd a b (k+1) x y=match zdd a b k x y with
  | some j=>some j
  | none=>if at0 a k=x∧at0 b k=y then some k else none:=by
 unfold zdd
 rw [List.range_succ,List.find?_append]
 cases h:(List.range k).find? fun j=>decide (at0 a j=x∧at0 b j=y) with
 | some j=>rfl
 | none =>
  show (none:Option Nat).or _=_
  rw [Option.none_or]
  simp only [List.find?]
  by_cases e:at0 a k=x∧at0 b k=y
  ·rw [if_pos e,decide_eq_true e]
  ·rw [if_neg e,decide_eq_false e]
theorem zu6 {a b:List Int} {k j:Nat} {es:List (D×D)} (h:zmj a b k es) (hf:zdd a b k (at0 a k) (at0 b k)=some j):zmj a b (k+1) es:=by
 intro x y
 rw [h x y,zmS]
 cases e:zdd a b k x y with
 | some i=>rfl
 | none =>
  show _=some (Option.map _ (if at0 a k=x∧at0 b k=y then some k else none))
  rw [if_neg]
  rintro ⟨rfl,rfl⟩;rw [hf] at e;cases e
theorem zwF {a b:List Int} {k:Nat} {es:List (D×D)} (h:zmj a b k es) (hf:zdd a b k (at0 a k) (at0 b k)=none):zmj a b (k+1) (es++[(pkD (at0 a k) (at0 b k),.int .i64 (k:Int))]):=by
 intro x y
 rw [zmS]
 cases e:zdd a b k x y with
 | some i=>exact zot _ _ _ _ (by rw [h x y,e];rfl)
 | none =>
  rw [zf8 _ _ _ (by rw [h x y,e];rfl)]
  show _=some (Option.map _ (if at0 a k=x∧at0 b k=y then some k else none))
  simp only [zaa,zyG]
  by_cases e1:at0 a k=x∧at0 b k=y
  ·obtain ⟨rfl,rfl⟩:=e1
   simp
  ·rw [if_neg e1]
   by_cases e2:x=at0 a k
   ·have e3 : ¬ y=at0 b k:=fun e3=>e1 ⟨e2.symm,e3.symm⟩
    simp [e2,e3]
   ·simp [e2]
theorem zsd (a b:List Int) (k:Nat):zK (za4 a b) k=(zdd a b k (at0 a k) (at0 b k)).getD k:=rfl
theorem zwc {e:Nat→Nat→Bool} {n k j:Nat} (h:zK e k=j):(((List.range n).map fun i=>D.int .i64 (if i < k then (zK e i:Int) else 0)).set k (D.int .i64 (j:Int)))=(List.range n).map fun i=>D.int .i64 (if i < k+1 then (zK e i:Int) else 0):=by
 refine (zbL _).trans (zC fun u hu=>?_)
 by_cases e1:u=k
 ·subst e1;rw [if_pos rfl,if_pos (by omega),h]
 ·rw [if_neg e1]
  by_cases e2:u < k
  ·rw [if_pos e2,if_pos (by omega)]
  ·rw [if_neg e2,if_neg (by omega)]
theorem zx2 (a b:List Int) (hl:b.length=a.length) (hn:a.length≤64):Fn Tryz.prog T zg0 [.d (dI a),.d (dI b)] [] (.d (dI (ptL a.length (zK (za4 a b))))) []:=by
 refine zb zm zm9 (by show 2≤48;decide) ?_
 (repeat' ((conv=>whnf);first|refine vA ?_|refine vJ fun hg=>?_|refine vT ?_|(refine vP ?_ ?_;·(simp only [vM] at *;omega))|fail));all_goals try conv=>whnf
 refine zf (fun ((k,es,zs):Nat×List (D×D)×List D)=>[(0,.d (dI a)),(1,.d (dI b)),(5,.map 0),(6,.own 1),(16,.d (.int .i64 ((a.map (D.int .i64)).length:Int))),(17,.d (.int .i64 ((k:Int))))]) (fun ((k,es,zs):Nat×List (D×D)×List D)=>[(0,some (.map es)),(1,some (.row 1 zs))]) 2 (fun ((k,es,zs):Nat×List (D×D)×List D)=>k≤a.length∧zmj a b k es∧zs=(List.range a.length).map fun i=>D.int .i64 (if i < k then (zK (za4 a b) i:Int) else 0)) (fun ((k,es,zs):Nat×List (D×D)×List D)=>a.length - k) ((0,[],List.replicate (((a.map (D.int .i64)).length:Int)).toNat (D.int .i64 0))) [(0,0),(1,1)] [] (⟨by simp,fun x y=>by simp [zaa,zdd],by simp only [Nat.not_lt_zero,if_false];rw [List.length_map,Int.toNat_natCast];exact z2 _ _⟩) (by (refine ⟨rfl,rfl,rfl,?_,?_⟩;repeat' first|exact trivial|exact rfl|refine And.intro ?_ ?_|refine ⟨_,rfl,?_⟩|decide)) ?_
 rintro ⟨k,es,zs⟩ ⟨hk,hM,rfl⟩
 by_cases hkl:k < a.length
 ·obtain ⟨x,e1⟩ : ∃ x,a[k]? = some x:=⟨_,List.getElem?_eq_getElem hkl⟩
  obtain ⟨y,e2⟩ : ∃ y,b[k]? = some y:=⟨_,List.getElem?_eq_getElem (by omega)⟩
  have f1:at0 a k=x:=zaj e1
  have f2:at0 b k=y:=zaj e2
  cases hf:zdd a b k x y with
  | some j =>
   have hfd:zaa es (pkD x y)=some (some (.int .i64 (j:Int))):=by rw [hM x y,hf];rfl
   (repeat' ((conv=>whnf);first|refine vA ?_|refine vE ?_|refine vG ?_|(refine vF ?_ ?_<;>intro hc<;>try simp only [vL] at hc)|refine vT ?_|refine vN ‹_› ?_|((first|refine vO ?_ ?_|refine vP ?_ ?_);·first|omega|(simp only [vM] at *;omega))|(refine vU ?_ ?_;·kernel_rfl)|refine zc1.mk _ ‹_› ?_));all_goals try conv=>whnf
   ·have hlo:zK (za4 a b) k=j:=by rw [zsd,f1,f2,hf];rfl
    refine ⟨(k+1,es,_),[(0,0),(1,1)],[],?_,?_,by (refine ⟨rfl,rfl,rfl,?_,?_⟩;repeat' first|exact trivial|exact rfl|refine And.intro ?_ ?_|refine ⟨_,rfl,?_⟩|decide)⟩
    ·exact ⟨by (omega),zu6 hM (by rw [f1,f2];exact hf),zwc hlo⟩
    ·((simp only [vM] at *;omega))
   all_goals omega
  | none =>
   have hfd:zaa es (pkD x y)=some none:=by rw [hM x y,hf];rfl
   have hfn:zaa (es++[(pkD x y,.int .i64 (k:Int))]) (pkD x y)=some (some (.int .i64 (k:Int))):=by rw [zf8 _ _ _ hfd];simp [zaa,zyG]
   (repeat' ((conv=>whnf);first|refine vA ?_|(refine vF ?_ ?_<;>intro hc<;>try simp only [vL] at hc)|refine vT ?_|refine vN ‹_› ?_|((first|refine vO ?_ ?_|refine vP ?_ ?_);·first|omega|(simp only [vM] at *;omega))|(refine vU ?_ ?_;·kernel_rfl)|refine zc1.mk _ ‹_› ?_));all_goals try conv=>whnf
   ·have hlo:zK (za4 a b) k=k:=by rw [zsd,f1,f2,hf];rfl
    refine ⟨(k+1,_,_),[(0,0),(1,1)],[],?_,?_,by (refine ⟨rfl,rfl,rfl,?_,?_⟩;repeat' first|exact trivial|exact rfl|refine And.intro ?_ ?_|refine ⟨_,rfl,?_⟩|decide)⟩
    ·exact ⟨by (omega),by subst f1 f2;exact zwF hM hf,zwc hlo⟩
    ·((simp only [vM] at *;omega))
   all_goals omega
 ·(repeat' ((conv=>whnf);first|refine vA ?_|(refine vF ?_ ?_<;>intro hc<;>try simp only [vL] at hc)|refine vT ?_|(refine vQ ?_ fun x hx=>?_;·omega)|(refine vU ?_ ?_;·kernel_rfl)|fail));all_goals try conv=>whnf
  ·omega
  ·have e0:k=a.length:=by omega
   subst e0
   refine congrArg (fun l=>some (D.arr 1 l)) ?_
   unfold ptL
   rw [List.map_map]
   exact zC fun u hu=>by rw [if_pos hu];rfl
theorem ztS {n:Nat} {q:Nat→Nat} (hq:zad n q) (hn:n≤64) (keys:List Int) (hl:keys.length=n):Fn Tryz.prog T zc4 [.d (dI (ptL n q)),.d (dI keys)] [] (.d (.tup [dI (ptL n (zK (za4 (ptL n q) keys))),.int .i64 0])) []:=by
 have hp:=z1 (n:=n) (q:=q)
 have cd:=zx2 (T:=T) (ptL n q) keys (by omega) (by omega)
 rw [hp] at cd
 refine zb zm zoh (by show 2≤20;decide) ?_
 (repeat' ((conv=>whnf);first|refine vA ?_|refine vH ?_|(refine vD ?_ ?_<;>intro hc<;>try simp only [vL] at hc)|refine vJ fun hg=>?_|refine vT ?_|refine yD (zx5 hq hn) ⟨⟨rfl,rfl⟩,rfl⟩ rfl ?_|refine yN cd ⟨⟨rfl,rfl⟩,⟨rfl,rfl⟩,rfl⟩ ?_));all_goals try conv=>whnf
 ·omega
 ·rfl
end Go.Ab
namespace Go.Ab
open Go Go.Proofs
set_option maxRecDepth 10000
set_option maxHeartbeats 4000000
variable {T:Nat→Obj→Prop}
theorem zwU {n:Nat} {q:Nat→Nat} (hq:zad n q) (hn:n≤64) (s:BitVec 64):Fn Tryz.prog T zfc [.d (dI (ptL n q)),.d (.u64 s)] [] (.d (.u64 (zak q s n))) []:=by
 have hpl:=z1 (n:=n) (q:=q)
 refine zb zm zjw (by show 2≤30;decide) ?_
 (repeat' ((conv=>whnf);first|refine vA ?_|refine vJ fun hg=>?_|refine vT ?_));all_goals try conv=>whnf
 refine zM (fun ((k,o):Nat×BitVec 64)=>[(1,.d (.u64 (s))),(5,.d (.u64 (o))),(8,.d (dI (ptL n q))),(9,.d (.int .i64 ((((ptL n q).map (D.int .i64)).length:Int)))),(10,.d (.int .i64 ((k:Int))))]) (fun ((k,o):Nat×BitVec 64)=>k≤n∧o=zak q s k) (fun ((k,o):Nat×BitVec 64)=>n - k) ((0,0#64)) (⟨by simp,rfl⟩) (by (repeat' first|exact trivial|exact rfl|refine And.intro ?_ ?_)) ?_
 rintro ⟨k,o⟩ ⟨hk,hI⟩
 by_cases hkl:k < n
 ·have e1:(ptL n q)[k]? = some ((q k:Nat):Int):=zG hkl
  have b1:=hq.le k hkl
  (repeat' ((conv=>whnf);first|refine vA ?_|refine vE ?_|(refine vF ?_ ?_<;>intro hc<;>try simp only [vL] at hc)|refine vT ?_|refine vN ‹_› ?_|((first|refine vO ?_ ?_|refine vP ?_ ?_);·omega)|refine vY ?_|refine yD (zig _ _) ⟨⟨rfl,rfl⟩,⟨rfl,rfl⟩,rfl⟩ rfl ?_));all_goals try conv=>whnf
  ·refine ⟨(k+1,o),[],[],?_,?_,by (refine ⟨rfl,rfl,rfl,?_,?_⟩;repeat' first|exact trivial|exact rfl|refine And.intro ?_ ?_)⟩
   ·exact ⟨by (omega),by rw [zcx,if_neg (by rw [zkR ‹_›];decide),hI]⟩
   ·((simp only [vM] at *;omega))
  ·refine ⟨(k+1,_),[],[],?_,?_,by (refine ⟨rfl,rfl,rfl,?_,?_⟩;repeat' first|exact trivial|exact rfl|refine And.intro ?_ ?_)⟩
   ·exact ⟨by (omega),by rw [zcx,if_pos (zje ‹_›),← hI,← zBo (zkR ‹_›)];rfl⟩
   ·((simp only [vM] at *;omega))
  ·refine ⟨(k+1,o),[],[],?_,?_,by (refine ⟨rfl,rfl,rfl,?_,?_⟩;repeat' first|exact trivial|exact rfl|refine And.intro ?_ ?_)⟩
   ·exact ⟨by (omega),by rw [zcx,if_pos (zje ‹1&&&s.toNat >>> k≠0›),← hI,zB0 (zje ‹_›)]⟩
   ·((simp only [vM] at *;omega))
  ·omega
 ·(repeat' ((conv=>whnf);first|refine vA ?_|(refine vF ?_ ?_<;>intro hc<;>try simp only [vL] at hc)|refine vT ?_|(refine vQ ?_ fun x hx=>?_;·omega)|refine vY ?_));all_goals try conv=>whnf
  ·omega
  ·rw [hI,show k=n by omega]
def zd1 (R:List (List (BitVec 64))):List (Nat→BitVec 64):=R.map fun r w=>r.getD w 0#64
def zlI (R:List (List (BitVec 64))) (q:Nat→Nat) (n i v a:Nat):Bool:=decide (q i=q v)&&(R.take a).all fun r=>decide (zak q (r.getD i 0#64) n=zak q (r.getD v 0#64) n)
theorem zxm {R:List (List (BitVec 64))} {q:Nat→Nat} {n i v a:Nat} {r:List (BitVec 64)} (h:R[a]? = some r):zlI R q n i v (a+1)=(zlI R q n i v a&&decide (zak q (r.getD i 0#64) n=zak q (r.getD v 0#64) n)):=by
 unfold zlI
 rw [List.take_add_one,h,Option.toList_some,List.all_append];simp [Bool.and_assoc]
theorem zyW {R:List (List (BitVec 64))} {q:Nat→Nat} {n i v:Nat} : zlI R q n i v R.length=zdM n (zd1 R) q v i:=by
 unfold zlI zdM zd1
 rw [List.take_length,Bool.eq_iff_iff]
 simp only [Bool.and_eq_true,decide_eq_true_eq,List.all_eq_true,List.mem_map,forall_exists_index,and_imp,forall_apply_eq_imp_iff₂]
 exact ⟨fun ⟨a,b⟩=>⟨a.symm,fun r hr=>(b r hr).symm⟩,fun ⟨a,b⟩=>⟨a.symm,fun r hr=>(b r hr).symm⟩⟩
theorem zxs {n:Nat} {rels:List (Nat→BitVec 64)} {q:Nat→Nat} (hq:zad n q) {w:Nat} (hw:w < n):zK (za4 (ptL n q) (ptL n (zay n rels q))) w=zay n rels q w:=by
 rw [← zh8 (zjE n rels q n) hw]
 refine zet fun v hv=>?_
 have h1:at0 (ptL n q) v=((q v:Nat):Int):=zaj (zG (by omega))
 have h2:at0 (ptL n q) w=((q w:Nat):Int):=zaj (zG hw)
 have h3:at0 (ptL n (zay n rels q)) v=((zay n rels q v:Nat):Int):=zaj (zG (by omega))
 have h4:at0 (ptL n (zay n rels q)) w=((zay n rels q w:Nat):Int):=zaj (zG hw)
 have h5:=zkD (rels:=rels) hq hw
 have h6:=zkD (rels:=rels) hq (w:=v) (by omega)
 unfold za4 zaz
 rw [h1,h2,h3,h4,Bool.eq_iff_iff,decide_eq_true_eq,decide_eq_true_eq]
 constructor
 ·intro h;omega
 ·intro h;rw [h] at h6;omega
theorem zwQ {n:Nat} {q:Nat→Nat} (hq:zad n q) (hn:n≤64) (R:List (List (BitVec 64))) (hR : ∀ r∈R,r.length=n):Fn Tryz.prog T zdc [.d (dI (ptL n q)),.d (dUU R)] [] (.d (dI (ptL n (zay n (zd1 R) q)))) []:=by
 have hpl:=z1 (n:=n) (q:=q)
 refine zb zm zki (by show 2≤72;decide) ?_
 (repeat' ((conv=>whnf);first|refine vA ?_|refine vJ fun hg=>?_|refine vT ?_));all_goals try conv=>whnf
 refine zf (fun ((i,zs):Nat×List D)=>[(0,.d (dI (ptL n q))),(1,.d (dUU R)),(5,.own 0),(15,.d (.int .i64 ((((ptL n q).map (D.int .i64)).length:Int)))),(16,.d (.int .i64 ((i:Int))))]) (fun ((i,zs):Nat×List D)=>[(0,some (.row 1 zs))]) 1 (fun ((i,zs):Nat×List D)=>i≤n∧zs=(ptL i (zay n (zd1 R) q)).map (D.int .i64)) (fun ((i,zs):Nat×List D)=>n - i) ((0,[])) []   [0] (⟨by simp,rfl⟩) (by (refine ⟨rfl,rfl,rfl,?_,?_⟩;repeat' first|exact trivial|exact rfl|exact ⟨_,rfl⟩|refine And.intro ?_ ?_|decide)) ?_
 rintro ⟨i,zs⟩ ⟨hi,hz⟩
 have hzl:zs.length=i:=by rw [hz];simp [ptL]
 by_cases hil:i < n
 ·have a1:(ptL n q)[i]? = some ((q i:Nat):Int):=zG hil
  (repeat' ((conv=>whnf);first|refine vA ?_|(refine vF ?_ ?_<;>intro hc<;>try simp only [vL] at hc)|refine vT ?_|(refine vO ?_ ?_;·omega)|fail));all_goals try conv=>whnf
  ·refine zf (fun ((d,j):Int×Nat)=>[(0,.d (dI (ptL n q))),(1,.d (dUU R)),(5,.own 0),(6,.d (.int .i64 ((i:Int)))),(7,.d (.int .i64 ((j:Int)))),(8,.d (.int .i64 (d))),(15,.d (.int .i64 ((((ptL n q).map (D.int .i64)).length:Int)))),(16,.d (.int .i64 ((i:Int))))]) (fun ((d,j):Int×Nat)=>[(0,some (.row 1 zs))]) 1 (fun ((d,j):Int×Nat) => -1≤d∧d < i∧j=zhh (zdM n (zd1 R) q) i (d+1).toNat) (fun ((d,j):Int×Nat)=>(d+1).toNat) (((i:Int) - 1,i)) [(0,0)] [] (⟨by omega,by omega,by rw [show ((i:Int) - 1+1).toNat=i by omega,zyt]⟩) (by (refine ⟨rfl,rfl,rfl,?_,?_⟩;repeat' first|exact trivial|exact rfl|refine And.intro ?_ ?_|refine ⟨_,rfl,?_⟩|decide)) ?_
   rintro ⟨d,j⟩ ⟨hd1,hd2,hj⟩
   by_cases hd:0≤d
   ·obtain ⟨v,rfl⟩ : ∃ v:Nat,d=(v:Int):=⟨d.toNat,by omega⟩
    have a2:(ptL n q)[v]? = some ((q v:Nat):Int):=zG (by omega)
    have hs:=zse (zdM n (zd1 R) q) (w:=i) (k:=v) (by omega)
    rw [show ((v:Int)+1).toNat=v+1 by omega] at hj
    (repeat' ((conv=>whnf);first|refine vA ?_|refine vG ?_|refine vJ fun hg=>?_|refine vT ?_|refine vN ‹_› ?_|(refine vU ?_ ?_;·kernel_rfl)|fail));all_goals try conv=>whnf
    ·refine zf (fun ((a,b):Nat×Bool)=>[(0,.d (dI (ptL n q))),(1,.d (dUU R)),(5,.own 0),(6,.d (.int .i64 ((i:Int)))),(7,.d (.int .i64 ((j:Int)))),(8,.d (.int .i64 ((v:Int)))),(9,.d (.bool (b))),(15,.d (.int .i64 ((((ptL n q).map (D.int .i64)).length:Int)))),(16,.d (.int .i64 ((i:Int)))),(35,.d (dUU R)),(36,.d (.int .i64 (((R.map dU).length:Int)))),(37,.d (.int .i64 ((a:Int))))]) (fun ((a,b):Nat×Bool)=>[(0,some (.row 1 zs))]) 1 (fun ((a,b):Nat×Bool)=>a≤R.length∧b=zlI R q n i v a) (fun ((a,b):Nat×Bool)=>R.length - a) ((0,decide (((q i:Nat):Int)=((q v:Nat):Int)))) [(0,0)] [] (⟨by simp,by simp only [zlI,List.take_zero,List.all_nil,Bool.and_true];rw [Bool.eq_iff_iff,decide_eq_true_eq,decide_eq_true_eq];omega⟩) (by (refine ⟨rfl,rfl,rfl,?_,?_⟩;repeat' first|exact trivial|exact rfl|exact .inl rfl|refine And.intro ?_ ?_|refine ⟨_,rfl,?_⟩|decide)) ?_
     rintro ⟨a,b⟩ ⟨ha,hb⟩
     by_cases hal:a < R.length
     ·obtain ⟨r,hr⟩ : ∃ r,R[a]? = some r:=⟨_,List.getElem?_eq_getElem hal⟩
      have hrl:=hR r (List.mem_of_getElem? hr)
      obtain ⟨x,hx0⟩ : ∃ x,r[i]? = some x:=⟨_,List.getElem?_eq_getElem (by omega)⟩
      obtain ⟨y,hy0⟩ : ∃ y,r[v]? = some y:=⟨_,List.getElem?_eq_getElem (by omega)⟩
      have hsu:=zxm (q:=q) (n:=n) (i:=i) (v:=v) hr
      rw [zhK hx0,zhK hy0] at hsu
      (repeat' ((conv=>whnf);first|refine vA ?_|((first|refine vF ?_ ?_|refine vI ?_ ?_)<;>intro hc<;>try simp only [vL] at hc)|refine vT ?_|refine vN ‹_› ?_|(refine vO ?_ ?_;·omega)|(refine vU ?_ ?_;·kernel_rfl)|refine yD (zwU hq hn _) ⟨⟨rfl,rfl⟩,⟨rfl,rfl⟩,rfl⟩ rfl ?_));all_goals try conv=>whnf
      ·refine ⟨(a+1,_),[(0,0)],[],?_,?_,by (refine ⟨rfl,rfl,rfl,?_,?_⟩;repeat' first|exact trivial|exact rfl|exact .inl rfl|refine And.intro ?_ ?_|refine ⟨_,rfl,?_⟩|decide)⟩
       ·exact ⟨by (omega),by rw [hsu,← hb,‹b=true›];simp⟩
       ·((simp only [vM] at *;omega))
      ·refine ⟨(a+1,_),[(0,0)],[],?_,?_,by (refine ⟨rfl,rfl,rfl,?_,?_⟩;repeat' first|exact trivial|exact rfl|exact .inr (.inr ⟨rfl,rfl⟩)|refine And.intro ?_ ?_|refine ⟨_,rfl,?_⟩|decide)⟩
       ·exact ⟨by (omega),by rw [hsu,← hb,‹b=false›];simp⟩
       ·((simp only [vM] at *;omega))
      all_goals omega
     ·have ea:a=R.length:=by omega
      subst ea
      rw [zyW] at hb
      rw [← hb] at hs
      (repeat' ((conv=>whnf);first|refine vA ?_|((first|refine vF ?_ ?_|refine vI ?_ ?_)<;>intro hc<;>try simp only [vL] at hc)|refine vT ?_|(refine vQ ?_ fun x hx=>?_;·omega)|(refine vO ?_ ?_;·omega)|(refine vU ?_ ?_;·kernel_rfl)|fail));all_goals try conv=>whnf
      ·omega
      ·omega
      ·refine ⟨((v:Int) - 1,v),[(0,0)],[],?_,?_,by (refine ⟨rfl,rfl,rfl,?_,?_⟩;repeat' first|exact trivial|exact rfl|refine And.intro ?_ ?_|refine ⟨_,rfl,?_⟩|decide)⟩
       ·refine ⟨by omega,by omega,?_⟩
        rw [show ((v:Int) - 1+1).toNat=v by omega,hs,if_pos ‹_›]
       ·((simp only [vM] at *;omega))
      ·refine ⟨((v:Int) - 1,j),[(0,0)],[],?_,?_,by (refine ⟨rfl,rfl,rfl,?_,?_⟩;repeat' first|exact trivial|exact rfl|refine And.intro ?_ ?_|refine ⟨_,rfl,?_⟩|decide)⟩
       ·refine ⟨by omega,by omega,?_⟩
        rw [show ((v:Int) - 1+1).toNat=v by omega,hs,if_neg (by rw [‹b=false›];decide),hj]
       ·((simp only [vM] at *;omega))
    all_goals omega
   ·(repeat' ((conv=>whnf);first|refine vA ?_|(refine vF ?_ ?_<;>intro hc<;>try simp only [vL] at hc)|refine vJ fun hg=>?_|refine vT ?_|refine vN ‹_› ?_|((first|refine vO ?_ ?_|refine vS ?_ fun x hx=>?_|refine vP ?_ ?_);·first|omega|(simp only [vM] at *;omega))|(refine vU ?_ ?_;·kernel_rfl)|fail));all_goals try conv=>whnf
    all_goals try omega
    refine ⟨(i+1,_),[(0,2)],[],?_,?_,by (refine ⟨rfl,rfl,rfl,?_,?_⟩;repeat' first|exact trivial|exact rfl|refine And.intro ?_ ?_|refine ⟨_,rfl,?_⟩|decide)⟩
    ·refine ⟨by omega,?_⟩
     rw [← zuu,← hz,hj,show (d+1).toNat=0 by omega,zsf];rfl
    ·((simp only [vM] at *;omega))
  all_goals omega
 ·have e0:i=n:=by omega
  subst e0
  subst hz
  (repeat' ((conv=>whnf);first|refine vA ?_|(refine vF ?_ ?_<;>intro hc<;>try simp only [vL] at hc)|refine vT ?_|(refine vO ?_ ?_;·omega)|refine yN (zi5 hq hn _ z1) ⟨⟨rfl,rfl⟩,⟨rfl,rfl⟩,rfl⟩ ?_));all_goals try conv=>whnf
  ·omega
  ·rw [zb2 fun w hw=>zxs hq hw];rfl
end Go.Ab
namespace Go.Ab
def zam (d:Nat):UInt8:=if d < 10 then UInt8.ofNat (48+d) else UInt8.ofNat (87+d)
def zq5 (c:UInt8):Nat:=if c.toNat < 58 then c.toNat - 48 else c.toNat - 87
theorem zfQ : ∀ d,d < 16→zq5 (zam d)=d∧zam d≠32:=by decide
def zdY:Nat→Nat→List UInt8
 | 0,v=>[zam (v % 16)]
 | k+1,v=>if v < 16 then [zam v] else zdY k (v / 16)++[zam (v % 16)]
def zq6 (l:List UInt8):Nat:=l.foldl (fun a c=>a * 16+zq5 c) 0
theorem zlN : ∀ k v,v < 16 ^ (k+1)→zq6 (zdY k v)=v
 | 0,v,h=>by
  have h:v < 16:=by simpa using h
  show 0 * 16+zq5 (zam (v % 16))=v
  rw [Nat.mod_eq_of_lt h,(zfQ v h).1];omega
 | k+1,v,h=>by
  unfold zdY
  split
  ·rename_i hv
   show 0 * 16+zq5 (zam v)=v
   rw [(zfQ v hv).1];omega
  ·unfold zq6
   rw [List.foldl_append]
   show zq6 (zdY k (v / 16)) * 16+zq5 (zam (v % 16))=v
   rw [zlN k (v / 16) (by rw [Nat.pow_succ] at h;omega),(zfQ _ (Nat.mod_lt _ (by omega))).1]
   omega
theorem zj9 : ∀ k v,(∀ c,c∈zdY k v→c≠32)∧(zdY k v).length≤k+1
 | 0,v=>⟨fun c hc=>by simp only [zdY,List.mem_singleton] at hc;subst hc;exact (zfQ _ (Nat.mod_lt _ (by omega))).2,by simp [zdY]⟩
 | k+1,v=>by
  unfold zdY
  split
  ·rename_i hv
   exact ⟨fun c hc=>by simp only [List.mem_singleton] at hc;subst hc;exact (zfQ _ hv).2,by simp⟩
  ·obtain ⟨h1,h2⟩:=zj9 k (v / 16)
   refine ⟨fun c hc=>?_,by simp;omega⟩
   rcases List.mem_append.1 hc with hc|hc
   ·exact h1 c hc
   ·simp only [List.mem_singleton] at hc;subst hc;exact (zfQ _ (Nat.mod_lt _ (by omega))).2
def zgy (x:BitVec 64):List UInt8:=zdY 15 x.toNat
theorem zz9 {x y:BitVec 64} (h:zgy x=zgy y):x=y:=by
 have hx:zq6 (zgy x)=x.toNat:=zlN 15 _ (by have:=x.isLt;simpa using this)
 have hy:zq6 (zgy y)=y.toNat:=zlN 15 _ (by have:=y.isLt;simpa using this)
 exact BitVec.eq_of_toNat_eq (by rw [← hx,← hy,h])
theorem zv3 : ∀ {a b r r':List UInt8},(∀ c,c∈a→c≠32)→(∀ c,c∈b→c≠32)→a++32::r=b++32::r'→a=b∧r=r'
 | [],[],_,_,_,_,h=>⟨rfl,by simpa using h⟩
 | [],y::b,_,_,_,hb,h=>by
  simp only [List.nil_append,List.cons_append,List.cons.injEq] at h
  exact absurd h.1.symm (hb y (by simp))
 | x::a,[],_,_,ha,_,h=>by
  simp only [List.nil_append,List.cons_append,List.cons.injEq] at h
  exact absurd h.1 (ha x (by simp))
 | x::a,y::b,_,_,ha,hb,h=>by
  simp only [List.cons_append,List.cons.injEq] at h
  obtain ⟨rfl,h⟩:=h
  obtain ⟨rfl,h'⟩:=zv3 (fun c hc=>ha c (by simp [hc])) (fun c hc=>hb c (by simp [hc])) h
  exact ⟨rfl,h'⟩
def zge (xs:List (BitVec 64)):List UInt8:=xs.flatMap fun x=>zgy x++[32]
theorem zg9 (x:BitVec 64) (xs:List (BitVec 64)):zge (x::xs)=zgy x++32::zge xs:=by simp [zge]
theorem zyq (x:BitVec 64) (xs:List (BitVec 64)):zge (xs++[x])=zge xs++(zgy x++[32]):=by simp [zge]
theorem zt5 : ∀ {xs ys:List (BitVec 64)},zge xs=zge ys→xs=ys
 | [],[],_=>rfl
 | [],y::ys,h=>by rw [zg9] at h;simp [zge] at h
 | x::xs,[],h=>by rw [zg9] at h;simp [zge] at h
 | x::xs,y::ys,h=>by
  rw [zg9,zg9] at h
  obtain ⟨h1,h2⟩:=zv3 (zj9 _ _).1 (zj9 _ _).1 h
  rw [zz9 h1,zt5 h2]
theorem zt6 : ∀ xs:List (BitVec 64),(zge xs).length≤17 * xs.length
 | []=>by simp [zge]
 | x::xs=>by
  rw [zg9,List.length_append,List.length_cons,List.length_cons]
  have h1:(zgy x).length≤16:=(zj9 15 x.toNat).2
  have:=zt6 xs
  omega
end Go.Ab
namespace Go.Ab
open Go Go.Proofs
set_option maxRecDepth 10000
set_option maxHeartbeats 4000000
variable {T:Nat→Obj→Prop}
abbrev KS:=List UInt8
def zdf:Nat→List KS→List (D×D)
 | _,[]=>[]
 | i,x::r=>(.str x,.int .i64 (i:Int))::zdf (i+1) r
def znF (dl:List KS) (x:KS):List KS:=if x∈dl then dl else dl++[x]
theorem zpv : ∀ (dl:List KS) (i:Nat),(zdf i dl).length=dl.length
 | [],_=>rfl
 | x::r,i=>by simp [zdf,zpv r (i+1)]
theorem zoI (x:KS) : ∀ (dl:List KS) (i:Nat),zdf i (dl++[x])=zdf i dl++[(.str x,.int .i64 ((i+dl.length:Nat):Int))]
 | [],i=>by simp [zdf]
 | y::r,i=>by
  rw [List.cons_append,zdf,zdf,zoI x r (i+1),List.cons_append,List.length_cons,show i+1+r.length=i+(r.length+1) by omega]
theorem zsm (x:KS) : ∀ (dl:List KS) (i:Nat),zaa (zdf i dl) (.str x)=some (if x∈dl then some (.int .i64 ((i+dl.idxOf x:Nat):Int)) else none)
 | [],i=>by simp [zdf,zaa]
 | y::r,i=>by
  have ih:=zsm x r (i+1)
  show (match some (decide (x=y)) with
   | some true=>some (some (D.int .i64 (i:Int)))
   | some false=>zaa (zdf (i+1) r) (.str x)
   | none=>none)=_
  by_cases e:x=y
  ·subst e;simp
  ·rw [decide_eq_false e]
   show zaa (zdf (i+1) r) (.str x)=_
   rw [ih,List.idxOf_cons]
   have:(y==x)=false:=by simp [Ne.symm e]
   rw [this]
   by_cases hm:x∈r
   ·rw [if_pos hm,if_pos (List.mem_cons_of_mem _ hm)]
    show some (some (D.int .i64 _))=some (some (D.int .i64 _))
    congr 4
    simp only [cond_false]
    omega
   ·rw [if_neg hm,if_neg (by simp [e,hm])]
def zes (bl:Nat→KS) (k:Nat):List KS:=(List.range k).foldl (fun l w=>znF l (bl w)) []
theorem zha (bl:Nat→KS) (k:Nat):zes bl (k+1)=znF (zes bl k) (bl k):=by
 unfold zes;rw [List.range_succ,List.foldl_append];rfl
theorem zmp (l:List KS) (x:KS):(∃ t,znF l x=l++t)∧x∈znF l x∧(znF l x).length≤l.length+1:=by
 unfold znF
 split
 ·rename_i h;exact ⟨⟨[],by simp⟩,h,by omega⟩
 ·exact ⟨⟨[x],rfl⟩,by simp,by simp⟩
theorem zua (bl:Nat→KS) : ∀ k,(zes bl k).length≤k
 | 0=>by simp [zes]
 | k+1=>by
  rw [zha]
  have:=(zmp (zes bl k) (bl k)).2.2
  have:=zua bl k
  omega
theorem zub (bl:Nat→KS) {k:Nat} : ∀ m,k≤m → ∃ t,zes bl m=zes bl k++t
 | 0,h=>⟨[],by have:k=0:=Nat.le_zero.1 h;subst this;simp⟩
 | m+1,h=>by
  by_cases e:k=m+1
  ·exact ⟨[],by rw [e];simp⟩
  ·obtain ⟨t,ht⟩:=zub bl (k:=k) m (by omega)
   obtain ⟨⟨t',ht'⟩,-⟩:=zmp (zes bl m) (bl m)
   exact ⟨t++t',by rw [zha,ht',ht];simp⟩
def zdZ (bl:Nat→KS) (w:Nat):Nat:=(zes bl (w+1)).idxOf (bl w)
theorem zvX (bl:Nat→KS) {w m:Nat} (h:w < m):zdZ bl w=(zes bl m).idxOf (bl w)∧bl w∈zes bl m:=by
 obtain ⟨t,ht⟩:=zub bl (k:=w+1) m (by omega)
 have hm:bl w∈zes bl (w+1):=by rw [zha];exact (zmp _ _).2.1
 rw [ht]
 exact ⟨by rw [List.idxOf_append,if_pos hm];rfl,List.mem_append_left _ hm⟩
theorem zAc (bl:Nat→KS) {v w n:Nat} (hv:v < n) (hw:w < n):zdZ bl v=zdZ bl w↔bl v=bl w:=by
 obtain ⟨h1,m1⟩:=zvX bl hv
 obtain ⟨h2,m2⟩:=zvX bl hw
 rw [h1,h2]
 constructor
 ·intro h
  have g1:=List.getElem_idxOf (List.idxOf_lt_length_of_mem m1)
  have g2:=List.getElem_idxOf (List.idxOf_lt_length_of_mem m2)
  rw [← g1,← g2]
  congr 1
 ·intro h;rw [h]
def zeX (R:List (List (BitVec 64))) (q:Nat→Nat) (n w:Nat):KS:=zge (R.map fun r=>zak q (r.getD w 0#64) n)
theorem zzL {R:List (List (BitVec 64))} {q:Nat→Nat} {n v w:Nat} : zeX R q n v=zeX R q n w ↔ ∀ r∈R,zak q (r.getD v 0#64) n=zak q (r.getD w 0#64) n:=by
 unfold zeX
 constructor
 ·intro h
  have:=zt5 h
  exact List.map_inj_left.1 this
 ·intro h
  rw [List.map_congr_left h]
theorem zxk {R:List (List (BitVec 64))} {q:Nat→Nat} {n w:Nat} (hw:w < n):zK (za4 (ptL n q) (ptL n (zdZ (zeX R q n)))) w=zay n (zd1 R) q w:=by
 refine zet fun v hv=>?_
 have h1:at0 (ptL n q) v=((q v:Nat):Int):=zaj (zG (by omega))
 have h2:at0 (ptL n q) w=((q w:Nat):Int):=zaj (zG hw)
 have h3:at0 (ptL n (zdZ (zeX R q n))) v=((zdZ (zeX R q n) v:Nat):Int):=zaj (zG (by omega))
 have h4:at0 (ptL n (zdZ (zeX R q n))) w=((zdZ (zeX R q n) w:Nat):Int):=zaj (zG hw)
 unfold za4
 rw [h1,h2,h3,h4]
 have e2:=zAc (zeX R q n) (v:=v) (w:=w) (n:=n) (by omega) hw
 rw [zzL] at e2
 rw [Bool.eq_iff_iff,decide_eq_true_eq]
 rw [show (((q v:Nat):Int)=((q w:Nat):Int))↔q v=q w by omega]
 rw [show (((zdZ (zeX R q n) v:Nat):Int)=((zdZ (zeX R q n) w:Nat):Int))↔zdZ (zeX R q n) v=zdZ (zeX R q n) w by omega,e2]
 unfold zdM zd1
 simp [List.all_eq_true]
def zrd (q:Nat→Nat) (l:List Nat):BitVec 64:=l.foldl (fun o w=>o|||1#64 <<< q w) 0#64
theorem zxL {q:Nat→Nat} {l:List Nat} {i w:Nat} (h:l[i]? = some w):zrd q (l.take (i+1))=zrd q (l.take i)|||1#64 <<< q w:=by
 rw [List.take_add_one,h];simp [zrd]
theorem ztm {s:BitVec 64} {n:Nat} (hn:n≤64) (h : ∀ i,s.getLsbD i=true→i < n):zD s=(List.range n).filter fun i=>s.getLsbD i:=by
 unfold zD
 have e:List.range 64=List.range n++(List.range (64 - n)).map (n + ·):=by
  rw [← List.range_add];congr 1;omega
 rw [e,List.filter_append,show ((List.range (64 - n)).map (n + ·)).filter (fun i=>s.getLsbD i)=[] from ?_,List.append_nil]
 rw [List.filter_eq_nil_iff]
 intro a ha
 obtain ⟨b,-,rfl⟩:=List.mem_map.1 ha
 intro h1
 have:=h _ h1
 omega
theorem zxK {q:Nat→Nat} {s:BitVec 64} {n:Nat} (hn:n≤64) (h : ∀ i,s.getLsbD i=true→i < n):zrd q (zD s)=zak q s n:=by
 rw [ztm hn h]
 unfold zrd zak
 rw [List.foldl_filter]
end Go.Ab
namespace Go.Ab
theorem zfq {q:Nat→Nat} {s:BitVec 64} {j:Nat} : ∀ {k:Nat},(∀ w,w < k→q w < 64)→((zak q s k).getLsbD j=true ↔ ∃ w,w < k∧s.getLsbD w=true∧q w=j)
 | 0,_=>by simp [zak]
 | k+1,h=>by
  have ih:=zfq (q:=q) (s:=s) (j:=j) (k:=k) fun w hw=>h w (by omega)
  rw [zcx]
  split
  ·rename_i hs
   rw [zqK (h k (by omega)),ih]
   constructor
   ·rintro (⟨w,h1,h2,h3⟩|rfl)
    ·exact ⟨w,by omega,h2,h3⟩
    ·exact ⟨k,by omega,hs,rfl⟩
   ·rintro ⟨w,h1,h2,h3⟩
    by_cases e:w=k
    ·subst e;exact .inr h3.symm
    ·exact .inl ⟨w,by omega,h2,h3⟩
  ·rename_i hs
   rw [ih]
   constructor
   ·rintro ⟨w,h1,h2,h3⟩;exact ⟨w,by omega,h2,h3⟩
   ·rintro ⟨w,h1,h2,h3⟩
    by_cases e:w=k
    ·subst e;exact absurd h2 hs
    ·exact ⟨w,by omega,h2,h3⟩
def zaN (m:KM) (q:Nat→Nat):KM :=
 ⟨(zo m.W.toNat q:Nat),m.val.map fun s=>zau (fun k=>s.getLsbD ((zac m.W.toNat q).getD k 0)) (zo m.W.toNat q),
  m.rel.map fun r=>(List.range (zo m.W.toNat q)).map fun i=>zau (fun j=>zdh m.W.toNat q (fun v w=>rb r v w) i j) (zo m.W.toNat q)⟩
def zwk (m:KM) (q:Nat→Nat):Prop := ∀ w,w < m.W.toNat→zF m w=zF m (q w)
theorem zzY {m:KM} {q:Nat→Nat} (h:zwk m q) {w:Nat} (hw:w < m.W.toNat) {s:BitVec 64} (hs:s∈m.val):s.getLsbD w=s.getLsbD (q w):=by
 obtain ⟨i,hi⟩:=List.mem_iff_getElem?.1 hs
 have hil:=(List.getElem?_eq_some_iff.1 hi).1
 have e:zax m.val w m.val.length=zax m.val (q w) m.val.length:=Int.ofNat_inj.1 (h w hw)
 have h1:=zmO m.val w (i:=i) m.val.length
 have h2:=zmO m.val (q w) (i:=i) m.val.length
 rw [e] at h1
 rw [show m.val.getD i 0#64=s by simp [List.getD,hi]] at h1 h2
 rw [Bool.eq_iff_iff]
 exact ⟨fun h=>(h2.1 (h1.2 ⟨hil,h⟩)).2,fun h=>(h1.1 (h2.2 ⟨hil,h⟩)).2⟩
section
variable {m:KM} {q:Nat→Nat} (hq:zad m.W.toNat q) (hn:m.W.toNat≤64)
include hq hn
theorem zv0 {w:Nat} (hw:w < m.W.toNat):zz q w < 64:=by
 have h1:=zdU hq hw
 have h2:=zbS m.W.toNat q
 omega
theorem zB5 (hf:zwk m q) {s:BitVec 64} (hs:s∈m.val):zak (zz q) s m.W.toNat=zau (fun k=>s.getLsbD ((zac m.W.toNat q).getD k 0)) (zo m.W.toNat q):=by
 have hc:=zbS m.W.toNat q
 refine BitVec.eq_of_getLsbD_eq fun j _=>?_
 rw [Bool.eq_iff_iff,zfq (fun w hw=>zv0 hq hn hw),zdn (by omega)]
 constructor
 ·rintro ⟨w,h1,h2,rfl⟩
  refine ⟨zdU hq h1,?_⟩
  rw [List.getD,zgG hq h1]
  show s.getLsbD (q w)=true
  rw [← zzY hf h1 hs];exact h2
 ·rintro ⟨h1,h2⟩
  obtain ⟨u,u1,u2,u3,u4⟩:=ziu hq h1
  rw [List.getD,u1] at h2
  exact ⟨u,u2,h2,u4⟩
def zbp (q:Nat→Nat) (n:Nat) (r:List (BitVec 64)):Nat→Nat→BitVec 64
 | 0,_=>0#64
 | k+1,i=>if zz q k=i then zbp q n r k i|||zak (zz q) (r.getD k 0#64) n else zbp q n r k i
omit hq hn in
theorem ztd {n:Nat} {r:List (BitVec 64)} (h64 : ∀ w,w < n→zz q w < 64) {i j:Nat} : ∀ {k:Nat},(zbp q n r k i).getLsbD j=true ↔ ∃ v w,v < k∧w < n∧zz q v=i∧zz q w=j∧rb r v w=true
 | 0=>by simp [zbp]
 | k+1=>by
  have ih:=ztd (r:=r) h64 (i:=i) (j:=j) (k:=k)
  unfold zbp
  split
  ·rename_i he
   rw [BitVec.getLsbD_or,Bool.or_eq_true,ih,zfq h64]
   constructor
   ·rintro (⟨v,w,h1,h2,h3,h4,h5⟩|⟨w,h1,h2,h3⟩)
    ·exact ⟨v,w,by omega,h2,h3,h4,h5⟩
    ·exact ⟨k,w,by omega,h1,he,h3,h2⟩
   ·rintro ⟨v,w,h1,h2,h3,h4,h5⟩
    by_cases e:v=k
    ·subst e;exact .inr ⟨w,h2,h5,h4⟩
    ·exact .inl ⟨v,w,by omega,h2,h3,h4,h5⟩
  ·rename_i he
   rw [ih]
   constructor
   ·rintro ⟨v,w,h1,h2,h3,h4,h5⟩;exact ⟨v,w,by omega,h2,h3,h4,h5⟩
   ·rintro ⟨v,w,h1,h2,h3,h4,h5⟩
    by_cases e:v=k
    ·subst e;exact absurd h3 he
    ·exact ⟨v,w,by omega,h2,h3,h4,h5⟩
theorem zv6 (r:List (BitVec 64)) (i:Nat):zbp q m.W.toNat r m.W.toNat i=zau (fun j=>zdh m.W.toNat q (fun v w=>rb r v w) i j) (zo m.W.toNat q):=by
 have hc:=zbS m.W.toNat q
 refine BitVec.eq_of_getLsbD_eq fun j _=>?_
 rw [Bool.eq_iff_iff,ztd (fun w hw=>zv0 hq hn hw),zdn (by omega),zix]
 constructor
 ·rintro ⟨v,w,h1,h2,h3,h4,h5⟩
  exact ⟨by rw [← h4];exact zdU hq h2,v,w,h1,h2,h3,h4,h5⟩
 ·rintro ⟨-,v,w,h1,h2,h3,h4,h5⟩
  exact ⟨v,w,h1,h2,h3,h4,h5⟩
end
theorem zzP {n:Nat} {q:Nat→Nat} (hq:zad n q) (hn:0 < n):0 < zo n q:=by
 unfold zo
 have h0:q 0=0:=by have:=hq.le 0 hn;omega
 exact List.length_pos_of_mem (List.mem_filter.2 ⟨List.mem_range.2 hn,by simp [h0]⟩)
theorem zAE {m:KM} {q:Nat→Nat} (hm:zkJ m) (hq:zad m.W.toNat q):zkJ (zaN m q):=by
 have w1:=hm.w1
 have w2:=hm.w2
 have hc:=zbS m.W.toNat q
 have hp:=zzP hq (by omega)
 have hset : ∀ f,bad (zo m.W.toNat q:Nat) (zau f (zo m.W.toNat q))=false:=fun f=>by
  rw [zhG (by omega)]
  intro i hi
  have:=((zdn (by omega)).1 hi).1
  omega
 refine ⟨by show (1:Int)≤(zo m.W.toNat q:Nat);omega,by show ((zo m.W.toNat q:Nat):Int)≤64;omega,by have:=hm.n4;simpa [zaN] using this,by have:=hm.v8;simpa [zaN] using this,fun r hr=>?_,fun s hs=>?_,fun r hr s hs=>?_⟩
 ·obtain ⟨r',-,rfl⟩:=List.mem_map.1 hr;simp [zaN]
 ·obtain ⟨s',-,rfl⟩:=List.mem_map.1 hs;exact hset _
 ·obtain ⟨r',-,rfl⟩:=List.mem_map.1 hr
  obtain ⟨i,-,rfl⟩:=List.mem_map.1 hs
  exact hset _
theorem zyM {m:KM} {q:Nat→Nat} (hc:za m=0) (hq:zad m.W.toNat q):za (zaN m q)=0:=zqs (zAE (zn hc) hq)
theorem zB4 {m:KM} {q:Nat→Nat} (hn:m.W.toNat≤64) {i:Nat} {r r':Nat→Nat→Bool} (h:(zd (zaN m q))[i]? = some r) (h':((zd m).map (zdh m.W.toNat q))[i]? = some r') {v w:Nat} (hv:v < zo m.W.toNat q) (hw:w < zo m.W.toNat q):r v w=r' v w:=by
 have hc:=zbS m.W.toNat q
 unfold zd zaN at h
 unfold zd at h'
 rw [List.map_map,List.getElem?_map,Option.map_eq_some_iff] at h
 rw [List.map_map,List.getElem?_map,Option.map_eq_some_iff] at h'
 obtain ⟨a,ha,rfl⟩:=h
 obtain ⟨b,hb,rfl⟩:=h'
 rw [ha] at hb;cases hb
 show (((List.range (zo m.W.toNat q)).map fun i=>zau (fun j=>zdh m.W.toNat q (fun v w=>rb a v w) i j) (zo m.W.toNat q)).getD v 0#64).getLsbD w=zdh m.W.toNat q (fun v w=>rb a v w) v w
 rw [show ((List.range (zo m.W.toNat q)).map fun i=>zau (fun j=>zdh m.W.toNat q (fun v w=>rb a v w) i j) (zo m.W.toNat q)).getD v 0#64=zau (fun j=>zdh m.W.toNat q (fun v w=>rb a v w) v j) (zo m.W.toNat q) by simp [List.getD,hv]]
 rw [Bool.eq_iff_iff,zdn (by omega)]
 exact ⟨fun h=>h.2,fun h=>⟨hw,h⟩⟩
theorem zrW (vl:List (BitVec 64)) {f:BitVec 64→BitVec 64} {i u:Nat} (h : ∀ s∈vl,(f s).getLsbD i=s.getLsbD u) : ∀ k,zax (vl.map f) i k=zax vl u k
 | 0=>rfl
 | k+1=>by
  rw [zax,zax,zrW vl h k]
  have e:((vl.map f).getD k 0#64).getLsbD i=(vl.getD k 0#64).getLsbD u:=by
   simp only [List.getD,List.getElem?_map]
   cases hk:vl[k]? with
   | none=>simp
   | some s=>exact h s (List.mem_of_getElem? hk)
  rw [e]
theorem zB3 {m:KM} {q:Nat→Nat} (hn:m.W.toNat≤64) {i:Nat} (hi:i < zo m.W.toNat q):zF (zaN m q) i=ziw m.W.toNat q (zF m) i:=by
 have hc:=zbS m.W.toNat q
 unfold zF ziw zaN
 rw [List.length_map,zrW m.val (u:=(zac m.W.toNat q).getD i 0) fun s hs=>?_]
 rw [Bool.eq_iff_iff,zdn (by omega)]
 exact ⟨fun h=>h.2,fun h=>⟨hi,h⟩⟩
def z7 (m:KM):Nat→Nat→Nat:=zbD m.W.toNat (zd1 m.rel) (zK (zaz (zF m)))
def cq (m:KM):Nat→Nat:=z7 m m.W.toNat
theorem zeL (m:KM) (k:Nat):zad m.W.toNat (z7 m k):=zoF (zdH (zbz (zF m)) m.W.toNat) k
theorem zee (m:KM):zad m.W.toNat (cq m):=zeL m _
theorem zpE (m:KM) : ∀ k w,w < m.W.toNat→zF m (z7 m k w)=zF m w
 | 0,w,hw=>by
  have:=zpn (zbz (zF m)) w
  show zF m (zK (zaz (zF m)) w)=zF m w
  simpa [zaz] using this
 | k+1,w,hw=>by
  have h1:=zkD (rels:=zd1 m.rel) (zeL m k) hw
  have h2:=(zeL m (k+1)).le w hw
  have h3:=zpE m k (z7 m (k+1) w) (by omega)
  have h4:=zpE m k w hw
  rw [← h3,← h4]
  exact congrArg (zF m) h1
theorem ztw (m:KM):zwk m (cq m):=fun w hw=>(zpE m _ w hw).symm
theorem zxS (m:KM) (hn:0 < m.W.toNat) {j:Nat} (hj:m.W.toNat≤j) {w:Nat} (hw:w < m.W.toNat):z7 m j w=cq m w:=zyo (zdH (zbz (zF m)) m.W.toNat) hn hj hw
theorem zrk {m:KM} {k:Nat} (hn:0 < m.W.toNat) (h:ptL m.W.toNat (z7 m (k+1))=ptL m.W.toNat (z7 m k)):ptL m.W.toNat (z7 m k)=ptL m.W.toNat (cq m):=by
 have hst : ∀ w,w < m.W.toNat→z7 m (k+1) w=z7 m k w:=fun w hw=>zv5 h hw
 refine zb2 fun w hw=>?_
 by_cases hk:k≤m.W.toNat
 ·exact (zlp (zdH (zbz (zF m)) m.W.toNat) hst _ hk w hw).symm
 ·exact zxS m hn (by omega) hw
theorem zvM {m:KM} {k:Nat} (hn : ∀ i,i < k→ptL m.W.toNat (z7 m (i+1))≠ptL m.W.toNat (z7 m i)):k≤m.W.toNat:=by
 have h1:=zlo (rels:=zd1 m.rel) (zdH (zbz (zF m)) m.W.toNat) (k:=k) (fun i hi=>by
  refine Classical.byContradiction fun hne=>hn i hi (zb2 fun w hw=>?_)
  exact Classical.byContradiction fun hw'=>hne ⟨w,hw,hw'⟩) k (Nat.le_refl _)
 have h2:=zbS m.W.toNat (zbD m.W.toNat (zd1 m.rel) (zK (zaz (zF m))) k)
 omega
end Go.Ab
namespace Go.Ab
theorem zuy {m:KM} {f:Nat→BitVec 64} : f∈zd1 m.rel ↔ ∃ r∈m.rel,f=fun w=>r.getD w 0#64:=by
 unfold zd1
 rw [List.mem_map]
 exact ⟨fun ⟨r,a,b⟩=>⟨r,a,b.symm⟩,fun ⟨r,a,b⟩=>⟨r,a,b.symm⟩⟩
theorem zuz {m:KM} {f:Nat→Nat→Bool} : f∈zd m ↔ ∃ r∈m.rel,f=fun v w=>rb r v w:=by
 unfold zd
 rw [List.mem_map]
 exact ⟨fun ⟨r,a,b⟩=>⟨r,a,b.symm⟩,fun ⟨r,a,b⟩=>⟨r,a,b.symm⟩⟩
theorem ztn {n:Nat} {q:Nat→Nat} (hq:zad n q) (hn:n≤64) {s t:BitVec 64} : zak q s n=zak q t n ↔ ∀ x:Nat,(∃ u,u < n∧s.getLsbD u=true∧q u=x) ↔ ∃ u,u < n∧t.getLsbD u=true∧q u=x:=by
 have h64 : ∀ w,w < n→q w < 64:=fun w hw=>by have:=hq.le w hw;omega
 constructor
 ·intro h x
  rw [← zfq h64,← zfq h64,h]
 ·intro h
  refine BitVec.eq_of_getLsbD_eq fun j _=>?_
  rw [Bool.eq_iff_iff,zfq h64,zfq h64]
  exact h j
theorem zuI {m:KM} {q:Nat→Nat} (hq:zad m.W.toNat q) (hn:m.W.toNat≤64) {v w:Nat} : zdM m.W.toNat (zd1 m.rel) q v w=true↔zx m.W.toNat (zd m) q v=zx m.W.toNat (zd m) q w:=by
 unfold zdM
 rw [zdm,Bool.and_eq_true,decide_eq_true_eq,List.all_eq_true]
 refine and_congr Iff.rfl ⟨fun h r hr x=>?_,fun h f hf=>?_⟩
 ·obtain ⟨r',hr',rfl⟩:=zuz.1 hr
  have:=h _ (zuy.2 ⟨r',hr',rfl⟩)
  rw [decide_eq_true_eq,ztn hq hn] at this
  exact this x
 ·obtain ⟨r',hr',rfl⟩:=zuy.1 hf
  rw [decide_eq_true_eq,ztn hq hn]
  exact h _ (zuz.2 ⟨r',hr',rfl⟩)
theorem zBD {m:KM} (h0:0 < m.W.toNat) (hn:m.W.toNat≤64):zkL m.W.toNat (zd m) (zF m) (cq m) where
 canon:=zee m
 stab:=fun v w hv hw e=>by
  have hc:=zee m
  have h1 : ∀ u,u < m.W.toNat→zay m.W.toNat (zd1 m.rel) (cq m) u=cq m u:=fun u hu=>zxS m h0 (Nat.le_succ _) hu
  refine (zuI hc hn).1 ((zko (zjb _ _ _)).1 ?_)
  show zay m.W.toNat (zd1 m.rel) (cq m) v=zay m.W.toNat (zd1 m.rel) (cq m) w
  rw [h1 v hv,h1 w hw,e]
 fac:=fun v w hv hw e=>by
  rw [ztw m v hv,ztw m w hw,e]
theorem znV {m:KM} (hn:m.W.toNat≤64) {Z:Nat→Nat→Prop} (B:zdp m.W.toNat m.W.toNat (zd m) (zd m) (zF m) (zF m) Z) : ∀ (k v w:Nat),Z v w→z7 m k v=z7 m k w
 | 0,v,w,hz=>zrp.2 (B.fac hz)
 | k+1,v,w,hz=>by
  refine (zko (zjb _ _ _)).2 ((zuI (zeL m k) hn).2 (zdm.2 ⟨znV hn B k v w hz,fun r hr x=>?_⟩))
  obtain ⟨i,hi⟩:=List.mem_iff_getElem?.1 hr
  constructor
  ·rintro ⟨u,a,b,rfl⟩
   obtain ⟨u',c,d,e⟩:=B.forth hi hi hz a b
   exact ⟨u',c,d,(znV hn B k u u' e).symm⟩
  ·rintro ⟨u,a,b,rfl⟩
   obtain ⟨u',c,d,e⟩:=B.back hi hi hz a b
   exact ⟨u',c,d,znV hn B k u' u e⟩
theorem zCB {m:KM} (h0:0 < m.W.toNat) (hn:m.W.toNat≤64) {w:Nat} (hw:w < m.W.toNat):cq m w=coa m.W.toNat (zd m) (zF m) w:=by
 have S:=zBD h0 hn
 have S':=zdt m.W.toNat (zd m) (zF m)
 rw [← zh8 S.canon hw,← zh8 S'.canon hw]
 refine zet fun v hv=>?_
 unfold zaz
 rw [Bool.eq_iff_iff,decide_eq_true_eq,decide_eq_true_eq]
 exact ⟨fun e=>zjS S.bis ⟨by omega,hw,e⟩,fun e=>znV hn S'.bis _ v w ⟨by omega,hw,e⟩⟩
end Go.Ab
namespace Go.Ab
open Go Go.Proofs
set_option maxRecDepth 10000
set_option maxHeartbeats 4000000
variable {T:Nat→Obj→Prop}
def zfj (T:Nat→Obj→Prop):Prop := ∀ x:BitVec 64,Fn Tryz.prog T zdz [.d (.u64 x),.d (.int .i64 16)] [] (.d (.str (zgy x))) []
theorem zvl (hT:zbV T) (s:BitVec 64):It Tryz.prog T zc2 [.ptr 0 0] [.box [.d (.u64 s)]] (zk7 s):=by
 refine zym zm zoa rfl (by show 2≤14;decide) fun l=>?_
 (repeat' ((conv=>whnf);refine vT ?_));all_goals try conv=>whnf
 refine zf (fun (s':BitVec 64)=>[(0,.yld l),(1,.ptr 0 0)]) (fun (s':BitVec 64)=>[(0,some (.box [.d (.u64 s')])),(1,some (.todo (some (zk7 s'))))]) 2 (fun (s':BitVec 64)=>True) (fun (s':BitVec 64)=>(zD s').length) (s) [(0,0),(1,1)] [] (trivial) (by (refine ⟨rfl,rfl,rfl,?_,?_⟩;repeat' first|exact trivial|exact rfl|refine And.intro ?_ ?_|refine ⟨_,rfl,?_⟩|decide)) ?_
 rintro s' -
 (repeat' ((conv=>whnf);first|refine vA ?_|(refine vD ?_ ?_<;>intro hc)|refine vT ?_|refine yD (hT _) (by (repeat refine ⟨⟨rfl,rfl⟩,?_⟩);rfl) rfl ?_));all_goals try conv=>whnf
 ·have hd:zk7 s'=[D.int .i64 (Lib.ctz 64 s'.toNat:Int)]::zk7 (s'&&&(s' - 1#64)):=by
   rw [zk7,zgN s' hc];rfl
  refine ⟨rfl,[.int .i64 (Lib.ctz 64 s'.toNat)],zk7 (s'&&&(s' - 1#64)),congrArg (fun l=>some (Ob.todo (some l))) hd,rfl,rfl,rfl,?_,?_⟩
  ·(repeat' ((conv=>whnf);first|refine vE ?_|refine vG ?_|refine vT ?_));all_goals try conv=>whnf
   refine ⟨s'&&&(s' - 1#64),[(0,0),(1,1)],[],trivial,?_,⟨rfl,rfl,rfl,by (repeat' first|exact trivial|exact rfl|refine And.intro ?_ ?_|refine ⟨_,rfl,?_⟩),by (repeat' first|exact trivial|exact rfl|refine And.intro ?_ ?_|refine ⟨_,rfl,?_⟩|decide)⟩⟩
   show (zD (s'&&&(s' - 1#64))).length < (zD s').length
   rw [zgN s' hc];simp
  ·(repeat' ((conv=>whnf);first|refine vE ?_|refine vH ?_|refine vT ?_));all_goals try conv=>whnf
   right;rfl
 ·left
  have:s'=0#64:=hc
  subst this
  exact congrArg (fun l:List Nat=>some (Ob.todo (some (l.map fun (i:Nat)=>[D.int .i64 (i:Int)])))) zcP
theorem zva (s:BitVec 64):Fn Tryz.prog T ziW [.d (.u64 s)] [] (.fn zc2 [.ptr 0 0]) [some (.box [.d (.u64 s)])]:=by
 refine zaL zm zqy (by show 1≤4;decide) _ (fun e env mem n h=>h) ?_
 (repeat' ((conv=>whnf);refine vT ?_));all_goals try conv=>whnf
 exact ⟨trivial,_,[(0,0)],[],rfl,.inl (by (repeat' first|exact rfl|refine And.intro ?_ ?_|refine ⟨_,rfl,?_⟩)),⟨rfl,rfl,rfl,trivial,by (repeat' first|exact trivial|exact rfl|refine And.intro ?_ ?_|refine ⟨_,rfl,?_⟩|exact of_decide_eq_true rfl)⟩,trivial⟩
theorem zvb (hT:zbV T) {n:Nat} {q:Nat→Nat} (hn:n≤64) (s:BitVec 64) (hs : ∀ i,s.getLsbD i=true→i < n):Fn Tryz.prog T ziX [.d (dI (ptL n q)),.d (.u64 s)] [] (.d (.u64 (zak q s n))) []:=by
 refine zb zm zqz (by show 2≤18;decide) ?_
 (repeat' ((conv=>whnf);first|refine vA ?_|refine vT ?_));all_goals try conv=>whnf
 refine zaO.res (zva s) (by (repeat refine ⟨⟨rfl,rfl⟩,?_⟩);rfl) ?_
 (repeat' ((conv=>whnf);refine vT ?_));all_goals try conv=>whnf
 refine zyS (zvl hT s) [2] [] (by first|((repeat refine ⟨⟨rfl,rfl⟩,?_⟩);rfl)|(repeat' first|exact rfl|refine And.intro ?_ ?_|refine ⟨_,rfl,?_⟩)) (by (repeat' first|exact rfl|refine And.intro ?_ ?_|refine ⟨_,rfl,?_⟩)) (by rfl) (by rfl) [(2,.ptr 0 0),(5,.ptr 1 0)] (fun (o:BitVec 64)=>[(0,some (.box [.d (dI (ptL n q))])),(1,some (.box [.d (.u64 o)]))]) 2 (fun i (o:BitVec 64)=>o=zrd q ((zD s).take i)) (0#64) [(0,0),(1,1)] [] (rfl) (by (refine ⟨rfl,rfl,rfl,?_,?_⟩;repeat' first|exact trivial|exact rfl|refine And.intro ?_ ?_|refine ⟨_,rfl,?_⟩|decide)) ?_ ?_
 ·intro i x o hx ho
  obtain ⟨w,hw,rfl,hsw,hw64⟩:=zxT hx
  have hwr:=hs w hsw
  have e1:(ptL n q)[w]? = some ((q w:Nat):Int):=zG hwr
  refine ⟨rfl,?_⟩
  (repeat' ((conv=>whnf);first|refine vT ?_|refine vN ‹_› ?_|(refine vP ?_ ?_;·omega)|(refine vU ?_ ?_;·kernel_rfl)|fail));all_goals try conv=>whnf
  ·exact ⟨o|||1#64 <<< q w,[(0,0),(1,1)],[],by rw [ho,zxL hw],by (refine ⟨rfl,rfl,rfl,?_,?_⟩;repeat' first|exact trivial|exact rfl|refine And.intro ?_ ?_|refine ⟨_,rfl,?_⟩|decide)⟩
  all_goals omega
 ·intro o ho
  (repeat' ((conv=>whnf);first|refine vT ?_|refine vY ?_));all_goals try conv=>whnf
  rw [ho,List.length_map,List.take_length,zxK hn hs]
def zew (m:KM) (N i:Nat):List (List D):=((List.range (N+1)).drop i).map fun j=>[dI (ptL m.W.toNat (z7 m j))]
theorem zsx {m:KM} {N i:Nat} (h:i≤N):zew m N i=[dI (ptL m.W.toNat (z7 m i))]::zew m N (i+1):=by
 unfold zew
 rw [List.drop_eq_getElem_cons (by simp;omega)];simp
theorem zAI {m:KM} {N i:Nat} (h:N < i):zew m N i=[]:=by
 unfold zew
 rw [List.drop_eq_nil_of_le (by simp;omega)];rfl
def zeB (m:KM):List Int:=(List.range m.W.toNat).map (zF m)
theorem zvR {m:KM} {w:Nat} (h:w < m.W.toNat):(zeB m)[w]? = some (zF m w):=by simp [zeB,h]
theorem zsN (n:Nat):zad n (fun _=>0):=⟨fun w _=>Nat.zero_le w,fun w _=>rfl⟩
theorem zqh (m:KM) {w:Nat} (hw:w < m.W.toNat):zK (za4 (ptL m.W.toNat fun _=>0) (zeB m)) w=z7 m 0 w:=by
 refine zet fun v hv=>?_
 have h1:at0 (ptL m.W.toNat fun _=>0) v=0:=zaj (zG (q:=fun _=>0) (by omega))
 have h2:at0 (ptL m.W.toNat fun _=>0) w=0:=zaj (zG (q:=fun _=>0) hw)
 have h3:at0 (zeB m) v=zF m v:=zaj (zvR (by omega))
 have h4:at0 (zeB m) w=zF m w:=zaj (zvR hw)
 unfold za4 zaz
 rw [h1,h2,h3,h4]
 simp
theorem zyd (m:KM) (h64:m.W.toNat≤64):Fn Tryz.prog T zc4 [.d (.arr 1 (List.replicate m.W.toNat (D.int .i64 0))),.d (dI (zeB m))] [] (.d (.tup [dI (ptL m.W.toNat (z7 m 0)),.int .i64 0])) []:=by
 have cs:=ztS (T:=T) (zsN m.W.toNat) h64 (zeB m) (by simp [zeB])
 rwa [show dI (ptL m.W.toNat fun _=>0)=D.arr 1 (List.replicate m.W.toNat (D.int .i64 0)) by show D.arr 1 ((ptL m.W.toNat fun _=>0).map (D.int .i64))=_;unfold ptL;rw [List.map_map];exact congrArg _ (z2 _ _).symm,zb2 fun w hw=>zqh m hw] at cs
theorem zx3 (m:KM) (h64:m.W.toNat≤64) (i:Nat):Fn Tryz.prog T zc4 [.d (dI (ptL m.W.toNat (z7 m i))),.d (dI (ptL m.W.toNat (zdZ (zeX m.rel (z7 m i) m.W.toNat))))] [] (.d (.tup [dI (ptL m.W.toNat (z7 m (i+1))),.int .i64 0])) []:=by
 have cs:=ztS (T:=T) (zeL m i) h64 (ptL m.W.toNat (zdZ (zeX m.rel (z7 m i) m.W.toNat))) z1
 rwa [zb2 fun w hw=>zxk hw] at cs
theorem zlK {α:Type} {n w:Nat} {f:Nat→D} {g:Nat→D} {d:D} (hd:d=f w):(((List.range n).map fun u=>if u < w then f u else g u).set w d)=(List.range n).map fun u=>if u < w+1 then f u else g u:=by
 refine (zbL _).trans (zC fun u hu=>?_)
 by_cases e:u=w
 ·subst e;rw [if_pos rfl,if_pos (by omega),hd]
 ·rw [if_neg e]
  by_cases e2:u < w
  ·rw [if_pos e2,if_pos (by omega)]
  ·rw [if_neg e2,if_neg (by omega)]
theorem zyn (hT:zbV T) (hX:zfj T) {m:KM} (hk0:za m=0) (N:Nat):ItF Tryz.prog T false zdy [.ptr 0 0,.ptr 1 0] [zR m,.box [.d (dUU m.rel)]] (zew m N 0):=by
 have hg0:=zn hk0
 have w1:=hg0.w1
 have w2:=hg0.w2
 have n4:=hg0.n4
 have h64:m.W.toNat≤64:=by omega
 refine zqx zm zpj rfl (by show 3≤93;decide) fun l=>?_
 (repeat' ((conv=>whnf);first|refine vA ?_|refine vK fun hg=>?_|refine vT ?_|(refine vP ?_ ?_;·omega)|fail));all_goals try conv=>whnf
 refine zf (fun ((w,zs):Nat×List D)=>[(0,.yld l),(1,.ptr 0 0),(2,.ptr 1 0),(4,.own 3),(5,.own 4),(22,.d (.int .i64 ((List.replicate m.W.toNat (D.int .i64 0)).length:Int))),(23,.d (.int .i64 ((w:Int))))]) (fun ((w,zs):Nat×List D)=>[(0,some (zR m)),(1,some (.box [.d (dUU m.rel)])),(2,some (.todo (some (zew m N 0)))),(3,some (.row 1 (List.replicate m.W.toNat (D.int .i64 0)))),(4,some (.row 1 zs))]) 5 (fun ((w,zs):Nat×List D)=>w≤m.W.toNat∧zs=(List.range m.W.toNat).map fun u=>if u < w then D.int .i64 (zF m u) else D.int .i64 0) (fun ((w,zs):Nat×List D)=>m.W.toNat - w) ((0,List.replicate m.W.toNat (D.int .i64 0))) [(0,0),(1,1),(2,2),(3,3),(4,4)] [] (⟨by simp,by simp only [Nat.not_lt_zero,if_false];exact z2 _ _⟩) (by (refine ⟨rfl,rfl,rfl,?_,?_⟩;repeat' first|exact trivial|exact rfl|refine And.intro ?_ ?_|refine ⟨_,rfl,?_⟩|decide)) ?_
 rintro ⟨w,zs⟩ ⟨hw,hz⟩
 have hzl:zs.length=m.W.toNat:=by rw [hz];simp
 by_cases hwl:w < m.W.toNat
 ·have cf:=zg8 (T:=T) m (w:Int)
  rw [zgx hk0 hwl] at cf
  (repeat' ((conv=>whnf);first|refine vA ?_|(refine vF ?_ ?_<;>intro hc<;>try simp only [vL] at hc)|refine vT ?_|((first|refine vO ?_ ?_|refine vP ?_ ?_);·omega)|refine yD cf ⟨⟨rfl,rfl⟩,⟨rfl,rfl⟩,rfl⟩ rfl ?_));all_goals try conv=>whnf
  ·refine ⟨(w+1,_),[(0,0),(1,1),(2,2),(3,3),(4,4)],[],?_,?_,by (refine ⟨rfl,rfl,rfl,?_,?_⟩;repeat' first|exact trivial|exact rfl|refine And.intro ?_ ?_|refine ⟨_,rfl,?_⟩|decide)⟩
   ·exact ⟨by (omega),by rw [hz];exact zlK (α:=Nat) rfl⟩
   ·((simp only [vM] at *;omega))
  all_goals omega
 ·have e0:w=m.W.toNat:=by omega
  obtain rfl:zs=(zeB m).map (D.int .i64):=by
   rw [hz,zeB,List.map_map]
   exact zC fun u hu=>by rw [if_pos (by omega)];rfl
  (repeat' ((conv=>whnf);first|refine vA ?_|(refine vF ?_ ?_<;>intro hc<;>try simp only [vL] at hc)|refine vT ?_|refine yN (zyd m h64) ⟨⟨rfl,rfl⟩,⟨rfl,rfl⟩,rfl⟩ ?_));all_goals try conv=>whnf
  ·omega
  ·refine zf (fun (i:Nat)=>[(0,.yld l),(1,.ptr 0 0),(2,.ptr 1 0),(4,.d (dI (ptL m.W.toNat (z7 m i))))]) (fun (i:Nat)=>[(0,some (zR m)),(1,some (.box [.d (dUU m.rel)])),(2,some (.todo (some (zew m N i))))]) 3 (fun (i:Nat)=>i≤N) (fun (i:Nat)=>N+1 - i) (0) [(0,0),(1,1),(2,2)] [] (by simp) (by (refine ⟨rfl,rfl,rfl,?_,?_⟩;repeat' first|exact trivial|exact rfl|refine And.intro ?_ ?_|refine ⟨_,rfl,?_⟩|decide)) ?_
   rintro i hi
   have hd:=zsx (m:=m) hi
   (repeat' ((conv=>whnf);first|refine vA ?_|refine vT ?_));all_goals try conv=>whnf
   refine ⟨rfl,[dI (ptL m.W.toNat (z7 m i))],zew m N (i+1),congrArg (fun l=>some (Ob.todo (some l))) hd,rfl,rfl,rfl,?_,?_⟩
   ·by_cases hiN:i < N
    ·have hne:(false || !(zew m N (i+1)).isEmpty)=true:=by rw [zsx (m:=m) (i:=i+1) (by omega)];rfl
     rw [hne]
     (repeat' ((conv=>whnf);first|refine vA ?_|refine vG ?_|refine vK fun hg=>?_|refine vT ?_|(refine vP ?_ ?_;·omega)|fail));all_goals try conv=>whnf
     obtain ⟨bk,hbk⟩ : ∃ bk:Nat→KS,bk=zeX m.rel (z7 m i) m.W.toNat:=⟨_,rfl⟩
     refine zf (fun ((w,es,zs):Nat×List (D×D)×List D)=>[(0,.yld l),(1,.ptr 0 0),(2,.ptr 1 0),(4,.d (dI (ptL m.W.toNat (z7 m i)))),(7,.map 3),(8,.own 4),(47,.d (.int .i64 ((List.replicate m.W.toNat (D.int .i64 0)).length:Int))),(48,.d (.int .i64 ((w:Int))))]) (fun ((w,es,zs):Nat×List (D×D)×List D)=>[(0,some (zR m)),(1,some (.box [.d (dUU m.rel)])),(2,some (.todo (some (zew m N (i+1))))),(3,some (.map es)),(4,some (.row 1 zs))]) 5 (fun ((w,es,zs):Nat×List (D×D)×List D)=>w≤m.W.toNat∧es=zdf 0 (zes bk w)∧zs=(List.range m.W.toNat).map fun u=>if u < w then D.int .i64 (zdZ bk u:Int) else D.int .i64 0) (fun ((w,es,zs):Nat×List (D×D)×List D)=>m.W.toNat - w) ((0,[],List.replicate m.W.toNat (D.int .i64 0))) [(0,0),(1,1),(2,2),(3,3),(4,4)] [] (⟨by simp,rfl,by simp only [Nat.not_lt_zero,if_false];exact z2 _ _⟩) (by (refine ⟨rfl,rfl,rfl,?_,?_⟩;repeat' first|exact trivial|exact rfl|refine And.intro ?_ ?_|refine ⟨_,rfl,?_⟩|decide)) ?_
     rintro ⟨w,es,zs⟩ ⟨hw,hes,hz⟩
     obtain ⟨dl,hdl⟩ : ∃ dl,dl=zes bk w:=⟨_,rfl⟩
     rw [← hdl] at hes
     have hzl:zs.length=m.W.toNat:=by rw [hz];simp
     by_cases hwl:w < m.W.toNat
     ·(repeat' ((conv=>whnf);first|refine vA ?_|(refine vF ?_ ?_<;>intro hc<;>try simp only [vL] at hc)|refine vJ fun hg=>?_|refine vT ?_));all_goals try conv=>whnf
      ·refine zf (fun ((k,t):Nat×KS)=>[(0,.yld l),(1,.ptr 0 0),(2,.ptr 1 0),(4,.d (dI (ptL m.W.toNat (z7 m i)))),(7,.map 3),(8,.own 4),(9,.d (.int .i64 ((w:Int)))),(10,.d (.str t)),(47,.d (.int .i64 ((List.replicate m.W.toNat (D.int .i64 0)).length:Int))),(48,.d (.int .i64 ((w:Int)))),(51,.d (dUU m.rel)),(52,.d (.int .i64 ((m.rel.map dU).length:Int))),(53,.d (.int .i64 ((k:Int))))]) (fun ((k,t):Nat×KS)=>[(0,some (zR m)),(1,some (.box [.d (dUU m.rel)])),(2,some (.todo (some (zew m N (i+1))))),(3,some (.map es)),(4,some (.row 1 zs))]) 5 (fun ((k,t):Nat×KS)=>k≤m.rel.length∧t=zge ((m.rel.take k).map fun r=>zak (z7 m i) (r.getD w 0#64) m.W.toNat)) (fun ((k,t):Nat×KS)=>m.rel.length - k) ((0,[])) [(0,0),(1,1),(2,2),(3,3),(4,4)] [] (⟨by simp,rfl⟩) (by (refine ⟨rfl,rfl,rfl,?_,?_⟩;repeat' first|exact trivial|exact rfl|refine And.intro ?_ ?_|refine ⟨_,rfl,?_⟩|decide)) ?_
       rintro ⟨k,t⟩ ⟨hk,ht⟩
       by_cases hkl:k < m.rel.length
       ·obtain ⟨r,hr⟩ : ∃ r,m.rel[k]? = some r:=⟨_,List.getElem?_eq_getElem hkl⟩
        have hrl:=hg0.len r (List.mem_of_getElem? hr)
        obtain ⟨s,hs⟩ : ∃ s,r[w]? = some s:=⟨_,List.getElem?_eq_getElem (by omega)⟩
        have hsb:=(zhG (by omega)).1 (hg0.rel r (List.mem_of_getElem? hr) s (List.mem_of_getElem? hs))
        have hl1:=zt6 ((m.rel.take k).map fun r=>zak (z7 m i) (r.getD w 0#64) m.W.toNat)
        have hl2:(zgy (zak (z7 m i) s m.W.toNat)).length≤16:=(zj9 15 _).2
        have hl3:((m.rel.take k).map fun r=>zak (z7 m i) (r.getD w 0#64) m.W.toNat).length≤4:=by rw [List.length_map,List.length_take];omega
        rw [← ht] at hl1
        have hl4:([32]:List UInt8).length=1:=rfl
        (repeat' ((conv=>whnf);first|refine vA ?_|(refine vF ?_ ?_<;>intro hc<;>try simp only [vL] at hc)|refine vT ?_|refine vN ‹_› ?_|((first|refine vO ?_ ?_|refine vP ?_ ?_);·first|omega|(simp only [vM] at *;omega))|refine yD (zvb hT h64 s hsb) ⟨⟨rfl,rfl⟩,⟨rfl,rfl⟩,rfl⟩ rfl ?_|refine yD (hX _) (by (repeat refine ⟨⟨rfl,rfl⟩,?_⟩);rfl) rfl ?_));all_goals try conv=>whnf
        ·refine ⟨(k+1,_),[(0,0),(1,1),(2,2),(3,3),(4,4)],[],?_,?_,by (refine ⟨rfl,rfl,rfl,?_,?_⟩;repeat' first|exact trivial|exact rfl|refine And.intro ?_ ?_|refine ⟨_,rfl,?_⟩|decide)⟩
         ·refine ⟨by (omega),?_⟩
          rw [List.take_add_one,hr,Option.toList_some,List.map_append,List.map_singleton,zyq,← ht,zhK hs]
         ·((simp only [vM] at *;omega))
        all_goals (try simp only [List.length_append,hl4])
        all_goals omega
       ·have ek:k=m.rel.length:=by omega
        subst ek
        rw [List.take_length] at ht
        have ht:t=bk w:=by rw [ht,hbk];rfl
        subst ht
        subst hes
        have hfd:=zsm (bk w) dl 0
        have hd64:dl.length≤64:=by rw [hdl];have:=zua bk w;omega
        by_cases hm:bk w∈dl
        ·rw [if_pos hm,Nat.zero_add] at hfd
         have ea:zes bk (w+1)=dl:=by rw [zha,← hdl];exact if_pos hm
         (repeat' ((conv=>whnf);first|refine vA ?_|refine vE ?_|refine vG ?_|(refine vF ?_ ?_<;>intro hc<;>try simp only [vL] at hc)|refine vT ?_|(refine vQ ?_ fun x hx=>?_;·omega)|((first|refine vO ?_ ?_|refine vP ?_ ?_);·omega)|refine zc1.mk _ ‹_› ?_));all_goals try conv=>whnf
         ·omega
         ·refine ⟨(w+1,_,_),[(0,0),(1,1),(2,2),(3,3),(4,4)],[],?_,?_,by (refine ⟨rfl,rfl,rfl,?_,?_⟩;repeat' first|exact trivial|exact rfl|refine And.intro ?_ ?_|refine ⟨_,rfl,?_⟩|decide)⟩
          ·refine ⟨by (omega),by rw [ea],?_⟩
           rw [hz]
           exact zlK (α:=Nat) (by rw [zdZ,ea])
          ·((simp only [vM] at *;omega))
         all_goals omega
        ·rw [if_neg hm] at hfd
         have ea:zes bk (w+1)=dl++[bk w]:=by rw [zha,← hdl];exact if_neg hm
         have eb:zdf 0 (dl++[bk w])=zdf 0 dl++[(.str (bk w),.int .i64 ((zdf 0 dl).length:Int))]:=by rw [zoI,zpv,Nat.zero_add]
         have ec:(dl++[bk w]).idxOf (bk w)=(zdf 0 dl).length:=by rw [zpv,List.idxOf_append,if_neg hm];simp
         have hfn:zaa (zdf 0 dl++[(.str (bk w),.int .i64 ((zdf 0 dl).length:Int))]) (.str (bk w))=some (some (.int .i64 ((zdf 0 dl).length:Int))):=by rw [zf8 _ _ _ hfd];simp [zaa,D.eqk,D.same]
         (repeat' ((conv=>whnf);first|refine vA ?_|(refine vF ?_ ?_<;>intro hc<;>try simp only [vL] at hc)|refine vT ?_|(refine vQ ?_ fun x hx=>?_;·omega)|((first|refine vO ?_ ?_|refine vP ?_ ?_);·omega)|refine zc1.mk _ ‹_› ?_));all_goals try conv=>whnf
         ·omega
         ·refine ⟨(w+1,_,_),[(0,0),(1,1),(2,2),(3,3),(4,4)],[],?_,?_,by (refine ⟨rfl,rfl,rfl,?_,?_⟩;repeat' first|exact trivial|exact rfl|refine And.intro ?_ ?_|refine ⟨_,rfl,?_⟩|decide)⟩
          ·refine ⟨by (omega),by rw [ea,eb],?_⟩
           rw [hz]
           exact zlK (α:=Nat) (by rw [zdZ,ea,ec])
          ·((simp only [vM] at *;omega))
         all_goals omega
      ·omega
     ·have e0:w=m.W.toNat:=by omega
      obtain rfl:zs=(ptL m.W.toNat (zdZ bk)).map (D.int .i64):=by
       rw [hz];unfold ptL;rw [List.map_map]
       exact zC fun u hu=>by rw [if_pos (by omega)];rfl
      have ck:=zx3 (T:=T) m h64 i
      rw [← hbk] at ck
      (repeat' ((conv=>whnf);first|refine vA ?_|(refine vF ?_ ?_<;>intro hc<;>try simp only [vL] at hc)|refine vJ fun hg=>?_|refine vT ?_|refine yN ck ⟨⟨rfl,rfl⟩,⟨rfl,rfl⟩,rfl⟩ ?_));all_goals try conv=>whnf
      ·omega
      ·refine ⟨i+1,[(0,0),(1,1),(2,2)],[],?_,?_,by (refine ⟨rfl,rfl,rfl,?_,?_⟩;repeat' first|exact trivial|exact rfl|refine And.intro ?_ ?_|refine ⟨_,rfl,?_⟩|decide)⟩
       ·(omega)
       ·(omega)
    ·have hne:(false || !(zew m N (i+1)).isEmpty)=false:=by rw [zAI (m:=m) (i:=i+1) (by omega)];rfl
     rw [hne]
     trivial
   ·(repeat' ((conv=>whnf);first|refine vH ?_|refine vT ?_));all_goals try conv=>whnf
    right;rfl
end Go.Ab
