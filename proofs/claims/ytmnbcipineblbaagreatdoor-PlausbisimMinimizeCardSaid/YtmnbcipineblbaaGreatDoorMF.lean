/- A part of the proofs of this seat: functions and their contracts. -/
import Derived.Test.YtmnbcipineblbaaGreatDoorME
set_option linter.unusedVariables false
set_option linter.unusedSimpArgs false
set_option linter.unusedSectionVars false
namespace Go.Ab
open Go Go.Proofs
set_option maxRecDepth 10000
set_option maxHeartbeats 4000000
variable {T:Nat→Obj→Prop}
theorem zhp {n:Nat} {q:Nat→Nat} {k u:Nat} (h:(zB n q)[k]? = some u):(z2 n q)[k]? = some (u:Int):=by rw [z2,List.getElem?_map,h];rfl
theorem zpv {n:Nat} {q:Nat→Nat} {k:Nat} (h:k < (zB n q).length) : ∃ u,(zB n q)[k]? = some u∧u < n∧q u=u:=by
 have hu:=List.getElem?_eq_getElem h
 have:=List.mem_of_getElem? hu
 unfold zB at this
 obtain ⟨h1,h2⟩:=List.mem_filter.1 this
 exact ⟨_,hu,List.mem_range.1 h1,of_decide_eq_true h2⟩
theorem zqh (k:Nat):(1#64 <<< k) * 2=1#64 <<< (k+1):=by
 apply BitVec.eq_of_toNat_eq
 rw [BitVec.toNat_mul,BitVec.toNat_shiftLeft,BitVec.toNat_shiftLeft,Nat.shiftLeft_eq,Nat.shiftLeft_eq,Nat.pow_succ]
 show (1 * 2 ^ k % 2 ^ 64) * 2 % 2 ^ 64=1 * (2 ^ k * 2) % 2 ^ 64
 omega
theorem zw3 {n:Nat} {q:Nat→Nat} (hn:n≤64) (s:BitVec 64):Fn Tryz.prog T zfl [.d (.u64 s),.own 0] [.row 1 ((z2 n q).map (D.int .i64))]
  (.d (.u64 (zcY s (z2 n q) (zB n q).length))) [some (.row 1 ((z2 n q).map (D.int .i64)))]:=by
 have hrl:(z2 n q).length=(zB n q).length:=by simp [z2]
 have hcl:(zB n q).length≤n:=zbF _ _
 refine zaQ zw zk5 (by show 2≤27;decide) _ (fun e env mem n h=>h) ?_
 (repeat' ((conv=>whnf);first|refine vA ?_|refine vJ fun hg=>?_|refine vT ?_));all_goals try conv=>whnf
 refine zg (fun ((k,o,b):Nat×BitVec 64×BitVec 64)=>[(0,.d (.u64 (s))),(5,.d (.u64 (o))),(6,.d (.u64 (b))),(9,.own 0),(10,.d (.int .i64 ((((z2 n q).map (D.int .i64)).length:Int)))),(11,.d (.int .i64 ((k:Int)))),(1000000,.own 0)]) (fun ((k,o,b):Nat×BitVec 64×BitVec 64)=>[(0,some (.row 1 ((z2 n q).map (D.int .i64))))]) 1 (fun ((k,o,b):Nat×BitVec 64×BitVec 64)=>k≤(zB n q).length∧o=zcY s (z2 n q) k∧b=1#64 <<< k) (fun ((k,o,b):Nat×BitVec 64×BitVec 64)=>(zB n q).length - k) ((0,0#64,1#64)) [(0,0)] [] (⟨by simp,rfl,rfl⟩) (by (refine ⟨rfl,rfl,rfl,?_,?_⟩;repeat' first|exact trivial|exact rfl|refine And.intro ?_ ?_|refine ⟨_,rfl,?_⟩|decide)) ?_
 rintro ⟨k,o,b⟩ ⟨hk,hI,hb⟩
 by_cases hkl:k < (zB n q).length
 ·obtain ⟨u,hu,hun,-⟩:=zpv hkl
  have e4:(z2 n q)[(k:Int).toNat]? = some (u:Int):=by rw [Int.toNat_natCast];exact zhp hu
  have e6:at0 (z2 n q) k=(u:Int):=zu (zhp hu)
  have e7:(zcY s (z2 n q) k).getLsbD k=false:=by rw [zmf];simp
  (repeat' ((conv=>whnf);first|refine vA ?_|(refine vF ?_ ?_<;>intro hc<;>try simp only [vL] at hc)|refine vT ?_|refine vN ‹_› ?_|((first|refine vO ?_ ?_|refine vP ?_ ?_);·first|omega|(simp only [vM] at *;omega))|refine vP (show (_:BitVec 64)≠_ by decide) ?_));all_goals try conv=>whnf
  ·refine ⟨(k+1,_,_),[(0,0)],[],?_,?_,by (refine ⟨rfl,rfl,rfl,?_,?_⟩;repeat' first|exact trivial|exact rfl|refine And.intro ?_ ?_|refine ⟨_,rfl,?_⟩|decide)⟩
   ·refine ⟨by (omega),?_,?_⟩
    ·rw [zxr (by rw [e6];exact (zim s u).1 ‹_›),hI,hb,← ztj e7]
    ·rw [hb];exact zqh k
   ·((simp only [vM] at *;omega))
  ·refine ⟨(k+1,_,_),[(0,0)],[],?_,?_,by (refine ⟨rfl,rfl,rfl,?_,?_⟩;repeat' first|exact trivial|exact rfl|refine And.intro ?_ ?_|refine ⟨_,rfl,?_⟩|decide)⟩
   ·refine ⟨by (omega),?_,?_⟩
    ·rw [zvK (by rw [e6];exact Bool.eq_false_iff.2 fun h=>‹¬ _› ((zim s u).2 h)),hI]
    ·rw [hb];exact zqh k
   ·((simp only [vM] at *;omega))
  ·omega
 ·(repeat' ((conv=>whnf);first|refine vA ?_|(refine vF ?_ ?_<;>intro hc<;>try simp only [vL] at hc)|refine vT ?_|(refine vQ ?_ fun x hx=>?_;·omega)|((first|refine vO ?_ ?_|refine vP ?_ ?_);·omega)|fail));all_goals try conv=>whnf
  ·omega
  ·omega
  ·obtain rfl:k=(zB n q).length:=by omega
   subst hI
   refine ⟨trivial,_,[(0,0)],[],rfl,.inl (by (repeat' exact rfl)),⟨by rfl,by rfl,by rfl,trivial,by (repeat' first|exact trivial|exact rfl|refine And.intro ?_ ?_|refine ⟨_,rfl,?_⟩|exact of_decide_eq_true rfl)⟩,by (repeat' first|exact trivial|exact rfl|refine And.intro ?_ ?_)⟩
theorem zuk {n:Nat} {q:Nat→Nat} (hn:n≤64) (s:BitVec 64):Fn Tryz.prog T zem [.d (.u64 s),.own 0] [.row 1 (zaR n q)]
  (.d (.u64 (zL (z8 q) s n))) [some (.row 1 (zaR n q))]:=by
 have hpl:=zaz (n:=n) (q:=z8 q)
 refine zaQ zw zi0 (by show 2≤26;decide) _ (fun e env mem n h=>h) ?_
 (repeat' ((conv=>whnf);first|refine vA ?_|refine vJ fun hg=>?_|refine vT ?_));all_goals try conv=>whnf
 refine zg (fun ((k,o):Nat×BitVec 64)=>[(0,.d (.u64 (s))),(5,.d (.u64 (o))),(8,.own 0),(9,.d (.int .i64 (((zaR n q).length:Int)))),(10,.d (.int .i64 ((k:Int)))),(1000000,.own 0)]) (fun ((k,o):Nat×BitVec 64)=>[(0,some (.row 1 (zaR n q)))]) 1 (fun ((k,o):Nat×BitVec 64)=>k≤n∧o=zL (z8 q) s k) (fun ((k,o):Nat×BitVec 64)=>n - k) ((0,0#64)) [(0,0)] [] (⟨by simp,rfl⟩) (by (refine ⟨rfl,rfl,rfl,?_,?_⟩;repeat' first|exact trivial|exact rfl|refine And.intro ?_ ?_|refine ⟨_,rfl,?_⟩|decide)) ?_
 rintro ⟨k,o⟩ ⟨hk,hI⟩
 by_cases hkl:k < n
 ·have e1:(ptL n (z8 q))[(k:Int).toNat]? = some ((z8 q k:Nat):Int):=zag hkl
  (repeat' ((conv=>whnf);first|refine vA ?_|(refine vF ?_ ?_<;>intro hc<;>try simp only [vL] at hc)|refine vT ?_|refine vN ‹_› ?_|((first|refine vO ?_ ?_|refine vP ?_ ?_);·first|omega|(simp only [vM] at *;omega))|refine vP (show (_:BitVec 64)≠_ by decide) ?_));all_goals try conv=>whnf
  ·refine ⟨(k+1,_),[(0,0)],[],?_,?_,by (refine ⟨rfl,rfl,rfl,?_,?_⟩;repeat' first|exact trivial|exact rfl|refine And.intro ?_ ?_|refine ⟨_,rfl,?_⟩|decide)⟩
   ·refine ⟨by (omega),?_⟩
    rw [zbY,if_pos ((zim s k).1 ‹_›),hI];rfl
   ·((simp only [vM] at *;omega))
  ·refine ⟨(k+1,o),[(0,0)],[],?_,?_,by (refine ⟨rfl,rfl,rfl,?_,?_⟩;repeat' first|exact trivial|exact rfl|refine And.intro ?_ ?_|refine ⟨_,rfl,?_⟩|decide)⟩
   ·refine ⟨by (omega),?_⟩
    rw [zbY,if_neg fun h=>‹¬ _› ((zim s k).2 h),hI]
   ·((simp only [vM] at *;omega))
  ·omega
 ·(repeat' ((conv=>whnf);first|refine vA ?_|(refine vF ?_ ?_<;>intro hc<;>try simp only [vL] at hc)|refine vT ?_|(refine vQ ?_ fun x hx=>?_;·omega)|((first|refine vO ?_ ?_|refine vP ?_ ?_);·omega)|fail));all_goals try conv=>whnf
  ·omega
  ·omega
  ·obtain rfl:k=n:=by omega
   subst hI
   refine ⟨trivial,_,[(0,0)],[],rfl,.inl (by (repeat' exact rfl)),⟨by rfl,by rfl,by rfl,trivial,by (repeat' first|exact trivial|exact rfl|refine And.intro ?_ ?_|refine ⟨_,rfl,?_⟩|exact of_decide_eq_true rfl)⟩,by (repeat' first|exact trivial|exact rfl|refine And.intro ?_ ?_)⟩
theorem zxw {p:PM} (hc0:zy p=0) {q:Nat→Nat} (S:zh3 p q) {s:BitVec 64} (hs:s∈p.val):zcY s (z2 p.W.toNat q) (zB p.W.toNat q).length=zL (z8 q) s p.W.toNat:=by
 have h64:=W64 hc0
 have hcl:(zB p.W.toNat q).length≤p.W.toNat:=zbF _ _
 have hf : ∀ {v w},v < p.W.toNat→w < p.W.toNat→q v=q w→s.getLsbD v=true→s.getLsbD w=true:=by
  intro v w hv hw h h1
  obtain ⟨i,hi,rfl⟩:=List.mem_iff_getElem.1 hs
  have:=(zwS.1 (S.fact hv hw h) i).1
  rw [zmG (List.getElem?_eq_getElem hi)] at this
  exact this h1
 refine BitVec.eq_of_getLsbD_eq fun b hb=>?_
 rw [Bool.eq_iff_iff,zc5 p.W.toNat fun w hw=>S.num64 hc0 hw,zmf]
 simp only [Bool.and_eq_true,decide_eq_true_eq]
 constructor
 ·rintro ⟨⟨-,h1⟩,h2⟩
  obtain ⟨u,hu,hun,huq⟩:=zpv h1
  rw [zu (zhp hu)] at h2
  exact ⟨u,hun,h2,(zgT S.canon hu).2.2⟩
 ·rintro ⟨w,hw,h1,rfl⟩
  have h2:=zgc S.canon hw
  refine ⟨⟨hb,zmb S.canon hw⟩,?_⟩
  rw [zu (zhp h2)]
  have hqw:=S.canon.le w hw
  exact hf hw (by omega) (S.canon.idem w hw).symm h1
theorem zrP (p:PM) (hp:zav p.rank):Fn Tryz.prog T zdG [.d (dPM p)] [] (.d (zy7 (zo8 p))) []:=by
 have cc:=zpj (T:=T) p hp
 refine zd zw zhI (by show 1≤119;decide) ?_
 by_cases hc0:zy p=0
 ·obtain ⟨q,hq⟩ : ∃ q,q=zaO p 64:=⟨_,rfl⟩
  have hg:=zW hc0
  have w1:=hg.w1
  have w2:=hg.w2
  have v8:=hg.v8
  have n4:=hg.n4
  have S:zh3 p q:=by rw [hq];exact zsD hc0 (by omega)
  have hcan:=S.canon
  have hpl:=zaz (n:=p.W.toNat) (q:=q)
  have h64:=W64 hc0
  rw [show zaw p 64=(ptL p.W.toNat q,0) by rw [zaw,if_neg (by omega),if_neg (by omega),hq];rfl] at cc
  (repeat' ((conv=>whnf);first|refine vA ?_|refine vH ?_|refine vJ fun hg=>?_|refine vT ?_|(refine vP ?_ ?_;·omega)|refine yN cc ⟨⟨rfl,rfl⟩,rfl⟩ ?_));all_goals try conv=>whnf
  ·refine zg (fun ((k,zs,ys):Nat×List D×List D)=>[(1,.ptr 0 0),(2,.ptr 1 0),(7,.own 3),(8,.own 2),(34,.d (dI (ptL p.W.toNat q))),(35,.d (.int .i64 ((((ptL p.W.toNat q).map (D.int .i64)).length:Int)))),(36,.d (.int .i64 ((k:Int))))]) (fun ((k,zs,ys):Nat×List D×List D)=>[(0,some (zaj p)),(1,some zeA),(2,some (.row 1 zs)),(3,some (.row 1 ys))]) 4 (fun ((k,zs,ys):Nat×List D×List D)=>k≤p.W.toNat∧zs=(List.range p.W.toNat).map (fun u=>D.int .i64 (if u < k then (z8 q u:Int) else 0))∧ys=(zB k q).map fun (u:Nat)=>D.int .i64 (u:Int)) (fun ((k,zs,ys):Nat×List D×List D)=>p.W.toNat - k) ((0,List.replicate p.W.toNat (D.int .i64 0),[])) [(0,0),(1,1),(2,2)]   [3] (⟨by simp,by simp only [Nat.not_lt_zero,if_false];exact zY _ _,rfl⟩) (by (refine ⟨rfl,rfl,rfl,?_,?_⟩;repeat' first|exact trivial|exact rfl|exact ⟨_,rfl⟩|refine And.intro ?_ ?_|refine ⟨_,rfl,?_⟩|decide)) ?_
   rintro ⟨k,zs,ys⟩ ⟨hk,hz,hy⟩
   have hzl:zs.length=p.W.toNat:=by rw [hz];simp
   have hyl:ys.length≤k:=by rw [hy,List.length_map];exact zbF k q
   by_cases hkl:k < p.W.toNat
   ·have e1:(ptL p.W.toNat q)[k]? = some ((q k:Nat):Int):=zag hkl
    have b1:=hcan.le k hkl
    have e2:zs[((q k:Nat):Int).toNat]? = some (D.int .i64 (if q k < k then (z8 q (q k):Int) else 0)):=by rw [hz,List.getElem?_map,Int.toNat_natCast,List.getElem?_range (by omega)];rfl
    have hset : ∀ x:Int,(z8 q k:Int)=x→zs.set k (D.int .i64 x)=(List.range p.W.toNat).map (fun u=>D.int .i64 (if u < k+1 then (z8 q u:Int) else 0)):=fun x hx=>by
     rw [hz]
     refine (zal _).trans (zj fun u hu=>?_)
     by_cases e:u=k
     ·subst e
      rw [if_pos rfl,if_pos (show u < u+1 by omega),hx]
     ·rw [if_neg e]
      by_cases e2:u < k
      ·rw [if_pos e2,if_pos (show u < k+1 by omega)]
      ·rw [if_neg e2,if_neg (show ¬ u < k+1 by omega)]
    (repeat' ((conv=>whnf);first|refine vA ?_|(refine vF ?_ ?_<;>intro hc<;>try simp only [vL] at hc)|refine vJ fun hg=>?_|refine vK fun hg=>?_|refine vT ?_|refine vN ‹_› ?_|(refine vP ?_ ?_;·first|omega|(simp only [vM] at *;omega))|fail));all_goals try conv=>whnf
    ·have hqk:q k=k:=by omega
     refine zbW.mk (D.int .i64 (ys.length:Int)) ⟨by omega,by
      show (zs.set k (D.int .i64 (ys.length:Int)))[q k]? = _
      rw [hqk,List.getElem?_set_self (by omega)]⟩ ?_
     (repeat' ((conv=>whnf);first|refine vT ?_|((first|refine vO ?_ ?_|refine vP ?_ ?_);·first|omega|(simp only [vM] at *;omega))|fail));all_goals try conv=>whnf
     refine ⟨(k+1,_,_),[(0,0),(1,1),(2,2),(3,5)],[],?_,?_,by (refine ⟨rfl,rfl,rfl,?_,?_⟩;repeat' first|exact trivial|exact rfl|refine And.intro ?_ ?_|refine ⟨_,rfl,?_⟩|decide)⟩
     ·refine ⟨by (omega),?_,?_⟩
      ·exact (List.set_set ..).trans (hset _ (by rw [zsc hqk,hy,List.length_map]))
      ·rw [zgJ,if_pos hqk,List.map_append,← hy];rfl
     ·((simp only [vM] at *;omega))
    ·have hqk:q k≠k:=by omega
     refine zbW.mk _ ⟨by omega,e2⟩ ?_
     (repeat' ((conv=>whnf);first|refine vT ?_|((first|refine vO ?_ ?_|refine vP ?_ ?_);·omega)|fail));all_goals try conv=>whnf
     refine ⟨(k+1,_,_),[(0,0),(1,1),(2,2),(3,3)],[],?_,?_,by (refine ⟨rfl,rfl,rfl,?_,?_⟩;repeat' first|exact trivial|exact rfl|refine And.intro ?_ ?_|refine ⟨_,rfl,?_⟩|decide)⟩
     ·refine ⟨by (omega),?_,?_⟩
      ·exact hset _ (by rw [if_pos (by omega),zvH hcan hkl])
      ·rw [zgJ,if_neg hqk,List.append_nil,← hy]
     ·((simp only [vM] at *;omega))
    ·omega
   ·have e0:k=p.W.toNat:=by omega
    subst e0
    obtain rfl:zs=zaR p.W.toNat q:=by
     rw [hz,zaR,ptL,List.map_map]
     exact zj fun u hu=>by rw [if_pos (by omega)];rfl
    obtain rfl:ys=(z2 p.W.toNat q).map (D.int .i64):=by rw [hy,z2,List.map_map];rfl
    have hrl:(z2 p.W.toNat q).length=(zB p.W.toNat q).length:=by simp [z2]
    clear hz hzl hy hyl
    have hcl:(zB p.W.toNat q).length≤p.W.toNat:=zbF _ _
    (repeat' ((conv=>whnf);first|refine vA ?_|(refine vF ?_ ?_<;>intro hc<;>try simp only [vL] at hc)|refine vJ fun hg=>?_|refine vT ?_|(refine vQ ?_ fun x hx=>?_;·omega)|((first|refine vO ?_ ?_|refine vP ?_ ?_);·omega)|fail));all_goals try conv=>whnf
    ·omega
    ·omega
    ·refine zg (fun ((i,vs):Nat×List D)=>[(1,.ptr 0 0),(2,.ptr 1 0),(7,.own 3),(8,.own 2),(11,.own 4),(62,.d (dU p.val)),(63,.d (.int .i64 (((p.val.map D.u64).length:Int)))),(64,.d (.int .i64 ((i:Int))))]) (fun ((i,vs):Nat×List D)=>[(0,some (zaj p)),(1,some zeA),(2,some (.row 1 (zaR p.W.toNat q))),(3,some (.row 1 ((z2 p.W.toNat q).map (D.int .i64)))),(4,some (.row 1 vs))]) 5 (fun ((i,vs):Nat×List D)=>i≤p.val.length∧vs=(p.val.take i).map fun s=>D.u64 (zL (z8 q) s p.W.toNat)) (fun ((i,vs):Nat×List D)=>p.val.length - i) ((0,[])) [(0,0),(1,1),(2,2),(3,3)]   [4] (⟨by simp,rfl⟩) (by (refine ⟨rfl,rfl,rfl,?_,?_⟩;repeat' first|exact trivial|exact rfl|exact ⟨_,rfl⟩|refine And.intro ?_ ?_|refine ⟨_,rfl,?_⟩|decide)) ?_
     rintro ⟨i,vs⟩ ⟨hi,hv⟩
     have hvl:vs.length=i:=by rw [hv,List.length_map,List.length_take];omega
     by_cases hil:i < p.val.length
     ·obtain ⟨s,hs⟩ : ∃ s,p.val[i]? = some s:=⟨_,List.getElem?_eq_getElem hil⟩
      (repeat' ((conv=>whnf);first|refine vA ?_|(refine vF ?_ ?_<;>intro hc<;>try simp only [vL] at hc)|refine vJ fun hg=>?_|refine vT ?_|refine vN ‹_› ?_));all_goals try conv=>whnf
      ·refine zX.objs [3] (zw3 h64 s) (by (repeat' first|exact rfl|refine And.intro ?_ ?_|refine ⟨_,rfl,?_⟩)) (by (repeat' first|exact rfl|refine And.intro ?_ ?_)) (by rfl) (by rfl) (by simp) ?_
       rw [zxw hc0 S (List.mem_of_getElem? hs)]
       (repeat' ((conv=>whnf);first|refine vT ?_|((first|refine vO ?_ ?_|refine vP ?_ ?_);·first|omega|(simp only [vM] at *;omega))|fail));all_goals try conv=>whnf
       ·refine ⟨(i+1,_),[(0,0),(1,1),(2,2),(3,3),(4,6)],[],?_,?_,by (refine ⟨rfl,rfl,rfl,?_,?_⟩;repeat' first|exact trivial|exact rfl|refine And.intro ?_ ?_|refine ⟨_,rfl,?_⟩|decide)⟩
        ·refine ⟨by (omega),?_⟩
         rw [za9 hs,List.map_append,← hv];rfl
        ·((simp only [vM] at *;omega))
      ·omega
     ·obtain rfl:i=p.val.length:=by omega
      obtain rfl:vs=(zcz p q).map D.u64:=by rw [hv,List.take_length,zcz,List.map_map];rfl
      clear hv
      have hvL:(zcz p q).length=p.val.length:=by simp [zcz]
      (repeat' ((conv=>whnf);first|refine vA ?_|(refine vF ?_ ?_<;>intro hc<;>try simp only [vL] at hc)|refine vJ fun hg=>?_|refine vT ?_|(refine vQ ?_ fun x hx=>?_;·omega)|fail));all_goals try conv=>whnf
      ·omega
      ·refine zg (fun ((a,os):Nat×List D)=>[(1,.ptr 0 0),(2,.ptr 1 0),(7,.own 3),(8,.own 2),(11,.own 4),(14,.own 5),(77,.d (.int .i64 (((p.cell.map dI).length:Int)))),(78,.d (.int .i64 ((a:Int))))]) (fun ((a,os):Nat×List D)=>[(0,some (zaj p)),(1,some zeA),(2,some (.row 1 (zaR p.W.toNat q))),(3,some (.row 1 ((z2 p.W.toNat q).map (D.int .i64)))),(4,some (.row 1 ((zcz p q).map D.u64))),(5,some (.row 1 os))]) 6 (fun ((a,os):Nat×List D)=>a≤p.cell.length∧os=((List.range a).map (zba p q)).map dU) (fun ((a,os):Nat×List D)=>p.cell.length - a) ((0,[])) [(0,0),(1,1),(2,2),(3,3),(4,4)]   [5] (⟨by simp,rfl⟩) (by (refine ⟨rfl,rfl,rfl,?_,?_⟩;repeat' first|exact trivial|exact rfl|exact ⟨_,rfl⟩|refine And.intro ?_ ?_|refine ⟨_,rfl,?_⟩|decide)) ?_
       rintro ⟨a,os⟩ ⟨ha,ho⟩
       have hol:os.length=a:=by rw [ho];simp
       by_cases hal:a < p.cell.length
       ·have cw:=zhR (T:=T) p hp (a:Int)
        rw [show za8 p (a:Int)=(zak p a,0) by rw [za8,if_neg (by omega),if_neg (by omega)];rfl] at cw
        (repeat' ((conv=>whnf);first|refine vA ?_|(refine vF ?_ ?_<;>intro hc<;>try simp only [vL] at hc)|refine vJ fun hg=>?_|refine vT ?_|refine yN cw ⟨⟨rfl,rfl⟩,⟨rfl,rfl⟩,rfl⟩ ?_));all_goals try conv=>whnf
        ·refine zg (fun ((k,rs):Nat×List D)=>[(1,.ptr 0 0),(2,.ptr 1 0),(7,.own 3),(8,.own 2),(11,.own 4),(14,.own 5),(16,.d (dU (zak p a))),(18,.own 6),(77,.d (.int .i64 (((p.cell.map dI).length:Int)))),(78,.d (.int .i64 ((a:Int)))),(87,.own 3),(88,.d (.int .i64 ((((z2 p.W.toNat q).map (D.int .i64)).length:Int)))),(89,.d (.int .i64 ((k:Int))))]) (fun ((k,rs):Nat×List D)=>[(0,some (zaj p)),(1,some zeA),(2,some (.row 1 (zaR p.W.toNat q))),(3,some (.row 1 ((z2 p.W.toNat q).map (D.int .i64)))),(4,some (.row 1 ((zcz p q).map D.u64))),(5,some (.row 1 os)),(6,some (.row 1 rs))]) 7 (fun ((k,rs):Nat×List D)=>k≤(zB p.W.toNat q).length∧rs=((zB p.W.toNat q).take k).map fun u=>D.u64 (zL (z8 q) (wkB p a u) p.W.toNat)) (fun ((k,rs):Nat×List D)=>(zB p.W.toNat q).length - k) ((0,[])) [(0,0),(1,1),(2,2),(3,3),(4,4),(5,5)]   [6] (⟨by simp,rfl⟩) (by (refine ⟨rfl,rfl,rfl,?_,?_⟩;repeat' first|exact trivial|exact rfl|exact ⟨_,rfl⟩|refine And.intro ?_ ?_|refine ⟨_,rfl,?_⟩|decide)) ?_
         rintro ⟨k,rs⟩ ⟨hk,hr⟩
         have hrsl:rs.length=k:=by rw [hr,List.length_map,List.length_take];omega
         by_cases hkl:k < (zB p.W.toNat q).length
         ·obtain ⟨u,hu,huW,-⟩:=zpv hkl
          have e4:(z2 p.W.toNat q)[(k:Int).toNat]? = some (u:Int):=by rw [Int.toNat_natCast];exact zhp hu
          have e5:(zak p a)[u]? = some (wkB p a u):=by rw [zkA,List.getElem?_map,List.getElem?_range huW];rfl
          (repeat' ((conv=>whnf);first|refine vA ?_|(refine vF ?_ ?_<;>intro hc<;>try simp only [vL] at hc)|refine vT ?_|refine vN ‹_› ?_|((first|refine vO ?_ ?_|refine vP ?_ ?_);·first|omega|(simp only [vM] at *;omega))|fail));all_goals try conv=>whnf
          ·refine zX.objs [2] (zuk h64 (wkB p a u)) (by (repeat' first|exact rfl|refine And.intro ?_ ?_|refine ⟨_,rfl,?_⟩)) (by (repeat' first|exact rfl|refine And.intro ?_ ?_)) (by rfl) (by rfl) (by simp) ?_
           (repeat' ((conv=>whnf);first|refine vT ?_|((first|refine vO ?_ ?_|refine vP ?_ ?_);·first|omega|(simp only [vM] at *;omega))|fail));all_goals try conv=>whnf
           ·refine ⟨(k+1,_),[(0,0),(1,1),(2,2),(3,3),(4,4),(5,5),(6,8)],[],?_,?_,by (refine ⟨rfl,rfl,rfl,?_,?_⟩;repeat' first|exact trivial|exact rfl|refine And.intro ?_ ?_|refine ⟨_,rfl,?_⟩|decide)⟩
            ·refine ⟨by (omega),?_⟩
             rw [za9 hu,List.map_append,← hr];rfl
            ·((simp only [vM] at *;omega))
          ·omega
         ·(repeat' ((conv=>whnf);first|refine vA ?_|(refine vF ?_ ?_<;>intro hc<;>try simp only [vL] at hc)|refine vT ?_|(refine vQ ?_ fun x hx=>?_;·omega)|((first|refine vO ?_ ?_|refine vS ?_ fun x hx=>?_|refine vP ?_ ?_);·first|omega|(simp only [vM] at *;omega))|fail));all_goals try conv=>whnf
          ·omega
          ·obtain rfl:k=(zB p.W.toNat q).length:=by omega
           rw [List.take_length] at hr
           obtain rfl:rs=(zba p q a).map D.u64:=by rw [hr,zba,List.map_map];rfl
           refine ⟨(a+1,_),[(0,0),(1,1),(2,2),(3,3),(4,4),(5,8)],[],?_,?_,by (refine ⟨rfl,rfl,rfl,?_,?_⟩;repeat' first|exact trivial|exact rfl|refine And.intro ?_ ?_|refine ⟨_,rfl,?_⟩|decide)⟩
           ·refine ⟨by (omega),?_⟩
            rw [List.range_succ,List.map_append,List.map_append,← ho];rfl
           ·((simp only [vM] at *;omega))
        ·omega
       ·obtain rfl:a=p.cell.length:=by omega
        obtain ⟨s,hs,-⟩:=zvQ hc0 S
        have cn:=zyr (T:=T) ((zB p.W.toNat q).length:Int) (zcz p q) ((List.range p.cell.length).map (zba p q))
        rw [show zea ((zB p.W.toNat q).length:Int) (zcz p q) ((List.range p.cell.length).map (zba p q))=(s,0) from hs] at cn
        rw [← hrl,show ((z2 p.W.toNat q).length:Int)=(((z2 p.W.toNat q).map (D.int .i64)).length:Int) by rw [List.length_map]] at cn
        subst ho
        (repeat' ((conv=>whnf);first|refine vA ?_|(refine vF ?_ ?_<;>intro hc<;>try simp only [vL] at hc)|refine vJ fun hg=>?_|refine vT ?_|refine yN cn ⟨⟨rfl,rfl⟩,⟨rfl,rfl⟩,⟨rfl,rfl⟩,rfl⟩ ?_));all_goals try conv=>whnf
        ·omega
        ·rw [zo8,if_neg (by omega),← hq,show (zsq p q).1=s by rw [hs]];rfl
 ·rw [show zaw p 64=([],zy p) by rw [zaw,if_pos hc0]] at cc
  (repeat' ((conv=>whnf);first|refine vA ?_|(refine vD ?_ ?_<;>intro hc<;>try simp only [vL] at hc)|refine vJ fun hg=>?_|refine vT ?_|(refine vP ?_ ?_;·omega)|refine yN cc ⟨⟨rfl,rfl⟩,rfl⟩ ?_));all_goals try conv=>whnf
  ·rw [zo8,if_pos hc0];rfl
  ·exact absurd ‹zy p=0› hc0
end Go.Ab
namespace Go.Ab
open Go Go.Proofs Go.MapKept
theorem Sim.grown {B : zt} {ρ : Nat → V} {M : Nat → Option Ob} {F : Nat → Prop} {σ : Nat → Option Nat} {a : Act} {w w' : World} (h : Sim B ρ M F σ a w) (hg : w.grownBy w' none) : Sim B ρ M F σ a w' := by
  refine h.step ⟨fun id ob hid => .inr ⟨rfl, ob, hid, zbg.refl ob⟩, fun id h1 h2 => ⟨h1, h2⟩, hg.size, fun b _ hb => hg.block b hb (by simp), fun b _ hx => hx, fun id b c e _ _ hc => ⟨c, (hg.block b (zi hc) (by simp)).trans hc, rfl⟩⟩
    (fun id ob hid => .inl ⟨hid, rfl, fun b hb => ?_⟩) h.inj h.mine h.free ?_ (fun b hb => hg.block b (h.olt b hb) (by simp)) (fun _ _ h => h)
  · obtain ⟨o, ho⟩ := (h.mem id ob hid).block hb
    exact hg.block b (zi ho) (by simp)
  · refine ⟨hg.os.trans h.kept.os, hg.tape.trans h.kept.tape, hg.output.trans h.kept.output, Nat.le_trans h.kept.size hg.size, fun b hb hR => (hg.block b (Nat.lt_of_lt_of_le hb h.kept.size) (by simp)).trans (h.kept.block b hb hR), fun b c e hc => ?_⟩
    obtain ⟨c', h1, h2⟩ := h.kept.cells b c e hc
    exact ⟨c', (hg.block b (zi h1) (by simp)).trans h1, h2⟩
theorem zvR {w w' : World} {X : Nat → Prop} {cell rank : List Int} {es : Array MapEntry} {clock : Nat} {blk : Nat → Nat} (hX : ∀ b, w.heap.size ≤ b → ¬X b)
    (hG : Grp (O2 (w.heap.size + 1)) w' w.heap.size ((zG cell rank cell.length).map fun p => (p.1, zd6 p.2)) es clock blk) : zk X w' (.map (zge cell rank)) (.map (some w.heap.size)) := by
  have hgl : ((zG cell rank cell.length).map fun p => (p.1, zd6 p.2)).length = (zA cell).length := by simp [zG]
  have hgd : ∀ i, i < (zA cell).length → ((zG cell rank cell.length).map fun p => (p.1, zd6 p.2)).getD i default = ((zA cell).getD i 0, z7 cell rank ((zA cell).getD i 0)) := by
    intro i hi
    simp only [zG, List.take_length, List.map_map, List.getD, List.getElem?_map, List.getElem?_eq_getElem hi, Option.map_some, Option.getD_some, Function.comp, ztu]
    rfl
  refine .map _ _ es clock (hX _ (Nat.le_refl _)) (zi hG.heap) hG.heap (by rw [hG.size, hgl]; simp) hG.st (fun i hi => ?_) (fun i hi => ?_)
  · rw [List.length_map] at hi
    rw [hG.key i (by rw [hgl]; exact hi), hgd i hi, show ((zA cell).map fun c => (D.int .i64 c, dI (z7 cell rank c))).getD i (.nil, .nil) = (D.int .i64 ((zA cell).getD i 0), dI (z7 cell rank ((zA cell).getD i 0))) by simp [List.getD, hi]]
    exact .int .i64 _ (by simp)
  · rw [List.length_map] at hi
    have hv := hG.val i (by rw [hgl]; exact hi)
    rw [hgd i hi] at hv
    rw [show ((zA cell).map fun c => (D.int .i64 c, dI (z7 cell rank c))).getD i (.nil, .nil) = (D.int .i64 ((zA cell).getD i 0), dI (z7 cell rank ((zA cell).getD i 0))) by simp [List.getD, hi]]
    simp only
    generalize z7 cell rank ((zA cell).getD i 0) = zs at hv
    replace hv : O2 (w.heap.size + 1) w' (es.getD i default).val (blk i) zs := hv
    obtain ⟨cap, c, e, q1, q2, q3, q4, q5, q6, q7⟩ := hv
    rw [q1]
    have hl : (zs.map (D.int .i64)).length = zs.length := List.length_map _
    rw [← hl]
    refine .arr 1 (zs.map (D.int .i64)) (blk i) 0 cap (fun j => c.getD j undef) (hX _ (by omega)) (zi q3) (fun x hx => ?_) (by omega) (by omega) (fun j hj => ?_) (fun j k hj hk => ?_)
    · obtain ⟨y, -, rfl⟩ := List.mem_map.1 hx; rfl
    · have hjc : j < c.size := by omega
      simp [World.cell?, q3, Array.getD_eq_getD_getElem?, hjc]
    · have : k = 0 := by omega
      subst this
      rw [hl] at hj
      rw [Nat.mul_one, Nat.add_zero]
      rw [q7 j hj, show (zs.map (D.int .i64)).getD j .nil = .int .i64 (zs.getD j 0) by simp [List.getD, hj]]
      exact .int .i64 _ (by simp)
end Go.Ab
namespace Go.Ab
open Go Go.Proofs Go.MapKept
variable {T : Nat → Obj → Prop}
theorem zvS {cell rank : List Int} (hle : cell.length ≤ rank.length) (h64 : rank.length ≤ 64) : Fn Tryz.prog T zdZ [.own 0, .own 1] [zat cell, zat rank] (.d (.map (zge cell rank))) [some (zat cell), some (zat rank)] := by
  refine zh7 ⟨_, Tryz.func70, by decide, rfl⟩ fun B σ a w args hT hS hsz hargs => ?_
  have ha : args = #[args.getD 0 undef, args.getD 1 undef] := by
    apply Array.ext
    · simpa using hsz
    · intro i h1 h2
      match i, h2 with
      | 0, _ => simp [Array.getD, show 0 < args.size by omega]
      | 1, _ => simp [Array.getD, show 1 < args.size by omega]
  have h0 := hargs 0 (by simp)
  have h1 := hargs 1 (by simp)
  have fin : ∀ (e : Ending) (w' : World) (es : Array MapEntry) (clock : Nat) (blk : Nat → Nat), e = .returned (.map (some w.heap.size)) → w.grownBy w' none → Grp (O2 (w.heap.size + 1)) w' w.heap.size ((zG cell rank cell.length).map fun p => (p.1, zd6 p.2)) es clock blk →
      ∃ v' σ', e = .returned v' ∧ Sim B (fun _ => .undef) (zp [some (zat cell), some (zat rank)]) (fun i => 2 ≤ i) σ' a w' ∧ VSim σ' (zp [some (zat cell), some (zat rank)]) (fun i => 2 ≤ i) (B.X σ' (zp [some (zat cell), some (zat rank)])) w' (.d (.map (zge cell rank))) v' ∧
        ∀ i ob, [zat cell, zat rank][i]? = some ob → zp [some (zat cell), some (zat rank)] i = none ∨ (σ' i = σ i ∧ ∃ ob', zp [some (zat cell), some (zat rank)] i = some ob' ∧ zbg ob ob') := by
    intro e w' es clock blk he hg hG
    refine ⟨_, σ, he, hS.grown hg, .d _ _ (zvR (fun b hb => ?_) hG), fun i ob hi => .inr ⟨rfl, ob, ?_, zbg.refl ob⟩⟩
    · rintro (h | ⟨id, h, h2⟩)
      · have := hS.olt b h; omega
      · obtain ⟨ob, hob⟩ := Option.ne_none_iff_exists'.1 h
        obtain ⟨o, ho⟩ := (hS.mem id ob hob).block h2
        have := zi ho; omega
    · match i, hi with
      | 0, hi => simpa [zp] using hi
      | 1, hi => simpa [zp] using hi
  rw [ha]
  have m0 : zp ([zat cell, zat rank].map some) 0 = some (zat cell) := rfl
  have m1 : zp ([zat cell, zat rank].map some) 1 = some (zat rank) := rfl
  change VSim _ _ _ _ _ (.own 0) _ at h0
  change VSim _ _ _ _ _ (.own 1) _ at h1
  generalize args.getD 0 undef = va at h0
  generalize args.getD 1 undef = vb at h1
  have rd : ∀ {g : Nat} {v : Value} {xs : List Int}, O2 0 w v g xs → ∃ cap, v = .slice (some ⟨g, 0, none⟩) xs.length cap ∧ g < w.heap.size ∧ ∀ j, j < xs.length → w.cell? ⟨g, 0 + j, none⟩ = some (.int .i64 (at0 xs j)) := by
    rintro g v xs ⟨cap, c, e, q1, -, q3, q4, q5, -, q7⟩
    refine ⟨cap, q1, zi q3, fun j hj => ?_⟩
    have hjc : j < c.size := by omega
    have := q7 j hj
    rw [Array.getD_eq_getD_getElem?, Array.getElem?_eq_getElem hjc] at this
    simp only [Option.getD_some] at this
    simp [World.cell?, q3, hjc, this, at0]
  by_cases hc : cell = []
  · subst hc
    have hv : ∃ a' cap, va = .slice a' 0 cap := by
      cases h0 with
      | ownDead _ ad l c g1 => rw [m0] at g1; cases g1
      | ownNil => exact ⟨none, 0, rfl⟩
      | own _ s xs b cap c e g1 g2 g3 g4 g5 =>
        rw [m0] at g1
        simp only [zat, Option.some.injEq, Ob.row.injEq] at g1
        obtain ⟨-, rfl⟩ := g1
        exact ⟨_, cap, rfl⟩
    obtain ⟨a', cap, rfl⟩ := hv
    refine (zoT a' cap vb w).mono ?_
    rintro e w' ⟨he, hg, hh⟩
    exact fin e w' #[] 0 (fun _ => 0) he hg ⟨hh, ⟨fun i j hi => by simp at hi, fun i hi => by simp at hi⟩, rfl, fun i hi => by simp [zG, zA] at hi, fun i hi => by simp [zG, zA] at hi, fun i j hi => by simp [zG, zA] at hi⟩
  · have hpos : 0 < cell.length := List.length_pos_iff.2 hc
    obtain ⟨g1, -, o1⟩ := zpw h0 (hS.mem 0 _ m0) m0 (by omega) hc
    obtain ⟨g2, -, o2⟩ := zpw h1 (hS.mem 1 _ m1) m1 (by omega) (fun e => by rw [e] at hle; simp at hle; exact hc hle)
    obtain ⟨cap1, rfl, l1, c1⟩ := rd o1
    obtain ⟨cap2, rfl, l2, c2⟩ := rd o2
    refine (zoU (T := T) g1 0 cap1 g2 0 cap2 rank.length cell rank w hpos hle (by omega) (fun b o ht => hS.pins b o (hT b o ht)) l1 l2 c1 (fun j hj => c2 j (by omega))).mono ?_
    rintro e w' ⟨he, hg, es, clock, blk, hG⟩
    exact fin e w' es clock blk he hg hG
end Go.Ab
namespace Go.Ab
open Go Go.Proofs
set_option maxRecDepth 10000
set_option maxHeartbeats 4000000
def zfM:List D→Option (List Int)
 | []=>some []
 | .int .i64 n::r=>match zfM r with
  | some l=>some (n::l)
  | none=>none
 | _=>none
theorem zfs : ∀ {ds:List D} {l:List Int},zfM ds=some l→ds=l.map (D.int .i64)
 | [],l,h=>by cases h;rfl
 | .int .i64 n::r,l,h=>by
  unfold zfM at h
  split at h
  ·rename_i l' h';cases h;rw [zfs h'];rfl
  ·cases h
def zo6:List D→Option (List (BitVec 64))
 | []=>some []
 | .u64 n::r=>match zo6 r with
  | some l=>some (n::l)
  | none=>none
 | _=>none
theorem zqq : ∀ {ds:List D} {l:List (BitVec 64)},zo6 ds=some l→ds=l.map D.u64
 | [],l,h=>by cases h;rfl
 | .u64 n::r,l,h=>by
  unfold zo6 at h
  split at h
  ·rename_i l' h';cases h;rw [zqq h'];rfl
  ·cases h
def zi3:List D→Option (List (List Int))
 | []=>some []
 | .arr 1 x::r=>match zfM x with
  | some a=>match zi3 r with
   | some l=>some (a::l)
   | none=>none
  | none=>none
 | _=>none
theorem zl5 : ∀ {ds:List D} {l:List (List Int)},zi3 ds=some l→ds=l.map dI
 | [],l,h=>by cases h;rfl
 | .arr 1 x::r,l,h=>by
  replace h:(match zfM x with
   | some a=>match zi3 r with
    | some l=>some (a::l)
    | none=>none
   | none=>none)=some l:=h
  cases h1:zfM x with
  | none=>rw [h1] at h;cases h
  | some a =>
   cases h2:zi3 r with
   | none=>rw [h1,h2] at h;cases h
   | some l'=>rw [h1,h2] at h;cases h;rw [zl5 h2,zfs h1];rfl
def okI (l:List Int):Bool:=l.all fun x=>decide (-9223372036854775808≤x)&&decide (x≤9223372036854775807)
def zw9:Nat→List V→List Ob→Option (List (List D)):=fun g vs obs =>
 cond (Nat.beq g zaI) (match vs,obs with
  | [.ptr 0 0],[.box [.d (.u64 s)]]=>some (zhM s)
  | _,_=>none)
 (cond (Nat.beq g zay) (match vs,obs with
  | [.ptr 0 0],[.box [.d (.int .i64 W),.d (.arr 1 vl),.d (.arr 1 cs),.d (.arr 1 rs)]]=>match zo6 vl,zi3 cs,zi3 rs with
   | some vl,some cs,some rs=>cond (rs.all okI&&decide (zy ⟨W,vl,cs,rs⟩=0)) (some (zaB ⟨W,vl,cs,rs⟩ 0)) none
   | _,_,_=>none
  | _,_=>none) none)
def zrX:Fs:=fun f vs obs =>
 cond (Nat.beq f zdZ) (match vs,obs with
  | [.d (.arr 1 a),.d (.arr 1 b)],[]=>match zfM a,zfM b with
   | some a,some b=>cond (Nat.ble a.length b.length&&Nat.ble a.length 64) (some (.d (.map (zge a b)),[])) none
   | _,_=>none
  | [.own 0,.own 1],[.row 1 a,.row 1 b]=>match zfM a,zfM b with
   | some a,some b=>cond (Nat.ble a.length b.length&&Nat.ble b.length 64) (some (.d (.map (zge a b)),[some (.row 1 (a.map (D.int .i64))),some (.row 1 (b.map (D.int .i64)))])) none
   | _,_=>none
  | _,_=>none)
 (cond (Nat.beq f zaF) (match vs,obs with
  | [.d (.u64 w)],[]=>some (.d (.int .i64 (Lib.ctz 64 w.toNat)),[])
  | _,_=>none)
 (cond (Nat.beq f zcp) (match vs,obs with
  | [.d (.u64 w)],[]=>some (.d (.int .i64 (Sort.bitsLen w.toNat:Int)),[])
  | _,_=>none)
 (cond (Nat.beq f zcV) (match vs,obs with
  | [.d (.u64 w)],[]=>some (.d (.int .i64 (Sort.bitsLen w.toNat:Int)),[])
  | _,_=>none) none)))
def zzP (f:Nat):Bool:=Nat.beq f zdc||(Nat.beq f zdI||Nat.beq f ziF)
noncomputable def zy5:Cfg:=⟨zh Tryz.prog,zrX,zw9,zzP,fun f=>Nat.beq f zcG,150⟩
theorem zzi {rs:List (List Int)} (h:rs.all okI=true):zav rs:=by
 intro r hr x hx
 have h1:=List.all_eq_true.1 (List.all_eq_true.1 h r hr) x hx
 rw [Bool.and_eq_true,decide_eq_true_eq,decide_eq_true_eq] at h1
 exact h1
variable {T:Nat→Obj→Prop}
theorem zzg (hT:zd3 T) : ∀ g vs obs xs,zw9 g vs obs=some xs→It Tryz.prog T g vs obs xs:=by
 intro g vs obs xs h
 unfold zw9 at h
 cases hg:Nat.beq g zaI with
 | true =>
  rw [hg,cond_true] at h
  rw [Nat.eq_of_beq_eq_true hg]
  split at h
  ·cases h;exact zfN hT _
  ·cases h
 | false =>
  rw [hg,cond_false] at h
  cases hg2:Nat.beq g zay with
  | true =>
   rw [hg2,cond_true] at h
   rw [Nat.eq_of_beq_eq_true hg2]
   split at h
   ·split at h
    ·rename_i vl' cs' rs' h1 h2 h3
     rename_i vl cs rs _ _ _
     rw [zqq h1,zl5 h2,zl5 h3]
     cases hb:rs'.all okI&&decide (zy ⟨_,vl',cs',rs'⟩=0) with
     | true =>
      rw [hb] at h
      rw [Bool.and_eq_true,decide_eq_true_eq] at hb
      cases h
      exact znP zn3 _ (zzi hb.1) hb.2
     | false=>rw [hb] at h;cases h
    ·cases h
   ·cases h
  | false=>rw [hg2] at h;cases h
theorem zxb (hT:zd3 T):ztR Tryz.prog T zrX:=by
 intro f vs obs v obs' h
 unfold zrX at h
 cases h1:Nat.beq f zdZ with
 | true =>
  rw [h1,cond_true] at h
  rw [Nat.eq_of_beq_eq_true h1]
  split at h
  ·split at h
   ·rename_i a b ha hb
    rw [zfs ha,zfs hb]
    cases hc:Nat.ble a.length b.length&&Nat.ble a.length 64 with
    | true =>
     rw [hc] at h
     rw [Bool.and_eq_true,Nat.ble_eq,Nat.ble_eq] at hc
     cases h
     exact zn3 _ _ hc.1 hc.2
    | false=>rw [hc] at h;cases h
   ·cases h
  ·split at h
   ·rename_i a b ha hb
    rw [zfs ha,zfs hb]
    cases hc:Nat.ble a.length b.length&&Nat.ble b.length 64 with
    | true =>
     rw [hc] at h
     rw [Bool.and_eq_true,Nat.ble_eq,Nat.ble_eq] at hc
     cases h
     exact zvS hc.1 hc.2
    | false=>rw [hc] at h;cases h
   ·cases h
  ·cases h
 | false =>
  rw [h1,cond_false] at h
  cases h2:Nat.beq f zaF with
  | true =>
   rw [h2,cond_true] at h
   rw [Nat.eq_of_beq_eq_true h2]
   split at h
   ·cases h;exact hT _
   ·cases h
  | false =>
   rw [h2,cond_false] at h
   cases h3:Nat.beq f zcp with
   | true =>
    rw [h3,cond_true] at h
    rw [Nat.eq_of_beq_eq_true h3]
    split at h
    ·cases h;exact zrI _
    ·cases h
   | false =>
    rw [h3,cond_false] at h
    cases h4:Nat.beq f zcV with
    | true =>
     rw [h4,cond_true] at h
     rw [Nat.eq_of_beq_eq_true h4]
     split at h
     ·cases h;exact zva _
     ·cases h
    | false=>rw [h4] at h;cases h
theorem zy6 (hT:zd3 T):ztP Tryz.prog T zy5:=⟨fun f c h=>h,zxb hT,zzg hT⟩
end Go.Ab
namespace Go.Ab
open Go Go.Proofs
set_option maxRecDepth 10000
set_option maxHeartbeats 4000000
variable {T:Nat→Obj→Prop}
def zlB (p:PM) (n:Int):Bool:=decide (p.W≤n)&&(decide (p.val.length≤10)&&(decide (p.cell.length≤6)&&(decide (p.rank.length≤6)&&decide (p.val.length≤20∧p.cell.length≤8∧p.rank.length≤8∧(∀ a,a < p.cell.length→(za p.cell a).length≤20) ∧ ∀ a,a < p.rank.length→(za p.rank a).length≤20))))
theorem zw0 (p:PM) (n:Int):Fn Tryz.prog T zf1 [.d (dPM p),.d (.int .i64 n)] [] (.d (.bool (zlB p n))) []:=by
 refine zd zw zlY (by show 2≤31;decide) ?_
 (repeat' ((conv=>whnf);first|refine vA ?_|(refine vF ?_ ?_<;>intro hc<;>try simp only [vL] at hc)|refine vJ fun hg=>?_|refine vT ?_|refine vZ ?_|refine yD (zy8 p) ⟨⟨rfl,rfl⟩,rfl⟩ rfl ?_));all_goals try conv=>whnf
 ·rw [zlB,decide_eq_true ‹p.W≤n›,decide_eq_true (show p.val.length≤10 by omega),decide_eq_true (show p.cell.length≤6 by omega),decide_eq_true (show p.rank.length≤6 by omega)];rfl
 ·rw [zlB,decide_eq_true ‹p.W≤n›,decide_eq_true (show p.val.length≤10 by omega),decide_eq_true (show p.cell.length≤6 by omega),decide_eq_false (show ¬ p.rank.length≤6 by omega)];rfl
 ·rw [zlB,decide_eq_true ‹p.W≤n›,decide_eq_true (show p.val.length≤10 by omega),decide_eq_false (show ¬ p.cell.length≤6 by omega)];rfl
 ·rw [zlB,decide_eq_true ‹p.W≤n›,decide_eq_false (show ¬ p.val.length≤10 by omega)];rfl
 ·rw [zlB,decide_eq_false (show ¬ p.W≤n by omega)];rfl
end Go.Ab
