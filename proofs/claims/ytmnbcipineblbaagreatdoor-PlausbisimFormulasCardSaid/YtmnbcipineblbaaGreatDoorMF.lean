/- A part of the proofs of this seat: functions and their contracts. -/
import Derived.Test.YtmnbcipineblbaaGreatDoorME
set_option linter.unusedVariables false
set_option linter.unusedSimpArgs false
set_option linter.unusedSectionVars false
namespace Go.Ab
open Go Go.Proofs
set_option maxRecDepth 10000
set_option maxHeartbeats 4000000
variable {T:Nat→Obj→Prop}
theorem zwl {n:Nat} {q:Nat→Nat} (hq:zdE n q) (hn:n≤64):Fn Tryz.prog T zeh [.d (dI (ptL n q))] [] (.d (.int .i64 0)) []:=by
 have hl:(ptL n q).length=n:=zcc
 refine zd zp zmN (by show 1≤31;decide) ?_
 (repeat' ((conv=>whnf);first|refine vA ?_|(refine vF ?_ ?_<;>intro hc<;>try simp only [vL] at hc)|refine vJ fun hg=>?_|refine vT ?_|refine vX ?_));all_goals try conv=>whnf
 ·omega
 ·refine z1 (fun (k:Nat)=>[(0,.d (dI (ptL n q))),(8,.d (dI (ptL n q))),(9,.d (.int .i64 (((ptL n q).map (D.int .i64)).length:Int))),(10,.d (.int .i64 ((k:Int))))]) (fun (k:Nat)=>k≤n) (fun (k:Nat)=>n - k) (0) (by simp) (by (repeat' first|exact trivial|exact rfl|refine And.intro ?_ ?_)) ?_
  rintro k hk
  by_cases hkl:k < n
  ·have e1:(ptL n q)[k]? = some ((q k:Nat):Int):=zau hkl
   have b1:=hq.le k hkl
   have e2:(ptL n q)[q k]? = some ((q k:Nat):Int):=by rw [zau (by omega),hq.idem k hkl]
   (repeat' ((conv=>whnf);first|refine vA ?_|refine vH ?_|((first|refine vD ?_ ?_|refine vF ?_ ?_)<;>intro hc<;>try simp only [vL] at hc)|refine vT ?_|refine vN ‹_› ?_|(refine vO ?_ ?_;·omega)|refine vX ?_));all_goals try conv=>whnf
   all_goals try omega
   exact ⟨k+1,[],[],by (omega),by (omega),by (refine ⟨rfl,rfl,rfl,?_,?_⟩;repeat' first|exact trivial|exact rfl|refine And.intro ?_ ?_)⟩
  ·(repeat' ((conv=>whnf);first|refine vA ?_|((first|refine vD ?_ ?_|refine vF ?_ ?_)<;>intro hc<;>try simp only [vL] at hc)|refine vT ?_|(refine vQ ?_ fun x hx=>?_;·omega)|((first|refine vO ?_ ?_|refine vS ?_ fun x hx=>?_);·omega)|refine vX ?_));all_goals try conv=>whnf
   all_goals omega
theorem zq8 {l:List Int} {i:Nat} (h:i < l.length):l[i]? = some (at0 l i):=by
 rw [List.getElem?_eq_getElem h];congr 1
 exact (zq (List.getElem?_eq_getElem h)).symm
def zjh (e:Nat→Nat→Bool) (w k:Nat):Nat:=((List.range' k (w - k)).find? fun v=>e v w).getD w
theorem zvv (e:Nat→Nat→Bool) (w:Nat):zjh e w (w+1)=w:=by simp [zjh]
theorem zzl (e:Nat→Nat→Bool) (w:Nat):zjh e w w=w:=by simp [zjh]
theorem ztk (e:Nat→Nat→Bool) (w:Nat):zjh e w 0=z8 e w:=by simp [zjh,z8,List.range_eq_range']
theorem ztj (e:Nat→Nat→Bool) {w k:Nat} (h:k≤w):zjh e w k=if e k w=true then k else zjh e w (k+1):=by
 by_cases hw:k=w
 ·subst hw;rw [zvv];simp [zjh]
 ·unfold zjh
  rw [show w - k=(w - (k+1))+1 by omega,List.range'_succ,List.find?_cons]
  by_cases hk:e k w=true
  ·rw [hk,if_pos rfl];rfl
  ·rw [if_neg hk];simp only [Bool.not_eq_true] at hk;rw [hk]
theorem zqP {q:Nat→Nat} {k:Nat} : (ptL k q).map (D.int .i64)++[D.int .i64 ((q k:Nat):Int)]=(ptL (k+1) q).map (D.int .i64):=by
 unfold ptL;rw [List.range_succ,List.map_append,List.map_append];rfl
theorem zyZ (a b:List Int) (hl:a.length=b.length) (h64:a.length≤64):Fn Tryz.prog T zcM [.d (dI a),.d (dI b)] [] (.d (dI (ptL a.length (z8 (zch a b))))) []:=by
 refine zd zp zkd (by show 2≤47;decide) ?_
 (repeat' ((conv=>whnf);first|refine vA ?_|refine vJ fun hg=>?_|refine vT ?_));all_goals try conv=>whnf
 refine zt (fun ((i,zs):Nat×List D)=>[(0,.d (dI a)),(1,.d (dI b)),(5,.own 0),(10,.d (.int .i64 (((a.map (D.int .i64)).length:Int)))),(11,.d (.int .i64 ((i:Int))))]) (fun ((i,zs):Nat×List D)=>[(0,some (.row 1 zs))]) 1 (fun ((i,zs):Nat×List D)=>i≤a.length∧zs=(ptL i (z8 (zch a b))).map (D.int .i64)) (fun ((i,zs):Nat×List D)=>a.length - i) ((0,[])) []   [0] (⟨by simp,rfl⟩) (by (refine ⟨rfl,rfl,rfl,?_,?_⟩;repeat' first|exact trivial|exact rfl|exact ⟨_,rfl⟩|refine And.intro ?_ ?_|decide)) ?_
 rintro ⟨i,zs⟩ ⟨hi,hz⟩
 have hzl:zs.length=i:=by rw [hz];simp [ptL]
 by_cases hil:i < a.length
 ·have a1:=zq8 hil
  have b1:b[i]? = some (at0 b i):=zq8 (by omega)
  (repeat' ((conv=>whnf);first|refine vA ?_|(refine vF ?_ ?_<;>intro hc<;>try simp only [vL] at hc)|refine vT ?_));all_goals try conv=>whnf
  ·refine zt (fun ((d,j):Int×Nat)=>[(0,.d (dI a)),(1,.d (dI b)),(5,.own 0),(6,.d (.int .i64 ((i:Int)))),(7,.d (.int .i64 ((j:Int)))),(8,.d (.int .i64 (d))),(10,.d (.int .i64 (((a.map (D.int .i64)).length:Int)))),(11,.d (.int .i64 ((i:Int))))]) (fun ((d,j):Int×Nat)=>[(0,some (.row 1 zs))]) 1 (fun ((d,j):Int×Nat) => -1≤d∧d≤i∧j=zjh (zch a b) i (d+1).toNat) (fun ((d,j):Int×Nat)=>(d+1).toNat) (((i:Int),i)) [(0,0)] [] (⟨by omega,by omega,by rw [show ((i:Int)+1).toNat=i+1 by omega,zvv]⟩) (by (refine ⟨rfl,rfl,rfl,?_,?_⟩;repeat' first|exact trivial|exact rfl|refine And.intro ?_ ?_|refine ⟨_,rfl,?_⟩|decide)) ?_
   rintro ⟨d,j⟩ ⟨hd1,hd2,hj⟩
   by_cases hd:0≤d
   ·obtain ⟨v,rfl⟩ : ∃ v:Nat,d=(v:Int):=⟨d.toNat,by omega⟩
    have a2:a[v]? = some (at0 a v):=zq8 (by omega)
    have b2:b[v]? = some (at0 b v):=zq8 (by omega)
    have hs:=ztj (zch a b) (w:=i) (k:=v) (by omega)
    rw [show ((v:Int)+1).toNat=v+1 by omega] at hj
    (repeat' ((conv=>whnf);first|refine vA ?_|refine vG ?_|(refine vF ?_ ?_<;>intro hc)|refine vT ?_|refine vN ‹_› ?_|(refine vO ?_ ?_;·omega)|(refine vU ?_ ?_;·kernel_rfl)|fail));all_goals try conv=>whnf
    ·refine ⟨((v:Int) - 1,v),[(0,0)],[],?_,?_,by (refine ⟨rfl,rfl,rfl,?_,?_⟩;repeat' first|exact trivial|exact rfl|refine And.intro ?_ ?_|refine ⟨_,rfl,?_⟩|decide)⟩
     ·refine ⟨by omega,by omega,?_⟩
      rw [show ((v:Int) - 1+1).toNat=v by omega,hs,if_pos (by simp_all [zch])]
     ·((simp only [vM] at *;omega))
    all_goals try (exact absurd ‹(v:Int) < 0› (by omega))
    all_goals
     refine ⟨((v:Int) - 1,j),[(0,0)],[],?_,?_,by (refine ⟨rfl,rfl,rfl,?_,?_⟩;repeat' first|exact trivial|exact rfl|refine And.intro ?_ ?_|refine ⟨_,rfl,?_⟩|decide)⟩
     ·refine ⟨by omega,by omega,?_⟩
      rw [show ((v:Int) - 1+1).toNat=v by omega,hs,if_neg (by simp_all [zch]),hj]
     ·((simp only [vM] at *;omega))
   ·(repeat' ((conv=>whnf);first|refine vA ?_|(refine vF ?_ ?_<;>intro hc<;>try simp only [vL] at hc)|refine vT ?_|refine vN ‹_› ?_|((first|refine vO ?_ ?_|refine vS ?_ fun x hx=>?_|refine vP ?_ ?_);·first|omega|(simp only [vM] at *;omega))|(refine vU ?_ ?_;·kernel_rfl)|fail));all_goals try conv=>whnf
    all_goals try omega
    refine ⟨(i+1,_),[(0,2)],[],?_,?_,by (refine ⟨rfl,rfl,rfl,?_,?_⟩;repeat' first|exact trivial|exact rfl|refine And.intro ?_ ?_|refine ⟨_,rfl,?_⟩|decide)⟩
    ·refine ⟨by omega,?_⟩
     rw [← zqP,← hz,hj,show (d+1).toNat=0 by omega,ztk];rfl
    ·((simp only [vM] at *;omega))
  all_goals omega
 ·(repeat' ((conv=>whnf);first|refine vA ?_|(refine vF ?_ ?_<;>intro hc<;>try simp only [vL] at hc)|refine vT ?_));all_goals try conv=>whnf
  ·omega
  ·have e0:i=a.length:=by omega
   subst e0
   rw [hz];rfl
theorem zs5 {n:Nat} {q:Nat→Nat} (hq:zdE n q) (hn:n≤64) (ks:List Int) (hk:ks.length=n):Fn Tryz.prog T zei [.d (dI (ptL n q)),.d (dI ks)] [] (.d (.tup [dI (ptL n (z8 (zch (ptL n q) ks))),.int .i64 0])) []:=by
 have hl:(ptL n q).length=n:=zcc
 have cc:=zyZ (T:=T) (ptL n q) ks (by omega) (by omega)
 rw [hl] at cc
 refine zd zp zmO (by show 2≤20;decide) ?_
 (repeat' ((conv=>whnf);first|refine vA ?_|refine vH ?_|(refine vD ?_ ?_<;>intro hc<;>try simp only [vL] at hc)|refine vJ fun hg=>?_|refine vT ?_|refine yD (zwl hq hn) ⟨⟨rfl,rfl⟩,rfl⟩ rfl ?_|refine yN cc ⟨⟨rfl,rfl⟩,⟨rfl,rfl⟩,rfl⟩ ?_));all_goals try conv=>whnf
 ·omega
 ·rfl
theorem zwq (n:Nat) (hn:n≤64):Fn Tryz.prog T zdq [.d (.int .i64 (n:Int))] [] (.d (.tup [dI (ptL n fun _=>0),.int .i64 0])) []:=by
 refine zd zp zkT (by show 1≤12;decide) ?_
 (repeat' ((conv=>whnf);first|refine vA ?_|refine vH ?_|(refine vF ?_ ?_<;>intro hc<;>try simp only [vL] at hc)|refine vT ?_|(refine vP ?_ ?_;·omega)|fail));all_goals try conv=>whnf
 ·omega
 ·refine congrArg (fun l=>some (D.tup [D.arr 1 l,D.int .i64 0])) ?_
  rw [zbW];unfold ptL;rw [List.map_map];rfl
theorem zwn (p:PM) (hc0:zm p=0) {w:Nat} (hw:w < p.W.toNat):Fn Tryz.prog T zeo [.d (dKM ⟨p.W,p.val,[]⟩),.d (.int .i64 (w:Int))] [] (.d (.int .i64 (zey p w:Int))) []:=by
 have hg:=zM hc0
 have w1:=hg.w1
 have w2:=hg.w2
 have v8:=hg.v8
 have hk:zbs ⟨p.W,p.val,[]⟩=0:=by
  have h1:p.val.any (bad p.W)=false:=by simp only [List.any_eq_false];intro s hs;simp [hg.val s hs]
  unfold zbs
  simp only [h1,List.length_nil,List.any_nil]
  rw [if_neg (by omega),if_neg (by omega)];rfl
 have hcf:=zoo (T:=T) ⟨p.W,p.val,[]⟩
 rw [hk] at hcf
 refine zd zp zmY (by show 2≤39;decide) ?_
 (repeat' ((conv=>whnf);first|refine vA ?_|refine vH ?_|(refine vF ?_ ?_<;>intro hc<;>try simp only [vL] at hc)|refine vT ?_|refine vX ?_|refine yD hcf ⟨⟨rfl,rfl⟩,rfl⟩ rfl ?_));all_goals try conv=>whnf
 ·omega
 ·refine zt (fun ((i,x):Nat×Int)=>[(1,.d (.int .i64 ((w:Int)))),(2,.ptr 0 0),(5,.d (.int .i64 (x))),(6,.d (.int .i64 ((i:Int))))]) (fun ((i,x):Nat×Int)=>[(0,some (zmj ⟨p.W,p.val,[]⟩))]) 1 (fun ((i,x):Nat×Int)=>i≤p.val.length∧x=(zbo p.val w i:Int)) (fun ((i,x):Nat×Int)=>p.val.length - i) ((0,0)) [(0,0)] [] (⟨by simp,rfl⟩) (by (refine ⟨rfl,rfl,rfl,?_,?_⟩;repeat' first|exact trivial|exact rfl|refine And.intro ?_ ?_|refine ⟨_,rfl,?_⟩|decide)) ?_
  rintro ⟨i,x⟩ ⟨hi,hX⟩
  by_cases hil:i < p.val.length
  ·obtain ⟨s,hs⟩ : ∃ s,p.val[i]? = some s:=⟨_,List.getElem?_eq_getElem hil⟩
   obtain ⟨p1,p2⟩:=zkK (i:=(i:Int)) (by omega) (by omega)
   have p2:((2 ^ i:Nat):Int)=(1:Int) * 2 ^ (min (i:Int).toNat IntKind.i64.bits):=p2
   have f1:=zmu p.val w i
   have f2:2 ^ i≤2 ^ 7:=Nat.pow_le_pow_right (by decide) (by omega)
   have f3:zbo p.val w (i+1)=zbo p.val w i+if s.getLsbD w=true then 2 ^ i else 0:=by rw [zbo,show p.val.getD i 0#64=s by rw [List.getD,hs];rfl]
   (repeat' ((conv=>whnf);first|refine vA ?_|refine vE ?_|(refine vF ?_ ?_<;>intro hc<;>try simp only [vL] at hc)|refine vJ fun hg=>?_|refine vT ?_|refine vN ‹_› ?_|((first|refine vO ?_ ?_|refine vP ?_ ?_);·omega)|refine vX ?_|refine yD (zon s w) ⟨⟨rfl,rfl⟩,⟨rfl,rfl⟩,rfl⟩ rfl ?_));all_goals try conv=>whnf
   ·refine ⟨(i+1,x),[(0,0)],[],?_,?_,by (refine ⟨rfl,rfl,rfl,?_,?_⟩;repeat' first|exact trivial|exact rfl|refine And.intro ?_ ?_|refine ⟨_,rfl,?_⟩|decide)⟩
    ·exact ⟨by (omega),by rw [f3,zsc ‹_›,hX];simp⟩
    ·((simp only [vM] at *;omega))
   ·refine ⟨(i+1,_),[(0,0)],[],?_,?_,by (refine ⟨rfl,rfl,rfl,?_,?_⟩;repeat' first|exact trivial|exact rfl|refine And.intro ?_ ?_|refine ⟨_,rfl,?_⟩|decide)⟩
    ·exact ⟨by (omega),by rw [f3,zn3 ‹_›,if_pos rfl,hX,Int.natCast_add,p2]⟩
    ·((simp only [vM] at *;omega))
   all_goals omega
  ·(repeat' ((conv=>whnf);first|refine vA ?_|(refine vF ?_ ?_<;>intro hc<;>try simp only [vL] at hc)|refine vJ fun hg=>?_|refine vT ?_|(refine vQ ?_ fun x hx=>?_;·omega)|refine vX ?_));all_goals try conv=>whnf
   ·omega
   ·rw [hX,show i=p.val.length by omega];rfl
theorem zwo (p:PM) (hc0:zm p=0):Fn Tryz.prog T zes [.d (dKM ⟨p.W,p.val,[]⟩)] [] (.d (dI (ptL p.W.toNat (zmv p)))) []:=by
 have hg:=zM hc0
 have w1:=hg.w1
 have w2:=hg.w2
 have cs:=zs5 (T:=T) (ztU p.W.toNat) (by omega) (zgS p) zcc
 rw [show ptL p.W.toNat (z8 (zch (ptL p.W.toNat fun _=>0) (zgS p)))=ptL p.W.toNat (zmv p) from zd9 fun w hw=>zrq p hw] at cs
 have ct:=zwq (T:=T) p.W.toNat (by omega)
 rw [show ((p.W.toNat:Nat):Int)=p.W by omega] at ct
 refine zd zp zm2 (by show 1≤34;decide) ?_
 (repeat' ((conv=>whnf);first|refine vA ?_|refine vT ?_));all_goals try conv=>whnf
 refine zt (fun ((k,zs):Nat×List D)=>[(1,.ptr 0 0),(3,.own 1),(4,.d (.int .i64 ((k:Int))))]) (fun ((k,zs):Nat×List D)=>[(0,some (zmj ⟨p.W,p.val,[]⟩)),(1,some (.row 1 zs))]) 2 (fun ((k,zs):Nat×List D)=>k≤p.W.toNat∧zs=(ptL k (zey p)).map (D.int .i64)) (fun ((k,zs):Nat×List D)=>p.W.toNat - k) ((0,[])) [(0,0)]   [1] (⟨by simp,rfl⟩) (by (refine ⟨rfl,rfl,rfl,?_,?_⟩;repeat' first|exact trivial|exact rfl|exact ⟨_,rfl⟩|refine And.intro ?_ ?_|refine ⟨_,rfl,?_⟩|decide)) ?_
 rintro ⟨k,zs⟩ ⟨hk,hz⟩
 have hzl:zs.length=k:=by rw [hz];simp [ptL]
 by_cases hkl:k < p.W.toNat
 ·(repeat' ((conv=>whnf);first|refine vA ?_|(refine vF ?_ ?_<;>intro hc<;>try simp only [vL] at hc)|refine vT ?_|((first|refine vO ?_ ?_|refine vP ?_ ?_);·first|omega|(simp only [vM] at *;omega))|refine yD (zwn p hc0 hkl) ⟨⟨rfl,rfl⟩,⟨rfl,rfl⟩,rfl⟩ rfl ?_));all_goals try conv=>whnf
  ·refine ⟨(k+1,_),[(0,0),(1,3)],[],?_,?_,by (refine ⟨rfl,rfl,rfl,?_,?_⟩;repeat' first|exact trivial|exact rfl|refine And.intro ?_ ?_|refine ⟨_,rfl,?_⟩|decide)⟩
   ·exact ⟨by (omega),by rw [← zqP,hz];rfl⟩
   ·((simp only [vM] at *;omega))
  all_goals omega
 ·have e0:k=p.W.toNat:=by omega
  subst e0
  have hz:zs=(zgS p).map (D.int .i64):=hz
  subst hz
  (repeat' ((conv=>whnf);first|refine vA ?_|(refine vF ?_ ?_<;>intro hc<;>try simp only [vL] at hc)|refine vT ?_|refine yN ct ⟨⟨rfl,rfl⟩,rfl⟩ ?_|refine yN cs ⟨⟨rfl,rfl⟩,⟨rfl,rfl⟩,rfl⟩ ?_));all_goals try conv=>whnf
  ·omega
  ·rfl
theorem zB8 {x:BitVec 64} {m:Nat} (h:x.getLsbD m=false):x+1#64 <<< m=x|||1#64 <<< m:=by
 refine BitVec.add_eq_or_of_and_eq_zero _ _ (BitVec.eq_of_getLsbD_eq fun i hi=>?_)
 rw [BitVec.getLsbD_and,BitVec.getLsbD_shiftLeft,BitVec.getLsbD_zero]
 by_cases e:i=m
 ·subst e;rw [h];rfl
 ·by_cases e2:i < m
  ·simp [e2]
  ·rw [BitVec.getLsbD_one];simp;omega
theorem zCP {x:BitVec 64} {m:Nat} (h:x.getLsbD m=true):x|||1#64 <<< m=x:=by
 refine BitVec.eq_of_getLsbD_eq fun i hi=>?_
 rw [BitVec.getLsbD_or,BitVec.getLsbD_shiftLeft]
 by_cases e:i=m
 ·subst e;rw [h];rfl
 ·by_cases e2:i < m
  ·simp [e2]
  ·rw [BitVec.getLsbD_one];simp;omega
theorem zxV {n:Nat} {q:Nat→Nat} (hq:zdE n q) (hn:n≤64) (s:BitVec 64):Fn Tryz.prog T zdt [.d (dI (ptL n q)),.d (.u64 s)] [] (.d (.u64 (zar q s n))) []:=by
 have hpl:=zcc (n:=n) (q:=q)
 refine zd zp zkW (by show 2≤30;decide) ?_
 (repeat' ((conv=>whnf);first|refine vA ?_|refine vJ fun hg=>?_|refine vT ?_));all_goals try conv=>whnf
 refine z1 (fun ((k,o):Nat×BitVec 64)=>[(1,.d (.u64 (s))),(5,.d (.u64 (o))),(8,.d (dI (ptL n q))),(9,.d (.int .i64 ((((ptL n q).map (D.int .i64)).length:Int)))),(10,.d (.int .i64 ((k:Int))))]) (fun ((k,o):Nat×BitVec 64)=>k≤n∧o=zar q s k) (fun ((k,o):Nat×BitVec 64)=>n - k) ((0,0#64)) (⟨by simp,rfl⟩) (by (repeat' first|exact trivial|exact rfl|refine And.intro ?_ ?_)) ?_
 rintro ⟨k,o⟩ ⟨hk,hI⟩
 by_cases hkl:k < n
 ·have e1:(ptL n q)[k]? = some ((q k:Nat):Int):=zau hkl
  have b1:=hq.le k hkl
  (repeat' ((conv=>whnf);first|refine vA ?_|refine vE ?_|(refine vF ?_ ?_<;>intro hc<;>try simp only [vL] at hc)|refine vT ?_|refine vN ‹_› ?_|((first|refine vO ?_ ?_|refine vP ?_ ?_);·omega)|refine vY ?_|refine yD (zon _ _) ⟨⟨rfl,rfl⟩,⟨rfl,rfl⟩,rfl⟩ rfl ?_));all_goals try conv=>whnf
  ·refine ⟨(k+1,o),[],[],?_,?_,by (refine ⟨rfl,rfl,rfl,?_,?_⟩;repeat' first|exact trivial|exact rfl|refine And.intro ?_ ?_)⟩
   ·exact ⟨by (omega),by rw [zeZ,if_neg (by rw [zsc ‹_›];decide),hI]⟩
   ·((simp only [vM] at *;omega))
  ·refine ⟨(k+1,_),[],[],?_,?_,by (refine ⟨rfl,rfl,rfl,?_,?_⟩;repeat' first|exact trivial|exact rfl|refine And.intro ?_ ?_)⟩
   ·exact ⟨by (omega),by rw [zeZ,if_pos (zn3 ‹_›),← hI,← zB8 (zsc ‹_›)];rfl⟩
   ·((simp only [vM] at *;omega))
  ·refine ⟨(k+1,o),[],[],?_,?_,by (refine ⟨rfl,rfl,rfl,?_,?_⟩;repeat' first|exact trivial|exact rfl|refine And.intro ?_ ?_)⟩
   ·exact ⟨by (omega),by rw [zeZ,if_pos (zn3 ‹1&&&s.toNat >>> k≠0›),← hI,zCP (zn3 ‹_›)]⟩
   ·((simp only [vM] at *;omega))
  ·omega
 ·(repeat' ((conv=>whnf);first|refine vA ?_|(refine vF ?_ ?_<;>intro hc<;>try simp only [vL] at hc)|refine vT ?_|(refine vQ ?_ fun x hx=>?_;·omega)|refine vY ?_));all_goals try conv=>whnf
  ·omega
  ·rw [hI,show k=n by omega]
def zk0 (R:List (List (BitVec 64))):List (Nat→BitVec 64):=R.map fun r w=>r.getD w 0#64
def zns (R:List (List (BitVec 64))) (q:Nat→Nat) (n i v a:Nat):Bool:=decide (q i=q v)&&(R.take a).all fun r=>decide (zar q (r.getD i 0#64) n=zar q (r.getD v 0#64) n)
theorem zyk {R:List (List (BitVec 64))} {q:Nat→Nat} {n i v a:Nat} {r:List (BitVec 64)} (h:R[a]? = some r):zns R q n i v (a+1)=(zns R q n i v a&&decide (zar q (r.getD i 0#64) n=zar q (r.getD v 0#64) n)):=by
 unfold zns
 rw [List.take_add_one,h,Option.toList_some,List.all_append];simp [Bool.and_assoc]
theorem zzL {R:List (List (BitVec 64))} {q:Nat→Nat} {n i v:Nat} : zns R q n i v R.length=zaT n (zk0 R) q v i:=by
 unfold zns zaT zk0
 rw [List.take_length,Bool.eq_iff_iff]
 simp only [Bool.and_eq_true,decide_eq_true_eq,List.all_eq_true,List.mem_map,forall_exists_index,and_imp,forall_apply_eq_imp_iff₂]
 exact ⟨fun ⟨a,b⟩=>⟨a.symm,fun r hr=>(b r hr).symm⟩,fun ⟨a,b⟩=>⟨a.symm,fun r hr=>(b r hr).symm⟩⟩
theorem zyo {n:Nat} {rels:List (Nat→BitVec 64)} {q:Nat→Nat} (hq:zdE n q) {w:Nat} (hw:w < n):z8 (zch (ptL n q) (ptL n (zaL n rels q))) w=zaL n rels q w:=by
 rw [← zuE (zk2 n rels q n) hw]
 refine zkg fun v hv=>?_
 have h1:at0 (ptL n q) v=((q v:Nat):Int):=zq (zau (by omega))
 have h2:at0 (ptL n q) w=((q w:Nat):Int):=zq (zau hw)
 have h3:at0 (ptL n (zaL n rels q)) v=((zaL n rels q v:Nat):Int):=zq (zau (by omega))
 have h4:at0 (ptL n (zaL n rels q)) w=((zaL n rels q w:Nat):Int):=zq (zau hw)
 have h5:=zjQ (rels:=rels) hq hw
 have h6:=zjQ (rels:=rels) hq (w:=v) (by omega)
 unfold zch zfh
 rw [h1,h2,h3,h4,Bool.eq_iff_iff,decide_eq_true_eq,decide_eq_true_eq]
 constructor
 ·intro h;omega
 ·intro h;rw [h] at h6;omega
theorem zxT {n:Nat} {q:Nat→Nat} (hq:zdE n q) (hn:n≤64) (R:List (List (BitVec 64))) (hR : ∀ r∈R,r.length=n):Fn Tryz.prog T zdS [.d (dI (ptL n q)),.d (dUU R)] [] (.d (dI (ptL n (zaL n (zk0 R) q)))) []:=by
 have hpl:=zcc (n:=n) (q:=q)
 refine zd zp zlw (by show 2≤72;decide) ?_
 (repeat' ((conv=>whnf);first|refine vA ?_|refine vJ fun hg=>?_|refine vT ?_));all_goals try conv=>whnf
 refine zt (fun ((i,zs):Nat×List D)=>[(0,.d (dI (ptL n q))),(1,.d (dUU R)),(5,.own 0),(15,.d (.int .i64 ((((ptL n q).map (D.int .i64)).length:Int)))),(16,.d (.int .i64 ((i:Int))))]) (fun ((i,zs):Nat×List D)=>[(0,some (.row 1 zs))]) 1 (fun ((i,zs):Nat×List D)=>i≤n∧zs=(ptL i (zaL n (zk0 R) q)).map (D.int .i64)) (fun ((i,zs):Nat×List D)=>n - i) ((0,[])) []   [0] (⟨by simp,rfl⟩) (by (refine ⟨rfl,rfl,rfl,?_,?_⟩;repeat' first|exact trivial|exact rfl|exact ⟨_,rfl⟩|refine And.intro ?_ ?_|decide)) ?_
 rintro ⟨i,zs⟩ ⟨hi,hz⟩
 have hzl:zs.length=i:=by rw [hz];simp [ptL]
 by_cases hil:i < n
 ·have a1:(ptL n q)[i]? = some ((q i:Nat):Int):=zau hil
  (repeat' ((conv=>whnf);first|refine vA ?_|(refine vF ?_ ?_<;>intro hc<;>try simp only [vL] at hc)|refine vT ?_|(refine vO ?_ ?_;·omega)|fail));all_goals try conv=>whnf
  ·refine zt (fun ((d,j):Int×Nat)=>[(0,.d (dI (ptL n q))),(1,.d (dUU R)),(5,.own 0),(6,.d (.int .i64 ((i:Int)))),(7,.d (.int .i64 ((j:Int)))),(8,.d (.int .i64 (d))),(15,.d (.int .i64 ((((ptL n q).map (D.int .i64)).length:Int)))),(16,.d (.int .i64 ((i:Int))))]) (fun ((d,j):Int×Nat)=>[(0,some (.row 1 zs))]) 1 (fun ((d,j):Int×Nat) => -1≤d∧d < i∧j=zjh (zaT n (zk0 R) q) i (d+1).toNat) (fun ((d,j):Int×Nat)=>(d+1).toNat) (((i:Int) - 1,i)) [(0,0)] [] (⟨by omega,by omega,by rw [show ((i:Int) - 1+1).toNat=i by omega,zzl]⟩) (by (refine ⟨rfl,rfl,rfl,?_,?_⟩;repeat' first|exact trivial|exact rfl|refine And.intro ?_ ?_|refine ⟨_,rfl,?_⟩|decide)) ?_
   rintro ⟨d,j⟩ ⟨hd1,hd2,hj⟩
   by_cases hd:0≤d
   ·obtain ⟨v,rfl⟩ : ∃ v:Nat,d=(v:Int):=⟨d.toNat,by omega⟩
    have a2:(ptL n q)[v]? = some ((q v:Nat):Int):=zau (by omega)
    have hs:=ztj (zaT n (zk0 R) q) (w:=i) (k:=v) (by omega)
    rw [show ((v:Int)+1).toNat=v+1 by omega] at hj
    (repeat' ((conv=>whnf);first|refine vA ?_|refine vG ?_|refine vJ fun hg=>?_|refine vT ?_|refine vN ‹_› ?_|(refine vU ?_ ?_;·kernel_rfl)|fail));all_goals try conv=>whnf
    ·refine zt (fun ((a,b):Nat×Bool)=>[(0,.d (dI (ptL n q))),(1,.d (dUU R)),(5,.own 0),(6,.d (.int .i64 ((i:Int)))),(7,.d (.int .i64 ((j:Int)))),(8,.d (.int .i64 ((v:Int)))),(9,.d (.bool (b))),(15,.d (.int .i64 ((((ptL n q).map (D.int .i64)).length:Int)))),(16,.d (.int .i64 ((i:Int)))),(35,.d (dUU R)),(36,.d (.int .i64 (((R.map dU).length:Int)))),(37,.d (.int .i64 ((a:Int))))]) (fun ((a,b):Nat×Bool)=>[(0,some (.row 1 zs))]) 1 (fun ((a,b):Nat×Bool)=>a≤R.length∧b=zns R q n i v a) (fun ((a,b):Nat×Bool)=>R.length - a) ((0,decide (((q i:Nat):Int)=((q v:Nat):Int)))) [(0,0)] [] (⟨by simp,by simp only [zns,List.take_zero,List.all_nil,Bool.and_true];rw [Bool.eq_iff_iff,decide_eq_true_eq,decide_eq_true_eq];omega⟩) (by (refine ⟨rfl,rfl,rfl,?_,?_⟩;repeat' first|exact trivial|exact rfl|exact .inl rfl|refine And.intro ?_ ?_|refine ⟨_,rfl,?_⟩|decide)) ?_
     rintro ⟨a,b⟩ ⟨ha,hb⟩
     by_cases hal:a < R.length
     ·obtain ⟨r,hr⟩ : ∃ r,R[a]? = some r:=⟨_,List.getElem?_eq_getElem hal⟩
      have hrl:=hR r (List.mem_of_getElem? hr)
      obtain ⟨x,hx0⟩ : ∃ x,r[i]? = some x:=⟨_,List.getElem?_eq_getElem (by omega)⟩
      obtain ⟨y,hy0⟩ : ∃ y,r[v]? = some y:=⟨_,List.getElem?_eq_getElem (by omega)⟩
      have hsu:=zyk (q:=q) (n:=n) (i:=i) (v:=v) hr
      rw [zaU hx0,zaU hy0] at hsu
      (repeat' ((conv=>whnf);first|refine vA ?_|((first|refine vF ?_ ?_|refine vI ?_ ?_)<;>intro hc<;>try simp only [vL] at hc)|refine vT ?_|refine vN ‹_› ?_|(refine vO ?_ ?_;·omega)|(refine vU ?_ ?_;·kernel_rfl)|refine yD (zxV hq hn _) ⟨⟨rfl,rfl⟩,⟨rfl,rfl⟩,rfl⟩ rfl ?_));all_goals try conv=>whnf
      ·refine ⟨(a+1,_),[(0,0)],[],?_,?_,by (refine ⟨rfl,rfl,rfl,?_,?_⟩;repeat' first|exact trivial|exact rfl|exact .inl rfl|refine And.intro ?_ ?_|refine ⟨_,rfl,?_⟩|decide)⟩
       ·exact ⟨by (omega),by rw [hsu,← hb,‹b=true›];simp⟩
       ·((simp only [vM] at *;omega))
      ·refine ⟨(a+1,_),[(0,0)],[],?_,?_,by (refine ⟨rfl,rfl,rfl,?_,?_⟩;repeat' first|exact trivial|exact rfl|exact .inr (.inr ⟨rfl,rfl⟩)|refine And.intro ?_ ?_|refine ⟨_,rfl,?_⟩|decide)⟩
       ·exact ⟨by (omega),by rw [hsu,← hb,‹b=false›];simp⟩
       ·((simp only [vM] at *;omega))
      all_goals omega
     ·have ea:a=R.length:=by omega
      subst ea
      rw [zzL] at hb
      rw [← hb] at hs
      (repeat' ((conv=>whnf);first|refine vA ?_|((first|refine vF ?_ ?_|refine vI ?_ ?_)<;>intro hc<;>try simp only [vL] at hc)|refine vT ?_|(refine vQ ?_ fun x hx=>?_;·omega)|(refine vO ?_ ?_;·omega)|(refine vU ?_ ?_;·kernel_rfl)|fail));all_goals try conv=>whnf
      ·omega
      ·omega
      ·refine ⟨((v:Int) - 1,v),[(0,0)],[],?_,?_,by (refine ⟨rfl,rfl,rfl,?_,?_⟩;repeat' first|exact trivial|exact rfl|refine And.intro ?_ ?_|refine ⟨_,rfl,?_⟩|decide)⟩
       ·refine ⟨by omega,by omega,?_⟩
        rw [show ((v:Int) - 1+1).toNat=v by omega,hs,if_pos ‹_›]
       ·((simp only [vM] at *;omega))
      ·refine ⟨((v:Int) - 1,j),[(0,0)],[],?_,?_,by (refine ⟨rfl,rfl,rfl,?_,?_⟩;repeat' first|exact trivial|exact rfl|refine And.intro ?_ ?_|refine ⟨_,rfl,?_⟩|decide)⟩
       ·refine ⟨by omega,by omega,?_⟩
        rw [show ((v:Int) - 1+1).toNat=v by omega,hs,if_neg (by rw [‹b=false›];decide),hj]
       ·((simp only [vM] at *;omega))
    all_goals omega
   ·(repeat' ((conv=>whnf);first|refine vA ?_|(refine vF ?_ ?_<;>intro hc<;>try simp only [vL] at hc)|refine vJ fun hg=>?_|refine vT ?_|refine vN ‹_› ?_|((first|refine vO ?_ ?_|refine vS ?_ fun x hx=>?_|refine vP ?_ ?_);·first|omega|(simp only [vM] at *;omega))|(refine vU ?_ ?_;·kernel_rfl)|fail));all_goals try conv=>whnf
    all_goals try omega
    refine ⟨(i+1,_),[(0,2)],[],?_,?_,by (refine ⟨rfl,rfl,rfl,?_,?_⟩;repeat' first|exact trivial|exact rfl|refine And.intro ?_ ?_|refine ⟨_,rfl,?_⟩|decide)⟩
    ·refine ⟨by omega,?_⟩
     rw [← zqP,← hz,hj,show (d+1).toNat=0 by omega,ztk];rfl
    ·((simp only [vM] at *;omega))
  all_goals omega
 ·have e0:i=n:=by omega
  subst e0
  subst hz
  (repeat' ((conv=>whnf);first|refine vA ?_|(refine vF ?_ ?_<;>intro hc<;>try simp only [vL] at hc)|refine vT ?_|(refine vO ?_ ?_;·omega)|refine yN (zs5 hq hn _ zcc) ⟨⟨rfl,rfl⟩,⟨rfl,rfl⟩,rfl⟩ ?_));all_goals try conv=>whnf
  ·omega
  ·rw [zd9 fun w hw=>zyo hq hw];rfl
theorem zy5 (p:PM) (hc0:zm p=0):Fn Tryz.prog T zex [.d (dPM p)] [] (.d (dI (ptL p.W.toNat (zmv p)))) []:=by
 refine zd zp zm9 (by show 1≤9;decide) ?_
 (repeat' ((conv=>whnf);first|refine vT ?_|refine yN (zwo p hc0) ⟨⟨rfl,rfl⟩,rfl⟩ ?_));all_goals try conv=>whnf
 ·rfl
def zhp (p:PM) (a:Nat):List (List (BitVec 64)):=(List.range a).flatMap fun a=>[zbQ p a,za8 p a]
theorem zty (p:PM) (a:Nat):zhp p (a+1)=zhp p a++[zbQ p a,za8 p a]:=by
 unfold zhp;rw [List.range_succ,List.flatMap_append];simp
theorem zBo (p:PM) (a:Nat):(zhp p a).length=2 * a:=by
 induction a with
 | zero=>rfl
 | succ a ih=>rw [zty,List.length_append,ih];simp;omega
theorem ztW (p:PM) (hp:zat p.rank) (hc0:zm p=0):Fn Tryz.prog T zcN [.d (dPM p)] [] (.d (dUU (zhp p p.cell.length))) []:=by
 have hg:=zM hc0
 have w1:=hg.w1
 have w2:=hg.w2
 have n4:=hg.n4
 refine zd zp zkf (by show 1≤41;decide) ?_
 (repeat' ((conv=>whnf);first|refine vA ?_|refine vJ fun hg=>?_|refine vT ?_));all_goals try conv=>whnf
 refine zt (fun ((a,zs):Nat×List D)=>[(1,.ptr 0 0),(3,.own 1),(11,.d (.int .i64 (((p.cell.map dI).length:Int)))),(12,.d (.int .i64 ((a:Int))))]) (fun ((a,zs):Nat×List D)=>[(0,some (zaC p)),(1,some (.row 1 zs))]) 2 (fun ((a,zs):Nat×List D)=>a≤p.cell.length∧zs=(zhp p a).map dU) (fun ((a,zs):Nat×List D)=>p.cell.length - a) ((0,[])) [(0,0)]   [1] (⟨by simp,rfl⟩) (by (refine ⟨rfl,rfl,rfl,?_,?_⟩;repeat' first|exact trivial|exact rfl|exact ⟨_,rfl⟩|refine And.intro ?_ ?_|refine ⟨_,rfl,?_⟩|decide)) ?_
 rintro ⟨a,zs⟩ ⟨ha,hz⟩
 have hzl:zs.length=2 * a:=by rw [hz,List.length_map,zBo]
 by_cases hal:a < p.cell.length
 ·have cw:=zry (T:=T) p hp (a:Int)
  rw [show zbF p (a:Int)=(za8 p a,0) by rw [zbF,if_neg (by omega),if_neg (by omega)];rfl] at cw
  (repeat' ((conv=>whnf);first|refine vA ?_|(refine vF ?_ ?_<;>intro hc<;>try simp only [vL] at hc)|refine vT ?_));all_goals try conv=>whnf
  ·refine zt (fun ((w,ys):Nat×List D)=>[(1,.ptr 0 0),(3,.own 1),(4,.d (.int .i64 ((a:Int)))),(5,.own 2),(6,.d (.int .i64 ((w:Int)))),(11,.d (.int .i64 (((p.cell.map dI).length:Int)))),(12,.d (.int .i64 ((a:Int))))]) (fun ((w,ys):Nat×List D)=>[(0,some (zaC p)),(1,some (.row 1 zs)),(2,some (.row 1 ys))]) 3 (fun ((w,ys):Nat×List D)=>w≤p.W.toNat∧ys=(List.range w).map fun (w:Nat)=>D.u64 (zav p (a:Int) (w:Int))) (fun ((w,ys):Nat×List D)=>p.W.toNat - w) ((0,[])) [(0,0),(1,1)]   [2] (⟨by simp,rfl⟩) (by (refine ⟨rfl,rfl,rfl,?_,?_⟩;repeat' first|exact trivial|exact rfl|exact ⟨_,rfl⟩|refine And.intro ?_ ?_|refine ⟨_,rfl,?_⟩|decide)) ?_
   rintro ⟨w,ys⟩ ⟨hw,hy⟩
   have hyl:ys.length=w:=by rw [hy];simp
   by_cases hwl:w < p.W.toNat
   ·(repeat' ((conv=>whnf);first|refine vA ?_|(refine vF ?_ ?_<;>intro hc<;>try simp only [vL] at hc)|refine vT ?_|((first|refine vO ?_ ?_|refine vP ?_ ?_);·first|omega|(simp only [vM] at *;omega))|refine yD (ztX p hp _ _) ⟨⟨rfl,rfl⟩,⟨rfl,rfl⟩,⟨rfl,rfl⟩,rfl⟩ rfl ?_));all_goals try conv=>whnf
    ·refine ⟨(w+1,_),[(0,0),(1,1),(2,4)],[],?_,?_,by (refine ⟨rfl,rfl,rfl,?_,?_⟩;repeat' first|exact trivial|exact rfl|refine And.intro ?_ ?_|refine ⟨_,rfl,?_⟩|decide)⟩
     ·exact ⟨by (omega),by rw [List.range_succ,List.map_append,← hy];rfl⟩
     ·((simp only [vM] at *;omega))
    ·omega
   ·have e1:w=p.W.toNat:=by omega
    subst e1
    have hy:ys=(zbQ p a).map D.u64:=by rw [hy,zbQ,List.map_map];rfl
    subst hy
    (repeat' ((conv=>whnf);first|refine vA ?_|(refine vF ?_ ?_<;>intro hc<;>try simp only [vL] at hc)|refine vT ?_|((first|refine vO ?_ ?_|refine vP ?_ ?_);·first|omega|(simp only [vM] at *;omega))|refine yN cw ⟨⟨rfl,rfl⟩,⟨rfl,rfl⟩,rfl⟩ ?_));all_goals try conv=>whnf
    ·omega
    ·refine ⟨(a+1,_),[(0,0),(1,4)],[],?_,?_,by (refine ⟨rfl,rfl,rfl,?_,?_⟩;repeat' first|exact trivial|exact rfl|refine And.intro ?_ ?_|refine ⟨_,rfl,?_⟩|decide)⟩
     ·refine ⟨by (omega),?_⟩
      rw [zty,List.map_append,← hz];rfl
     ·((simp only [vM] at *;omega))
  all_goals omega
 ·(repeat' ((conv=>whnf);first|refine vA ?_|(refine vF ?_ ?_<;>intro hc<;>try simp only [vL] at hc)|refine vT ?_));all_goals try conv=>whnf
  ·omega
  ·rw [hz,show a=p.cell.length by omega];rfl
theorem zDR {p:PM} : ∀ a,a≤p.cell.length → ∀ r∈zhp p a,r.length=p.W.toNat:=by
 intro a ha r hr
 unfold zhp at hr
 obtain ⟨i,hi,h⟩:=List.mem_flatMap.1 hr
 simp only [List.mem_cons,List.not_mem_nil,or_false] at h
 rcases h with rfl|rfl
 ·simp [zbQ]
 ·simp [za8]
theorem zyq {n:Nat} {q:Nat→Nat} {rels rels':List (Nat→BitVec 64)} (hl:rels.length=rels'.length) (h : ∀ (i:Nat) (r r':Nat→BitVec 64),rels[i]? = some r→rels'[i]? = some r' → ∀ w,w < n→r w=r' w) {w:Nat} (hw:w < n):zaL n rels q w=zaL n rels' q w:=by
 refine zkg fun v hv=>?_
 unfold zaT
 congr 1
 rw [Bool.eq_iff_iff,List.all_eq_true,List.all_eq_true]
 constructor
 ·intro H r' hr'
  obtain ⟨i,hi,rfl⟩:=List.mem_iff_getElem.1 hr'
  have e2:=List.getElem?_eq_getElem hi
  have e1:=List.getElem?_eq_getElem (l:=rels) (i:=i) (by omega)
  rw [← h i _ _ e1 e2 v (by omega),← h i _ _ e1 e2 w hw]
  exact H _ (List.getElem_mem _)
 ·intro H r hr
  obtain ⟨i,hi,rfl⟩:=List.mem_iff_getElem.1 hr
  have e1:=List.getElem?_eq_getElem hi
  have e2:=List.getElem?_eq_getElem (l:=rels') (i:=i) (by omega)
  rw [h i _ _ e1 e2 v (by omega),h i _ _ e1 e2 w hw]
  exact H _ (List.getElem_mem _)
theorem zyp (p:PM) (q:Nat→Nat) {w:Nat} (hw:w < p.W.toNat):zaL p.W.toNat (zk0 (zhp p p.cell.length)) q w=zaL p.W.toNat (zb2 p) q w:=by
 have e:zk0 (zhp p p.cell.length)=(List.range p.cell.length).flatMap fun (a:Nat)=>[fun w=>(zbQ p a).getD w 0#64,fun w=>(za8 p a).getD w 0#64]:=by
  unfold zk0 zhp;rw [List.map_flatMap];rfl
 have hall : ∀ (l:List Nat) (i:Nat) (r r':Nat→BitVec 64),(l.flatMap fun (a:Nat)=>[fun w=>(zbQ p a).getD w 0#64,fun w=>(za8 p a).getD w 0#64])[i]? = some r→(l.flatMap fun (a:Nat)=>[fun (w:Nat)=>zav p (a:Int) (w:Int),fun w=>wkB p a w])[i]? = some r' → ∀ w,w < p.W.toNat→r w=r' w:=by
  intro l
  induction l with
  | nil=>intro i r r' h;simp at h
  | cons a l ih =>
   intro i r r' h h' w hw
   rw [List.flatMap_cons] at h h'
   match i with
   | 0 =>
    have h:=Option.some.inj h
    have h':=Option.some.inj h'
    subst h;subst h'
    show (zbQ p a).getD w 0#64=_
    rw [zaU (show (zbQ p a)[w]? = some (zav p (a:Int) (w:Int)) by simp [zbQ,hw])]
   | 1 =>
    have h:=Option.some.inj h
    have h':=Option.some.inj h'
    subst h;subst h'
    rfl
   | i+2=>exact ih i r r' h h' w hw
 rw [e]
 exact zyq (by simp [zb2]) (hall _) hw
theorem zvf (p:PM) (hp:zat p.rank) (n:Int):Fn Tryz.prog T zdV [.d (dPM p),.d (.int .i64 n)] [] (.d (dLI (zhM p n))) []:=by
 refine zd zp zlA (by show 2≤36;decide) ?_
 by_cases hc0:zm p=0
 ·have hg:=zM hc0
  have w1:=hg.w1
  have w2:=hg.w2
  (repeat' ((conv=>whnf);first|refine vA ?_|((first|refine vD ?_ ?_|refine vF ?_ ?_)<;>intro hc<;>try simp only [vL] at hc)|refine vT ?_|refine yD (zbD p hp) ⟨⟨rfl,rfl⟩,rfl⟩ rfl ?_|refine yN (zy5 p hc0) ⟨⟨rfl,rfl⟩,rfl⟩ ?_|refine yN (ztW p hp hc0) ⟨⟨rfl,rfl⟩,rfl⟩ ?_));all_goals try conv=>whnf
  ·exact absurd hc0 hc
  ·rw [zhM,if_neg (by omega),if_pos hc];rfl
  ·refine zt (fun (k:Nat)=>[(1,.d (.int .i64 (n))),(2,.ptr 0 0),(7,.d (dI (ptL p.W.toNat (zu p k)))),(8,.d (dUU (zhp p p.cell.length))),(9,.d (.int .i64 ((k:Int))))]) (fun (k:Nat)=>[(0,some (zaC p))]) 1 (fun (k:Nat)=>k≤n.toNat∧k≤p.W.toNat) (fun (k:Nat)=>n.toNat - k) (0) [(0,0)] [] (by simp) (by (refine ⟨rfl,rfl,rfl,?_,?_⟩;repeat' first|exact trivial|exact rfl|refine And.intro ?_ ?_|refine ⟨_,rfl,?_⟩|decide)) ?_
   rintro k ⟨hk1,hk2⟩
   have cr:=zxT (T:=T) (znp p k) (by omega) (zhp p p.cell.length) (zDR _ (Nat.le_refl _))
   rw [show ptL p.W.toNat (zaL p.W.toNat (zk0 (zhp p p.cell.length)) (zu p k))=ptL p.W.toNat (zu p (k+1)) from zd9 fun w hw=>zyp p _ hw] at cr
   (repeat' ((conv=>whnf);first|refine vA ?_|(refine vF ?_ ?_<;>intro hc<;>try simp only [vL] at hc)|refine vT ?_|(refine vO ?_ ?_;·omega)|refine yN cr ⟨⟨rfl,rfl⟩,⟨rfl,rfl⟩,rfl⟩ ?_));all_goals try conv=>whnf
   ·exact ⟨k+1,[(0,0)],[],by (omega),by (omega),by (refine ⟨rfl,rfl,rfl,?_,?_⟩;repeat' first|exact trivial|exact rfl|refine And.intro ?_ ?_|refine ⟨_,rfl,?_⟩|decide)⟩
   ·rw [zhM,if_neg (by omega),if_neg (by omega)]
    have e:ptL p.W.toNat (zu p n.toNat)=ptL p.W.toNat (zu p k):=zd9 fun w hw=>by
     rw [show k=p.W.toNat by omega];exact zte (zdu p _) (by omega) (by omega) hw
    rw [e];rfl
   ·rw [zhM,if_neg (by omega),if_neg (by omega),show n.toNat=k by omega];rfl
 ·(repeat' ((conv=>whnf);first|refine vA ?_|((first|refine vD ?_ ?_|refine vF ?_ ?_)<;>intro hc<;>try simp only [vL] at hc)|refine vT ?_|refine yD (zbD p hp) ⟨⟨rfl,rfl⟩,rfl⟩ rfl ?_));all_goals try conv=>whnf
  ·rw [zhM,if_pos hc];rfl
  ·exact absurd ‹zm p=0› hc0
  ·exact absurd ‹zm p=0› hc0
end Go.Ab
namespace Go.Ab
open Go Go.Proofs
set_option maxRecDepth 10000
set_option maxHeartbeats 4000000
variable {T:Nat→Obj→Prop}
noncomputable def apF (p:PM):Nat→Kn→Nat→Nat→Kn×List Nd
 | 0=>fun kn _ _=>(kn,[])
 | k+1=>fun kn v w=>match kn.lookup (v,w) with
  | some f=>(kn,f)
  | none=>(zd3 (zbV p (apF p k) kn v w).1 (v,w) (zbV p (apF p k) kn v w).2,(zbV p (apF p k) kn v w).2)
theorem zmr {p:PM} {v w j:Nat} (hv:v < p.W.toNat) (hw:w < p.W.toNat) (hj:j≤zaS p) (h:zu p j v≠zu p j w) : ∃ d:Nat,d≤j∧zb1 p v w=d∧zu p d v≠zu p d w ∧ ∀ i,i < d→zu p i v=zu p i w:=by
 have hat : ∀ i,i≤zaS p→(zcH p)[i]? = some (ptL p.W.toNat (zu p i)):=fun i hi=>by unfold zcH;rw [List.getElem?_map,List.getElem?_range (by omega)];rfl
 have hp : ∀ i,decide (at0 (ptL p.W.toNat (zu p i)) v≠at0 (ptL p.W.toNat (zu p i)) w)=decide (zu p i v≠zu p i w):=fun i=>by
  rw [zq (zau hv),zq (zau hw),Bool.eq_iff_iff,decide_eq_true_eq,decide_eq_true_eq];omega
 have key : ∀ n,∀ d,d+n=j→(∀ i,i < d→zu p i v=zu p i w) → ∃ d:Nat,d≤j∧zb1 p v w=d∧zu p d v≠zu p d w ∧ ∀ i,i < d→zu p i v=zu p i w:=by
  intro n
  induction n with
  | zero =>
   intro d hd hI
   obtain rfl:d=j:=by omega
   exact ⟨d,Nat.le_refl _,zkz (hat d hj) (by rw [hp];exact decide_eq_true h) (fun i y hi hy=>by rw [hat i (by omega)] at hy;cases hy;rw [hp,decide_eq_false (not_not_intro (hI i hi))]),h,hI⟩
  | succ n ih =>
   intro d hd hI
   by_cases he:zu p d v=zu p d w
   ·exact ih (d+1) (by omega) fun i hi=>by
     by_cases e:i=d
     ·subst e;exact he
     ·exact hI i (by omega)
   ·exact ⟨d,by omega,zkz (hat d (by omega)) (by rw [hp];exact decide_eq_true he) (fun i y hi hy=>by rw [hat i (by omega)] at hy;cases hy;rw [hp,decide_eq_false (not_not_intro (hI i hi))]),he,hI⟩
 exact key j 0 (by omega) fun i hi=>by omega
theorem zuX {v w:Nat} : ∀ {l:List (BitVec 64)} {k:Nat},zft v w l k=none → ∀ i,(l.getD i 0#64).getLsbD v=(l.getD i 0#64).getLsbD w
 | [],_,_,i=>by simp
 | s::r,k,h,i=>by
  unfold zft at h
  split at h
  ·rename_i he
   match i with
   | 0=>exact he
   | i+1=>exact zuX h i
  ·cases h
theorem zuY {p:PM} {v w:Nat} (h:zu p 0 v≠zu p 0 w):zft v w p.val 0≠none:=by
 intro hn
 refine h ((zlF (zna (zey p))).2 ?_)
 simp only [zfh,decide_eq_true_eq]
 exact zu0.2 fun i=>by rw [zuX hn i]
theorem zvc (hR':zcp T) (p:PM) (hp:zat p.rank) (hc0:zm p=0) : ∀ (k v w j:Nat),v < p.W.toNat→w < p.W.toNat→j < k→j≤zaS p→zu p j v≠zu p j w→ApF T p (apF p k) v w
 | 0,v,w,j,_,_,h,_,_=>by omega
 | k+1,v,w,j,hv,hw,hjk,hj,hne=>by
  intro kn
  obtain ⟨d,hd,hdep,hdne,hdI⟩:=zmr hv hw hj hne
  have cm:Fn Tryz.prog T zbw [.ptr 0 0,.d (.int .i64 v),.d (.int .i64 w)] [mkB p (.map 1),.map (knD kn)] (.d (dF (zbV p (apF p k) kn v w).2)) [some (mkB p (.map 1)),some (.map (knD (zbV p (apF p k) kn v w).1))]:=by
   match d,hdep,hdne,hd with
   | 0,hdep,hdne,_=>exact zAN p _ v w hv hw hdep (zuY hdne) kn
   | d+1,hdep,hdne,hd=>exact zAO hR' p hp hc0 _ v w d hv hw (by omega) (by omega) (fun u u' hu hu' h=>zvc hR' p hp hc0 k u u' d hu hu' (by omega) (by omega) h) kn
  have hfd:zy (knD kn) (.agg [.int .i64 (v:Int),.int .i64 (w:Int)])=some ((kn.lookup (v,w)).map dF):=zpu (v,w) kn
  have hR0:apF p (k+1) kn v w=match kn.lookup (v,w) with
   | some f=>(kn,f)
   | none=>(zd3 (zbV p (apF p k) kn v w).1 (v,w) (zbV p (apF p k) kn v w).2,(zbV p (apF p k) kn v w).2):=rfl
  generalize apF p (k+1) kn v w=R at hR0
  have hR:=hR0.symm
  clear hR0
  refine zT zp ziN (by show 3≤39;decide) _ (fun e env mem n h=>h) ?_
  cases hlk:kn.lookup (v,w) with
  | some f =>
   rw [hlk] at hfd hR
   subst hR
   (repeat' ((conv=>whnf);first|refine vA ?_|refine vE ?_|refine vG ?_|refine vT ?_|(refine vU ?_ ?_;·kernel_rfl)|refine zaj.mk _ ‹_› ?_));all_goals try conv=>whnf
   refine ⟨trivial,_,[(0,0),(1,1)],[],rfl,.inl (by (repeat' exact rfl)),⟨by rfl,by rfl,by rfl,trivial,by (repeat' first|exact trivial|exact rfl|refine And.intro ?_ ?_|refine ⟨_,rfl,?_⟩|exact of_decide_eq_true rfl)⟩,by (repeat' first|exact trivial|exact rfl|refine And.intro ?_ ?_|refine ⟨_,rfl,?_⟩)⟩
  | none =>
   rw [hlk] at hfd hR
   subst hR
   generalize zbV p (apF p k) kn v w=m at cm
   have hf1:zy (knD m.1) (.agg [.int .i64 (v:Int),.int .i64 (w:Int)])=some ((m.1.lookup (v,w)).map dF):=zpu (v,w) m.1
   have hf2:zy (knD (zd3 m.1 (v,w) m.2)) (.agg [.int .i64 (v:Int),.int .i64 (w:Int)])=some (some (dF m.2)):=(zpu (v,w) (zd3 m.1 (v,w) m.2)).trans (by rw [zvu];rfl)
   cases hl1:m.1.lookup (v,w) with
   | none =>
    rw [hl1] at hf1
    have he:knD (zd3 m.1 (v,w) m.2)=knD m.1++[(.agg [.int .i64 (v:Int),.int .i64 (w:Int)],dF m.2)]:=by rw [zpC hl1,knD,List.map_append];rfl
    rw [he] at hf2 ⊢
    (repeat' ((conv=>whnf);first|refine vA ?_|refine vT ?_|(refine vU ?_ ?_;·kernel_rfl)|refine zaj.mk _ ‹_› ?_));all_goals try conv=>whnf
    refine zL.objs [0,1] (cm) (by (repeat' first|exact rfl|refine And.intro ?_ ?_|refine ⟨_,rfl,?_⟩)) (by (repeat' first|exact rfl|refine And.intro ?_ ?_|refine ⟨_,rfl,?_⟩)) (by rfl) (by rfl) (by simp) ?_
    (repeat' ((conv=>whnf);first|refine vA ?_|refine vT ?_|(refine vU ?_ ?_;·kernel_rfl)|refine zaj.mk _ ‹_› ?_));all_goals try conv=>whnf
    refine ⟨trivial,_,[(0,0),(1,1)],[],rfl,.inl (by (repeat' exact rfl)),⟨by rfl,by rfl,by rfl,trivial,by (repeat' first|exact trivial|exact rfl|refine And.intro ?_ ?_|refine ⟨_,rfl,?_⟩|exact of_decide_eq_true rfl)⟩,by (repeat' first|exact trivial|exact rfl|refine And.intro ?_ ?_|refine ⟨_,rfl,?_⟩)⟩
   | some g =>
    rw [hl1] at hf1
    have he:knD (zd3 m.1 (v,w) m.2)=zif (knD m.1) (.agg [.int .i64 (v:Int),.int .i64 (w:Int)]) (dF m.2):=zxa hl1
    rw [he] at hf2 ⊢
    (repeat' ((conv=>whnf);first|refine vA ?_|refine vT ?_|(refine vU ?_ ?_;·kernel_rfl)|refine zaj.mk _ ‹_› ?_));all_goals try conv=>whnf
    refine zL.objs [0,1] (cm) (by (repeat' first|exact rfl|refine And.intro ?_ ?_|refine ⟨_,rfl,?_⟩)) (by (repeat' first|exact rfl|refine And.intro ?_ ?_|refine ⟨_,rfl,?_⟩)) (by rfl) (by rfl) (by simp) ?_
    (repeat' ((conv=>whnf);first|refine vA ?_|refine vT ?_|(refine vU ?_ ?_;·kernel_rfl)|refine zaj.mk _ ‹_› ?_));all_goals try conv=>whnf
    refine ⟨trivial,_,[(0,0),(1,1)],[],rfl,.inl (by (repeat' exact rfl)),⟨by rfl,by rfl,by rfl,trivial,by (repeat' first|exact trivial|exact rfl|refine And.intro ?_ ?_|refine ⟨_,rfl,?_⟩|exact of_decide_eq_true rfl)⟩,by (repeat' first|exact trivial|exact rfl|refine And.intro ?_ ?_|refine ⟨_,rfl,?_⟩)⟩
def zaD (p:PM) (v w:Int):Int:=if zm p≠0 then zm p else if v < 0∨p.W≤v∨w < 0∨p.W≤w then 2 else if zb1 p v.toNat w.toNat < 0 then 6 else 0
theorem zkC (hR:zcp T) (p:PM) (hp:zat p.rank) (v w:Int) (he:zaD p v w≠0):Fn Tryz.prog T zbC [.d (dPM p),.d (.int .i64 v),.d (.int .i64 w)] [] (.d (.tup [.nil,.int .i64 (zaD p v w)])) []:=by
 refine zd zp zgq (by show 3≤45;decide) ?_
 by_cases h1:zm p≠0
 ·have e:zaD p v w=zm p:=if_pos h1
  rw [e]
  (repeat' ((conv=>whnf);first|refine vA ?_|((first|refine vD ?_ ?_|refine vF ?_ ?_)<;>intro hc<;>try simp only [vL] at hc)|refine vT ?_|refine yD (zcG hR p hp) ⟨⟨rfl,rfl⟩,rfl⟩ rfl ?_));all_goals try conv=>whnf
  all_goals first|rfl|(exact absurd ‹zm p=0› h1)
 by_cases h2:v < 0∨p.W≤v∨w < 0∨p.W≤w
 ·have e:zaD p v w=2:=by rw [zaD,if_neg h1,if_pos h2]
  rw [e]
  (repeat' ((conv=>whnf);first|refine vA ?_|((first|refine vD ?_ ?_|refine vF ?_ ?_)<;>intro hc<;>try simp only [vL] at hc)|refine vT ?_|refine yD (zcG hR p hp) ⟨⟨rfl,rfl⟩,rfl⟩ rfl ?_));all_goals try conv=>whnf
  all_goals first|rfl|(exact absurd ‹zm p≠0› h1)|(exfalso;omega)
 have hc0:zm p=0:=Classical.byContradiction h1
 have e:zaD p v w=if zb1 p v.toNat w.toNat < 0 then 6 else 0:=by rw [zaD,if_neg h1,if_neg h2]
 obtain ⟨vn,rfl⟩ : ∃ vn:Nat,v=vn:=⟨v.toNat,by omega⟩
 obtain ⟨wn,rfl⟩ : ∃ wn:Nat,w=wn:=⟨w.toNat,by omega⟩
 rw [Int.toNat_natCast,Int.toNat_natCast] at e
 have h3:zb1 p vn wn < 0:=Classical.byContradiction fun h=>he (by rw [e,if_neg h])
 rw [e,if_pos h3]
 (repeat' ((conv=>whnf);first|refine vA ?_|refine vH ?_|((first|refine vD ?_ ?_|refine vF ?_ ?_)<;>intro hc<;>try simp only [vL] at hc)|refine vT ?_|(refine vU ?_ ?_;·kernel_rfl)|refine yD (zcG hR p hp) ⟨⟨rfl,rfl⟩,rfl⟩ rfl ?_|refine yN (zrx hR p hp hc0) ⟨⟨rfl,rfl⟩,rfl⟩ ?_));all_goals try conv=>whnf
 all_goals try (exfalso;omega)
 (repeat' ((conv=>whnf);first|(refine vF ?_ ?_<;>intro hc<;>try simp only [vL] at hc)|refine vT ?_|(refine yD (ziL p [] vn wn ?_ ?_) ⟨⟨rfl,rfl⟩,⟨rfl,rfl⟩,⟨rfl,rfl⟩,rfl⟩ rfl ?_;(·omega);(·omega))|fail));all_goals try conv=>whnf
 ·rfl
 ·exfalso;omega
theorem zlk (hR:zcp T) (p:PM) (hp:zat p.rank) (v w:Int) (he:zaD p v w=0):Fn Tryz.prog T zbC [.d (dPM p),.d (.int .i64 v),.d (.int .i64 w)] [] (.tup [.ptr 0 0,.d (.int .i64 0)]) [some (mkB p (.map 1)),some (.map [])]:=by
 have h1:zm p=0:=Classical.byContradiction fun h=>by rw [zaD,if_pos h] at he;exact h he
 have h2 : ¬(v < 0∨p.W≤v∨w < 0∨p.W≤w):=fun h=>by rw [zaD,if_neg (by omega),if_pos h] at he;cases he
 rw [zaD,if_neg (by omega),if_neg h2] at he
 obtain ⟨vn,rfl⟩ : ∃ vn:Nat,v=vn:=⟨v.toNat,by omega⟩
 obtain ⟨wn,rfl⟩ : ∃ wn:Nat,w=wn:=⟨w.toNat,by omega⟩
 rw [Int.toNat_natCast,Int.toNat_natCast] at he
 have h3 : ¬zb1 p vn wn < 0:=fun h=>by rw [if_pos h] at he;cases he
 refine zT zp zgq (by show 3≤45;decide) _ (fun e env mem n h=>h) ?_
 (repeat' ((conv=>whnf);first|refine vA ?_|refine vH ?_|((first|refine vD ?_ ?_|refine vF ?_ ?_)<;>intro hc<;>try simp only [vL] at hc)|refine vT ?_|(refine vU ?_ ?_;·kernel_rfl)|refine yD (zcG hR p hp) ⟨⟨rfl,rfl⟩,rfl⟩ rfl ?_|refine yN (zrx hR p hp h1) ⟨⟨rfl,rfl⟩,rfl⟩ ?_));all_goals try conv=>whnf
 all_goals try (exfalso;omega)
 (repeat' ((conv=>whnf);first|(refine vF ?_ ?_<;>intro hc<;>try simp only [vL] at hc)|refine vT ?_|(refine yD (ziL p [] vn wn ?_ ?_) ⟨⟨rfl,rfl⟩,⟨rfl,rfl⟩,⟨rfl,rfl⟩,rfl⟩ rfl ?_;(·omega);(·omega))|fail));all_goals try conv=>whnf
 ·exfalso;omega
 ·refine ⟨trivial,_,[(0,2),(1,1)],[],rfl,.inl (by (repeat' first|exact rfl|refine And.intro ?_ ?_|refine ⟨_,rfl,?_⟩)),⟨by rfl,by rfl,by rfl,trivial,by (repeat' first|exact trivial|exact rfl|refine And.intro ?_ ?_|refine ⟨_,rfl,?_⟩|exact of_decide_eq_true rfl)⟩,by (repeat' exact trivial)⟩
def zdL (p:PM) (v w:Int):Int×Int:=if zaD p v w≠0 then (0,zaD p v w) else (zb1 p v.toNat w.toNat,0)
noncomputable def zot (p:PM) (v w:Int):List Nd×Int:=if zaD p v w≠0 then ([],zaD p v w) else
 if (apF p (zaS p+1) [] v.toNat w.toNat).2.length=0 then ([],8) else ((apF p (zaS p+1) [] v.toNat w.toNat).2,0)
theorem zne {p:PM} {v w:Int} (he:zaD p v w=0):zm p=0∧0≤v∧v < p.W∧0≤w∧w < p.W ∧ ∃ d:Nat,zb1 p v.toNat w.toNat=d∧d≤zaS p∧zu p d v.toNat≠zu p d w.toNat ∧ ∀ i,i < d→zu p i v.toNat=zu p i w.toNat:=by
 have h1:zm p=0:=Classical.byContradiction fun h=>by rw [zaD,if_pos h] at he;exact h he
 have h2 : ¬(v < 0∨p.W≤v∨w < 0∨p.W≤w):=fun h=>by rw [zaD,if_neg (by omega),if_pos h] at he;cases he
 rw [zaD,if_neg (by omega),if_neg h2] at he
 have h3 : ¬zb1 p v.toNat w.toNat < 0:=fun h=>by rw [if_pos h] at he;cases he
 refine ⟨h1,by omega,by omega,by omega,by omega,?_⟩
 have h4 : ∃ j,j≤zaS p∧zu p j v.toNat≠zu p j w.toNat:=by
  refine Classical.byContradiction fun hn=>h3 ?_
  rw [zb1,zjv fun i y hi hy=>?_]; · decide
  obtain ⟨h5,rfl⟩:=znq hy
  rw [zq (zau (by omega)),zq (zau (by omega)),decide_eq_false]
  intro h6
  exact hn ⟨i,h5,fun h7=>h6 (by rw [h7])⟩
 obtain ⟨j,hj,hne⟩:=h4
 obtain ⟨d,h5,h6,h7,h8⟩:=zmr (p:=p) (by omega) (by omega) hj hne
 exact ⟨d,h6,by omega,h7,h8⟩
theorem zyX (hR:zcp T) (p:PM) (hp:zat p.rank) (v w:Int):Fn Tryz.prog T ze6 [.d (dPM p),.d (.int .i64 v),.d (.int .i64 w)] [] (.d (.tup [.int .i64 (zdL p v w).1,.int .i64 (zdL p v w).2])) []:=by
 refine zd zp zoB (by show 3≤24;decide) ?_
 by_cases he:zaD p v w=0
 ·obtain ⟨h1,h2,h3,h4,h5,-⟩:=zne he
  have e:zdL p v w=(zb1 p v.toNat w.toNat,0):=if_neg (not_not_intro he)
  rw [e]
  obtain ⟨vn,rfl⟩ : ∃ vn:Nat,v=vn:=⟨v.toNat,by omega⟩
  obtain ⟨wn,rfl⟩ : ∃ wn:Nat,w=wn:=⟨w.toNat,by omega⟩
  (repeat' ((conv=>whnf);refine vT ?_));all_goals try conv=>whnf
  refine zL.res (zlk hR p hp _ _ he) (by (repeat refine ⟨⟨rfl,rfl⟩,?_⟩);rfl) ?_
  (repeat' ((conv=>whnf);first|refine vA ?_|refine vH ?_|refine vT ?_|(refine yD (ziL p [] vn wn ?_ ?_) ⟨⟨rfl,rfl⟩,⟨rfl,rfl⟩,⟨rfl,rfl⟩,rfl⟩ rfl ?_;(·omega);(·omega))|fail));all_goals try conv=>whnf
  rfl
 ·have e:zdL p v w=(0,zaD p v w):=if_pos he
  rw [e]
  (repeat' ((conv=>whnf);first|refine vA ?_|(refine vD ?_ ?_<;>intro hc)|refine vT ?_|refine yN (zkC hR p hp _ _ he) ⟨⟨rfl,rfl⟩,⟨rfl,rfl⟩,⟨rfl,rfl⟩,rfl⟩ ?_));all_goals try conv=>whnf
  ·rfl
  ·exact absurd ‹_› he
theorem zwj (hR:zcp T) (p:PM) (hp:zat p.rank) (v w:Int):Fn Tryz.prog T zef [.d (dPM p),.d (.int .i64 v),.d (.int .i64 w)] [] (.d (.tup [dF (zot p v w).1,.int .i64 (zot p v w).2])) []:=by
 refine zd zp zmK (by show 3≤29;decide) ?_
 by_cases he:zaD p v w=0
 ·obtain ⟨h1,h2,h3,h4,h5,d,h6,h7,h8,-⟩:=zne he
  have e:zot p v w=if (apF p (zaS p+1) [] v.toNat w.toNat).2.length=0 then ([],8) else ((apF p (zaS p+1) [] v.toNat w.toNat).2,0):=if_neg (not_not_intro he)
  rw [e]
  have ca:=zvc (T:=T) hR p hp h1 (zaS p+1) v.toNat w.toNat d (by omega) (by omega) (by omega) h7 h8 []
  rw [show ((v.toNat:Nat):Int)=v by omega,show ((w.toNat:Nat):Int)=w by omega] at ca
  generalize apF p (zaS p+1) [] v.toNat w.toNat=R at ca
  (repeat' ((conv=>whnf);refine vT ?_));all_goals try conv=>whnf
  refine zL.res (zlk hR p hp _ _ he) (by (repeat refine ⟨⟨rfl,rfl⟩,?_⟩);rfl) ?_
  (repeat' ((conv=>whnf);first|refine vA ?_|refine vH ?_|refine vT ?_));all_goals try conv=>whnf
  refine zL.objs [1,2] (ca) (by (repeat' first|exact rfl|refine And.intro ?_ ?_|refine ⟨_,rfl,?_⟩)) (by (repeat' first|exact rfl|refine And.intro ?_ ?_|refine ⟨_,rfl,?_⟩)) (by rfl) (by rfl) (by simp) ?_
  (repeat' ((conv=>whnf);first|refine vA ?_|(refine vF ?_ ?_<;>intro hc<;>try simp only [vL] at hc)|refine vJ fun hg=>?_|refine vT ?_));all_goals try conv=>whnf
  ·rw [if_pos (by omega)];rfl
  ·rw [if_neg (by omega)];rfl
 ·have e:zot p v w=([],zaD p v w):=if_pos he
  rw [e]
  (repeat' ((conv=>whnf);first|refine vA ?_|(refine vD ?_ ?_<;>intro hc)|refine vT ?_|refine yN (zkC hR p hp _ _ he) ⟨⟨rfl,rfl⟩,⟨rfl,rfl⟩,⟨rfl,rfl⟩,rfl⟩ ?_));all_goals try conv=>whnf
  ·rfl
  ·exact absurd ‹_› he
theorem zD3 {p:PM} (hc0:zm p=0) {j w:Nat} (hj:zaS p≤j) (hw:w < p.W.toNat):zu p j w=zu p (zaS p) w :=
 zmI (zdu p _) (fun w hw=>zCR (zxf hc0).2 hw) j hj w hw
theorem zwm (p:PM) (hp:zat p.rank) (v w:Int):Fn Tryz.prog T zew [.d (dPM p),.d (.int .i64 v),.d (.int .i64 w)] [] (.d (.tup [.int .i64 (zdL p v w).1,.int .i64 (zdL p v w).2])) []:=by
 generalize hR:zdL p v w=R
 refine zd zp zm8 (by show 3≤57;decide) ?_
 by_cases h1:zm p≠0
 ·have e:zaD p v w=zm p:=if_pos h1
  rw [zdL,e,if_pos h1] at hR
  subst hR
  (repeat' ((conv=>whnf);first|refine vA ?_|((first|refine vD ?_ ?_|refine vF ?_ ?_)<;>intro hc<;>try simp only [vL] at hc)|refine vT ?_|refine yD (zbD p hp) ⟨⟨rfl,rfl⟩,rfl⟩ rfl ?_));all_goals try conv=>whnf
  all_goals first|rfl|(exact absurd ‹zm p=0› h1)
 by_cases h2:v < 0∨p.W≤v∨w < 0∨p.W≤w
 ·have e:zaD p v w=2:=by rw [zaD,if_neg h1,if_pos h2]
  rw [zdL,e,if_pos (by decide)] at hR
  subst hR
  (repeat' ((conv=>whnf);first|refine vA ?_|((first|refine vD ?_ ?_|refine vF ?_ ?_)<;>intro hc<;>try simp only [vL] at hc)|refine vT ?_|refine yD (zbD p hp) ⟨⟨rfl,rfl⟩,rfl⟩ rfl ?_));all_goals try conv=>whnf
  all_goals first|rfl|(exact absurd ‹zm p≠0› h1)|(exfalso;omega)
 have hc0:zm p=0:=Classical.byContradiction h1
 have hg:=zM hc0
 have w2:=hg.w2
 have e:zaD p v w=if zb1 p v.toNat w.toNat < 0 then 6 else 0:=by rw [zaD,if_neg h1,if_neg h2]
 obtain ⟨vn,rfl⟩ : ∃ vn:Nat,v=vn:=⟨v.toNat,by omega⟩
 obtain ⟨wn,rfl⟩ : ∃ wn:Nat,w=wn:=⟨w.toNat,by omega⟩
 rw [zdL,e,Int.toNat_natCast,Int.toNat_natCast] at hR
 have hv:vn < p.W.toNat:=by omega
 have hw:wn < p.W.toNat:=by omega
 (repeat' ((conv=>whnf);first|refine vA ?_|refine vH ?_|((first|refine vD ?_ ?_|refine vF ?_ ?_)<;>intro hc<;>try simp only [vL] at hc)|refine vT ?_|refine yD (zbD p hp) ⟨⟨rfl,rfl⟩,rfl⟩ rfl ?_));all_goals try conv=>whnf
 all_goals try (exfalso;omega)
 refine zt (fun (n:Nat)=>[(1,.d (.int .i64 ((vn:Int)))),(2,.d (.int .i64 ((wn:Int)))),(3,.ptr 0 0),(9,.d (.int .i64 ((n:Int))))]) (fun (n:Nat)=>[(0,some (zaC p))]) 1 (fun (n:Nat)=>(n:Int)≤p.W+1 ∧ ∀ i,i < n→zu p i vn=zu p i wn) (fun (n:Nat)=>(p.W+1 - n).toNat) (0) [(0,0)] [] (⟨by omega,fun i hi=>by omega⟩) (by (refine ⟨rfl,rfl,rfl,?_,?_⟩;repeat' first|exact trivial|exact rfl|refine And.intro ?_ ?_|refine ⟨_,rfl,?_⟩|decide)) ?_
 rintro n ⟨hn,hI⟩
 have cr:=zvf (T:=T) p hp (n:Int)
 rw [show zhM p (n:Int)=(ptL p.W.toNat (zu p n),0) by rw [zhM,if_neg (by omega),if_neg (by omega)];rfl] at cr
 have e1:(ptL p.W.toNat (zu p n))[((vn:Nat):Int).toNat]? = some ((zu p n vn:Nat):Int):=zau hv
 have e2:(ptL p.W.toNat (zu p n))[((wn:Nat):Int).toNat]? = some ((zu p n wn:Nat):Int):=zau hw
 (repeat' ((conv=>whnf);first|refine vA ?_|((first|refine vD ?_ ?_|refine vF ?_ ?_)<;>intro hc<;>try simp only [vL] at hc)|refine vT ?_|refine vN ‹_› ?_|(refine vO ?_ ?_;·omega)|(refine vU ?_ ?_;·kernel_rfl)|refine yN cr ⟨⟨rfl,rfl⟩,⟨rfl,rfl⟩,rfl⟩ ?_));all_goals try conv=>whnf
 ·have hne:zu p n vn≠zu p n wn:=by omega
  have hns:n≤zaS p:=by
   refine Classical.byContradiction fun h=>hne ?_
   rw [zD3 hc0 (by omega) hv,zD3 hc0 (by omega) hw]
   exact hI _ (by omega)
  obtain ⟨d,q1,q2,q3,q4⟩:=zmr hv hw hns hne
  have hdn:d=n:=by
   rcases Nat.lt_or_ge d n with h|h
   ·exact absurd (hI d h) q3
   ·omega
  rw [q2,if_neg (show ¬(d:Int) < 0 by omega),if_neg (show ¬(0:Int)≠0 by decide),hdn] at hR
  subst hR;rfl
 ·exact ⟨n+1,[(0,0)],[],⟨by (omega),fun i hi=>by
   by_cases e:i=n
   ·subst e;omega
   ·exact hI i (by omega)⟩,by (omega),by (refine ⟨rfl,rfl,rfl,?_,?_⟩;repeat' first|exact trivial|exact rfl|refine And.intro ?_ ?_|refine ⟨_,rfl,?_⟩|decide)⟩
 ·have hd:zb1 p vn wn = -1:=zjv fun i y hi hy=>by
   obtain ⟨q1,rfl⟩:=znq hy
   rw [zq (zau hv),zq (zau hw),decide_eq_false (not_not_intro _)]
   by_cases h:i < n
   ·rw [hI i h]
   ·rw [zvQ hc0 (by omega) hv,zvQ hc0 (by omega) hw,hI p.W.toNat (by omega)]
  rw [hd] at hR
  subst hR;rfl
end Go.Ab
namespace Go.Ab
open Go Go.Proofs
set_option maxRecDepth 10000
set_option maxHeartbeats 4000000
variable {T:Nat→Obj→Prop}
theorem zwp (m:KM) (g:Nat) (hg:g < 2 ^ 63):Fn Tryz.prog T zep [.d (dKM m),.d (.int .i64 (g:Int))] [] (.d (dU (zdw m g false))) []:=by
 have c:=zxW (T:=T) m g hg
 refine zd zp zmZ (by show 2≤8;decide) ?_
 (repeat' ((conv=>whnf);first|refine vT ?_|refine yN c ⟨⟨rfl,rfl⟩,⟨rfl,rfl⟩,⟨rfl,rfl⟩,rfl⟩ ?_));all_goals try conv=>whnf
 all_goals first|rfl|skip
theorem zCb {n:Int} (h1:1≤n) (h2:n≤64) {s:BitVec 64} (h:bad n s=false) {i:Nat} (hi:s.getLsbD i=true):i < n.toNat:=by
 have h0:s &&& ~~~zaQ n=0#64:=by simpa [bad] using h
 have h3:=congrArg (fun x:BitVec 64=>x.getLsbD i) h0
 simp only [BitVec.getLsbD_and,BitVec.getLsbD_not,hi,Bool.true_and,BitVec.getLsbD_zero,Bool.and_eq_false_iff,decide_eq_false_iff_not,Bool.not_eq_false'] at h3
 rcases h3 with h3|h3
 ·exact absurd (BitVec.lt_of_getLsbD hi) h3
 ·unfold zaQ at h3
  split at h3
  ·have:=BitVec.lt_of_getLsbD hi;omega
  ·rw [show (1#64 <<< n.toNat) - 1#64=zQ (fun _=>true) n.toNat by
    refine ziB fun j=>?_
    rw [zig (by omega),← BitVec.ofNat_eq_ofNat]
    have:(1#64 <<< n.toNat - 1#64).getLsbD j=decide (j < n.toNat):=by
     rw [show (1#64 <<< n.toNat - 1#64)=BitVec.ofNat 64 (2 ^ n.toNat - 1) by
      apply BitVec.eq_of_toNat_eq
      have hp:2 ^ n.toNat < 2 ^ 64:=Nat.pow_lt_pow_right (by omega) (by omega)
      have hq:=Nat.two_pow_pos n.toNat
      simp [BitVec.toNat_sub,BitVec.toNat_shiftLeft,Nat.shiftLeft_eq]
      omega]
     rw [BitVec.getLsbD_ofNat,Nat.testBit_two_pow_sub_one]
     by_cases hj:j < n.toNat
     ·simp [hj];omega
     ·simp [hj]
    simp [this]] at h3
   exact ((zig (by omega)).1 h3).1
theorem zzC {m:KM} (hm:zBT m) {a w v:Nat} (h:(zho m a w).getLsbD v=true):v < m.W.toNat:=by
 unfold zho at h
 cases hr:m.rel[a]? with
 | none=>simp [List.getD,hr] at h
 | some r =>
  rw [zaU hr] at h
  cases hx:r[w]? with
  | none=>simp [List.getD,hx] at h
  | some x =>
   rw [zaU hx] at h
   exact zCb hm.w1 hm.w2 (hm.rel r (List.mem_of_getElem? hr) x (List.mem_of_getElem? hx)) h
theorem zmB {m:KM} {g w v:Nat} : ∀ k,(zh5 m g false w k).getLsbD v=true ↔ ∃ a,a < k∧g.testBit a=true∧(zho m a w).getLsbD v=true
 | 0=>by simp [zh5]
 | k+1=>by
  rw [zox]
  by_cases hg:g.testBit k=true
  ·rw [if_pos hg,if_neg (by decide),BitVec.getLsbD_or,Bool.or_eq_true,zmB k]
   constructor
   ·rintro (⟨a,h1,h2⟩|h)
    ·exact ⟨a,by omega,h2⟩
    ·exact ⟨k,by omega,hg,h⟩
   ·rintro ⟨a,h1,h2,h3⟩
    by_cases e:a=k
    ·subst e;exact .inr h3
    ·exact .inl ⟨a,by omega,h2,h3⟩
  ·rw [if_neg hg,zmB k]
   constructor
   ·rintro ⟨a,h1,h2⟩;exact ⟨a,by omega,h2⟩
   ·rintro ⟨a,h1,h2,h3⟩
    by_cases e:a=k
    ·subst e;exact absurd h2 hg
    ·exact ⟨a,by omega,h2,h3⟩
theorem zwX {m:KM} (hc:zbs m=0) {g:Nat} {meet:Bool} (h1:1≤g) (h2:g < 2 ^ m.rel.length):zdw m g meet=(List.range m.W.toNat).map fun w=>zh5 m g meet w m.rel.length:=by
 rw [zdw,if_neg (by omega)]
theorem zza {m:KM} (hc:zbs m=0) {g:Nat} {meet:Bool} (h1:1≤g) (h2:g < 2 ^ m.rel.length) {w:Nat} (hw:w < m.W.toNat):(zdw m g meet).getD w 0#64=zh5 m g meet w m.rel.length:=by
 rw [zwX hc h1 h2]
 exact zaU (by simp [hw])
noncomputable def znh (m:KM) (h:Hd) (x y:BitVec 64):BitVec 64 :=
 if h.op=3 then m.val.getD h.i.toNat 0#64 else if h.op≤8 then zud h.op x y (zaQ m.W) else if h.op=9 then zgJ (m.rel.getD h.i.toNat []) m.W.toNat x else if h.op=10 then zaQ m.W &&& ~~~zgJ (m.rel.getD h.i.toNat []) m.W.toNat (zaQ m.W &&& ~~~x) else
 if h.op=11 then zgJ (zdw m h.g.toNat false) m.W.toNat x else zxA (zdw m h.g.toNat false) m.W.toNat x y
theorem zCv (m:KM) (hc:zbs m=0) (n:Nd) (x y:BitVec 64) (h3:n.op=3→0≤n.i∧n.i < m.val.length) (h9:n.op=9∨n.op=10→0≤n.i∧n.i < m.rel.length) (h11:11≤n.op→n.op≠12∧1≤n.g∧n.g.toNat < 2 ^ m.rel.length) :
  Fn Tryz.prog T zfd [.d (dKM m),.d (dNd n),.d (.u64 x),.d (.u64 y)] [] (.d (.u64 (znh m n.hd x y))) []:=by
 have hgd:=zp5 hc
 have w1:=hgd.w1
 have w2:=hgd.w2
 have hlen : ∀ r,m.rel[n.i.toNat]? = some r→(r.length:Int)=m.W:=fun r h=>hgd.len r (List.mem_of_getElem? h)
 have hg63:11≤n.op→n.g.toNat < 2 ^ 63∧((n.g.toNat:Nat):Int)=n.g∧((zdw m n.g.toNat false).length:Int)=m.W∧zjC (zdw m n.g.toNat false) m.W.toNat:=fun h=>by
  obtain ⟨a1,a2,a3⟩:=h11 h
  have n4:=hgd.n4
  have:2 ^ m.rel.length≤2 ^ 4:=Nat.pow_le_pow_right (by omega) n4
  refine ⟨by omega,by omega,by rw [zwX hc (by omega) a3];simp;omega,fun v u hv hu=>?_⟩
  rw [zza hc (by omega) a3 hv,zmB] at hu
  obtain ⟨a,-,-,hu⟩:=hu
  exact zzC hgd hu
 refine zd zp zoL (by show 4≤92;decide) ?_
 by_cases hop:11≤n.op
 ·obtain ⟨b1,b2,b3,b4⟩:=hg63 hop
  obtain ⟨a1,a2,a3⟩:=h11 hop
  have cg:=zwp (T:=T) m n.g.toNat b1
  rw [b2] at cg
  have cb:=zsm (T:=T) (zdw m n.g.toNat false) m.W x (by omega) (by omega)
  have cc:=zxU (T:=T) (zdw m n.g.toNat false) m.W x y (by omega) (by omega) b4
  (repeat' ((conv=>whnf);first|refine zP.decN (by omega) ?_|refine vA ?_|(refine vF ?_ ?_<;>intro hc)|refine vT ?_|(refine vU ?_ ?_;·kernel_rfl)|refine vY ?_|refine yD (zkb m.W (by omega)) ⟨⟨rfl,rfl⟩,rfl⟩ rfl ?_|refine yN cg ⟨⟨rfl,rfl⟩,⟨rfl,rfl⟩,rfl⟩ ?_|refine yD cb ⟨⟨rfl,rfl⟩,⟨rfl,rfl⟩,⟨rfl,rfl⟩,rfl⟩ rfl ?_|refine yD cc (by (repeat refine ⟨⟨rfl,rfl⟩,?_⟩);rfl) rfl ?_));all_goals try conv=>whnf
  ·rw [znh,if_neg (by show ¬n.op=3;omega),if_neg (by show ¬n.op≤8;omega),if_neg (by show ¬n.op=9;omega),if_neg (by show ¬n.op=10;omega),if_pos (by show n.op=11;omega)];rfl
  ·rw [znh,if_neg (by show ¬n.op=3;omega),if_neg (by show ¬n.op≤8;omega),if_neg (by show ¬n.op=9;omega),if_neg (by show ¬n.op=10;omega),if_neg (by show ¬n.op=11;omega)];rfl
 ·by_cases hop':n.op=9∨n.op=10
  ·obtain ⟨i0,i1⟩:=h9 hop'
   obtain ⟨r,hr⟩ : ∃ r,m.rel[n.i.toNat]? = some r:=⟨_,List.getElem?_eq_getElem (by omega)⟩
   have hl:=hlen r hr
   have hrd:m.rel.getD n.i.toNat []=r:=zaU hr
   have cb:=zsm (T:=T) r m.W x (by omega) (by omega)
   have cb2:=zsm (T:=T) r m.W (zaQ m.W &&& ~~~x) (by omega) (by omega)
   by_cases h9':n.op=9
   ·(repeat' ((conv=>whnf);first|refine zP.decN (by omega) ?_|refine zP.decY (by omega) ?_|refine vA ?_|refine vT ?_|(refine vR ?_ ‹_› ?_;·omega)|(refine vU ?_ ?_;·kernel_rfl)|refine vY ?_|refine yD (zkb m.W (by omega)) ⟨⟨rfl,rfl⟩,rfl⟩ rfl ?_|refine yD cb ⟨⟨rfl,rfl⟩,⟨rfl,rfl⟩,⟨rfl,rfl⟩,rfl⟩ rfl ?_));all_goals try conv=>whnf
    rw [znh,if_neg (show ¬n.hd.op=3 by show ¬n.op=3;omega),if_neg (show ¬n.hd.op≤8 by show ¬n.op≤8;omega),if_pos (show n.hd.op=9 from h9')]
    exact congrArg (fun r=>zgJ r m.W.toNat x) hrd.symm
   ·(repeat' ((conv=>whnf);first|refine zP.decN (by omega) ?_|refine zP.decY (by omega) ?_|refine vA ?_|refine vT ?_|(refine vR ?_ ‹_› ?_;·omega)|(refine vU ?_ ?_;·kernel_rfl)|refine vY ?_|refine yD (zkb m.W (by omega)) ⟨⟨rfl,rfl⟩,rfl⟩ rfl ?_|refine yD cb2 ⟨⟨rfl,rfl⟩,⟨rfl,rfl⟩,⟨rfl,rfl⟩,rfl⟩ rfl ?_));all_goals try conv=>whnf
    rw [znh,if_neg (show ¬n.hd.op=3 by show ¬n.op=3;omega),if_neg (show ¬n.hd.op≤8 by show ¬n.op≤8;omega),if_neg (show ¬n.hd.op=9 from h9'),if_pos (show n.hd.op=10 by show n.op=10;omega)]
    exact congrArg (fun r=>zaQ m.W &&& ~~~zgJ r m.W.toNat (zaQ m.W &&& ~~~x)) hrd.symm
  ·(repeat' ((conv=>whnf);first|refine vA ?_|(refine vF ?_ ?_<;>intro hc<;>try simp only [vL] at hc)|refine vT ?_|(refine vS ?_ fun x hx=>?_;·omega)|refine vY ?_|refine yD (zkb m.W (by omega)) ⟨⟨rfl,rfl⟩,rfl⟩ rfl ?_|refine yD (zwk _ _ _ _) (by (repeat refine ⟨⟨rfl,rfl⟩,?_⟩);rfl) rfl ?_));all_goals try conv=>whnf
   all_goals try omega
   ·rw [znh,if_pos (show n.hd.op=3 from ‹n.op=3›)]
    exact (zaU hx).symm
   ·rw [znh,if_neg (show ¬n.hd.op=3 from ‹¬n.op=3›),if_pos (show n.hd.op≤8 from ‹_›)];rfl
end Go.Ab
namespace Go.Ab
open Go Go.Proofs
set_option maxRecDepth 10000
set_option maxHeartbeats 4000000
variable {T:Nat→Obj→Prop}
theorem zs0 (p:PM) (hp:zat p.rank) (a w:Int) (hat:At p a w):Fn Tryz.prog T zhx [.d (dPM p),.d (.int .i64 a),.d (.int .i64 w)] [] (.d (.u64 (zav p a w))) []:=by
 obtain ⟨hrow,-,hlen,-,h64,ha,-⟩:=hat.rows
 have ha0:=hat.a0
 have hw0:=hat.w0
 have hw1:=hat.w1
 refine zd zp znT (by show 3≤37;decide) ?_
 (repeat' ((conv=>whnf);first|refine vA ?_|refine vT ?_));all_goals try conv=>whnf
 refine zt (fun ((k,s):Nat×BitVec 64)=>[(1,.d (.int .i64 (a))),(2,.d (.int .i64 (w))),(3,.ptr 0 0),(7,.d (.u64 (s))),(8,.d (.int .i64 ((k:Int))))]) (fun ((k,s):Nat×BitVec 64)=>[(0,some (zaC p))]) 1 (fun ((k,s):Nat×BitVec 64)=>k≤p.W.toNat∧s=zQ (fun v=>at0 (zb p.cell a.toNat) v==at0 (zb p.cell a.toNat) w.toNat) k) (fun ((k,s):Nat×BitVec 64)=>p.W.toNat - k) ((0,0#64)) [(0,0)] [] (⟨by simp,rfl⟩) (by (refine ⟨rfl,rfl,rfl,?_,?_⟩;repeat' first|exact trivial|exact rfl|refine And.intro ?_ ?_|refine ⟨_,rfl,?_⟩|decide)) ?_
 rintro ⟨k,s⟩ ⟨hk,hI⟩
 (repeat' ((conv=>whnf);first|refine vA ?_|(refine vF ?_ ?_<;>intro hc<;>try simp only [vL] at hc)|refine vT ?_|(refine vQ ?_ fun x hx=>?_;·omega)|((first|refine vO ?_ ?_|refine vR ?_ ‹_› ?_|refine vS ?_ fun x hx=>?_|refine vP ?_ ?_);·omega)|(refine vU ?_ ?_;·kernel_rfl)|refine vY ?_));all_goals try conv=>whnf
 ·have h1:=zq ‹(zb p.cell a.toNat)[k]? = some _›
  have h2:=zq hx
  refine ⟨(k+1,_),[(0,0)],[],?_,?_,by (refine ⟨rfl,rfl,rfl,?_,?_⟩;repeat' first|exact trivial|exact rfl|refine And.intro ?_ ?_|refine ⟨_,rfl,?_⟩|decide)⟩
  ·exact ⟨by (omega),by rw [zQ,if_pos (by simp;omega),hI];rfl⟩
  ·((simp only [vM] at *;omega))
 ·have h1:=zq ‹(zb p.cell a.toNat)[k]? = some _›
  have h2:=zq hx
  exact ⟨(k+1,s),[(0,0)],[],⟨by (omega),by rw [zQ,if_neg (by simp;omega),hI]⟩,by ((simp only [vM] at *;omega)),by (refine ⟨rfl,rfl,rfl,?_,?_⟩;repeat' first|exact trivial|exact rfl|refine And.intro ?_ ?_|refine ⟨_,rfl,?_⟩|decide)⟩
 ·rw [zav,if_pos hat,hI,zhP,show k=(zb p.cell a.toNat).length by omega]
def zjX (rank:List Int) (s:BitVec 64) (k:Nat) (m:Int):Prop:=(m < 0 ∧ ∀ v,v < k→s.getLsbD v=false)∨(0≤m∧(∃ v,v < k∧s.getLsbD v=true∧at0 rank v=m) ∧ ∀ v,v < k→s.getLsbD v=true→m≤at0 rank v)
theorem zjX.keep {rank:List Int} {s:BitVec 64} {k:Nat} {m:Int} (h:zjX rank s k m) (hk:s.getLsbD k=true→0≤m∧m≤at0 rank k):zjX rank s (k+1) m:=by
 rcases h with ⟨h1,h2⟩|⟨h1,⟨v,a,b,c⟩,h3⟩
 ·refine .inl ⟨h1,fun v hv=>?_⟩
  by_cases e:v=k
  ·subst e
   cases hs:s.getLsbD v with
   | false=>rfl
   | true=>have:=hk hs;omega
  ·exact h2 v (by omega)
 ·refine .inr ⟨h1,⟨v,by omega,b,c⟩,fun u hu hs=>?_⟩
  by_cases e:u=k
  ·subst e;exact (hk hs).2
  ·exact h3 u (by omega) hs
theorem zjX.take {rank:List Int} {s:BitVec 64} {k:Nat} {m:Int} (h:zjX rank s k m) (hk:s.getLsbD k=true) (h0:0≤at0 rank k) (hm:m < 0∨at0 rank k < m):zjX rank s (k+1) (at0 rank k):=by
 refine .inr ⟨h0,⟨k,by omega,hk,rfl⟩,fun v hv hs=>?_⟩
 by_cases e:v=k
 ·subst e;exact Int.le_refl _
 ·rcases h with ⟨h1,h2⟩|⟨h1,-,h3⟩
  ·rw [h2 v (by omega)] at hs;cases hs
  ·have:=h3 v (by omega) hs;omega
theorem zyR (p:PM) (hp:zat p.rank) (a w:Int) (hat:At p a w) (c:BitVec 64):Fn Tryz.prog T zhy [.d (dPM p),.d (.int .i64 a),.d (.int .i64 w),.d (.u64 c)] [] (.d (.u64 (zmg p a w c))) []:=by
 obtain ⟨hrow,hrank,hlen,hlen',h64,ha,-⟩:=hat.rows
 have ha0:=hat.a0
 have hw0:=hat.w0
 have hw1:=hat.w1
 have hg:=zM hat.ok
 refine zd zp znU (by show 4≤79;decide) ?_
 (repeat' ((conv=>whnf);first|refine vA ?_|refine vT ?_|refine yD (zs0 p hp a w hat) ⟨⟨rfl,rfl⟩,⟨rfl,rfl⟩,⟨rfl,rfl⟩,rfl⟩ rfl ?_));all_goals try conv=>whnf
 refine zt (fun ((k,m):Nat×Int)=>[(1,.d (.int .i64 (a))),(4,.ptr 0 0),(9,.d (.u64 (zav p a w&&&c))),(10,.d (.int .i64 (m))),(11,.d (.u64 (0#64))),(12,.d (.int .i64 ((k:Int))))]) (fun ((k,m):Nat×Int)=>[(0,some (zaC p))]) 1 (fun ((k,m):Nat×Int)=>k≤p.W.toNat∧zjX (zb p.rank a.toNat) (zav p a w&&&c) k m) (fun ((k,m):Nat×Int)=>p.W.toNat - k) ((0,-1)) [(0,0)] [] (⟨by simp,.inl ⟨by decide,fun v hv=>by omega⟩⟩) (by (refine ⟨rfl,rfl,rfl,?_,?_⟩;repeat' first|exact trivial|exact rfl|refine And.intro ?_ ?_|refine ⟨_,rfl,?_⟩|decide)) ?_
 rintro ⟨k,m⟩ ⟨hk,hI⟩
 (repeat' ((conv=>whnf);first|refine vA ?_|refine vE ?_|(refine vF ?_ ?_<;>intro hc<;>try simp only [vL] at hc)|refine vT ?_|refine vN ‹_› ?_|(refine vQ ?_ fun x hx=>?_;·omega)|((first|refine vO ?_ ?_|refine vR ?_ ‹_› ?_);·omega)|refine yD (zon _ _) ⟨⟨rfl,rfl⟩,⟨rfl,rfl⟩,rfl⟩ rfl ?_));all_goals try conv=>whnf
 ·have hb:=zsc ‹_›
  exact ⟨(k+1,m),[(0,0)],[],⟨by (omega),hI.keep fun h=>by rw [hb] at h;cases h⟩,by ((simp only [vM] at *;omega)),by (refine ⟨rfl,rfl,rfl,?_,?_⟩;repeat' first|exact trivial|exact rfl|refine And.intro ?_ ?_|refine ⟨_,rfl,?_⟩|decide)⟩
 ·have hb:=zn3 ‹_›
  have e1:=zq ‹(zb p.rank a.toNat)[k]? = some _›
  have h0:=zqd hat (i:=k) (by rw [BitVec.getLsbD_and,Bool.and_eq_true] at hb;exact hb.1)
  rw [← e1]
  refine ⟨(k+1,_),[(0,0)],[],?_,?_,by (refine ⟨rfl,rfl,rfl,?_,?_⟩;repeat' first|exact trivial|exact rfl|refine And.intro ?_ ?_|refine ⟨_,rfl,?_⟩|decide)⟩
  ·exact ⟨by (omega),hI.take hb h0 (.inl ‹_›)⟩
  ·((simp only [vM] at *;omega))
 ·have hb:=zn3 ‹_›
  have e1:=zq ‹(zb p.rank a.toNat)[k]? = some _›
  have h0:=zqd hat (i:=k) (by rw [BitVec.getLsbD_and,Bool.and_eq_true] at hb;exact hb.1)
  have h1:at0 (zb p.rank a.toNat) k < m:=by omega
  rw [← e1]
  refine ⟨(k+1,_),[(0,0)],[],?_,?_,by (refine ⟨rfl,rfl,rfl,?_,?_⟩;repeat' first|exact trivial|exact rfl|refine And.intro ?_ ?_|refine ⟨_,rfl,?_⟩|decide)⟩
  ·exact ⟨by (omega),hI.take hb h0 (.inr h1)⟩
  ·((simp only [vM] at *;omega))
 ·have e1:=zq ‹(zb p.rank a.toNat)[k]? = some _›
  exact ⟨(k+1,m),[(0,0)],[],⟨by (omega),hI.keep fun h=>by omega⟩,by ((simp only [vM] at *;omega)),by (refine ⟨rfl,rfl,rfl,?_,?_⟩;repeat' first|exact trivial|exact rfl|refine And.intro ?_ ?_|refine ⟨_,rfl,?_⟩|decide)⟩
 ·have hk':k=p.W.toNat:=by omega
  subst hk'
  refine zt (fun ((k,o):Nat×BitVec 64)=>[(1,.d (.int .i64 (a))),(4,.ptr 0 0),(9,.d (.u64 (zav p a w&&&c))),(10,.d (.int .i64 (m))),(11,.d (.u64 (o))),(13,.d (.int .i64 ((k:Int))))]) (fun ((k,o):Nat×BitVec 64)=>[(0,some (zaC p))]) 1 (fun ((k,o):Nat×BitVec 64)=>k≤p.W.toNat∧o=zQ (fun v=>(zav p a w&&&c).getLsbD v&&decide (at0 (zb p.rank a.toNat) v=m)) k) (fun ((k,o):Nat×BitVec 64)=>p.W.toNat - k) ((0,0#64)) [(0,0)] [] (⟨by simp,rfl⟩) (by (refine ⟨rfl,rfl,rfl,?_,?_⟩;repeat' first|exact trivial|exact rfl|refine And.intro ?_ ?_|refine ⟨_,rfl,?_⟩|decide)) ?_
  rintro ⟨k,o⟩ ⟨hk,hO⟩
  (repeat' ((conv=>whnf);first|refine vA ?_|refine vE ?_|(refine vF ?_ ?_<;>intro hc<;>try simp only [vL] at hc)|refine vT ?_|(refine vQ ?_ fun x hx=>?_;·omega)|((first|refine vO ?_ ?_|refine vR ?_ ‹_› ?_|refine vP ?_ ?_);·omega)|refine vY ?_|refine yD (zon _ _) ⟨⟨rfl,rfl⟩,⟨rfl,rfl⟩,rfl⟩ rfl ?_));all_goals try conv=>whnf
  ·have hb:=zsc ‹_›
   exact ⟨(k+1,o),[(0,0)],[],⟨by (omega),by rw [zQ,if_neg (by simp [hb]),hO]⟩,by ((simp only [vM] at *;omega)),by (refine ⟨rfl,rfl,rfl,?_,?_⟩;repeat' first|exact trivial|exact rfl|refine And.intro ?_ ?_|refine ⟨_,rfl,?_⟩|decide)⟩
  ·have hb:=zn3 ‹_›
   have e1:=zq ‹(zb p.rank a.toNat)[k]? = some _›
   have h1:at0 (zb p.rank a.toNat) k=m:=by omega
   refine ⟨(k+1,_),[(0,0)],[],?_,?_,by (refine ⟨rfl,rfl,rfl,?_,?_⟩;repeat' first|exact trivial|exact rfl|refine And.intro ?_ ?_|refine ⟨_,rfl,?_⟩|decide)⟩
   ·exact ⟨by (omega),by rw [zQ,if_pos (by simp [hb,h1]),hO];rfl⟩
   ·((simp only [vM] at *;omega))
  ·have e1:=zq ‹(zb p.rank a.toNat)[k]? = some _›
   have h1 : ¬at0 (zb p.rank a.toNat) k=m:=by omega
   exact ⟨(k+1,o),[(0,0)],[],⟨by (omega),by rw [zQ,if_neg (by simp [h1]),hO]⟩,by ((simp only [vM] at *;omega)),by (refine ⟨rfl,rfl,rfl,?_,?_⟩;repeat' first|exact trivial|exact rfl|refine And.intro ?_ ?_|refine ⟨_,rfl,?_⟩|decide)⟩
  ·rw [hO,show k=p.W.toNat by omega]
   refine ziB fun i=>?_
   rw [zig (W64 hat.ok),zyC hat]
   have hW : ∀ u,(zav p a w).getLsbD u=true→u < p.W.toNat:=fun u hu=>((ziG hat).1 hu).1
   simp only [BitVec.getLsbD_and,Bool.and_eq_true,decide_eq_true_eq]
   constructor
   ·rintro ⟨h1,⟨h2,h3⟩,h4⟩
    refine ⟨⟨h3,h2⟩,fun u hu hu'=>?_⟩
    rcases hI with ⟨-,g⟩|⟨-,-,g⟩
    ·have:=g i h1;rw [BitVec.getLsbD_and,h2,h3] at this;cases this
    ·rw [h4];exact g u (hW u hu') (by rw [BitVec.getLsbD_and,hu',hu];rfl)
   ·rintro ⟨⟨h3,h2⟩,h4⟩
    have h1:=hW i h2
    refine ⟨h1,⟨h2,h3⟩,?_⟩
    rcases hI with ⟨-,g⟩|⟨-,⟨v,g1,g2,g3⟩,g⟩
    ·have:=g i h1;rw [BitVec.getLsbD_and,h2,h3] at this;cases this
    ·rw [BitVec.getLsbD_and,Bool.and_eq_true] at g2
     have a1:=g i h1 (by rw [BitVec.getLsbD_and,h2,h3];rfl)
     have a2:=h4 v g2.2 g2.1
     omega
end Go.Ab
namespace Go.Ab
open Go Go.Proofs
set_option maxRecDepth 10000
set_option maxHeartbeats 4000000
variable {T:Nat→Obj→Prop}
theorem ztV (p:PM) (hp:zat p.rank) (hc0:zm p=0) (a:Int) (ha0:0≤a) (ha1:a < p.cell.length) (c s:BitVec 64):Fn Tryz.prog T zfF [.d (dPM p),.d (.int .i64 a),.d (.u64 c),.d (.u64 s)] [] (.d (.u64 (zn2 p a c s))) []:=by
 have hgd:=zM hc0
 have h2:=hgd.w2
 refine zd zp zkt (by show 4≤30;decide) ?_
 (repeat' ((conv=>whnf);first|refine vA ?_|refine vT ?_));all_goals try conv=>whnf
 refine zt (fun ((k,o):Nat×BitVec 64)=>[(1,.d (.int .i64 (a))),(2,.d (.u64 (c))),(3,.d (.u64 (s))),(4,.ptr 0 0),(9,.d (.u64 (o))),(10,.d (.int .i64 ((k:Int))))]) (fun ((k,o):Nat×BitVec 64)=>[(0,some (zaC p))]) 1 (fun ((k,o):Nat×BitVec 64)=>k≤p.W.toNat∧o=zQ (fun w=>decide (zmg p a w c &&& ~~~s=0#64)) k) (fun ((k,o):Nat×BitVec 64)=>p.W.toNat - k) ((0,0#64)) [(0,0)] [] (⟨by simp,rfl⟩) (by (refine ⟨rfl,rfl,rfl,?_,?_⟩;repeat' first|exact trivial|exact rfl|refine And.intro ?_ ?_|refine ⟨_,rfl,?_⟩|decide)) ?_
 rintro ⟨k,o⟩ ⟨hk,hI⟩
 by_cases hkW:k < p.W.toNat
 ·have hat:At p a k:=⟨hc0,ha0,ha1,by omega,by omega⟩
  (repeat' ((conv=>whnf);first|refine vA ?_|(refine vF ?_ ?_<;>intro hc<;>try simp only [vL] at hc)|refine vT ?_|((first|refine vO ?_ ?_|refine vP ?_ ?_);·omega)|refine vY ?_|refine yD (zyR p hp a k hat c) (by (repeat refine ⟨⟨rfl,rfl⟩,?_⟩);rfl) rfl ?_));all_goals try conv=>whnf
  ·have h1:=‹zmg p a k c &&& ~~~s=0#64›
   refine ⟨(k+1,_),[(0,0)],[],?_,?_,by (refine ⟨rfl,rfl,rfl,?_,?_⟩;repeat' first|exact trivial|exact rfl|refine And.intro ?_ ?_|refine ⟨_,rfl,?_⟩|decide)⟩
   ·exact ⟨by (omega),by rw [zQ,if_pos (decide_eq_true h1),hI];rfl⟩
   ·((simp only [vM] at *;omega))
  ·have h1:=‹¬zmg p a k c &&& ~~~s=0#64›
   exact ⟨(k+1,o),[(0,0)],[],⟨by (omega),by rw [zQ,if_neg (by simpa using h1),hI]⟩,by ((simp only [vM] at *;omega)),by (refine ⟨rfl,rfl,rfl,?_,?_⟩;repeat' first|exact trivial|exact rfl|refine And.intro ?_ ?_|refine ⟨_,rfl,?_⟩|decide)⟩
  all_goals omega
 ·(repeat' ((conv=>whnf);first|refine vA ?_|(refine vF ?_ ?_<;>intro hc<;>try simp only [vL] at hc)|refine vT ?_|refine vY ?_));all_goals try conv=>whnf
  ·omega
  ·rw [hI,show k=p.W.toNat by omega];rfl
end Go.Ab
namespace Go.Ab
open Go Go.Proofs
set_option maxRecDepth 10000
set_option maxHeartbeats 4000000
variable {T:Nat→Obj→Prop}
def zr4 (p:PM) (a w:Nat):BitVec 64:=zQ (fun v=>decide (at0 (zb p.cell a) v=at0 (zb p.cell a) w∧at0 (zb p.rank a) v≤at0 (zb p.rank a) w)) p.W.toNat
theorem zxX (p:PM) (hp:zat p.rank) (a w:Nat) (hat:At p a w):Fn Tryz.prog T zgR [.d (dPM p),.d (.int .i64 (a:Int)),.d (.int .i64 (w:Int))] [] (.d (.u64 (zr4 p a w))) []:=by
 obtain ⟨hrow,hrank,hlen,hlen',h64,ha,-⟩:=hat.rows
 have hw1:=hat.w1
 rw [Int.toNat_natCast] at hrow hrank hlen hlen'
 refine zd zp zm7 (by show 3≤56;decide) ?_
 (repeat' ((conv=>whnf);first|refine vA ?_|refine vT ?_));all_goals try conv=>whnf
 refine zt (fun ((k,o):Nat×BitVec 64)=>[(1,.d (.int .i64 ((a:Int)))),(2,.d (.int .i64 ((w:Int)))),(3,.ptr 0 0),(7,.d (.u64 (o))),(8,.d (.int .i64 ((k:Int))))]) (fun ((k,o):Nat×BitVec 64)=>[(0,some (zaC p))]) 1 (fun ((k,o):Nat×BitVec 64)=>k≤p.W.toNat∧o=zQ (fun v=>decide (at0 (zb p.cell a) v=at0 (zb p.cell a) w∧at0 (zb p.rank a) v≤at0 (zb p.rank a) w)) k) (fun ((k,o):Nat×BitVec 64)=>p.W.toNat - k) ((0,0#64)) [(0,0)] [] (⟨by simp,rfl⟩) (by (refine ⟨rfl,rfl,rfl,?_,?_⟩;repeat' first|exact trivial|exact rfl|refine And.intro ?_ ?_|refine ⟨_,rfl,?_⟩|decide)) ?_
 rintro ⟨k,o⟩ ⟨hk,hI⟩
 by_cases hkW:(k:Int) < p.W
 ·obtain ⟨x1,e1⟩ : ∃ x,(zb p.cell a)[k]? = some x:=⟨_,List.getElem?_eq_getElem (by omega)⟩
  obtain ⟨x2,e2⟩ : ∃ x,(zb p.cell a)[w]? = some x:=⟨_,List.getElem?_eq_getElem (by omega)⟩
  obtain ⟨x3,e3⟩ : ∃ x,(zb p.rank a)[k]? = some x:=⟨_,List.getElem?_eq_getElem (by omega)⟩
  obtain ⟨x4,e4⟩ : ∃ x,(zb p.rank a)[w]? = some x:=⟨_,List.getElem?_eq_getElem (by omega)⟩
  have f1:=zq e1
  have f2:=zq e2
  have f3:=zq e3
  have f4:=zq e4
  (repeat' ((conv=>whnf);first|refine vA ?_|(refine vF ?_ ?_<;>intro hc<;>try simp only [vL] at hc)|refine vT ?_|refine vN ‹_› ?_|((first|refine vO ?_ ?_|refine vP ?_ ?_);·omega)|(refine vU ?_ ?_;·kernel_rfl)|refine vY ?_));all_goals try conv=>whnf
  ·refine ⟨(k+1,_),[(0,0)],[],?_,?_,by (refine ⟨rfl,rfl,rfl,?_,?_⟩;repeat' first|exact trivial|exact rfl|refine And.intro ?_ ?_|refine ⟨_,rfl,?_⟩|decide)⟩
   ·exact ⟨by (omega),by rw [zQ,if_pos (decide_eq_true ⟨by omega,by omega⟩),hI];rfl⟩
   ·((simp only [vM] at *;omega))
  ·exact ⟨(k+1,o),[(0,0)],[],⟨by (omega),by rw [zQ,if_neg (by rw [decide_eq_true_eq];omega),hI]⟩,by ((simp only [vM] at *;omega)),by (refine ⟨rfl,rfl,rfl,?_,?_⟩;repeat' first|exact trivial|exact rfl|refine And.intro ?_ ?_|refine ⟨_,rfl,?_⟩|decide)⟩
  ·exact ⟨(k+1,o),[(0,0)],[],⟨by (omega),by rw [zQ,if_neg (by rw [decide_eq_true_eq];omega),hI]⟩,by ((simp only [vM] at *;omega)),by (refine ⟨rfl,rfl,rfl,?_,?_⟩;repeat' first|exact trivial|exact rfl|refine And.intro ?_ ?_|refine ⟨_,rfl,?_⟩|decide)⟩
  all_goals omega
 ·(repeat' ((conv=>whnf);first|refine zP.decN (by omega) ?_|refine vA ?_|refine vT ?_|refine vY ?_));all_goals try conv=>whnf
  rw [hI,show k=p.W.toNat by omega];rfl
theorem zwr (p:PM) (hp:zat p.rank) (hc0:zm p=0) (a:Nat) (ha:a < p.cell.length) (s:BitVec 64):Fn Tryz.prog T zgm [.d (dPM p),.d (.int .i64 (a:Int)),.d (.u64 s)] [] (.d (.u64 (zeK p a s))) []:=by
 have hgd:=zM hc0
 have h2:=hgd.w2
 have e:zeK p a s=zQ (fun w=>decide (zr4 p a w &&& ~~~s=0#64)) p.W.toNat:=by
  refine ziB fun w=>?_
  rw [znr hc0 ha,zhr (W64 hc0)]
  refine and_congr_right fun hw=>?_
  rw [zjR]
  unfold zr4
  constructor
  ·intro h v hv
   rw [zhr (W64 hc0)] at hv
   exact h v ⟨hv.1,hv.2.1⟩ hv.2.2
  ·intro h v hv hr
   exact h v ((zhr (W64 hc0)).2 ⟨hv.1,hv.2,hr⟩)
 rw [e]
 refine zd zp zlz (by show 3≤27;decide) ?_
 (repeat' ((conv=>whnf);first|refine vA ?_|refine vT ?_));all_goals try conv=>whnf
 refine zt (fun ((k,o):Nat×BitVec 64)=>[(1,.d (.int .i64 ((a:Int)))),(2,.d (.u64 (s))),(3,.ptr 0 0),(7,.d (.u64 (o))),(8,.d (.int .i64 ((k:Int))))]) (fun ((k,o):Nat×BitVec 64)=>[(0,some (zaC p))]) 1 (fun ((k,o):Nat×BitVec 64)=>k≤p.W.toNat∧o=zQ (fun w=>decide (zr4 p a w &&& ~~~s=0#64)) k) (fun ((k,o):Nat×BitVec 64)=>p.W.toNat - k) ((0,0#64)) [(0,0)] [] (⟨by simp,rfl⟩) (by (refine ⟨rfl,rfl,rfl,?_,?_⟩;repeat' first|exact trivial|exact rfl|refine And.intro ?_ ?_|refine ⟨_,rfl,?_⟩|decide)) ?_
 rintro ⟨k,o⟩ ⟨hk,hI⟩
 by_cases hkW:k < p.W.toNat
 ·have hat:At p a k:=⟨hc0,by omega,by omega,by omega,by omega⟩
  (repeat' ((conv=>whnf);first|refine vA ?_|(refine vF ?_ ?_<;>intro hc<;>try simp only [vL] at hc)|refine vT ?_|((first|refine vO ?_ ?_|refine vP ?_ ?_);·omega)|refine vY ?_|refine yD (zxX p hp a k hat) ⟨⟨rfl,rfl⟩,⟨rfl,rfl⟩,⟨rfl,rfl⟩,rfl⟩ rfl ?_));all_goals try conv=>whnf
  ·refine ⟨(k+1,_),[(0,0)],[],?_,?_,by (refine ⟨rfl,rfl,rfl,?_,?_⟩;repeat' first|exact trivial|exact rfl|refine And.intro ?_ ?_|refine ⟨_,rfl,?_⟩|decide)⟩
   ·exact ⟨by (omega),by rw [zQ,if_pos (decide_eq_true ‹_›),hI];rfl⟩
   ·((simp only [vM] at *;omega))
  ·exact ⟨(k+1,o),[(0,0)],[],⟨by (omega),by rw [zQ,if_neg (by simpa using ‹¬_›),hI]⟩,by ((simp only [vM] at *;omega)),by (refine ⟨rfl,rfl,rfl,?_,?_⟩;repeat' first|exact trivial|exact rfl|refine And.intro ?_ ?_|refine ⟨_,rfl,?_⟩|decide)⟩
  all_goals omega
 ·(repeat' ((conv=>whnf);first|refine zP.decN (by omega) ?_|refine vA ?_|refine vT ?_|refine vY ?_));all_goals try conv=>whnf
  rw [hI,show k=p.W.toNat by omega]
def zgr (p:PM) (a:Nat):List (BitVec 64):=(List.range p.W.toNat).map fun (w:Nat)=>zav p a w
def zaA (p:PM):KM:=⟨p.W,p.val,(List.range p.cell.length).map (zgr p)⟩
theorem zxP (p:PM) (hp:zat p.rank) (hc0:zm p=0):Fn Tryz.prog T zff [.d (dPM p)] [] (.d (dKM (zaA p))) []:=by
 have hgd:=zM hc0
 have h1:=hgd.w1
 have h2:=hgd.w2
 have n4:=hgd.n4
 have v8:=hgd.v8
 refine zd zp zke (by show 1≤55;decide) ?_
 (repeat' ((conv=>whnf);first|refine vA ?_|refine vT ?_));all_goals try conv=>whnf
 refine zt (fun ((k,zs):Nat×List D)=>[(1,.ptr 0 0),(2,.ptr 1 0),(3,.ptr 2 0),(4,.d (.int .i64 ((k:Int))))]) (fun ((k,zs):Nat×List D)=>[(0,some (zaC p)),(1,some (.box [.d (.int .i64 0),.nils 1,.nils 1])),(2,some (.box [.d (.int .i64 p.W),.own 3,.nils 1])),(3,some (.row 1 zs))]) 4 (fun ((k,zs):Nat×List D)=>k≤p.val.length∧zs=(p.val.take k).map D.u64) (fun ((k,zs):Nat×List D)=>p.val.length - k) ((0,[])) [(0,0),(1,1),(2,2)]   [3] (⟨by simp,rfl⟩) (by (refine ⟨rfl,rfl,rfl,?_,?_⟩;repeat' first|exact trivial|exact rfl|exact ⟨_,rfl⟩|refine And.intro ?_ ?_|refine ⟨_,rfl,?_⟩|decide)) ?_
 rintro ⟨k,zs⟩ ⟨hk,hI⟩
 have hzl:zs.length≤8:=by rw [hI];simp;omega
 (repeat' ((conv=>whnf);first|refine vA ?_|(refine vF ?_ ?_<;>intro hc<;>try simp only [vL] at hc)|refine vJ fun hg=>?_|refine vT ?_|(refine vQ ?_ fun x hx=>?_;·omega)|((first|refine vO ?_ ?_|refine vP ?_ ?_);·first|omega|(simp only [vM] at *;omega))|(refine vU ?_ ?_;·kernel_rfl)|fail));all_goals try conv=>whnf
 ·refine ⟨(k+1,_),[(0,0),(1,1),(2,2),(3,5)],[],?_,?_,by (refine ⟨rfl,rfl,rfl,?_,?_⟩;repeat' first|exact trivial|exact rfl|refine And.intro ?_ ?_|refine ⟨_,rfl,?_⟩|decide)⟩
  ·exact ⟨by (omega),by rw [List.take_add_one,List.map_append,hI,hx];rfl⟩
  ·((simp only [vM] at *;omega))
 ·rw [show k=p.val.length by omega,List.take_length] at hI
  subst hI
  refine zt (fun ((a,rs):Nat×List D)=>[(1,.ptr 0 0),(2,.ptr 1 0),(3,.ptr 2 0),(5,.d (.int .i64 ((a:Int))))]) (fun ((a,rs):Nat×List D)=>[(0,some (zaC p)),(1,some (.box [.d (.int .i64 0),.nils 1,.nils 1])),(2,some (.box [.d (.int .i64 p.W),.own 3,.own 4])),(3,some (.row 1 (p.val.map D.u64))),(4,some (.row 1 rs))]) 5 (fun ((a,rs):Nat×List D)=>a≤p.cell.length∧rs=((List.range a).map (zgr p)).map dU) (fun ((a,rs):Nat×List D)=>p.cell.length - a) ((0,[])) [(0,0),(1,1),(2,2),(3,3)]   [4] (⟨by simp,rfl⟩) (by (refine ⟨rfl,rfl,rfl,?_,?_⟩;repeat' first|exact trivial|exact rfl|exact ⟨_,rfl⟩|refine And.intro ?_ ?_|refine ⟨_,rfl,?_⟩|decide)) ?_
  rintro ⟨a,rs⟩ ⟨ha,hR⟩
  have hrl:rs.length≤8:=by rw [hR];simp;omega
  (repeat' ((conv=>whnf);first|refine vA ?_|(refine vF ?_ ?_<;>intro hc<;>try simp only [vL] at hc)|refine vJ fun hg=>?_|refine vT ?_));all_goals try conv=>whnf
  ·refine zt (fun ((w,zs):Nat×List D)=>[(1,.ptr 0 0),(2,.ptr 1 0),(3,.ptr 2 0),(5,.d (.int .i64 ((a:Int)))),(6,.own 5),(7,.d (.int .i64 ((w:Int))))]) (fun ((w,zs):Nat×List D)=>[(0,some (zaC p)),(1,some (.box [.d (.int .i64 0),.nils 1,.nils 1])),(2,some (.box [.d (.int .i64 p.W),.own 3,.own 4])),(3,some (.row 1 (p.val.map D.u64))),(4,some (.row 1 rs)),(5,some (.row 1 zs))]) 6 (fun ((w,zs):Nat×List D)=>w≤p.W.toNat∧zs=((List.range w).map fun (w:Nat)=>zav p a w).map D.u64) (fun ((w,zs):Nat×List D)=>p.W.toNat - w) ((0,[])) [(0,0),(1,1),(2,2),(3,3),(4,4)]   [5] (⟨by simp,rfl⟩) (by (refine ⟨rfl,rfl,rfl,?_,?_⟩;repeat' first|exact trivial|exact rfl|exact ⟨_,rfl⟩|refine And.intro ?_ ?_|refine ⟨_,rfl,?_⟩|decide)) ?_
   rintro ⟨w,zs⟩ ⟨hw,hZ⟩
   have hzw:zs.length≤64:=by rw [hZ];simp;omega
   by_cases hwW:w < p.W.toNat
   ·have hat:At p a w:=⟨hc0,by omega,by omega,by omega,by omega⟩
    (repeat' ((conv=>whnf);first|refine zP.decY (by omega) ?_|refine vA ?_|refine vT ?_|((first|refine vO ?_ ?_|refine vP ?_ ?_);·first|omega|(simp only [vM] at *;omega))|refine yD (zs0 p hp a w hat) ⟨⟨rfl,rfl⟩,⟨rfl,rfl⟩,⟨rfl,rfl⟩,rfl⟩ rfl ?_));all_goals try conv=>whnf
    refine ⟨(w+1,_),[(0,0),(1,1),(2,2),(3,3),(4,4),(5,7)],[],?_,?_,by (refine ⟨rfl,rfl,rfl,?_,?_⟩;repeat' first|exact trivial|exact rfl|refine And.intro ?_ ?_|refine ⟨_,rfl,?_⟩|decide)⟩
    ·exact ⟨by (omega),by rw [List.range_succ,List.map_append,List.map_append,hZ];rfl⟩
    ·((simp only [vM] at *;omega))
   ·(repeat' ((conv=>whnf);first|refine zP.decN (by omega) ?_|refine vA ?_|refine vT ?_|((first|refine vO ?_ ?_|refine vP ?_ ?_);·first|omega|(simp only [vM] at *;omega))|fail));all_goals try conv=>whnf
    have ew:w=p.W.toNat:=by omega
    subst ew
    refine ⟨(a+1,_),[(0,0),(1,1),(2,2),(3,3),(4,7)],[],?_,?_,by (refine ⟨rfl,rfl,rfl,?_,?_⟩;repeat' first|exact trivial|exact rfl|refine And.intro ?_ ?_|refine ⟨_,rfl,?_⟩|decide)⟩
    ·exact ⟨by (omega),by rw [List.range_succ,List.map_append,List.map_append,hR,hZ];rfl⟩
    ·((simp only [vM] at *;omega))
  ·have ea:a=p.cell.length:=by omega
   subst ea
   subst hR
   rfl
end Go.Ab
namespace Go.Ab
open Go Go.Proofs
set_option maxRecDepth 10000
set_option maxHeartbeats 4000000
variable {T:Nat→Obj→Prop}
section
variable {p:PM} (hc0:zm p=0)
include hc0
theorem zDf {s:BitVec 64} (h : ∀ i,s.getLsbD i=true→i < p.W.toNat):bad p.W s=false:=by
 have:s &&& ~~~zaQ p.W=0#64:=zjR.2 fun i hi=>(zc1 hc0).2 (h i hi)
 simp [bad,this]
theorem zrJ {a w:Nat} (hw:w < p.W.toNat):(zgr p a).getD w 0#64=zav p a w:=zaU (by simp [zgr,hw])
theorem zvp {a w:Nat} (ha:a < p.cell.length) (hw:w < p.W.toNat):zho (zaA p) a w=zav p a w:=by
 rw [zho,show (zaA p).rel.getD a []=zgr p a from zaU (by simp [zaA,ha]),zrJ hc0 hw]
theorem ztf:zbs (zaA p)=0:=by
 have hg:=zM hc0
 have h1:=hg.w1
 have h2:=hg.w2
 have e1:(zaA p).rel.any (fun r=>decide ((r.length:Int)≠(zaA p).W))=false:=by
  rw [List.any_eq_false]
  intro r hr
  obtain ⟨a,-,rfl⟩:=List.mem_map.1 hr
  simp [zgr,zaA];omega
 have e2:(zaA p).val.any (bad (zaA p).W)=false:=by
  rw [List.any_eq_false]
  intro s hs
  show ¬bad p.W s=true
  rw [hg.val s hs];simp
 have e3:(zaA p).rel.any (fun r=>r.any (bad (zaA p).W))=false:=by
  rw [List.any_eq_false]
  intro r hr
  obtain ⟨a,ha,rfl⟩:=List.mem_map.1 hr
  rw [Bool.not_eq_true,List.any_eq_false]
  intro s hs
  obtain ⟨w,hw,rfl⟩:=List.mem_map.1 hs
  rw [List.mem_range] at ha hw
  rw [Bool.not_eq_true]
  exact zDf hc0 fun i hi=>((zdp hc0 ha hw).1 hi).1
 have n4:=hg.n4
 have v8:=hg.v8
 rw [zbs,if_neg (by show ¬(p.W < 1∨64 < p.W);omega),if_neg (by show ¬(4 < ((List.range p.cell.length).map (zgr p)).length∨8 < p.val.length);simp;omega),e1,e2,e3]
 rfl
theorem zAz {a:Nat} (ha:a < p.cell.length) (s:BitVec 64):zgJ ((zaA p).rel.getD a []) p.W.toNat s=zdY p a s:=by
 rw [show (zaA p).rel.getD a []=zgr p a from zaU (by simp [zaA,ha])]
 refine ziB fun w=>?_
 unfold zgJ zdY
 rw [zhr (W64 hc0),zhr (W64 hc0)]
 refine and_congr_right fun hw=>?_
 rw [zrJ hc0 hw]
theorem zmC {g w v:Nat} (h1:1≤g) (h2:g < 2 ^ p.cell.length) (hw:w < p.W.toNat):((zdw (zaA p) g false).getD w 0#64).getLsbD v=true↔Suc p g w v:=by
 have el:(zaA p).rel.length=p.cell.length:=by simp [zaA]
 rw [zza (ztf hc0) h1 (by rw [el];exact h2) hw,zmB,el]
 constructor
 ·rintro ⟨a,ha,hga,hv⟩
  rw [zvp hc0 ha hw] at hv
  exact ⟨hw,a,ha,hga,(zdp hc0 ha hw).1 hv⟩
 ·rintro ⟨-,a,ha,hga,hv⟩
  exact ⟨a,ha,hga,by rw [zvp hc0 ha hw];exact (zdp hc0 ha hw).2 hv⟩
theorem zyF {g:Nat} (h1:1≤g) (h2:g < 2 ^ p.cell.length) (s:BitVec 64):zgJ (zdw (zaA p) g false) p.W.toNat s=zoh p g s:=by
 refine ziB fun w=>?_
 unfold zgJ
 rw [zhr (W64 hc0),zsS hc0]
 refine and_congr_right fun hw=>?_
 rw [zjR]
 exact forall_congr' fun v=>by rw [zmC hc0 h1 h2 hw]
theorem zxB {g:Nat} (h1:1≤g) (h2:g < 2 ^ p.cell.length) (c s:BitVec 64):zxA (zdw (zaA p) g false) p.W.toNat c s=zjF p g c s:=by
 have hs : ∀ v u,zfr (zdw (zaA p) g false) p.W.toNat c v u↔Suc p g v u∧c.getLsbD u=true:=fun v u=>by
  unfold zfr
  rw [BitVec.getLsbD_and,Bool.and_eq_true]
  constructor
  ·rintro ⟨hv,h,hc⟩;exact ⟨(zmC hc0 h1 h2 hv).1 h,hc⟩
  ·rintro ⟨h,hc⟩;exact ⟨h.1,(zmC hc0 h1 h2 h.1).2 h,hc⟩
 have hB:zjC (zdw (zaA p) g false) p.W.toNat:=fun v u hv hu=>((zmC hc0 h1 h2 hv).1 hu).lt
 refine ziB fun w=>?_
 unfold zxA
 rw [zhr (W64 hc0),zgK hc0]
 refine and_congr_right fun hw=>?_
 rw [zjR]
 refine forall_congr' fun v=>?_
 rw [ztx (W64 hc0) hB]
 refine imp_congr ⟨fun h=>?_,fun h=>?_⟩ Iff.rfl
 ·induction h with
  | base h=>exact .base ((hs _ _).1 h).1 ((hs _ _).1 h).2
  | step _ h ih=>exact .step ih ((hs _ _).1 h).1 ((hs _ _).1 h).2
 ·induction h with
  | base h hc=>exact .base ((hs _ _).2 ⟨h,hc⟩)
  | step _ h hc ih=>exact .step ih ((hs _ _).2 ⟨h,hc⟩)
theorem zCN {n:Hd} {x y:BitVec 64} (hop:1≤n.op∧n.op≤13∧n.op≠12) (h9:n.op=9∨n.op=10→0≤n.i∧n.i < p.cell.length) (h11:11≤n.op→1≤n.g∧n.g.toNat < 2 ^ p.cell.length):znh (zaA p) n x y=zaq p n x y:=by
 obtain ⟨o1,o2,o3⟩:=hop
 have hcase:n.op=1∨n.op=2∨n.op=3∨n.op=4∨n.op=5∨n.op=6∨n.op=7∨n.op=8∨n.op=9∨n.op=10∨n.op=11∨n.op=13:=by omega
 have hb:n.op=9∨n.op=10 → ∀ s,zgJ ((zaA p).rel.getD n.i.toNat []) (zaA p).W.toNat s=zdY p n.i s:=fun h s=>by
  obtain ⟨i0,i1⟩:=h9 h
  have:=zAz hc0 (a:=n.i.toNat) (by omega) s
  rwa [show ((n.i.toNat:Nat):Int)=n.i by omega] at this
 unfold znh zaq zud
 rcases hcase with h|h|h|h|h|h|h|h|h|h|h|h
 all_goals simp only [h]
 all_goals first|rfl|skip
 ·exact hb (.inl h) x
 ·show zaQ p.W &&& ~~~_=_
  rw [hb (.inr h)];rfl
 ·obtain ⟨g1,g2⟩:=h11 (by omega)
  exact zyF hc0 (by omega) g2 x
 ·obtain ⟨g1,g2⟩:=h11 (by omega)
  exact zxB hc0 (by omega) g2 x y
end
end Go.Ab
namespace Go.Ab
open Go Go.Proofs
set_option maxRecDepth 10000
set_option maxHeartbeats 4000000
set_option maxHeartbeats 40000000
variable {T:Nat→Obj→Prop}
theorem zAd (p:PM) (n:Nd) (a b:BitVec 64):zaq p n.hd (cond (zK n.op) a 0#64) (cond (zB n.op) b 0#64)=zaq p n.hd a b:=by
 have hu:=ztN p
 have h1:zaq p n.hd (cond (zK n.op) a 0#64) (cond (zB n.op) b 0#64)=zaq p n.hd a (cond (zB n.op) b 0#64):=by
  cases h:zK n.op with
  | true=>rfl
  | false=>exact hu.x n.hd _ _ _ h
 rw [h1]
 cases h:zB n.op with
 | true=>rfl
 | false=>exact hu.y n.hd _ _ _ h
theorem zrQ {f:List Nd} (h:zbI .i64 (fun p q=>p &&& ~~~q) (uni zai (cL f):Int) 59=0) {n:Nd} (hn:n∈cL f):1≤n.op∧n.op≤15∧n.op≠12:=by
 have hlt:uni zai (cL f) < 2 ^ 63:=Nat.lt_trans ((zfq zai).2 fun n _=>zh4 n.hd) (by decide)
 have h1:=(zio hlt (b:=59) (by decide)).1 h
 have h2 : ∀ i,(zai n.hd).testBit i=true→(59:Nat).testBit i=true:=fun i hi=>h1 i (by rw [zih];exact List.any_eq_true.2 ⟨n,hn,hi⟩)
 have ho:=zB2 (ziq hn)
 have key : ∀ (o:Int) (i:Nat),n.op=o→((zaH o).toNat).testBit i=true→(59:Nat).testBit i=true:=fun o i e hi=>h2 i (by rw [zai];show ((zaH n.op).toNat).testBit i=true;rw [e];exact hi)
 refine ⟨ho.1,?_,fun e=>absurd (key 12 2 e (by decide)) (by decide)⟩
 refine Classical.byContradiction fun hn=>?_
 have:n.op=16∨n.op=17∨n.op=18∨n.op=19∨n.op=20∨n.op=21:=by omega
 rcases this with e|e|e|e|e|e
 ·exact absurd (key 16 6 e (by decide)) (by decide)
 ·exact absurd (key 17 7 e (by decide)) (by decide)
 all_goals exact absurd (key _ 8 e (by decide)) (by decide)
theorem zxN (p:PM) (hp:zat p.rank) (f:List Nd):Fn Tryz.prog T zgQ [.d (dPM p),.d (dF f)] [] (.d (dUE (zcP p f))) []:=by
 have hlen:=zj2 f
 have hok:=zpp f
 refine zd zp zm6 (by show 2≤126;decide) ?_
 (repeat' ((conv=>whnf);first|refine vA ?_|refine vE ?_|((first|refine vD ?_ ?_|refine vI ?_ ?_)<;>intro hc<;>try simp only [vL] at hc)|refine vJ fun hg=>?_|refine vT ?_|refine yD (zbD _ hp) ⟨⟨rfl,rfl⟩,rfl⟩ rfl ?_|refine yD (ziw _) ⟨⟨rfl,rfl⟩,rfl⟩ rfl ?_|refine yD (zs4 _) ⟨⟨rfl,rfl⟩,rfl⟩ rfl ?_|refine yD (zve _ _ _) ⟨⟨rfl,rfl⟩,⟨rfl,rfl⟩,⟨rfl,rfl⟩,rfl⟩ rfl ?_));all_goals try conv=>whnf
 ·have e:zcP p f=(0#64,zm p):=if_pos ‹_›
  rw [e];rfl
 ·have e:zcP p f=(0#64,zaX f):=by rw [zcP,if_neg (by omega),if_pos ‹_›]
  rw [e];rfl
 ·have e:zcP p f=(0#64,10):=by rw [zcP,if_neg (by omega),if_neg (by omega),if_pos ‹_›]
  rw [e];rfl
 ·have hc0:=‹zm p=0›
  have hf0:=‹zaX f=0›
  have hgd:=zM hc0
  have hfit:=‹zfu f _ _=true›
  have e:zcP p f=((za0 (zaq p) 0#64 (cL f) []).getD ((cL f).length - 1) 0#64,0):=by rw [zcP,if_neg (by omega),if_neg (by omega),if_neg (by omega),if_neg (by simp [hfit])]
  have hpos:=(zmk hf0).1.pos
  have hal : ∀ n,n∈cL f→1≤n.op∧n.op≤15∧n.op≠12:=fun n hn=>zrQ ‹_› hn
  rw [e]
  (repeat' ((conv=>whnf);first|refine vA ?_|refine vT ?_|refine yN (zxP p hp hc0) ⟨⟨rfl,rfl⟩,rfl⟩ ?_|refine yN (zfX _) ⟨⟨rfl,rfl⟩,rfl⟩ ?_));all_goals try conv=>whnf
  refine zt (fun ((k,zs):Nat×List D)=>[(2,.ptr 0 0),(7,.ptr 1 0),(8,.d (dF (cL f))),(9,.own 2),(10,.d (.int .i64 ((k:Int))))]) (fun ((k,zs):Nat×List D)=>[(0,some (zaC p)),(1,some (zmj (zaA p))),(2,some (.row 1 zs))]) 3 (fun ((k,zs):Nat×List D)=>k≤(cL f).length∧zs=(za0 (zaq p) 0#64 ((cL f).take k) []).map D.u64) (fun ((k,zs):Nat×List D)=>(cL f).length - k) ((0,[])) [(0,0),(1,1)]   [2] (⟨by simp,rfl⟩) (by (refine ⟨rfl,rfl,rfl,?_,?_⟩;repeat' first|exact trivial|exact rfl|exact ⟨_,rfl⟩|refine And.intro ?_ ?_|refine ⟨_,rfl,?_⟩|decide)) ?_
  rintro ⟨k,zs⟩ ⟨hk,hI⟩
  subst hI
  have hl:(za0 (zaq p) 0#64 ((cL f).take k) []).length=k:=by rw [zqY];simp;omega
  by_cases hkl:k < (cL f).length
  ·obtain ⟨n,hn⟩ : ∃ n,(cL f)[k]? = some n:=⟨(cL f)[k],by simp [hkl]⟩
   have hnm:=List.mem_of_getElem? hn
   obtain ⟨f1,f2,f3⟩:=zDy hgd.n4 hgd.v8 hfit hnm
   have hh:=ziq hnm
   obtain ⟨o1,o2,o3⟩:=hal n hnm
   have hok1:=hok k n hn
   obtain ⟨-,x1,-,y1,-⟩:=zlH hok1
   have hst0:za0 (zaq p) 0#64 ((cL f).take (k+1)) []=za0 (zaq p) 0#64 ((cL f).take k) []++[zaq p n.hd (cond (zK n.op) ((za0 (zaq p) 0#64 ((cL f).take k) []).getD n.x.toNat 0#64) 0#64) (cond (zB n.op) ((za0 (zaq p) 0#64 ((cL f).take k) []).getD n.y.toNat 0#64) 0#64)]:=by
    rw [zAd,List.take_add_one,hn];exact zpc _ _ _ _ _
   generalize za0 (zaq p) 0#64 ((cL f).take k) []=S at hst0 hl
   have hSl:(S.map D.u64).length≤200:=by simp;omega
   have cO : ∀ x y,n.op≤13→Fn Tryz.prog T zfd [.d (dKM (zaA p)),.d (dNd n),.d (.u64 x),.d (.u64 y)] [] (.d (.u64 (zaq p n.hd x y))) []:=fun x y h13=>by
    have el:(zaA p).rel.length=p.cell.length:=by simp [zaA]
    have h9:n.op=9∨n.op=10→0≤n.i∧n.i < p.cell.length:=fun h=>f2 (decide_eq_true (by omega))
    have h11:11≤n.op→1≤n.g∧n.g.toNat < 2 ^ p.cell.length:=fun h=>by
     have hug:zO n.op=true:=decide_eq_true (by omega)
     have:=hh.group hug
     exact ⟨this.1,f3 hug⟩
    rw [← zCN hc0 (n:=n.hd) ⟨o1,h13,o3⟩ h9 h11]
    exact zCv (zaA p) (ztf hc0) n x y f1 (by rw [el];exact h9) (fun h=>⟨o3,by rw [el];exact h11 h⟩)
   cases hx:zK n.op with
   | false =>
    have hy:zB n.op=false:=by
     cases hy:zB n.op with
     | true=>rw [zX hy] at hx;cases hx
     | false=>rfl
    have hux:=hx▸zd5 (T:=T) n.op
    have huy:=hy▸zcn (T:=T) n.op
    have h13:n.op≤13:=by have : ¬(4≤n.op∧n.op≤21):=of_decide_eq_false hx;omega
    have hst:=hst0
    rw [hx,hy] at hst
    have cO:=cO 0#64 0#64 h13
    (repeat' ((conv=>whnf);first|refine zP.decN (by omega) ?_|refine vA ?_|refine vH ?_|(refine vF ?_ ?_<;>intro hc<;>try simp only [vL] at hc)|refine vJ fun hg=>?_|refine vT ?_|refine vN ‹_› ?_|(refine vQ ?_ fun x hx=>?_;·omega)|((first|refine vO ?_ ?_|refine vP ?_ ?_);·first|omega|(simp only [vM] at *;omega))|(refine vU ?_ ?_;·kernel_rfl)|refine yD hux (by (repeat refine ⟨⟨rfl,rfl⟩,?_⟩);rfl) rfl ?_|refine yD huy (by (repeat refine ⟨⟨rfl,rfl⟩,?_⟩);rfl) rfl ?_|refine yD cO (by (repeat refine ⟨⟨rfl,rfl⟩,?_⟩);rfl) rfl ?_));all_goals try conv=>whnf
    all_goals try omega
    refine ⟨(k+1,_),[(0,0),(1,1),(2,4)],[],?_,?_,by (refine ⟨rfl,rfl,rfl,?_,?_⟩;repeat' first|exact trivial|exact rfl|refine And.intro ?_ ?_|refine ⟨_,rfl,?_⟩|decide)⟩
    ·exact ⟨hkl,by rw [hst,List.map_append];rfl⟩
    ·((simp only [vM] at *;omega))
   | true =>
    have hux:=hx▸zd5 (T:=T) n.op
    obtain ⟨x2,x3⟩:=x1 hx
    obtain ⟨a,ha⟩ : ∃ a,S[n.x.toNat]? = some a:=⟨_,List.getElem?_eq_getElem (by omega)⟩
    cases hy:zB n.op with
    | false =>
     have huy:=hy▸zcn (T:=T) n.op
     have hst:=hst0
     rw [hx,hy,zaU ha] at hst
     have h14:n.op≠14:=fun h=>by rw [zB,h] at hy;revert hy;decide
     by_cases h15:n.op=15
     ·obtain ⟨i0,i1⟩:=f2 (decide_eq_true (by omega))
      have cS:=zwr (T:=T) p hp hc0 n.i.toNat (by omega) a
      rw [show ((n.i.toNat:Nat):Int)=n.i by omega,show zeK p n.i a=zaq p n.hd a 0#64 by unfold zaq;simp only [show n.hd.op=15 from h15];rfl] at cS
      (repeat' ((conv=>whnf);first|refine zP.decN (by omega) ?_|refine zP.decY (by omega) ?_|refine vA ?_|refine vG ?_|refine vH ?_|(refine vF ?_ ?_<;>intro hc<;>try simp only [vL] at hc)|refine vJ fun hg=>?_|refine vT ?_|refine vN ‹_› ?_|(refine vQ ?_ fun x hx=>?_;·omega)|((first|refine vO ?_ ?_|refine vP ?_ ?_);·first|omega|(simp only [vM] at *;omega))|(refine vU ?_ ?_;·kernel_rfl)|refine yD hux (by (repeat refine ⟨⟨rfl,rfl⟩,?_⟩);rfl) rfl ?_|refine yD huy (by (repeat refine ⟨⟨rfl,rfl⟩,?_⟩);rfl) rfl ?_|refine yD cS ⟨⟨rfl,rfl⟩,⟨rfl,rfl⟩,⟨rfl,rfl⟩,rfl⟩ rfl ?_));all_goals try conv=>whnf
      all_goals try omega
      refine ⟨(k+1,_),[(0,0),(1,1),(2,4)],[],?_,?_,by (refine ⟨rfl,rfl,rfl,?_,?_⟩;repeat' first|exact trivial|exact rfl|refine And.intro ?_ ?_|refine ⟨_,rfl,?_⟩|decide)⟩
      ·exact ⟨hkl,by rw [hst,List.map_append];rfl⟩
      ·((simp only [vM] at *;omega))
     ·have cO:=cO a 0#64 (by omega)
      (repeat' ((conv=>whnf);first|refine zP.decN (by omega) ?_|refine vA ?_|refine vG ?_|refine vH ?_|(refine vF ?_ ?_<;>intro hc<;>try simp only [vL] at hc)|refine vJ fun hg=>?_|refine vT ?_|refine vN ‹_› ?_|(refine vQ ?_ fun x hx=>?_;·omega)|((first|refine vO ?_ ?_|refine vP ?_ ?_);·first|omega|(simp only [vM] at *;omega))|(refine vU ?_ ?_;·kernel_rfl)|refine yD hux (by (repeat refine ⟨⟨rfl,rfl⟩,?_⟩);rfl) rfl ?_|refine yD huy (by (repeat refine ⟨⟨rfl,rfl⟩,?_⟩);rfl) rfl ?_|refine yD cO (by (repeat refine ⟨⟨rfl,rfl⟩,?_⟩);rfl) rfl ?_));all_goals try conv=>whnf
      all_goals try omega
      refine ⟨(k+1,_),[(0,0),(1,1),(2,4)],[],?_,?_,by (refine ⟨rfl,rfl,rfl,?_,?_⟩;repeat' first|exact trivial|exact rfl|refine And.intro ?_ ?_|refine ⟨_,rfl,?_⟩|decide)⟩
      ·exact ⟨hkl,by rw [hst,List.map_append];rfl⟩
      ·((simp only [vM] at *;omega))
    | true =>
     have huy:=hy▸zcn (T:=T) n.op
     obtain ⟨y2,y3⟩:=y1 hy
     obtain ⟨b,hb⟩ : ∃ b,S[n.y.toNat]? = some b:=⟨_,List.getElem?_eq_getElem (by omega)⟩
     have hst:=hst0
     rw [hx,hy,zaU ha,zaU hb] at hst
     have h15:n.op≠15:=fun h=>by rw [zB,h] at hy;revert hy;decide
     by_cases h14:n.op=14
     ·obtain ⟨i0,i1⟩:=f2 (decide_eq_true (by omega))
      have cB:=ztV (T:=T) p hp hc0 n.i i0 i1 a b
      rw [show zn2 p n.i a b=zaq p n.hd a b by unfold zaq;simp only [show n.hd.op=14 from h14];rfl] at cB
      (repeat' ((conv=>whnf);first|refine zP.decY (by omega) ?_|refine vA ?_|refine vG ?_|(refine vF ?_ ?_<;>intro hc<;>try simp only [vL] at hc)|refine vJ fun hg=>?_|refine vT ?_|refine vN ‹_› ?_|(refine vQ ?_ fun x hx=>?_;·omega)|((first|refine vO ?_ ?_|refine vP ?_ ?_);·first|omega|(simp only [vM] at *;omega))|(refine vU ?_ ?_;·kernel_rfl)|refine yD hux (by (repeat refine ⟨⟨rfl,rfl⟩,?_⟩);rfl) rfl ?_|refine yD huy (by (repeat refine ⟨⟨rfl,rfl⟩,?_⟩);rfl) rfl ?_|refine yD cB (by (repeat refine ⟨⟨rfl,rfl⟩,?_⟩);rfl) rfl ?_));all_goals try conv=>whnf
      all_goals try omega
      refine ⟨(k+1,_),[(0,0),(1,1),(2,4)],[],?_,?_,by (refine ⟨rfl,rfl,rfl,?_,?_⟩;repeat' first|exact trivial|exact rfl|refine And.intro ?_ ?_|refine ⟨_,rfl,?_⟩|decide)⟩
      ·exact ⟨hkl,by rw [hst,List.map_append];rfl⟩
      ·((simp only [vM] at *;omega))
     ·have cO:=cO a b (by omega)
      (repeat' ((conv=>whnf);first|refine zP.decN (by omega) ?_|refine vA ?_|refine vG ?_|(refine vF ?_ ?_<;>intro hc<;>try simp only [vL] at hc)|refine vJ fun hg=>?_|refine vT ?_|refine vN ‹_› ?_|(refine vQ ?_ fun x hx=>?_;·omega)|((first|refine vO ?_ ?_|refine vP ?_ ?_);·first|omega|(simp only [vM] at *;omega))|(refine vU ?_ ?_;·kernel_rfl)|refine yD hux (by (repeat refine ⟨⟨rfl,rfl⟩,?_⟩);rfl) rfl ?_|refine yD huy (by (repeat refine ⟨⟨rfl,rfl⟩,?_⟩);rfl) rfl ?_|refine yD cO (by (repeat refine ⟨⟨rfl,rfl⟩,?_⟩);rfl) rfl ?_));all_goals try conv=>whnf
      all_goals try omega
      refine ⟨(k+1,_),[(0,0),(1,1),(2,4)],[],?_,?_,by (refine ⟨rfl,rfl,rfl,?_,?_⟩;repeat' first|exact trivial|exact rfl|refine And.intro ?_ ?_|refine ⟨_,rfl,?_⟩|decide)⟩
      ·exact ⟨hkl,by rw [hst,List.map_append];rfl⟩
      ·((simp only [vM] at *;omega))
  ·have ek:k=(cL f).length:=by omega
   subst ek
   rw [List.take_length] at hl ⊢
   (repeat' ((conv=>whnf);first|refine vA ?_|(refine vF ?_ ?_<;>intro hc<;>try simp only [vL] at hc)|refine vJ fun hg=>?_|refine vT ?_|(refine vQ ?_ fun x hx=>?_;·first|omega|(simp only [vM] at *;omega))|((first|refine vO ?_ ?_|refine vP ?_ ?_);·(simp only [vM] at *;omega))|fail));all_goals try conv=>whnf
   all_goals try omega
   rw [show ((((za0 (zaq p) 0#64 (cL f) []).map D.u64).length:Int) - 1).toNat=(cL f).length - 1 by rw [List.length_map];omega] at hx
   rw [zaU hx];rfl
 ·have e:zcP p f=(0#64,2):=by rw [zcP,if_neg (by omega),if_neg (by omega),if_neg (by omega),if_pos ‹_›]
  rw [e];rfl
end Go.Ab
namespace Go.Ab
open Go
section
variable {p:PM} (hc0:zm p=0)
include hc0
theorem zr0 {k w:Nat} (hw:w < p.W.toNat):zu p k w < 64:=by
 have:=(znp p k).le w hw
 have:=W64 hc0
 omega
end
end Go.Ab
namespace Go.Ab
open Go
section
variable {p:PM} (hc0:zm p=0)
include hc0
omit hc0 in
theorem zqW {k v w:Nat} (h:zu p (k+1) v=zu p (k+1) w):zu p k v=zu p k w ∧ ∀ r∈zb2 p,zar (zu p k) (r v) p.W.toNat=zar (zu p k) (r w) p.W.toNat:=by
 have h1:=(zlF (zgC p.W.toNat (zb2 p) (zu p k))).1 h
 simp only [zaT,Bool.and_eq_true,decide_eq_true_eq,List.all_eq_true] at h1
 exact h1
omit hc0 in
theorem zvR {v w:Nat} : ∀ {k j:Nat},j≤k→zu p k v=zu p k w→zu p j v=zu p j w
 | 0,j,hj,h=>by rw [show j=0 by omega];exact h
 | k+1,j,hj,h=>by
  by_cases e:j=k+1
  ·rw [e];exact h
  ·exact zvR (by omega) (zqW h).1
def zck (p:PM) (k:Nat) (x:BitVec 64):Prop := ∀ v w,v < p.W.toNat→w < p.W.toNat→zu p k v=zu p k w→(x.getLsbD v=true↔x.getLsbD w=true)
omit hc0 in
theorem zck.up {k j:Nat} {x:BitVec 64} (h:zck p k x) (hj:k≤j):zck p j x:=fun v w hv hw e=>h v w hv hw (zvR hj e)
theorem zBu {k a v w u:Nat} (ha:a < p.cell.length) (hv:v < p.W.toNat) (hw:w < p.W.toNat) (h:zu p (k+1) v=zu p (k+1) w) (hu:InC p a v u) : ∃ u',InC p a w u'∧zu p k u'=zu p k u:=by
 have hr:=(zqW h).2 _ (zki.2 ⟨a,ha,.inl rfl⟩)
 have h1:=(zb7 (s:=zav p (a:Int) (v:Int)) (b:=zu p k u) p.W.toNat fun w hw=>zr0 hc0 hw).2 ⟨u,hu.1,(zdp hc0 ha hv).2 hu,rfl⟩
 rw [hr] at h1
 obtain ⟨u',h2,h3,h4⟩:=(zb7 p.W.toNat fun w hw=>zr0 hc0 hw).1 h1
 exact ⟨u',(zdp hc0 ha hw).1 h3,h4⟩
theorem zBv {k a v w u:Nat} (ha:a < p.cell.length) (hv:v < p.W.toNat) (hw:w < p.W.toNat) (h:zu p (k+1) v=zu p (k+1) w) (hu:InC p a v u) (hr':rkA p a u≤rkA p a v) : ∃ u',InC p a w u'∧rkA p a u'≤rkA p a w∧zu p k u'=zu p k u:=by
 have hr:=(zqW h).2 _ (zki.2 ⟨a,ha,.inr rfl⟩)
 have h1:=(zb7 (s:=wkB p a v) (b:=zu p k u) p.W.toNat fun w hw=>zr0 hc0 hw).2 ⟨u,hu.1,(zpi hc0 hv).2 ⟨hu,hr'⟩,rfl⟩
 rw [hr] at h1
 obtain ⟨u',h2,h3,h4⟩:=(zb7 p.W.toNat fun w hw=>zr0 hc0 hw).1 h1
 obtain ⟨h5,h6⟩:=(zpi hc0 hw).1 h3
 exact ⟨u',h5,h6,h4⟩
theorem zvP (k:Nat):zck p k (zaQ p.W):=fun v w hv hw _=>by rw [zc1 hc0,zc1 hc0];exact ⟨fun _=>hw,fun _=>hv⟩
omit hc0 in
theorem zl1 {k:Nat} {x y:BitVec 64} (hx:zck p k x) (hy:zck p k y):zck p k (x &&& ~~~y):=fun v w hv hw h=>by rw [zjK,zjK,hx v w hv hw h,hy v w hv hw h]
omit hc0 in
theorem zBq {k:Nat} {x y:BitVec 64} (hx:zck p k x) (hy:zck p k y):zck p k (x&&&y):=fun v w hv hw h=>by rw [zpn,zpn,hx v w hv hw h,hy v w hv hw h]
omit hc0 in
theorem zw7 {k:Nat} {x y:BitVec 64} (hx:zck p k x) (hy:zck p k y):zck p k (x|||y):=fun v w hv hw h=>by rw [zzv,zzv,hx v w hv hw h,hy v w hv hw h]
omit hc0 in
theorem zBr {k:Nat} {x y:BitVec 64} (hx:zck p k x) (hy:zck p k y):zck p k (x ^^^ y):=fun v w hv hw h=>by
 rw [BitVec.getLsbD_xor,BitVec.getLsbD_xor,show x.getLsbD v=x.getLsbD w from Bool.eq_iff_iff.2 (hx v w hv hw h),show y.getLsbD v=y.getLsbD w from Bool.eq_iff_iff.2 (hy v w hv hw h)]
theorem ztz {k a:Nat} (ha:a < p.cell.length) {x:BitVec 64} (hx:zck p k x):zck p (k+1) (zdY p a x):=by
 have one : ∀ v w,v < p.W.toNat→w < p.W.toNat→zu p (k+1) v=zu p (k+1) w→(zdY p a x).getLsbD v=true→(zdY p a x).getLsbD w=true:=by
  intro v w hv hw h hk
  rw [zoN hc0 ha] at hk ⊢
  refine ⟨hw,fun u hu=>?_⟩
  obtain ⟨u',h1,h2⟩:=zBu hc0 ha hw hv h.symm hu
  exact (hx u' u h1.1 hu.1 h2).1 (hk.2 u' h1)
 exact fun v w hv hw h=>⟨one v w hv hw h,one w v hw hv h.symm⟩
theorem zzF {k a:Nat} (ha:a < p.cell.length) {x:BitVec 64} (hx:zck p k x):zck p (k+1) (zeK p a x):=by
 have one : ∀ v w,v < p.W.toNat→w < p.W.toNat→zu p (k+1) v=zu p (k+1) w→(zeK p a x).getLsbD v=true→(zeK p a x).getLsbD w=true:=by
  intro v w hv hw h hk
  rw [znr hc0 ha] at hk ⊢
  refine ⟨hw,fun u hu hr=>?_⟩
  obtain ⟨u',h1,h1r,h2⟩:=zBv hc0 ha hw hv h.symm hu hr
  exact (hx u' u h1.1 hu.1 h2).1 (hk.2 u' h1 h1r)
 exact fun v w hv hw h=>⟨one v w hv hw h,one w v hw hv h.symm⟩
def zfj (op:Int):Nat:=if (9≤op∧op≤15)∨16≤op then 1 else 0
def zac (h:Hd) (x y:Nat):Nat:=max (if zK h.op=true then x else 0) (if zB h.op=true then y else 0)+zfj h.op
omit hc0 in
theorem zuL {h:Hd} {t u:Nat} : (zK h.op=true→t+zfj h.op≤zac h t u)∧(zB h.op=true→u+zfj h.op≤zac h t u)∧zfj h.op≤zac h t u:=by
 unfold zac
 refine ⟨fun e=>?_,fun e=>?_,by omega⟩
 ·rw [if_pos e];omega
 ·rw [if_pos e];omega
def zhK (h:Hd):Prop:=h.op≤10∨h.op=15
theorem znl {h:Hd} (hh:zdn h) (hf:zhJ p h) (hp:zhK h) {x y:BitVec 64} {k j:Nat} (hx:zK h.op=true→zck p k x) (hy:zB h.op=true→zck p k y) (hj:k+zfj h.op≤j):zck p j (zaq p h x y):=by
 have hag:zH h.op=true → ∃ a:Nat,h.i=(a:Int)∧a < p.cell.length:=fun e=>by
  have h3:0≤h.i∧h.i≤3:=hh.agent e
  have h1:=hf.1
  rw [zaz,if_pos e] at h1
  have:=(Nat.pow_lt_pow_iff_right (by decide:1 < 2)).1 h1
  exact ⟨h.i.toNat,by omega,this⟩
 have hX:4≤h.op→h.op≤21→zck p k x:=fun a b=>hx (by simp [zK];omega)
 have hY:5≤h.op→h.op≤8→zck p k y:=fun a b=>hy (by simp [zB];omega)
 have hA:=zvP hc0 k
 unfold zaq
 by_cases h1:h.op=1
 ·rw [if_pos h1];exact hA.up (by omega)
 rw [if_neg h1]
 by_cases h3:h.op=3
 ·rw [if_pos h3]
  exact fun v w hv hw e=>zu0.1 (zr1 p j hv hw e) _
 rw [if_neg h3]
 by_cases h4:h.op=4
 ·rw [if_pos h4];exact (zl1 hA (hX (by omega) (by omega))).up (by omega)
 rw [if_neg h4]
 by_cases h5:h.op=5
 ·rw [if_pos h5];exact (zBq (hX (by omega) (by omega)) (hY (by omega) (by omega))).up (by omega)
 rw [if_neg h5]
 by_cases h6:h.op=6
 ·rw [if_pos h6];exact (zw7 (hX (by omega) (by omega)) (hY (by omega) (by omega))).up (by omega)
 rw [if_neg h6]
 by_cases h7:h.op=7
 ·rw [if_pos h7];exact (zw7 (zl1 hA (hX (by omega) (by omega))) (hY (by omega) (by omega))).up (by omega)
 rw [if_neg h7]
 by_cases h8:h.op=8
 ·rw [if_pos h8];exact (zl1 hA (zBr (hX (by omega) (by omega)) (hY (by omega) (by omega)))).up (by omega)
 rw [if_neg h8]
 by_cases h9:h.op=9
 ·rw [if_pos h9]
  obtain ⟨a,ha,hl⟩:=hag (decide_eq_true (by omega))
  rw [ha];exact (ztz hc0 hl (hX (by omega) (by omega))).up (by rw [zfj,if_pos (by omega)] at hj;omega)
 rw [if_neg h9]
 by_cases h10:h.op=10
 ·rw [if_pos h10]
  obtain ⟨a,ha,hl⟩:=hag (decide_eq_true (by omega))
  rw [ha];exact (zl1 (zvP hc0 _) (ztz hc0 hl (zl1 hA (hX (by omega) (by omega))))).up (by rw [zfj,if_pos (by omega)] at hj;omega)
 rw [if_neg h10,if_neg (by unfold zhK at hp;omega),if_neg (by unfold zhK at hp;omega),if_neg (by unfold zhK at hp;omega)]
 by_cases h15:h.op=15
 ·rw [if_pos h15]
  obtain ⟨a,ha,hl⟩:=hag (decide_eq_true (by omega))
  rw [ha];exact (zzF hc0 hl (hX (by omega) (by omega))).up (by rw [zfj,if_pos (by omega)] at hj;omega)
 rw [if_neg h15]
 exact fun v w _ _ _=>by simp
theorem zpB : ∀ (t:Tm),t.ok→t.all (zhJ p)→t.all zhK→zck p (ev zac 0 t) (ev (zaq p) 0#64 t)
 | .z h,⟨hh,hx,hy⟩,h2,h3=>znl hc0 hh h2 h3 (k:=0) (fun e=>by rw [hx] at e;cases e) (fun e=>by rw [hy] at e;cases e) (by have:=(zuL (h:=h) (t:=0) (u:=0)).2.2;show 0+zfj h.op≤zac h 0 0;omega)
 | .u h x,⟨hh,hx,hy,ho⟩,h2,h3=>by
  have ih:=zpB x ho h2.2 h3.2
  exact znl hc0 hh h2.1 h3.1 (fun _=>ih) (fun e=>by rw [hy] at e;cases e) ((zuL (h:=h) (t:=ev zac 0 x) (u:=0)).1 hx)
 | .b h x y,⟨hh,hx,hy,ho,ho'⟩,h2,h3=>by
  have ih:=zpB x ho h2.2.1 h3.2.1
  have ih':=zpB y ho' h2.2.2 h3.2.2
  have d:=zuL (h:=h) (t:=ev zac 0 x) (u:=ev zac 0 y)
  by_cases hle:ev zac 0 x≤ev zac 0 y
  ·exact znl hc0 hh h2.1 h3.1 (fun _=>ih.up hle) (fun _=>ih') (d.2.1 hy)
  ·exact znl hc0 hh h2.1 h3.1 (fun _=>ih) (fun _=>ih'.up (by omega)) (d.1 hx)
end
end Go.Ab
namespace Go.Ab
open Go Go.Proofs Go.MapKept
theorem Sim.grown {B : zA} {ρ : Nat → V} {M : Nat → Option Ob} {F : Nat → Prop} {σ : Nat → Option Nat} {a : Act} {w w' : World} (h : Sim B ρ M F σ a w) (hg : w.grownBy w' none) : Sim B ρ M F σ a w' := by
  refine h.step ⟨fun id ob hid => .inr ⟨rfl, ob, hid, zcd.refl ob⟩, fun id h1 h2 => ⟨h1, h2⟩, hg.size, fun b _ hb => hg.block b hb (by simp), fun b _ hx => hx, fun id b c e _ _ hc => ⟨c, (hg.block b (zj hc) (by simp)).trans hc, rfl⟩⟩
    (fun id ob hid => .inl ⟨hid, rfl, fun b hb => ?_⟩) h.inj h.mine h.free ?_ (fun b hb => hg.block b (h.olt b hb) (by simp)) (fun _ _ h => h)
  · obtain ⟨o, ho⟩ := (h.mem id ob hid).block hb
    exact hg.block b (zj ho) (by simp)
  · refine ⟨hg.os.trans h.kept.os, hg.tape.trans h.kept.tape, hg.output.trans h.kept.output, Nat.le_trans h.kept.size hg.size, fun b hb hR => (hg.block b (Nat.lt_of_lt_of_le hb h.kept.size) (by simp)).trans (h.kept.block b hb hR), fun b c e hc => ?_⟩
    obtain ⟨c', h1, h2⟩ := h.kept.cells b c e hc
    exact ⟨c', (hg.block b (zj h1) (by simp)).trans h1, h2⟩
theorem zzA {w w' : World} {X : Nat → Prop} {cell rank : List Int} {es : Array MapEntry} {clock : Nat} {blk : Nat → Nat} (hX : ∀ b, w.heap.size ≤ b → ¬X b)
    (hG : Grp (O2 (w.heap.size + 1)) w' w.heap.size ((zZ cell rank cell.length).map fun p => (p.1, zgd p.2)) es clock blk) : zk X w' (.map (zi5 cell rank)) (.map (some w.heap.size)) := by
  have hgl : ((zZ cell rank cell.length).map fun p => (p.1, zgd p.2)).length = (zJ cell).length := by simp [zZ]
  have hgd : ∀ i, i < (zJ cell).length → ((zZ cell rank cell.length).map fun p => (p.1, zgd p.2)).getD i default = ((zJ cell).getD i 0, zaB cell rank ((zJ cell).getD i 0)) := by
    intro i hi
    simp only [zZ, List.take_length, List.map_map, List.getD, List.getElem?_map, List.getElem?_eq_getElem hi, Option.map_some, Option.getD_some, Function.comp, zwT]
    rfl
  refine .map _ _ es clock (hX _ (Nat.le_refl _)) (zj hG.heap) hG.heap (by rw [hG.size, hgl]; simp) hG.st (fun i hi => ?_) (fun i hi => ?_)
  · rw [List.length_map] at hi
    rw [hG.key i (by rw [hgl]; exact hi), hgd i hi, show ((zJ cell).map fun c => (D.int .i64 c, dI (zaB cell rank c))).getD i (.nil, .nil) = (D.int .i64 ((zJ cell).getD i 0), dI (zaB cell rank ((zJ cell).getD i 0))) by simp [List.getD, hi]]
    exact .int .i64 _ (by simp)
  · rw [List.length_map] at hi
    have hv := hG.val i (by rw [hgl]; exact hi)
    rw [hgd i hi] at hv
    rw [show ((zJ cell).map fun c => (D.int .i64 c, dI (zaB cell rank c))).getD i (.nil, .nil) = (D.int .i64 ((zJ cell).getD i 0), dI (zaB cell rank ((zJ cell).getD i 0))) by simp [List.getD, hi]]
    simp only
    generalize zaB cell rank ((zJ cell).getD i 0) = zs at hv
    replace hv : O2 (w.heap.size + 1) w' (es.getD i default).val (blk i) zs := hv
    obtain ⟨cap, c, e, q1, q2, q3, q4, q5, q6, q7⟩ := hv
    rw [q1]
    have hl : (zs.map (D.int .i64)).length = zs.length := List.length_map _
    rw [← hl]
    refine .arr 1 (zs.map (D.int .i64)) (blk i) 0 cap (fun j => c.getD j undef) (hX _ (by omega)) (zj q3) (fun x hx => ?_) (by omega) (by omega) (fun j hj => ?_) (fun j k hj hk => ?_)
    · obtain ⟨y, -, rfl⟩ := List.mem_map.1 hx; rfl
    · have hjc : j < c.size := by omega
      simp [World.cell?, q3, Array.getD_eq_getD_getElem?, hjc]
    · have : k = 0 := by omega
      subst this
      rw [hl] at hj
      rw [Nat.mul_one, Nat.add_zero]
      rw [q7 j hj, show (zs.map (D.int .i64)).getD j .nil = .int .i64 (zs.getD j 0) by simp [List.getD, hj]]
      exact .int .i64 _ (by simp)
end Go.Ab
namespace Go.Ab
open Go Go.Proofs Go.MapKept
variable {T : Nat → Obj → Prop}
theorem zzB {cell rank : List Int} (hle : cell.length ≤ rank.length) (h64 : rank.length ≤ 64) : Fn Tryz.prog T zf9 [.own 0, .own 1] [zba cell, zba rank] (.d (.map (zi5 cell rank))) [some (zba cell), some (zba rank)] := by
  refine zkR ⟨_, Tryz.func70, by decide, rfl⟩ fun B σ a w args hT hS hsz hargs => ?_
  have ha : args = #[args.getD 0 undef, args.getD 1 undef] := by
    apply Array.ext
    · simpa using hsz
    · intro i h1 h2
      match i, h2 with
      | 0, _ => simp [Array.getD, show 0 < args.size by omega]
      | 1, _ => simp [Array.getD, show 1 < args.size by omega]
  have h0 := hargs 0 (by simp)
  have h1 := hargs 1 (by simp)
  have fin : ∀ (e : Ending) (w' : World) (es : Array MapEntry) (clock : Nat) (blk : Nat → Nat), e = .returned (.map (some w.heap.size)) → w.grownBy w' none → Grp (O2 (w.heap.size + 1)) w' w.heap.size ((zZ cell rank cell.length).map fun p => (p.1, zgd p.2)) es clock blk →
      ∃ v' σ', e = .returned v' ∧ Sim B (fun _ => .undef) (zz [some (zba cell), some (zba rank)]) (fun i => 2 ≤ i) σ' a w' ∧ VSim σ' (zz [some (zba cell), some (zba rank)]) (fun i => 2 ≤ i) (B.X σ' (zz [some (zba cell), some (zba rank)])) w' (.d (.map (zi5 cell rank))) v' ∧
        ∀ i ob, [zba cell, zba rank][i]? = some ob → zz [some (zba cell), some (zba rank)] i = none ∨ (σ' i = σ i ∧ ∃ ob', zz [some (zba cell), some (zba rank)] i = some ob' ∧ zcd ob ob') := by
    intro e w' es clock blk he hg hG
    refine ⟨_, σ, he, hS.grown hg, .d _ _ (zzA (fun b hb => ?_) hG), fun i ob hi => .inr ⟨rfl, ob, ?_, zcd.refl ob⟩⟩
    · rintro (h | ⟨id, h, h2⟩)
      · have := hS.olt b h; omega
      · obtain ⟨ob, hob⟩ := Option.ne_none_iff_exists'.1 h
        obtain ⟨o, ho⟩ := (hS.mem id ob hob).block h2
        have := zj ho; omega
    · match i, hi with
      | 0, hi => simpa [zz] using hi
      | 1, hi => simpa [zz] using hi
  rw [ha]
  have m0 : zz ([zba cell, zba rank].map some) 0 = some (zba cell) := rfl
  have m1 : zz ([zba cell, zba rank].map some) 1 = some (zba rank) := rfl
  change VSim _ _ _ _ _ (.own 0) _ at h0
  change VSim _ _ _ _ _ (.own 1) _ at h1
  generalize args.getD 0 undef = va at h0
  generalize args.getD 1 undef = vb at h1
  have rd : ∀ {g : Nat} {v : Value} {xs : List Int}, O2 0 w v g xs → ∃ cap, v = .slice (some ⟨g, 0, none⟩) xs.length cap ∧ g < w.heap.size ∧ ∀ j, j < xs.length → w.cell? ⟨g, 0 + j, none⟩ = some (.int .i64 (at0 xs j)) := by
    rintro g v xs ⟨cap, c, e, q1, -, q3, q4, q5, -, q7⟩
    refine ⟨cap, q1, zj q3, fun j hj => ?_⟩
    have hjc : j < c.size := by omega
    have := q7 j hj
    rw [Array.getD_eq_getD_getElem?, Array.getElem?_eq_getElem hjc] at this
    simp only [Option.getD_some] at this
    simp [World.cell?, q3, hjc, this, at0]
  by_cases hc : cell = []
  · subst hc
    have hv : ∃ a' cap, va = .slice a' 0 cap := by
      cases h0 with
      | ownDead _ ad l c g1 => rw [m0] at g1; cases g1
      | ownNil => exact ⟨none, 0, rfl⟩
      | own _ s xs b cap c e g1 g2 g3 g4 g5 =>
        rw [m0] at g1
        simp only [zba, Option.some.injEq, Ob.row.injEq] at g1
        obtain ⟨-, rfl⟩ := g1
        exact ⟨_, cap, rfl⟩
    obtain ⟨a', cap, rfl⟩ := hv
    refine (zrT a' cap vb w).mono ?_
    rintro e w' ⟨he, hg, hh⟩
    exact fin e w' #[] 0 (fun _ => 0) he hg ⟨hh, ⟨fun i j hi => by simp at hi, fun i hi => by simp at hi⟩, rfl, fun i hi => by simp [zZ, zJ] at hi, fun i hi => by simp [zZ, zJ] at hi, fun i j hi => by simp [zZ, zJ] at hi⟩
  · have hpos : 0 < cell.length := List.length_pos_iff.2 hc
    obtain ⟨g1, -, o1⟩ := zsE h0 (hS.mem 0 _ m0) m0 (by omega) hc
    obtain ⟨g2, -, o2⟩ := zsE h1 (hS.mem 1 _ m1) m1 (by omega) (fun e => by rw [e] at hle; simp at hle; exact hc hle)
    obtain ⟨cap1, rfl, l1, c1⟩ := rd o1
    obtain ⟨cap2, rfl, l2, c2⟩ := rd o2
    refine (zrU (T := T) g1 0 cap1 g2 0 cap2 rank.length cell rank w hpos hle (by omega) (fun b o ht => hS.pins b o (hT b o ht)) l1 l2 c1 (fun j hj => c2 j (by omega))).mono ?_
    rintro e w' ⟨he, hg, es, clock, blk, hG⟩
    exact fin e w' es clock blk he hg hG
end Go.Ab
namespace Go.Ab
open Go Go.Proofs
set_option maxRecDepth 10000
set_option maxHeartbeats 4000000
def zix:List D→Option (List Int)
 | []=>some []
 | .int .i64 n::r=>match zix r with
  | some l=>some (n::l)
  | none=>none
 | _=>none
theorem zh6 : ∀ {ds:List D} {l:List Int},zix ds=some l→ds=l.map (D.int .i64)
 | [],l,h=>by cases h;rfl
 | .int .i64 n::r,l,h=>by
  unfold zix at h
  split at h
  ·rename_i l' h';cases h;rw [zh6 h'];rfl
  ·cases h
def zr8:List D→Option (List (BitVec 64))
 | []=>some []
 | .u64 n::r=>match zr8 r with
  | some l=>some (n::l)
  | none=>none
 | _=>none
theorem ztO : ∀ {ds:List D} {l:List (BitVec 64)},zr8 ds=some l→ds=l.map D.u64
 | [],l,h=>by cases h;rfl
 | .u64 n::r,l,h=>by
  unfold zr8 at h
  split at h
  ·rename_i l' h';cases h;rw [ztO h'];rfl
  ·cases h
def zlD:List D→Option (List (List Int))
 | []=>some []
 | .arr 1 x::r=>match zix x with
  | some a=>match zlD r with
   | some l=>some (a::l)
   | none=>none
  | none=>none
 | _=>none
theorem zoO : ∀ {ds:List D} {l:List (List Int)},zlD ds=some l→ds=l.map dI
 | [],l,h=>by cases h;rfl
 | .arr 1 x::r,l,h=>by
  replace h:(match zix x with
   | some a=>match zlD r with
    | some l=>some (a::l)
    | none=>none
   | none=>none)=some l:=h
  cases h1:zix x with
  | none=>rw [h1] at h;cases h
  | some a =>
   cases h2:zlD r with
   | none=>rw [h1,h2] at h;cases h
   | some l'=>rw [h1,h2] at h;cases h;rw [zoO h2,zh6 h1];rfl
def okI (l:List Int):Bool:=l.all fun x=>decide (-9223372036854775808≤x)&&decide (x≤9223372036854775807)
def zAY:Nat→List V→List Ob→Option (List (List D)):=fun g vs obs =>
 cond (Nat.beq g zb6) (match vs,obs with
  | [.ptr 0 0],[.box [.d (.u64 s)]]=>some (zmp s)
  | _,_=>none)
 (cond (Nat.beq g zbg) (match vs,obs with
  | [.ptr 0 0],[.box [.d (.int .i64 W),.d (.arr 1 vl),.d (.arr 1 cs),.d (.arr 1 rs)]]=>match zr8 vl,zlD cs,zlD rs with
   | some vl,some cs,some rs=>cond (rs.all okI&&decide (zm ⟨W,vl,cs,rs⟩=0)) (some (zbd ⟨W,vl,cs,rs⟩ 0)) none
   | _,_,_=>none
  | _,_=>none) none)
def zvq:Fs:=fun f vs obs =>
 cond (Nat.beq f zf9) (match vs,obs with
  | [.d (.arr 1 a),.d (.arr 1 b)],[]=>match zix a,zix b with
   | some a,some b=>cond (Nat.ble a.length b.length&&Nat.ble a.length 64) (some (.d (.map (zi5 a b)),[])) none
   | _,_=>none
  | [.own 0,.own 1],[.row 1 a,.row 1 b]=>match zix a,zix b with
   | some a,some b=>cond (Nat.ble a.length b.length&&Nat.ble b.length 64) (some (.d (.map (zi5 a b)),[some (.row 1 (a.map (D.int .i64))),some (.row 1 (b.map (D.int .i64)))])) none
   | _,_=>none
  | _,_=>none)
 (cond (Nat.beq f zbn) (match vs,obs with
  | [.d (.u64 w)],[]=>some (.d (.int .i64 (Lib.ctz 64 w.toNat)),[])
  | _,_=>none)
 (cond (Nat.beq f zdC) (match vs,obs with
  | [.d (.u64 w)],[]=>some (.d (.int .i64 (Sort.bitsLen w.toNat:Int)),[])
  | _,_=>none)
 (cond (Nat.beq f zc9) (match vs,obs with
  | [.d (.u64 w)],[]=>some (.d (.int .i64 (Sort.bitsLen w.toNat:Int)),[])
  | _,_=>none) none)))
def zEp (f:Nat):Bool:=Nat.beq f zdb||(Nat.beq f zpF||Nat.beq f zbC)
noncomputable def zDi:Cfg:=⟨za Tryz.prog,zvq,zAY,zEp,fun f=>Nat.beq f zeg,150⟩
theorem zDK {rs:List (List Int)} (h:rs.all okI=true):zat rs:=by
 intro r hr x hx
 have h1:=List.all_eq_true.1 (List.all_eq_true.1 h r hr) x hx
 rw [Bool.and_eq_true,decide_eq_true_eq,decide_eq_true_eq] at h1
 exact h1
variable {T:Nat→Obj→Prop}
theorem zDI (hT:zqn T) : ∀ g vs obs xs,zAY g vs obs=some xs→It Tryz.prog T g vs obs xs:=by
 intro g vs obs xs h
 unfold zAY at h
 cases hg:Nat.beq g zb6 with
 | true =>
  rw [hg,cond_true] at h
  rw [Nat.eq_of_beq_eq_true hg]
  split at h
  ·cases h;exact zwt hT _
  ·cases h
 | false =>
  rw [hg,cond_false] at h
  cases hg2:Nat.beq g zbg with
  | true =>
   rw [hg2,cond_true] at h
   rw [Nat.eq_of_beq_eq_true hg2]
   split at h
   ·split at h
    ·rename_i vl' cs' rs' h1 h2 h3
     rename_i vl cs rs _ _ _
     rw [ztO h1,zoO h2,zoO h3]
     cases hb:rs'.all okI&&decide (zm ⟨_,vl',cs',rs'⟩=0) with
     | true =>
      rw [hb] at h
      rw [Bool.and_eq_true,decide_eq_true_eq] at hb
      cases h
      exact zqD zqS _ (zDK hb.1) hb.2
     | false=>rw [hb] at h;cases h
    ·cases h
   ·cases h
  | false=>rw [hg2] at h;cases h
theorem zA0 (hT:zqn T):zxi Tryz.prog T zvq:=by
 intro f vs obs v obs' h
 unfold zvq at h
 cases h1:Nat.beq f zf9 with
 | true =>
  rw [h1,cond_true] at h
  rw [Nat.eq_of_beq_eq_true h1]
  split at h
  ·split at h
   ·rename_i a b ha hb
    rw [zh6 ha,zh6 hb]
    cases hc:Nat.ble a.length b.length&&Nat.ble a.length 64 with
    | true =>
     rw [hc] at h
     rw [Bool.and_eq_true,Nat.ble_eq,Nat.ble_eq] at hc
     cases h
     exact zqS _ _ hc.1 hc.2
    | false=>rw [hc] at h;cases h
   ·cases h
  ·split at h
   ·rename_i a b ha hb
    rw [zh6 ha,zh6 hb]
    cases hc:Nat.ble a.length b.length&&Nat.ble b.length 64 with
    | true =>
     rw [hc] at h
     rw [Bool.and_eq_true,Nat.ble_eq,Nat.ble_eq] at hc
     cases h
     exact zzB hc.1 hc.2
    | false=>rw [hc] at h;cases h
   ·cases h
  ·cases h
 | false =>
  rw [h1,cond_false] at h
  cases h2:Nat.beq f zbn with
  | true =>
   rw [h2,cond_true] at h
   rw [Nat.eq_of_beq_eq_true h2]
   split at h
   ·cases h;exact hT _
   ·cases h
  | false =>
   rw [h2,cond_false] at h
   cases h3:Nat.beq f zdC with
   | true =>
    rw [h3,cond_true] at h
    rw [Nat.eq_of_beq_eq_true h3]
    split at h
    ·cases h;exact zva _
    ·cases h
   | false =>
    rw [h3,cond_false] at h
    cases h4:Nat.beq f zc9 with
    | true =>
     rw [h4,cond_true] at h
     rw [Nat.eq_of_beq_eq_true h4]
     split at h
     ·cases h;exact zDA _
     ·cases h
    | false=>rw [h4] at h;cases h
theorem zDj (hT:zqn T):zxh Tryz.prog T zDi:=⟨fun f c h=>h,zA0 hT,zDI hT⟩
end Go.Ab
namespace Go.Ab
open Go Go.Proofs
set_option maxRecDepth 10000
set_option maxHeartbeats 4000000
variable {T:Nat→Obj→Prop}
def zqx (p:PM) (n:Int):Bool:=decide (p.W≤n)&&(decide (p.val.length≤10)&&(decide (p.cell.length≤6)&&(decide (p.rank.length≤6)&&decide (p.val.length≤20∧p.cell.length≤8∧p.rank.length≤8∧(∀ a,a < p.cell.length→(zb p.cell a).length≤20) ∧ ∀ a,a < p.rank.length→(zb p.rank a).length≤20))))
theorem zAK (p:PM) (n:Int):Fn Tryz.prog T ze7 [.d (dPM p),.d (.int .i64 n)] [] (.d (.bool (zqx p n))) []:=by
 refine zd zp zoF (by show 2≤31;decide) ?_
 (repeat' ((conv=>whnf);first|refine vA ?_|(refine vF ?_ ?_<;>intro hc<;>try simp only [vL] at hc)|refine vJ fun hg=>?_|refine vT ?_|refine vZ ?_|refine yD (zDz p) ⟨⟨rfl,rfl⟩,rfl⟩ rfl ?_));all_goals try conv=>whnf
 ·rw [zqx,decide_eq_true ‹p.W≤n›,decide_eq_true (show p.val.length≤10 by omega),decide_eq_true (show p.cell.length≤6 by omega),decide_eq_true (show p.rank.length≤6 by omega)];rfl
 ·rw [zqx,decide_eq_true ‹p.W≤n›,decide_eq_true (show p.val.length≤10 by omega),decide_eq_true (show p.cell.length≤6 by omega),decide_eq_false (show ¬ p.rank.length≤6 by omega)];rfl
 ·rw [zqx,decide_eq_true ‹p.W≤n›,decide_eq_true (show p.val.length≤10 by omega),decide_eq_false (show ¬ p.cell.length≤6 by omega)];rfl
 ·rw [zqx,decide_eq_true ‹p.W≤n›,decide_eq_false (show ¬ p.val.length≤10 by omega)];rfl
 ·rw [zqx,decide_eq_false (show ¬ p.W≤n by omega)];rfl
end Go.Ab
namespace Go.Ab
open Go
inductive zfI:Tm→Tm→Prop where
 | refl (t:Tm):zfI t t
 | u {s x:Tm} (h:Hd):zfI s x→zfI s (.u h x)
 | l {s x:Tm} (h:Hd) (y:Tm):zfI s x→zfI s (.b h x y)
 | r {s y:Tm} (h:Hd) (x:Tm):zfI s y→zfI s (.b h x y)
def Num (l:List Nd):Prop := ∀ r,r < l.length→zcJ (zaa l r) l r
theorem zsD {l:List Nd} {x:Nd} (hl:zao l) (hn:Num l) (hx:zbe x l.length=0) {t:Tm} (h1:zaa (put l x).2 (put l x).1=t) (h2:zcJ t (put l x).2 (put l x).1) :
  Num (put l x).2 ∧ ∀ r,r < (put l x).2.length→r < l.length∨zaa (put l x).2 r=t:=by
 cases hi:l.idxOf? x with
 | some k=>rw [zan hi];exact ⟨hn,fun r hr => .inl hr⟩
 | none =>
  rw [zbt hi] at h1 h2 ⊢
  simp only at h1 h2 ⊢
  refine ⟨fun r hr=>?_,fun r hr=>?_⟩
  ·simp only [List.length_append,List.length_cons,List.length_nil] at hr
   by_cases e:r < l.length
   ·rw [zay hl e];exact (hn r e).mono [x]
   ·have:r=l.length:=by omega
    subst this;rw [h1];exact h2
  ·simp only [List.length_append,List.length_cons,List.length_nil] at hr
   by_cases e:r < l.length
   ·exact .inl e
   ·have:r=l.length:=by omega
    subst this;exact .inr h1
theorem zmx : ∀ (t:Tm) (l:List Nd),t.ok→zao l→Num l→Num (zc t l).2 ∧ ∀ r,r < (zc t l).2.length→r < l.length∨zfI (zaa (zc t l).2 r) t
 | .z h,l,ht,hl,hn=>by
  obtain ⟨o1,o2⟩:=zaM (.z h) l ht hl
  have hx:zbe (nd h 0 0) l.length=0:=zaF.2 ⟨ht.1,fun e=>by have:=ht.2.1;simp [nd] at e;simp [this] at e,fun _=>rfl,fun e=>by have:=ht.2.2;simp [nd] at e;simp [this] at e,fun _=>rfl⟩
  obtain ⟨a,b⟩:=zsD hl hn hx o2 (zgc (.z h) l)
  exact ⟨a,fun r hr=>(b r hr).imp id fun e=>by rw [show (zc (.z h) l).2=(put l (nd h 0 0)).2 from rfl,e];exact .refl _⟩
 | .u h x,l,ht,hl,hn=>by
  obtain ⟨o1,o2⟩:=zaM (.u h x) l ht hl
  obtain ⟨a1,a2⟩:=zaM x l ht.2.2.2 hl
  have a3:=zh0 x l
  obtain ⟨n1,n2⟩:=zmx x l ht.2.2.2 hl hn
  have hx:zbe (nd h (zc x l).1 0) (zc x l).2.length=0:=zaF.2 ⟨ht.1,fun e=>⟨by simp [nd],by simp only [nd];omega⟩,fun e=>by have:=ht.2.1;simp [nd] at e;simp [this] at e,fun e=>by have:=ht.2.2.1;simp [nd] at e;simp [this] at e,fun _=>rfl⟩
  obtain ⟨a,b⟩:=zsD a1 n1 hx o2 (zgc (.u h x) l)
  obtain ⟨m,hm⟩:=(zbh (zc x l).2 (nd h (zc x l).1 0)).1
  refine ⟨a,fun r hr=>?_⟩
  rw [show (zc (.u h x) l).2=(put (zc x l).2 (nd h (zc x l).1 0)).2 from rfl] at hr ⊢
  rcases b r hr with e|e
  ·rw [hm,zay a1 e]
   exact (n2 r e).imp id fun s => .u h s
  ·rw [e];exact .inr (.refl _)
 | .b h x y,l,ht,hl,hn=>by
  obtain ⟨o1,o2⟩:=zaM (.b h x y) l ht hl
  obtain ⟨a1,a2⟩:=zaM x l ht.2.2.2.1 hl
  have a3:=zh0 x l
  obtain ⟨b1,b2⟩:=zaM y (zc x l).2 ht.2.2.2.2 a1
  have b3:=zh0 y (zc x l).2
  obtain ⟨n1,n2⟩:=zmx x l ht.2.2.2.1 hl hn
  obtain ⟨n3,n4⟩:=zmx y (zc x l).2 ht.2.2.2.2 a1 n1
  obtain ⟨m2,hm2⟩:=zca y (zc x l).2
  have hx:zbe (nd h (zc x l).1 (zc y (zc x l).2).1) (zc y (zc x l).2).2.length=0:=zaF.2 ⟨ht.1,fun e=>⟨by simp [nd],by simp only [nd];rw [hm2,List.length_append];omega⟩,
   fun e=>by have:=ht.2.1;simp [nd] at e;simp [this] at e,fun e=>⟨by simp [nd],by simp only [nd];omega⟩,fun e=>by have:=ht.2.2.1;simp [nd] at e;simp [this] at e⟩
  obtain ⟨a,b⟩:=zsD b1 n3 hx o2 (zgc (.b h x y) l)
  obtain ⟨m,hm⟩:=(zbh (zc y (zc x l).2).2 (nd h (zc x l).1 (zc y (zc x l).2).1)).1
  refine ⟨a,fun r hr=>?_⟩
  rw [show (zc (.b h x y) l).2=(put (zc y (zc x l).2).2 (nd h (zc x l).1 (zc y (zc x l).2).1)).2 from rfl] at hr ⊢
  rcases b r hr with e|e
  ·rw [hm,zay b1 e]
   rcases n4 r e with e'|s
   ·rw [hm2,zay a1 e']
    exact (n2 r e').imp id fun s => .l h y s
   ·exact .inr (.r h x s)
  ·rw [e];exact .inr (.refl _)
theorem zvA {α:Type} : ∀ {l l':List α},l.Nodup→(∀ x∈l,x∈l')→l.length≤l'.length:=by
 intro l l' h1 h2
 haveI:DecidableEq α:=fun a b=>Classical.propDecidable _
 exact List.Nodup.length_le_of_subset h1 h2
theorem zn6 {t:Tm} (ht:t.ok) {L:List Tm} (hL : ∀ s,zfI s t→s∈L):(zc t []).2.length≤L.length:=by
 obtain ⟨h1,h2⟩:=zmx t [] ht zaZ (fun r hr=>by simp at hr)
 have:=zvA (l:=(List.range (zc t []).2.length).map (zaa (zc t []).2)) (l':=L) ?_ (fun s hs=>?_)
 ·simpa using this
 ·show List.Pairwise (fun a b=>a≠b) _
  rw [List.pairwise_map]
  refine List.Pairwise.imp_of_mem (fun {i j} hi hj hne e=>hne ?_) (show List.Pairwise (fun a b=>a≠b) _ from List.nodup_range)
  have a:=h1 i (List.mem_range.1 hi)
  have b:=h1 j (List.mem_range.1 hj)
  unfold zcJ at a b
  rw [e,b] at a
  exact (Prod.mk.inj a).1.symm
 ·obtain ⟨r,hr,rfl⟩:=List.mem_map.1 hs
  exact hL _ ((h2 r (List.mem_range.1 hr)).resolve_left (by simp))
end Go.Ab
namespace Go.Ab
open Go
theorem zkQ {x:Nd} {f:List Nd} (hf:zao f) (hx:zbe x f.length=0) (hl:(zc (zaa (f++[x]) f.length) []).2.length≤200):IsF (zaP x f) (zaa (f++[x]) f.length):=by
 have hok:zao (f++[x]):=by
  intro k n hk
  rw [List.getElem?_append] at hk
  split at hk
  ·exact hf k n hk
  ·rename_i h1
   have:k=f.length:=by have:=(List.getElem?_eq_some_iff.1 hk).1;simp at this;omega
   subst this
   simp at hk;subst hk;exact hx
 have hlt:f.length < (f++[x]).length:=by simp
 have h1:=zhQ hok hlt
 rw [← (zfU hok hlt).1] at hl
 have e:zaP x f=zbl (f++[x]) f.length:=by
  unfold zaP
  rw [if_neg (by omega),if_neg (by omega)]
 rw [e]
 exact ⟨zdN.2 ⟨h1.pos,hl,h1.ok⟩,h1.tree⟩
theorem zre {h:Hd} (hh:zdn h) (hx:zK h.op=true) (hy:zB h.op=false) {o:List Nd} {t:Tm} (ho:IsF o t) (hl:(zc (.u h t) []).2.length≤200):IsF (zF ⟨h.op,h.i,h.e,h.g,0,0⟩ [o]) (.u h t):=by
 obtain ⟨c1,c2⟩:=ho.canon
 have hp:=c1.pos
 have e0:(zG [] (cL o)).length=(cL o).length:=by simp [zG]
 have hok:=zc7 zaZ c1.ok
 have ht:zaa (zG [] (cL o)) ((cL o).length - 1)=t:=by
  have:=zcD (f:=[]) zaZ c1.ok (cL o).length ((cL o).length - 1) (by omega) (by omega)
  rw [List.length_nil,Nat.zero_add] at this
  rw [this];exact c1.tree
 have hn:zbe ⟨h.op,h.i,h.e,h.g,((zG [] (cL o)).length:Int) - 1,0⟩ (zG [] (cL o)).length=0:=zaF.2 ⟨hh,fun _=>by simp only;omega,fun e=>by simp [hx] at e,fun e=>by simp [hy] at e,fun _=>rfl⟩
 have e:zF ⟨h.op,h.i,h.e,h.g,0,0⟩ [o]=zaP ⟨h.op,h.i,h.e,h.g,((zG [] (cL o)).length:Int) - 1,0⟩ (zG [] (cL o)):=by
  simp [zF,zb8,ho.ok]
 have h0:=zjO hok hn
 simp only [hx,hy,cond_false,cond_true] at h0
 rw [show (((zG [] (cL o)).length:Int) - 1).toNat=(cL o).length - 1 by omega,ht] at h0
 have h1:=zkQ hok hn (by rw [h0];exact hl)
 rw [h0] at h1
 rw [e]
 exact h1
theorem zrf {h:Hd} (hh:zdn h) (hy:zB h.op=true) {o q:List Nd} {t u:Tm} (ho:IsF o t) (hq:IsF q u) (hl:(zc (.b h t u) []).2.length≤200):IsF (zF ⟨h.op,h.i,h.e,h.g,0,0⟩ [o,q]) (.b h t u):=by
 have hx:=zX hy
 obtain ⟨c1,c2⟩:=ho.canon
 obtain ⟨d1,d2⟩:=hq.canon
 have hp:=c1.pos
 have hp2:=d1.pos
 have e0:(zG [] (cL o)).length=(cL o).length:=by simp [zG]
 have hok:=zc7 zaZ c1.ok
 have hok2:=zc7 hok d1.ok
 have e2:(zG (zG [] (cL o)) (cL q)).length=(cL o).length+(cL q).length:=by rw [zG,List.length_append,List.length_map,e0]
 have ht:zaa (zG (zG [] (cL o)) (cL q)) ((cL o).length - 1)=t:=by
  rw [zut hok (by omega)]
  have:=zcD (f:=[]) zaZ c1.ok (cL o).length ((cL o).length - 1) (by omega) (by omega)
  rw [List.length_nil,Nat.zero_add] at this
  rw [this];exact c1.tree
 have hu:zaa (zG (zG [] (cL o)) (cL q)) ((cL o).length+(cL q).length - 1)=u:=by
  have:=zcD hok d1.ok (cL q).length ((cL q).length - 1) (by omega) (by omega)
  rw [e0,show (cL o).length+((cL q).length - 1)=(cL o).length+(cL q).length - 1 by omega] at this
  rw [this];exact d1.tree
 have hn:zbe ⟨h.op,h.i,h.e,h.g,((zG [] (cL o)).length:Int) - 1,((zG (zG [] (cL o)) (cL q)).length:Int) - 1⟩ (zG (zG [] (cL o)) (cL q)).length=0 :=
  zaF.2 ⟨hh,fun _=>by simp only;omega,fun e=>by simp [hx] at e,fun _=>by simp only;omega,fun e=>by simp [hy] at e⟩
 have e:zF ⟨h.op,h.i,h.e,h.g,0,0⟩ [o,q]=zaP ⟨h.op,h.i,h.e,h.g,((zG [] (cL o)).length:Int) - 1,((zG (zG [] (cL o)) (cL q)).length:Int) - 1⟩ (zG (zG [] (cL o)) (cL q)):=by
  simp [zF,zb8,ho.ok,hq.ok]
 have h0:=zjO hok2 hn
 simp only [hy,cond_true] at h0
 rw [show (((zG [] (cL o)).length:Int) - 1).toNat=(cL o).length - 1 by omega,show (((zG (zG [] (cL o)) (cL q)).length:Int) - 1).toNat=(cL o).length+(cL q).length - 1 by omega,ht,hu] at h0
 have h1:=zkQ hok2 hn (by rw [h0];exact hl)
 rw [h0] at h1
 rw [e]
 exact h1
structure Gm (p:PM) (f:List Nd) (x:BitVec 64) (L:List Tm):Prop where
 ok : ∃ t,OkT p f t∧ev (zaq p) 0#64 t=x ∧ ∀ s,zfI s t→s∈L
theorem Gm.holds {p:PM} {f:List Nd} {x:BitVec 64} {L:List Tm} (h:Gm p f x L) (hc0:zm p=0):zcP p f=(x,0):=by
 obtain ⟨t,h1,h2,-⟩:=h.ok
 rw [h1.holds hc0,h2]
theorem Gm.mono {p:PM} {f:List Nd} {x:BitVec 64} {L L':List Tm} (h:Gm p f x L) (hs : ∀ s,s∈L→s∈L'):Gm p f x L':=by
 obtain ⟨t,h1,h2,h3⟩:=h.ok
 exact ⟨t,h1,h2,fun s hq=>hs s (h3 s hq)⟩
theorem Gm.un {p:PM} {f:List Nd} {x:BitVec 64} {L:List Tm} (h:Gm p f x L) {hd:Hd} (hh:zdn hd∧zik hd∧zhJ p hd) (hx:zK hd.op=true) (hy:zB hd.op=false) (hn:L.length≤199) :
  ∃ t',Gm p (zF ⟨hd.op,hd.i,hd.e,hd.g,0,0⟩ [f]) (zaq p hd x 0#64) (L++[t']):=by
 obtain ⟨t,h1,h2,h3⟩:=h.ok
 have hok:(Tm.u hd t).ok:=⟨hh.1,hx,hy,h1.isF.tok⟩
 have hL : ∀ s,zfI s (.u hd t)→s∈L++[.u hd t]:=fun s hs=>by
  cases hs with
  | refl=>simp
  | u _ hs=>exact List.mem_append.2 (.inl (h3 s hs))
 have hl:=zn6 hok hL
 simp only [List.length_append,List.length_cons,List.length_nil] at hl
 exact ⟨.u hd t,.u hd t,⟨zre hh.1 hx hy h1.isF (by omega),⟨hh.2.1,h1.lang⟩,⟨hh.2.2,h1.fit⟩⟩,by rw [ev,h2],hL⟩
theorem Gm.bi {p:PM} {f g:List Nd} {x y:BitVec 64} {L:List Tm} (h:Gm p f x L) (h':Gm p g y L) {hd:Hd} (hh:zdn hd∧zik hd∧zhJ p hd) (hy:zB hd.op=true) (hn:L.length≤199) :
  ∃ t',Gm p (zF ⟨hd.op,hd.i,hd.e,hd.g,0,0⟩ [f,g]) (zaq p hd x y) (L++[t']):=by
 obtain ⟨t,h1,h2,h3⟩:=h.ok
 obtain ⟨u,g1,g2,g3⟩:=h'.ok
 have hok:(Tm.b hd t u).ok:=⟨hh.1,zX hy,hy,h1.isF.tok,g1.isF.tok⟩
 have hL : ∀ s,zfI s (.b hd t u)→s∈L++[.b hd t u]:=fun s hs=>by
  cases hs with
  | refl=>simp
  | l _ _ hs=>exact List.mem_append.2 (.inl (h3 s hs))
  | r _ _ hs=>exact List.mem_append.2 (.inl (g3 s hs))
 have hl:=zn6 hok hL
 simp only [List.length_append,List.length_cons,List.length_nil] at hl
 exact ⟨.b hd t u,.b hd t u,⟨zrf hh.1 hy h1.isF g1.isF (by omega),⟨hh.2.1,h1.lang,g1.lang⟩,⟨hh.2.2,h1.fit,g1.fit⟩⟩,by rw [ev,h2,g2],hL⟩
end Go.Ab
namespace Go.Ab
open Go Go.Proofs
set_option maxRecDepth 10000
set_option maxHeartbeats 4000000
theorem zsZ {x:Nd} {f:List Nd} (hf:zao f) (hx:zbe x f.length=0):zaP x f=[]∨IsF (zaP x f) (zaa (f++[x]) f.length):=by
 have hok:zao (f++[x]):=by
  intro k n hk
  rw [List.getElem?_append] at hk
  split at hk
  ·exact hf k n hk
  ·rename_i h1
   have:k=f.length:=by have:=(List.getElem?_eq_some_iff.1 hk).1;simp at this;omega
   subst this
   simp at hk;subst hk;exact hx
 have hlt:f.length < (f++[x]).length:=by simp
 by_cases hl:(zc (zaa (f++[x]) f.length) []).2.length≤200
 ·exact .inr (zkQ hf hx hl)
 ·left
  rw [← (zfU hok hlt).1] at hl
  unfold zaP
  rw [if_neg (by omega),if_pos (by omega)]
theorem zDL {h:Hd} (hh:zdn h) (hx:zK h.op=true) (hy:zB h.op=false) {o:List Nd} {t:Tm} (ho:IsF o t):zF ⟨h.op,h.i,h.e,h.g,0,0⟩ [o]=[]∨IsF (zF ⟨h.op,h.i,h.e,h.g,0,0⟩ [o]) (.u h t):=by
 obtain ⟨c1,c2⟩:=ho.canon
 have hp:=c1.pos
 have e0:(zG [] (cL o)).length=(cL o).length:=by simp [zG]
 have hok:=zc7 zaZ c1.ok
 have ht:zaa (zG [] (cL o)) ((cL o).length - 1)=t:=by
  have:=zcD (f:=[]) zaZ c1.ok (cL o).length ((cL o).length - 1) (by omega) (by omega)
  rw [List.length_nil,Nat.zero_add] at this
  rw [this];exact c1.tree
 have hn:zbe ⟨h.op,h.i,h.e,h.g,((zG [] (cL o)).length:Int) - 1,0⟩ (zG [] (cL o)).length=0:=zaF.2 ⟨hh,fun _=>by simp only;omega,fun e=>by simp [hx] at e,fun e=>by simp [hy] at e,fun _=>rfl⟩
 have e:zF ⟨h.op,h.i,h.e,h.g,0,0⟩ [o]=zaP ⟨h.op,h.i,h.e,h.g,((zG [] (cL o)).length:Int) - 1,0⟩ (zG [] (cL o)):=by
  simp [zF,zb8,ho.ok]
 have h0:=zjO hok hn
 simp only [hx,hy,cond_false,cond_true] at h0
 rw [show (((zG [] (cL o)).length:Int) - 1).toNat=(cL o).length - 1 by omega,ht] at h0
 have h1:=zsZ hok hn
 rw [h0] at h1
 rw [e]
 exact h1
theorem zD5 {h:Hd} (hh:zdn h) (hy:zB h.op=true) {o q:List Nd} {t u:Tm} (ho:IsF o t) (hq:IsF q u):zF ⟨h.op,h.i,h.e,h.g,0,0⟩ [o,q]=[]∨IsF (zF ⟨h.op,h.i,h.e,h.g,0,0⟩ [o,q]) (.b h t u):=by
 have hx:=zX hy
 obtain ⟨c1,c2⟩:=ho.canon
 obtain ⟨d1,d2⟩:=hq.canon
 have hp:=c1.pos
 have hp2:=d1.pos
 have e0:(zG [] (cL o)).length=(cL o).length:=by simp [zG]
 have hok:=zc7 zaZ c1.ok
 have hok2:=zc7 hok d1.ok
 have e2:(zG (zG [] (cL o)) (cL q)).length=(cL o).length+(cL q).length:=by rw [zG,List.length_append,List.length_map,e0]
 have ht:zaa (zG (zG [] (cL o)) (cL q)) ((cL o).length - 1)=t:=by
  rw [zut hok (by omega)]
  have:=zcD (f:=[]) zaZ c1.ok (cL o).length ((cL o).length - 1) (by omega) (by omega)
  rw [List.length_nil,Nat.zero_add] at this
  rw [this];exact c1.tree
 have hu:zaa (zG (zG [] (cL o)) (cL q)) ((cL o).length+(cL q).length - 1)=u:=by
  have:=zcD hok d1.ok (cL q).length ((cL q).length - 1) (by omega) (by omega)
  rw [e0,show (cL o).length+((cL q).length - 1)=(cL o).length+(cL q).length - 1 by omega] at this
  rw [this];exact d1.tree
 have hn:zbe ⟨h.op,h.i,h.e,h.g,((zG [] (cL o)).length:Int) - 1,((zG (zG [] (cL o)) (cL q)).length:Int) - 1⟩ (zG (zG [] (cL o)) (cL q)).length=0 :=
  zaF.2 ⟨hh,fun _=>by simp only;omega,fun e=>by simp [hx] at e,fun _=>by simp only;omega,fun e=>by simp [hy] at e⟩
 have e:zF ⟨h.op,h.i,h.e,h.g,0,0⟩ [o,q]=zaP ⟨h.op,h.i,h.e,h.g,((zG [] (cL o)).length:Int) - 1,((zG (zG [] (cL o)) (cL q)).length:Int) - 1⟩ (zG (zG [] (cL o)) (cL q)):=by
  simp [zF,zb8,ho.ok,hq.ok]
 have h0:=zjO hok2 hn
 simp only [hy,cond_true] at h0
 rw [show (((zG [] (cL o)).length:Int) - 1).toNat=(cL o).length - 1 by omega,show (((zG (zG [] (cL o)) (cL q)).length:Int) - 1).toNat=(cL o).length+(cL q).length - 1 by omega,ht,hu] at h0
 have h1:=zsZ hok2 hn
 rw [h0] at h1
 rw [e]
 exact h1
def LH (p:PM) (h:Hd):Prop:=zdn h∧(∀ i,(zai h).testBit i=true→(33:Nat).testBit i=true)∧zhJ p h
structure TrF (p:PM) (L:List Tm) (f:List Nd) (t:Tm):Prop where
 isF:IsF f t
 lh:t.all (LH p)
 sub : ∀ s,zfI s t→s∈L
def zaW (p:PM) (sm:Bool) (L:List Tm) (f:List Nd) (Q:Tm→Prop):Prop:=(sm=false∧f=[]) ∨ ∃ t,TrF p L f t∧Q t
theorem zaW.mono {p:PM} {sm:Bool} {L L':List Tm} {f:List Nd} {Q Q':Tm→Prop} (h:zaW p sm L f Q) (hL : ∀ s,s∈L→s∈L') (hQ : ∀ t,Q t→Q' t):zaW p sm L' f Q':=by
 rcases h with h|⟨t,⟨h1,h2,h3⟩,h4⟩
 ·exact .inl h
 ·exact .inr ⟨t,⟨h1,h2,fun s hs=>hL s (h3 s hs)⟩,hQ t h4⟩
structure zeb (L L':List Tm) (n:Nat):Prop where
 sub : ∀ s,s∈L→s∈L'
 len:L'.length≤L.length+n
theorem zeb.trans {L L' L2:List Tm} {n m:Nat} (h:zeb L L' n) (h':zeb L' L2 m):zeb L L2 (n+m):=⟨fun s hs=>h'.sub s (h.sub s hs),by have:=h.len;have:=h'.len;omega⟩
theorem zeb.rfl {L:List Tm} {n:Nat} : zeb L L n:=⟨fun _ h=>h,by omega⟩
theorem zsj:zaX []≠0:=by decide
theorem zAa {p:PM} {L:List Tm} {t:Tm} (hok:t.ok) (hL : ∀ s,zfI s t→s∈L) (hn:L.length≤200):(zc t []).2.length≤200:=Nat.le_trans (zn6 hok hL) hn
theorem zaW.un {p:PM} {sm:Bool} {L:List Tm} {f:List Nd} {Q:Tm→Prop} (h:zaW p sm L f Q) {hd:Hd} (hh:LH p hd) (hx:zK hd.op=true) (hy:zB hd.op=false) (hn:sm=true→L.length≤199) :
  ∃ L',zeb L L' 1∧zaW p sm L' (zF ⟨hd.op,hd.i,hd.e,hd.g,0,0⟩ [f]) (fun t' => ∃ t,Q t∧t' = .u hd t):=by
 rcases h with ⟨h1,rfl⟩|⟨t,⟨h1,h2,h3⟩,h4⟩
 ·exact ⟨L,zeb.rfl,.inl ⟨h1,zxw zsj⟩⟩
 ·have hok:(Tm.u hd t).ok:=⟨hh.1,hx,hy,h1.tok⟩
  have hL : ∀ s,zfI s (.u hd t)→s∈L++[.u hd t]:=fun s hs=>by
   cases hs with
   | refl=>simp
   | u _ hs=>exact List.mem_append.2 (.inl (h3 s hs))
  refine ⟨L++[.u hd t],⟨fun s hs=>List.mem_append.2 (.inl hs),by simp⟩,?_⟩
  cases sm with
  | true =>
   have:=hn rfl
   exact .inr ⟨_,⟨zre hh.1 hx hy h1 (zAa (p:=p) hok hL (by simp;omega)),⟨hh,h2⟩,hL⟩,t,h4,rfl⟩
  | false =>
   rcases zDL hh.1 hx hy h1 with e|e
   ·exact .inl ⟨rfl,e⟩
   ·exact .inr ⟨_,⟨e,⟨hh,h2⟩,hL⟩,t,h4,rfl⟩
theorem zaW.bi {p:PM} {sm:Bool} {L:List Tm} {f g:List Nd} {Q Q':Tm→Prop} (h:zaW p sm L f Q) (h':zaW p sm L g Q') {hd:Hd} (hh:LH p hd) (hy:zB hd.op=true) (hn:sm=true→L.length≤199) :
  ∃ L',zeb L L' 1∧zaW p sm L' (zF ⟨hd.op,hd.i,hd.e,hd.g,0,0⟩ [f,g]) (fun t' => ∃ t u,Q t∧Q' u∧t' = .b hd t u):=by
 rcases h with ⟨h1,rfl⟩|⟨t,⟨h1,h2,h3⟩,h4⟩
 ·exact ⟨L,zeb.rfl,.inl ⟨h1,zrd (.inl zsj)⟩⟩
 rcases h' with ⟨g1,rfl⟩|⟨u,⟨g1,g2,g3⟩,g4⟩
 ·exact ⟨L,zeb.rfl,.inl ⟨g1,zrd (.inr zsj)⟩⟩
 have hok:(Tm.b hd t u).ok:=⟨hh.1,zX hy,hy,h1.tok,g1.tok⟩
 have hL : ∀ s,zfI s (.b hd t u)→s∈L++[.b hd t u]:=fun s hs=>by
  cases hs with
  | refl=>simp
  | l _ _ hs=>exact List.mem_append.2 (.inl (h3 s hs))
  | r _ _ hs=>exact List.mem_append.2 (.inl (g3 s hs))
 refine ⟨L++[.b hd t u],⟨fun s hs=>List.mem_append.2 (.inl hs),by simp⟩,?_⟩
 cases sm with
 | true =>
  have:=hn rfl
  exact .inr ⟨_,⟨zrf hh.1 hy h1 g1 (zAa (p:=p) hok hL (by simp;omega)),⟨hh,h2,g2⟩,hL⟩,t,u,h4,g4,rfl⟩
 | false =>
  rcases zD5 hh.1 hy h1 g1 with e|e
  ·exact .inl ⟨rfl,e⟩
  ·exact .inr ⟨_,⟨e,⟨hh,h2,g2⟩,hL⟩,t,u,h4,g4,rfl⟩
theorem zaW.ze {p:PM} {sm:Bool} {L:List Tm} {hd:Hd} (hh:LH p hd) (hx:zK hd.op=false) (hy:zB hd.op=false) : ∃ L',zeb L L' 1∧zaW p sm L' (zF ⟨hd.op,hd.i,hd.e,hd.g,0,0⟩ []) (fun t'=>t' = .z hd):=by
 refine ⟨L++[.z hd],⟨fun s hs=>List.mem_append.2 (.inl hs),by simp⟩,.inr ⟨_,⟨(zxx hh.1 hx hy).1,hh,fun s hs=>?_⟩,rfl⟩⟩
 cases hs
 simp
theorem zaW.comp {p:PM} {sm:Bool} {L:List Tm} {f:List Nd} {Q:Tm→Prop} (h:zaW p sm L f Q):zaW p sm L (cL f) Q:=by
 rcases h with ⟨h1,rfl⟩|⟨t,⟨h1,h2,h3⟩,h4⟩
 ·exact .inl ⟨h1,rfl⟩
 ·have c:=h1.canon.1
  exact .inr ⟨t,⟨⟨zdN.2 ⟨c.pos,zj2 f,c.ok⟩,c.tree⟩,h2,h3⟩,h4⟩
end Go.Ab
namespace Go.Ab
open Go Go.Proofs
set_option maxRecDepth 10000
set_option maxHeartbeats 4000000
theorem zsy {p:PM} {op:Int} (ho:op=1∨op=4∨op=5):LH p ⟨op,0,0,0⟩:=by
 obtain ⟨h1,-,h3⟩:=zCh (op:=op) (p:=p) (by omega)
 refine ⟨h1,fun i hi=>?_,h3⟩
 have:zai ⟨op,0,0,0⟩=0:=by rcases ho with rfl|rfl|rfl<;>rfl
 rw [this] at hi;simp at hi
theorem znb {p:PM} (hc0:zm p=0) {op:Int} (ho:op=10∨op=15) {a:Nat} (ha:a < p.cell.length):LH p ⟨op,a,0,0⟩:=by
 obtain ⟨h1,-,h3⟩:=zAo (op:=op) (by omega) (zM hc0) ha
 refine ⟨h1,fun i hi=>?_,h3⟩
 have:zai ⟨op,a,0,0⟩=2 ^ (if op=10 then 0 else 5):=by rcases ho with rfl|rfl<;>rfl
 rw [this,Nat.testBit_two_pow] at hi
 have:=of_decide_eq_true hi
 subst this
 rcases ho with rfl|rfl<;>decide
theorem zCB {p:PM} (hc0:zm p=0) {i:Nat} (hi:i < p.val.length):LH p ⟨3,i,0,0⟩:=by
 have h8:=(zM hc0).v8
 refine ⟨⟨(by decide:zaY 3=true),fun e=>⟨by simp only;omega,by simp only;omega⟩,fun e=>by simp [zH] at e,fun e=>by simp [zU] at e,fun e=>by simp [zO] at e,fun e=>by simp [z2] at e,fun _=>rfl,fun _=>rfl⟩,fun j hj=>?_,?_,?_⟩
 ·have:zai ⟨3,i,0,0⟩=0:=rfl
  rw [this] at hj;simp at hj
 ·rw [zaz,if_neg (show ¬zH (Hd.mk 3 i 0 0).op=true from (by decide : ¬zH 3=true))];exact Nat.two_pow_pos _
 ·rw [zbp,if_pos (show z2 (Hd.mk 3 i 0 0).op=true from (by decide:z2 3=true))]
  exact Nat.pow_lt_pow_right (by omega) (by simp only;omega)
structure zce (p:PM) (v:Nat) (F:Nat→Prop) (d:Nat) (t:Tm):Prop where
 yes:(ev (zaq p) 0#64 t).getLsbD v=true
 no : ∀ w,F w → ¬(ev (zaq p) 0#64 t).getLsbD w=true
 dep:ev zac 0 t≤d
theorem zce.weak {p:PM} {v:Nat} {F G:Nat→Prop} {d e:Nat} {t:Tm} (h:zce p v F d t) (hF : ∀ w,G w→F w) (hd:d≤e):zce p v G e t:=⟨h.yes,fun w hw=>h.no w (hF w hw),Nat.le_trans h.dep hd⟩
section
variable {p:PM} (hc0:zm p=0)
include hc0
theorem zvh {sm:Bool} {u D:Nat} : ∀ (pl:List (Nat×List Nd)) {L:List Tm} {o:List Nd} {F:Nat→Prop},zaW p sm L o (zce p u F D)→(∀ e∈pl,zaW p sm L e.2 (zce p u (· = e.1) D))→(sm=true→L.length+pl.length≤200) →
  ∃ L',zeb L L' pl.length∧zaW p sm L' ((pl.map Prod.snd).foldl (fun o g=>zF ⟨5,0,0,0,0,0⟩ [o,g]) o) (zce p u (fun w=>F w ∨ ∃ e∈pl,e.1=w) D)
 | [],L,o,F,ho,_,_=>⟨L,zeb.rfl,ho.mono (fun _ h=>h) fun t h=>h.weak (fun w hw=>hw.elim id fun ⟨e,he,_⟩=>by cases he) (Nat.le_refl _)⟩
 | e::r,L,o,F,ho,hl,hn=>by
  obtain ⟨L1,h1,h2⟩:=ho.bi (hl e (by simp)) (hd:=⟨5,0,0,0⟩) (zsy (by decide)) (by decide) (fun h=>by have:=hn h;simp at this;omega)
  have h3:zaW p sm L1 (zF ⟨5,0,0,0,0,0⟩ [o,e.2]) (zce p u (fun w=>F w∨w=e.1) D):=h2.mono (fun _ h=>h) fun t' ⟨t,s,a,b,c⟩=>by
   subst c
   have ev5:ev (zaq p) 0#64 (.b ⟨5,0,0,0⟩ t s)=ev (zaq p) 0#64 t&&&ev (zaq p) 0#64 s:=rfl
   refine ⟨by rw [ev5,zpn];exact ⟨a.yes,b.yes⟩,fun w hw h=>?_,?_⟩
   ·rw [ev5,zpn] at h
    rcases hw with hw|hw
    ·exact a.no w hw h.1
    ·exact b.no w hw h.2
   ·have ed:ev zac 0 (.b ⟨5,0,0,0⟩ t s)=max (ev zac 0 t) (ev zac 0 s):=by show zac _ _ _=_;simp [zac,zK,zB,zfj]
    rw [ed];have:=a.dep;have:=b.dep;omega
  obtain ⟨L2,h4,h5⟩:=zvh r h3 (fun e' he'=>(hl e' (by simp [he'])).mono h1.sub fun _ h=>h) (fun h=>by have:=hn h;have:=h1.len;simp at *;omega)
  refine ⟨L2,by have:=h1.trans h4;rwa [Nat.add_comm] at this,h5.mono (fun _ h=>h) fun t h=>h.weak (fun w hw=>?_) (Nat.le_refl _)⟩
  rcases hw with hw|⟨e',he',hw⟩
  ·exact .inl (.inl hw)
  ·rcases List.mem_cons.1 he' with rfl|he'
   ·exact .inl (.inr hw.symm)
   ·exact .inr ⟨e',he',hw⟩
theorem zDe {sm:Bool} {u D:Nat} (hu:u < p.W.toNat) {L:List Tm} (pl:List (Nat×List Nd)) (hl : ∀ e∈pl,zaW p sm L e.2 (zce p u (· = e.1) D)) (hn:sm=true→L.length+pl.length≤199) :
  ∃ L',zeb L L' (max 1 (pl.length - 1))∧zaW p sm L' (zxp (pl.map Prod.snd)) (zce p u (fun w => ∃ e∈pl,e.1=w) D):=by
 match pl,hl,hn with
 | [],_,_ =>
  obtain ⟨L',h1,h2⟩:=zaW.ze (p:=p) (sm:=sm) (L:=L) (hd:=⟨1,0,0,0⟩) (zsy (by decide)) (by decide) (by decide)
  refine ⟨L',h1,h2.mono (fun _ h=>h) fun t e=>?_⟩
  subst e
  exact ⟨(zc1 hc0).2 hu,fun w ⟨e,he,_⟩=>by (cases he),by show zac _ _ _≤D;simp [zac,zK,zB,zfj]⟩
 | e::r,hl,hn =>
  obtain ⟨L',h1,h2⟩:=zvh hc0 r (hl e (by simp)).comp (fun e' he'=>hl e' (by simp [he'])) (fun h=>by have:=hn h;simp at this;omega)
  refine ⟨L',⟨h1.sub,by have:=h1.len;simp;omega⟩,h2.mono (fun _ h=>h) fun t h=>h.weak (fun w hw=>?_) (Nat.le_refl _)⟩
  obtain ⟨e',he',hw⟩:=hw
  rcases List.mem_cons.1 he' with rfl|he'
  ·exact .inl hw.symm
  ·exact .inr ⟨e',he',hw⟩
theorem zpA {a v i:Nat} {s:Bool} (ha:a < p.cell.length) (hv:v < p.W.toNat):(za9 p a s v).getLsbD i=true↔InC p a v i∧(s=true→rkA p a i≤rkA p a v):=by
 unfold za9
 cases s with
 | true=>rw [if_pos rfl,zpi hc0 hv];simp
 | false=>rw [if_neg (by decide),zdp hc0 ha hv];simp
theorem zoV {sm:Bool} {L:List Tm} {f:List Nd} {Q:Tm→Prop} (h:zaW p sm L f Q) (hn:sm=true→L.length≤199) : ∃ L',zeb L L' 1∧zaW p sm L' (zF ⟨4,0,0,0,0,0⟩ [f]) (fun t' => ∃ t,Q t∧t' = .u ⟨4,0,0,0⟩ t) :=
 h.un (hd:=⟨4,0,0,0⟩) (zsy (by decide)) (by decide) (by decide) hn
theorem zfV {t:Tm} {w:Nat} : (ev (zaq p) 0#64 (.u ⟨4,0,0,0⟩ t)).getLsbD w=true↔w < p.W.toNat ∧ ¬(ev (zaq p) 0#64 t).getLsbD w=true:=by
 show (zaQ p.W &&& ~~~(ev (zaq p) 0#64 t)).getLsbD w=true↔_
 rw [zjK,zc1 hc0]
omit hc0 in
theorem zle {t:Tm} : ev zac 0 (.u ⟨4,0,0,0⟩ t)=ev zac 0 t:=by show zac _ _ _=_;simp [zac,zK,zB,zfj]
theorem zpt {t:Tm} {a w:Nat} (ha:a < p.cell.length):(ev (zaq p) 0#64 (.u ⟨15,a,0,0⟩ t)).getLsbD w=true↔w < p.W.toNat ∧ ∀ v,InC p a w v→rkA p a v≤rkA p a w→(ev (zaq p) 0#64 t).getLsbD v=true:=by
 show (zeK p a (ev (zaq p) 0#64 t)).getLsbD w=true↔_
 exact znr hc0 ha
omit hc0 in
theorem zuN {t:Tm} {a:Nat} : ev zac 0 (.u ⟨15,a,0,0⟩ t)=ev zac 0 t+1:=by show zac _ _ _=_;simp [zac,zK,zB,zfj]
theorem zps {t:Tm} {a w:Nat} (ha:a < p.cell.length):(ev (zaq p) 0#64 (.u ⟨10,a,0,0⟩ t)).getLsbD w=true↔w < p.W.toNat ∧ ∃ v,InC p a w v∧(ev (zaq p) 0#64 t).getLsbD v=true:=by
 show (zaQ p.W &&& ~~~zdY p a (zaQ p.W &&& ~~~(ev (zaq p) 0#64 t))).getLsbD w=true↔_
 rw [zjK,zc1 hc0,zoN hc0 ha]
 constructor
 ·rintro ⟨h1,h2⟩
  refine ⟨h1,Classical.byContradiction fun h=>h2 ⟨h1,fun v hv=>?_⟩⟩
  rw [zjK,zc1 hc0]
  exact ⟨hv.1,fun h'=>h ⟨v,hv,h'⟩⟩
 ·rintro ⟨h1,v,hv,h2⟩
  refine ⟨h1,fun ⟨_,h⟩=>?_⟩
  have:=h v hv
  rw [zjK] at this
  exact this.2 h2
omit hc0 in
theorem zuM {t:Tm} {a:Nat} : ev zac 0 (.u ⟨10,a,0,0⟩ t)=ev zac 0 t+1:=by show zac _ _ _=_;simp [zac,zK,zB,zfj]
end
end Go.Ab
namespace Go.Ab
open Go Go.Proofs
set_option maxRecDepth 10000
set_option maxHeartbeats 4000000
section
variable {p:PM} (hc0:zm p=0)
include hc0
theorem zCQ {sm:Bool} {L:List Tm} {a u v w D:Nat} {s:Bool} {f:List Nd} {F:Nat→Prop} (ha:a < p.cell.length) (hv:v < p.W.toNat) (hf:zaW p sm L f (zce p u F D)) (hu:InC p a v u∧(s=true→rkA p a u≤rkA p a v))
  (hF : ∀ i,InC p a w i→(s=true→rkA p a i≤rkA p a w)→F i) (hn:sm=true→L.length≤196) : ∃ L',zeb L L' 3∧zaW p sm L' (zuk a s f) (zce p v (· = w) (D+1)):=by
 cases s with
 | false =>
  obtain ⟨L1,h1,h2⟩:=hf.un (hd:=⟨10,a,0,0⟩) (znb hc0 (by decide) ha) (by decide:zK 10=true) (by decide:zB 10=false) (fun h=>by have:=hn h;omega)
  refine ⟨L1,⟨h1.sub,by have:=h1.len;omega⟩,h2.mono (fun _ h=>h) fun t' ⟨t,h3,e⟩=>?_⟩
  subst e
  refine ⟨(zps hc0 ha).2 ⟨hv,u,hu.1,h3.yes⟩,fun w' e h=>?_,by rw [zuM];have:=h3.dep;omega⟩
  subst e
  obtain ⟨-,i,h4,h5⟩:=(zps hc0 ha).1 h
  exact h3.no i (hF i h4 nofun) h5
 | true =>
  obtain ⟨L1,h1,h2⟩:=zoV hc0 hf (fun h=>by have:=hn h;omega)
  obtain ⟨L2,h3,h4⟩:=h2.un (hd:=⟨15,a,0,0⟩) (znb hc0 (by decide) ha) (by decide:zK 15=true) (by decide:zB 15=false) (fun h=>by have:=hn h;have:=h1.len;omega)
  obtain ⟨L3,h5,h6⟩:=zoV hc0 h4 (fun h=>by have:=hn h;have:=h1.len;have:=h3.len;omega)
  refine ⟨L3,(h1.trans h3).trans h5,h6.mono (fun _ h=>h) fun t' ⟨t2,⟨t1,⟨t,h7,e1⟩,e2⟩,e3⟩=>?_⟩
  subst e1 e2 e3
  refine ⟨(zfV hc0).2 ⟨hv,fun h=>?_⟩,fun w' e h=>?_,by rw [zle,zuN,zle];have:=h7.dep;omega⟩
  ·have:=((zpt hc0 ha).1 h).2 u hu.1 (hu.2 rfl)
   exact ((zfV hc0).1 this).2 h7.yes
  ·subst e
   obtain ⟨hw,h8⟩:=(zfV hc0).1 h
   exact h8 ((zpt hc0 ha).2 ⟨hw,fun i hi hr=>(zfV hc0).2 ⟨hi.1,h7.no i (hF i hi fun _=>hr)⟩⟩)
theorem zBe {sm:Bool} {L:List Tm} {a u v w D:Nat} {s:Bool} {f:List Nd} {F:Nat→Prop} (ha:a < p.cell.length) (hv:v < p.W.toNat) (hf:zaW p sm L f (zce p u F D)) (hu:InC p a w u∧(s=true→rkA p a u≤rkA p a w))
  (hF : ∀ i,InC p a v i→(s=true→rkA p a i≤rkA p a v)→F i) (hn:sm=true→L.length≤196) : ∃ L',zeb L L' 3∧zaW p sm L' (zzu a s f) (zce p v (· = w) (D+1)):=by
 cases s with
 | false =>
  obtain ⟨L1,h1,h2⟩:=hf.un (hd:=⟨10,a,0,0⟩) (znb hc0 (by decide) ha) (by decide:zK 10=true) (by decide:zB 10=false) (fun h=>by have:=hn h;omega)
  obtain ⟨L2,h3,h4⟩:=zoV hc0 h2 (fun h=>by have:=hn h;have:=h1.len;omega)
  refine ⟨L2,⟨(h1.trans h3).sub,by have:=(h1.trans h3).len;omega⟩,h4.mono (fun _ h=>h) fun t' ⟨t1,⟨t,h5,e1⟩,e2⟩=>?_⟩
  subst e1 e2
  refine ⟨(zfV hc0).2 ⟨hv,fun h=>?_⟩,fun w' e h=>?_,by rw [zle,zuM];have:=h5.dep;omega⟩
  ·obtain ⟨-,i,h6,h7⟩:=(zps hc0 ha).1 h
   exact h5.no i (hF i h6 nofun) h7
  ·subst e
   obtain ⟨hw,h8⟩:=(zfV hc0).1 h
   exact h8 ((zps hc0 ha).2 ⟨hw,u,hu.1,h5.yes⟩)
 | true =>
  obtain ⟨L1,h1,h2⟩:=zoV hc0 hf (fun h=>by have:=hn h;omega)
  obtain ⟨L2,h3,h4⟩:=h2.un (hd:=⟨15,a,0,0⟩) (znb hc0 (by decide) ha) (by decide:zK 15=true) (by decide:zB 15=false) (fun h=>by have:=hn h;have:=h1.len;omega)
  refine ⟨L2,⟨(h1.trans h3).sub,by have:=(h1.trans h3).len;omega⟩,h4.mono (fun _ h=>h) fun t' ⟨t1,⟨t,h5,e1⟩,e2⟩=>?_⟩
  subst e1 e2
  refine ⟨(zpt hc0 ha).2 ⟨hv,fun i hi hr=>(zfV hc0).2 ⟨hi.1,h5.no i (hF i hi fun _=>hr)⟩⟩,fun w' e h=>?_,by rw [zuN,zle];have:=h5.dep;omega⟩
  subst e
  have:=((zpt hc0 ha).1 h).2 u hu.1 (hu.2 rfl)
  exact ((zfV hc0).1 this).2 h5.yes
end
structure zfG (p:PM) (sm:Bool) (kn:Kn) (L:List Tm) (c:Nat):Prop where
 nd:(kn.map Prod.fst).Nodup
 ks : ∀ e∈kn,e.1.1 < p.W.toNat∧e.1.2 < p.W.toNat∧e.1.1≠e.1.2
 len:sm=true→L.length≤6 * kn.length+c
 es : ∀ e∈kn,∃ d:Nat,zb1 p e.1.1 e.1.2=d∧zaW p sm L e.2 (zce p e.1.1 (· = e.1.2) d)
theorem zfG.mono {p:PM} {sm:Bool} {kn:Kn} {L L':List Tm} {c n:Nat} (h:zfG p sm kn L c) (hx:zeb L L' n):zfG p sm kn L' (c+n) :=
 ⟨h.nd,h.ks,fun e=>by have:=h.len e;have:=hx.len;omega,fun e he=>let ⟨d,h1,h2⟩:=h.es e he; ⟨d,h1,h2.mono hx.sub fun _ h=>h⟩⟩
theorem zfG.few {p:PM} {sm:Bool} {kn:Kn} {L:List Tm} {c:Nat} (h:zfG p sm kn L c) (hW:p.W≤5):kn.length≤20:=by
 have:=zvA (l:=kn.map Prod.fst) (l':=(List.range 5).flatMap fun a=>((List.range 5).filter fun b=>decide (a≠b)).map fun b=>(a,b)) h.nd fun k hk=>by
  obtain ⟨e,he,rfl⟩:=List.mem_map.1 hk
  obtain ⟨h1,h2,h3⟩:=h.ks e he
  rw [List.mem_flatMap]
  exact ⟨e.1.1,List.mem_range.2 (by omega),List.mem_map.2 ⟨e.1.2,List.mem_filter.2 ⟨List.mem_range.2 (by omega),decide_eq_true h3⟩,rfl⟩⟩
 rw [List.length_map] at this
 exact this
def zAi (p:PM) (sm:Bool) (ap:Kn→Nat→Nat→Kn×List Nd) (u w D:Nat):Prop := ∀ kn L,zfG p sm kn L 0 → ∃ L' m,(∀ s,s∈L→s∈L')∧zfG p sm (ap kn u w).1 L' 0∧(ap kn u w).1=kn++m∧(∀ e∈m,zb1 p e.1.1 e.1.2≤D) ∧
 zaW p sm L' (ap kn u w).2 (zce p u (· = w) D)
theorem zwH {p:PM} (hc0:zm p=0) {sm:Bool} (hsm:sm=true→p.W≤5) {ap:Kn→Nat→Nat→Kn×List Nd} {u D:Nat} (hu:u < p.W.toNat) : ∀ (xs:List Nat) (kn:Kn) (L:List Tm) (pl:List (Nat×List Nd)),zfG p sm kn L 0 →
  (∀ e∈pl,zaW p sm L e.2 (zce p u (· = e.1) D))→(∀ x∈xs,zAi p sm ap u x D)→(sm=true→pl.length+xs.length≤4) →
  ∃ L' m,(∀ s,s∈L→s∈L')∧zfG p sm (zeM ap u xs kn (pl.map Prod.snd)).1 L' 3∧(zeM ap u xs kn (pl.map Prod.snd)).1=kn++m∧(∀ e∈m,zb1 p e.1.1 e.1.2≤D) ∧
   zaW p sm L' (zeM ap u xs kn (pl.map Prod.snd)).2 (zce p u (fun w=>w∈xs ∨ ∃ e∈pl,e.1=w) D)
 | [],kn,L,pl,hi,hl,_,hn=>by
  obtain ⟨L',h1,h2⟩:=zDe hc0 hu pl hl (fun h=>by have:=hi.len h;have:=hi.few (hsm h);have:=hn h;omega)
  refine ⟨L',[],h1.sub,⟨hi.nd,hi.ks,fun h=>?_,(hi.mono h1).es⟩,by simp [zeM],nofun,h2.mono (fun _ h=>h) fun t h=>h.weak (fun w hw=>hw.elim (fun h=>by cases h) id) (Nat.le_refl _)⟩
  have:=hi.len h;have:=hn h;have:=h1.len
  show L'.length≤6 * kn.length+3
  simp at *;omega
 | x::r,kn,L,pl,hi,hl,ha,hn=>by
  obtain ⟨L1,m1,h1,h2,h3,h4,h5⟩:=ha x (by simp) kn L hi
  rw [zeM]
  by_cases hz:(ap kn u x).2.length=0
  ·rw [if_pos hz]
   have hs:sm=false:=by
    rcases h5 with h5|⟨t,h6,-⟩
    ·exact h5.1
    ·have:=(zdN.1 h6.isF.ok).1;omega
   refine ⟨L1,m1,h1,⟨h2.nd,h2.ks,fun h=>(by rw [hs] at h;cases h),h2.es⟩,h3,h4,.inl ⟨hs,rfl⟩⟩
  ·rw [if_neg hz]
   have ih:=zwH hc0 hsm hu r (ap kn u x).1 L1 (pl++[(x,(ap kn u x).2)]) h2 (fun e he=>by
    rcases List.mem_append.1 he with he|he
    ·exact (hl e he).mono h1 fun _ h=>h
    ·rw [List.mem_singleton.1 he];exact h5) (fun y hy=>ha y (by simp [hy])) (fun h=>by have:=hn h;simp at *;omega)
   rw [List.map_append] at ih
   obtain ⟨L2,m2,g1,g2,g3,g4,g5⟩:=ih
   refine ⟨L2,m1++m2,fun s hs=>g1 s (h1 s hs),g2,by rw [← List.append_assoc,← h3];exact g3,fun e he=>(List.mem_append.1 he).elim (h4 e) (g4 e),g5.mono (fun _ h=>h) fun t h=>h.weak (fun w hw=>?_) (Nat.le_refl _)⟩
   rcases hw with hw|⟨e,he,hw⟩
   ·rcases List.mem_cons.1 hw with rfl|hw
    ·exact .inr ⟨(w,(ap kn u w).2),by simp,rfl⟩
    ·exact .inl hw
   ·exact .inr ⟨e,by simp [he],hw⟩
theorem zCF {q:Nat→Nat} {n:Nat} {x y:BitVec 64} {u:Nat} (hu:u < n) (hx:x.getLsbD u=true) (h : ∀ w,w < n→y.getLsbD w=true→q u≠q w):0≤zbU q n x y:=by
 unfold zbU zju
 have hi:=List.findIdx_lt_length_of_exists (xs:=List.range n) (p:=fun u=>x.getLsbD u&&zdH q y u n) ⟨u,List.mem_range.2 hu,by
  simp only [Bool.and_eq_true]
  refine ⟨hx,List.all_eq_true.2 fun w hw=>?_⟩
  cases hy:y.getLsbD w with
  | true=>simpa using h w (List.mem_range.1 hw) hy
  | false=>rfl⟩
 rw [if_pos hi];omega
theorem zzk {p:PM} (hc0:zm p=0) {d v w:Nat} (hv:v < p.W.toNat) (hw:w < p.W.toNat) (h0:zu p d v=zu p d w) (h1:zu p (d+1) v≠zu p (d+1) w) :
  ∃ k∈zkX p,0≤zbU (zu p d) p.W.toNat (za9 p k.1 k.2 v) (za9 p k.1 k.2 w)∨0≤zbU (zu p d) p.W.toNat (za9 p k.1 k.2 w) (za9 p k.1 k.2 v):=by
 refine Classical.byContradiction fun hn=>h1 ?_
 refine (zlF (zgC p.W.toNat (zb2 p) (zu p d))).2 ?_
 simp only [zaT,Bool.and_eq_true,decide_eq_true_eq,List.all_eq_true]
 refine ⟨h0,fun r hr=>?_⟩
 have hq : ∀ u,u < p.W.toNat→zu p d u < 64:=fun u hu=>zr0 hc0 hu
 have key : ∀ x y:BitVec 64,¬0≤zbU (zu p d) p.W.toNat x y → ∀ b,(∃ u,u < p.W.toNat∧x.getLsbD u=true∧zu p d u=b) → ∃ u,u < p.W.toNat∧y.getLsbD u=true∧zu p d u=b:=by
  rintro x y hl b ⟨u,hu,hx,rfl⟩
  refine Classical.byContradiction fun hne=>hl (zCF hu hx fun w hw hy e=>hne ⟨w,hw,hy,e.symm⟩)
 obtain ⟨a,ha,rfl|rfl⟩:=zki.1 hr
 ·have hm:(a,false)∈zkX p:=List.mem_flatMap.2 ⟨a,List.mem_range.2 ha,by simp⟩
  refine ziB fun b=>?_
  rw [zb7 _ hq,zb7 _ hq]
  exact ⟨key _ _ (fun h=>hn ⟨_,hm,.inl h⟩) b,key _ _ (fun h=>hn ⟨_,hm,.inr h⟩) b⟩
 ·have hm:(a,true)∈zkX p:=List.mem_flatMap.2 ⟨a,List.mem_range.2 ha,by simp⟩
  refine ziB fun b=>?_
  rw [zb7 _ hq,zb7 _ hq]
  exact ⟨key _ _ (fun h=>hn ⟨_,hm,.inl h⟩) b,key _ _ (fun h=>hn ⟨_,hm,.inr h⟩) b⟩
theorem zjP {y:BitVec 64} {n x:Nat} : x∈zcS y n 0↔x < n∧y.getLsbD x=true:=by
 unfold zcS;rw [List.drop_zero,List.mem_filter,List.mem_range]
theorem zCV {y:BitVec 64} {n u:Nat} (hu:u < n) (h : ¬y.getLsbD u=true):(zcS y n 0).length+1≤n:=by
 have:=zvA (l:=u::zcS y n 0) (l':=List.range n) (List.nodup_cons.2 ⟨fun h'=>h (zjP.1 h').2,by unfold zcS;rw [List.drop_zero];exact List.Nodup.sublist List.filter_sublist List.nodup_range⟩) fun x hx=>by
  rcases List.mem_cons.1 hx with rfl|hx
  ·exact List.mem_range.2 hu
  ·exact List.mem_range.2 (zjP.1 hx).1
 simpa using this
theorem zw2 {p:PM} (hc0:zm p=0) {sm:Bool} (hsm:sm=true→p.W≤5) {ap:Kn→Nat→Nat→Kn×List Nd} {v w d:Nat} (hv:v < p.W.toNat) (hw:w < p.W.toNat) {kn:Kn} {L:List Tm} (hi:zfG p sm kn L 0)
  (hap : ∀ u u',u < p.W.toNat→u' < p.W.toNat→zu p d u≠zu p d u'→zAi p sm ap u u' d) : ∀ lk:List (Nat×Bool),(∀ k∈lk,k.1 < p.cell.length) →
  (∃ k∈lk,0≤zbU (zu p d) p.W.toNat (za9 p k.1 k.2 v) (za9 p k.1 k.2 w)∨0≤zbU (zu p d) p.W.toNat (za9 p k.1 k.2 w) (za9 p k.1 k.2 v)) →
  ∃ L' m,(∀ s,s∈L→s∈L')∧zfG p sm (znc p ap (zu p d) v w kn lk).1 L' 6∧(znc p ap (zu p d) v w kn lk).1=kn++m∧(∀ e∈m,zb1 p e.1.1 e.1.2≤d)∧zaW p sm L' (znc p ap (zu p d) v w kn lk).2 (zce p v (· = w) (d+1))
 | [],_,h=>by obtain ⟨k,hk,-⟩:=h;cases hk
 | (a,s)::r,hk,h=>by
  have ha:a < p.cell.length:=hk (a,s) (by simp)
  have one : ∀ X Y:BitVec 64,0≤zbU (zu p d) p.W.toNat X Y → ∃ u:Nat,zbU (zu p d) p.W.toNat X Y=(u:Int)∧u < p.W.toNat∧X.getLsbD u=true ∧ ∃ L' m,(∀ s,s∈L→s∈L')∧zfG p sm (zeM ap u (zcS Y p.W.toNat 0) kn []).1 L' 3 ∧
    (zeM ap u (zcS Y p.W.toNat 0) kn []).1=kn++m∧(∀ e∈m,zb1 p e.1.1 e.1.2≤d)∧zaW p sm L' (zeM ap u (zcS Y p.W.toNat 0) kn []).2 (zce p u (fun w=>w < p.W.toNat∧Y.getLsbD w=true) d):=by
   intro X Y hl
   obtain ⟨u,h1,h2,h3,h4⟩:=zoP hl
   refine ⟨u,h1,h2,h3,?_⟩
   obtain ⟨L',m,g1,g2,g3,g4,g5⟩:=zwH hc0 hsm (D:=d) h2 (zcS Y p.W.toNat 0) kn L [] hi nofun (fun x hx=>hap u x h2 (zjP.1 hx).1 (h4 x (zjP.1 hx).1 (zjP.1 hx).2)) (fun h=>by
    have:=hsm h
    have:=zCV (y:=Y) h2 (fun hy=>h4 u h2 hy rfl)
    simp;omega)
   exact ⟨L',m,g1,g2,g3,g4,g5.mono (fun _ h=>h) fun t h=>h.weak (fun w hw => .inl (zjP.2 hw)) (Nat.le_refl _)⟩
  rw [znc]
  by_cases h1:0≤zbU (zu p d) p.W.toNat (za9 p a s v) (za9 p a s w)
  ·rw [if_pos h1]
   obtain ⟨u,e,h2,h3,L',m,g1,g2,g3,g4,g5⟩:=one _ _ h1
   rw [e,Int.toNat_natCast]
   obtain ⟨L2,k1,k2⟩:=zCQ hc0 (v:=v) (w:=w) ha hv g5 ((zpA hc0 ha hv).1 h3) (fun i h4 h5=>⟨h4.1,(zpA hc0 ha hw).2 ⟨h4,h5⟩⟩) (fun h=>by have:=g2.len h;have:=g2.few (hsm h);omega)
   exact ⟨L2,m,fun s hs=>k1.sub s (g1 s hs),g2.mono k1,g3,g4,k2⟩
  rw [if_neg h1]
  by_cases h2:0≤zbU (zu p d) p.W.toNat (za9 p a s w) (za9 p a s v)
  ·rw [if_pos h2]
   obtain ⟨u,e,h2,h3,L',m,g1,g2,g3,g4,g5⟩:=one _ _ h2
   rw [e,Int.toNat_natCast]
   obtain ⟨L2,k1,k2⟩:=zBe hc0 (v:=v) (w:=w) ha hv g5 ((zpA hc0 ha hw).1 h3) (fun i h4 h5=>⟨h4.1,(zpA hc0 ha hv).2 ⟨h4,h5⟩⟩) (fun h=>by have:=g2.len h;have:=g2.few (hsm h);omega)
   exact ⟨L2,m,fun s hs=>k1.sub s (g1 s hs),g2.mono k1,g3,g4,k2⟩
  rw [if_neg h2]
  refine zw2 hc0 hsm hv hw hi hap r (fun k hk'=>hk k (by simp [hk'])) ?_
  obtain ⟨k,hk',hk2⟩:=h
  rcases List.mem_cons.1 hk' with rfl|hk'
  ·exact absurd hk2 (fun h=>h.elim h1 h2)
  ·exact ⟨k,hk',hk2⟩
theorem zkF {k:Nat×Nat} : ∀ {kn:Kn},kn.lookup k=none↔k ∉ kn.map Prod.fst
 | []=>by simp
 | e::r=>by
  have ih:=zkF (k:=k) (kn:=r)
  by_cases h:k=e.1
  ·subst h;simp [List.lookup]
  ·have hb:(k==e.1)=false:=by simpa using h
   rw [List.lookup,hb]
   simp only [List.map_cons,List.mem_cons,not_or]
   exact ⟨fun h'=>⟨h,ih.1 h'⟩,fun h'=>ih.2 h'.2⟩
theorem zth {k:Nat×Nat} {f:List Nd} : ∀ {kn:Kn},kn.lookup k=some f→(k,f)∈kn
 | e::r,h=>by
  by_cases hk:k=e.1
  ·subst hk
   simp [List.lookup] at h
   rw [← h];simp
  ·have hb:(k==e.1)=false:=by simpa using hk
   rw [List.lookup,hb] at h
   exact List.mem_cons_of_mem _ (zth h)
theorem zuZ {v w:Nat} : ∀ {l:List (BitVec 64)} {k i:Nat} {b:Bool},zft v w l k=some (i,b) → ∃ j,i=k+j∧j < l.length∧(l.getD j 0#64).getLsbD v=b∧(l.getD j 0#64).getLsbD w = !b
 | [],_,_,_,h=>by cases h
 | s::r,k,i,b,h=>by
  unfold zft at h
  split at h
  ·obtain ⟨j,h1,h2,h3,h4⟩:=zuZ h
   exact ⟨j+1,by omega,by simp;omega,h3,h4⟩
  ·rename_i hne
   cases h
   refine ⟨0,rfl,by simp,rfl,?_⟩
   show s.getLsbD w = !(s.getLsbD v)
   cases h1:s.getLsbD v<;>cases h2:s.getLsbD w<;>simp_all
theorem zDJ {p:PM} (hc0:zm p=0) {sm:Bool} (hsm:sm=true→p.W≤5) {ap:Kn→Nat→Nat→Kn×List Nd} {v w:Nat} (hv:v < p.W.toNat) (hw:w < p.W.toNat) {kn:Kn} {L:List Tm} (hi:zfG p sm kn L 0) (hd:zb1 p v w=0) (hne:zu p 0 v≠zu p 0 w) :
  ∃ L',(∀ s,s∈L→s∈L')∧zfG p sm kn L' 6∧(zbV p ap kn v w).1=kn∧zaW p sm L' (zbV p ap kn v w).2 (zce p v (· = w) 0):=by
 rw [zbV,if_pos hd]
 cases hf:zft v w p.val 0 with
 | none=>exact absurd hf (zuY hne)
 | some x =>
  obtain ⟨i,b⟩:=x
  obtain ⟨j,h1,h2,h3,h4⟩:=zuZ hf
  obtain rfl:i=j:=by omega
  obtain ⟨L1,g1,g2⟩:=zaW.ze (p:=p) (sm:=sm) (L:=L) (hd:=⟨3,i,0,0⟩) (zCB hc0 h2) (by decide:zK 3=false) (by decide:zB 3=false)
  have e3:ev (zaq p) 0#64 (.z ⟨3,(i:Int),0,0⟩)=p.val.getD i 0#64:=by
   show zaq p ⟨3,(i:Int),0,0⟩ 0#64 0#64=_
   unfold zaq;simp
  have ed:ev zac 0 (.z ⟨3,(i:Int),0,0⟩)=0:=by show zac _ _ _=_;simp [zac,zK,zB,zfj]
  cases b with
  | true =>
   refine ⟨L1,g1.sub,?_,rfl,g2.mono (fun _ h=>h) fun t e=>?_⟩
   ·have:=hi.mono g1;exact ⟨this.nd,this.ks,fun h=>by have:=this.len h;omega,this.es⟩
   ·subst e
    exact ⟨by rw [e3,h3],fun w' e h=>(by subst e;rw [e3,h4] at h;cases h),by rw [ed];omega⟩
  | false =>
   obtain ⟨L2,k1,k2⟩:=zoV hc0 g2 (fun h=>by have:=hi.len h;have:=hi.few (hsm h);have:=g1.len;omega)
   refine ⟨L2,(g1.trans k1).sub,?_,rfl,k2.mono (fun _ h=>h) fun t' ⟨t,e1,e2⟩=>?_⟩
   ·have:=hi.mono (g1.trans k1);exact ⟨this.nd,this.ks,fun h=>by have:=this.len h;omega,this.es⟩
   ·subst e1 e2
    refine ⟨(zfV hc0).2 ⟨hv,by rw [e3,h3];decide⟩,fun w' e h=>?_,by rw [zle,ed];omega⟩
    subst e
    exact ((zfV hc0).1 h).2 (by rw [e3,h4];rfl)
theorem zyz {p:PM} (hc0:zm p=0) {sm:Bool} (hsm:sm=true→p.W≤5) : ∀ (k u w j:Nat),u < p.W.toNat→w < p.W.toNat→j < k→j≤zaS p→zu p j u≠zu p j w→zAi p sm (apF p k) u w j
 | 0,u,w,j,_,_,h,_,_=>by omega
 | k+1,u,w,j,hu,hw,hjk,hj,hne=>by
  intro kn L hi
  obtain ⟨d,hd,hdep,hdne,hdI⟩:=zmr hu hw hj hne
  have hR0:apF p (k+1) kn u w=match kn.lookup (u,w) with
   | some f=>(kn,f)
   | none=>(zd3 (zbV p (apF p k) kn u w).1 (u,w) (zbV p (apF p k) kn u w).2,(zbV p (apF p k) kn u w).2):=rfl
  rw [hR0]
  cases hlk:kn.lookup (u,w) with
  | some f =>
   obtain ⟨d',h1,h2⟩:=hi.es _ (zth hlk)
   have h1:zb1 p u w=d':=h1
   exact ⟨L,[],fun _ h=>h,hi,by simp,nofun,h2.mono (fun _ h=>h) fun t h=>h.weak (fun _ h=>h) (by omega)⟩
  | none =>
   have hmk : ∃ L' m,(∀ s,s∈L→s∈L')∧zfG p sm (zbV p (apF p k) kn u w).1 L' 6∧(zbV p (apF p k) kn u w).1=kn++m∧(∀ e∈m,zb1 p e.1.1 e.1.2 < d)∧zaW p sm L' (zbV p (apF p k) kn u w).2 (zce p u (· = w) d):=by
    match d,hdep,hdne,hd,hdI with
    | 0,hdep,hdne,_,_ =>
     obtain ⟨L',h1,h2,h3,h4⟩:=zDJ hc0 hsm (ap:=apF p k) hu hw hi hdep hdne
     exact ⟨L',[],h1,by rw [h3];exact h2,by rw [h3];simp,nofun,h4⟩
    | d+1,hdep,hdne,hd,hdI =>
     rw [zbV,if_neg (by omega),hdep,show (((d+1:Nat):Int) - 1).toNat=d by omega]
     obtain ⟨L',m,h1,h2,h3,h4,h5⟩:=zw2 hc0 hsm (ap:=apF p k) hu hw hi (fun x x' hx hx' h=>zyz hc0 hsm k x x' d hx hx' (by omega) (by omega) h) (zkX p) (fun e he=>by
      obtain ⟨a,ha,he⟩:=List.mem_flatMap.1 he
      have:=List.mem_range.1 ha
      simp at he
      rcases he with rfl|rfl<;>exact this) (zzk hc0 hu hw (hdI d (by omega)) hdne)
     exact ⟨L',m,h1,h2,h3,fun e he=>by have:=h4 e he;omega,h5⟩
   obtain ⟨L',m,h1,h2,h3,h4,h5⟩:=hmk
   have hnk:(u,w) ∉ (zbV p (apF p k) kn u w).1.map Prod.fst:=by
    rw [h3,List.map_append,List.mem_append]
    rintro (h|h)
    ·exact zkF.1 hlk h
    ·obtain ⟨e,he,hee⟩:=List.mem_map.1 h
     have:=h4 e he
     rw [hee] at this
     have:zb1 p u w < d:=this
     omega
   show ∃ L' m,_
   refine ⟨L',m++[((u,w),(zbV p (apF p k) kn u w).2)],h1,?_,?_,fun e he=>?_,h5.mono (fun _ h=>h) fun t h=>h.weak (fun _ h=>h) hd⟩
   ·show zfG p sm (zd3 _ _ _) L' 0
    rw [zpC (zkF.2 hnk)]
    refine ⟨?_,fun e he=>?_,fun h=>?_,fun e he=>?_⟩
    ·rw [List.map_append,List.nodup_append]
     refine ⟨h2.nd,by simp,fun a ha b hb=>?_⟩
     simp at hb;subst hb
     exact fun e=>hnk (e▸ha)
    ·rcases List.mem_append.1 he with he|he
     ·exact h2.ks e he
     ·rw [List.mem_singleton.1 he]
      exact ⟨hu,hw,fun e=>hdne (by simp only at e;rw [e])⟩
    ·have:=h2.len h;simp;omega
    ·rcases List.mem_append.1 he with he|he
     ·exact h2.es e he
     ·rw [List.mem_singleton.1 he]
      exact ⟨d,hdep,h5⟩
   ·show zd3 _ _ _=_
    rw [zpC (zkF.2 hnk),h3,List.append_assoc]
   ·rcases List.mem_append.1 he with he|he
    ·have:=h4 e he;omega
    ·rw [List.mem_singleton.1 he]
     show zb1 p u w≤j
     omega
end Go.Ab
