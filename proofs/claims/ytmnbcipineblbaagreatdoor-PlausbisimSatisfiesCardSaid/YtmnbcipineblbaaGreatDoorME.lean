/- A part of the proofs of this seat: functions and their contracts. -/
import Derived.Test.YtmnbcipineblbaaGreatDoorMD
import Derived.Shelf.Strconv.Itoa0
import Derived.Sort.WalkA14
import Derived.Test.YtmnbcipineblbaaGreatDoorProg
import Derived.WalkKit
import Derived.Maps.OwnRows
import Derived.Maps.RangeRun
import Derived.Sort.LotD4
import Derived.Shelf.Sort.Plain
import Derived.Sort.OwnSortedInts
import Derived.Sort.AssemblyPlain
import Derived.Deep.RegionLaw
import Derived.Deep.AppendLies
import Derived.Deep.DrawnRows
set_option linter.unusedVariables false
set_option linter.unusedSimpArgs false
set_option linter.unusedSectionVars false
namespace Go.Ab
open Go Go.Proofs
set_option maxRecDepth 10000
set_option maxHeartbeats 4000000
variable {T:Nat→Obj→Prop}
theorem zpJ (l:List (BitVec 64)) (n:Int) (h:0≤n):Fn Tryz.prog T zei [.d (dU l),.d (.int .i64 n)] [] (.d (.bool (l.any (bad n)))) []:=by
 refine zj zz ziy (by show 2≤20;decide) ?_
 (repeat' ((conv=>whnf);first|refine vA ?_|refine vT ?_));all_goals try conv=>whnf
 refine zX (fun (k:Nat)=>[(0,.d (dU l)),(1,.d (.int .i64 (n))),(5,.d (.int .i64 ((k:Int))))]) (fun (k:Nat)=>k≤l.length∧l.any (bad n)=(l.drop k).any (bad n)) (fun (k:Nat)=>l.length - k) (0) (⟨by simp,rfl⟩) (by (repeat' first|exact trivial|exact rfl|refine And.intro ?_ ?_)) ?_
 rintro k ⟨hk,hI⟩
 (repeat' ((conv=>whnf);first|refine vA ?_|((first|refine vD ?_ ?_|refine vF ?_ ?_)<;>intro hc<;>try simp only [vL] at hc)|refine vJ fun hg=>?_|refine vT ?_|(refine vQ ?_ fun x hx=>?_;·omega)|(refine vO ?_ ?_;·omega)|(refine vU ?_ ?_;·kernel_rfl)|refine vZ ?_|refine yD (zg6 n h) ⟨⟨rfl,rfl⟩,rfl⟩ rfl ?_));all_goals try conv=>whnf
 ·rw [hI,zar hx,List.any_cons,show bad n x=true from decide_eq_true ‹_›];rfl
 ·exact ⟨k+1,[],[],⟨by (omega),by rw [hI,zar hx,List.any_cons,show bad n x=false from decide_eq_false (by simpa using ‹x &&& ~~~zaq n=0#64›)];rfl⟩,by (omega),by (refine ⟨rfl,rfl,rfl,?_,?_⟩;repeat' first|exact trivial|exact rfl|refine And.intro ?_ ?_)⟩
 ·rw [hI,List.drop_eq_nil_of_le (by omega)];rfl
def zbh (m:KM):Int :=
 if m.W < 1∨64 < m.W then 2 else if 4 < m.rel.length∨8 < m.val.length then 8 else if m.rel.any (fun r=>decide ((r.length:Int)≠m.W)) then 3 else if m.val.any (bad m.W) then 2 else if m.rel.any (fun r=>r.any (bad m.W)) then 2 else 0
structure zx5 (m:KM):Prop where
 w1:1≤m.W
 w2:m.W≤64
 n4:m.rel.length≤4
 v8:m.val.length≤8
 len : ∀ r∈m.rel,(r.length:Int)=m.W
 val : ∀ s∈m.val,bad m.W s=false
 rel : ∀ r∈m.rel,∀ s∈r,bad m.W s=false
theorem zm4 {m:KM} (h:zbh m=0):zx5 m:=by
 unfold zbh at h
 split at h
 ·cases h
 ·split at h
  ·cases h
  ·split at h
   ·cases h
   ·split at h
    ·cases h
    ·split at h
     ·cases h
     ·rename_i h1 h2 h3 h4 h5
      refine ⟨by omega,by omega,by omega,by omega,fun r hr=>?_,fun s hs=>?_,fun r hr s hs=>?_⟩
      ·simp only [List.any_eq_true,not_exists,not_and] at h3;simpa using h3 r hr
      ·simp only [List.any_eq_true,not_exists,not_and] at h4;simpa using h4 s hs
      ·simp only [List.any_eq_true,not_exists,not_and] at h5;simpa using h5 r hr s hs
theorem zpK (m:KM):Fn Tryz.prog T zeG [.d (dKM m)] [] (.d (.int .i64 (zbh m))) []:=by
 refine zj zz zj0 (by show 1≤59;decide) ?_
 (repeat' ((conv=>whnf);first|refine vA ?_|(refine vF ?_ ?_<;>intro hc<;>try simp only [vL] at hc)|refine vJ fun hg=>?_|refine vT ?_|refine vX ?_));all_goals try conv=>whnf
 ·rw [zbh,if_pos (by omega)]
 ·rw [zbh,if_pos (by omega)]
 ·rw [zbh,if_neg (by omega),if_pos (by omega)]
 ·rw [zbh,if_neg (by omega),if_pos (by omega)]
 ·have e0:zbh m=if m.rel.any (fun r=>decide ((r.length:Int)≠m.W)) then 3 else if m.val.any (bad m.W) then 2 else if m.rel.any (fun r=>r.any (bad m.W)) then 2 else 0:=by rw [zbh,if_neg (by omega),if_neg (by omega)]
  refine zu (fun (k:Nat)=>[(1,.ptr 0 0),(3,.d (.int .i64 ((k:Int))))]) (fun (k:Nat)=>[(0,some (zob m))]) 1 (fun (k:Nat)=>k≤m.rel.length∧m.rel.any (fun r=>decide ((r.length:Int)≠m.W))=(m.rel.drop k).any (fun r=>decide ((r.length:Int)≠m.W))) (fun (k:Nat)=>m.rel.length - k) (0) [(0,0)] [] (⟨by simp,rfl⟩) (by (refine ⟨rfl,rfl,rfl,?_,?_⟩;repeat' first|exact trivial|exact rfl|refine And.intro ?_ ?_|refine ⟨_,rfl,?_⟩|decide)) ?_
  rintro k ⟨hk,hI⟩
  (repeat' ((conv=>whnf);first|refine vA ?_|((first|refine vD ?_ ?_|refine vF ?_ ?_)<;>intro hc<;>try simp only [vL] at hc)|refine vJ fun hg=>?_|refine vT ?_|(refine vQ ?_ fun x hx=>?_;·omega)|(refine vO ?_ ?_;·omega)|(refine vU ?_ ?_;·kernel_rfl)|refine vX ?_));all_goals try conv=>whnf
  ·rw [e0,if_pos (by rw [hI,zar hx,List.any_cons,decide_eq_true (by simpa using ‹_›)];rfl)]
  ·exact ⟨k+1,[(0,0)],[],⟨by (omega),by rw [hI,zar hx,List.any_cons,decide_eq_false (by simpa using ‹_›)];rfl⟩,by (omega),by (refine ⟨rfl,rfl,rfl,?_,?_⟩;repeat' first|exact trivial|exact rfl|refine And.intro ?_ ?_|refine ⟨_,rfl,?_⟩|decide)⟩
  ·have h1:m.rel.any (fun r=>decide ((r.length:Int)≠m.W))=false:=by rw [hI,List.drop_eq_nil_of_le (by omega)];rfl
   rw [h1,if_neg (by decide)] at e0
   (repeat' ((conv=>whnf);first|refine vA ?_|(refine vI ?_ ?_<;>intro hc)|refine vT ?_|refine vX ?_|refine yD (zpJ _ m.W (by omega)) ⟨⟨rfl,rfl⟩,⟨rfl,rfl⟩,rfl⟩ rfl ?_));all_goals try conv=>whnf
   ·rw [e0,if_pos ‹_›]
   ·rw [show m.val.any (bad m.W)=false from ‹_›,if_neg (by decide)] at e0
    refine zu (fun (k:Nat)=>[(1,.ptr 0 0),(4,.d (.int .i64 ((k:Int))))]) (fun (k:Nat)=>[(0,some (zob m))]) 1 (fun (k:Nat)=>k≤m.rel.length∧m.rel.any (fun r=>r.any (bad m.W))=(m.rel.drop k).any (fun r=>r.any (bad m.W))) (fun (k:Nat)=>m.rel.length - k) (0) [(0,0)] [] (⟨by simp,rfl⟩) (by (refine ⟨rfl,rfl,rfl,?_,?_⟩;repeat' first|exact trivial|exact rfl|refine And.intro ?_ ?_|refine ⟨_,rfl,?_⟩|decide)) ?_
    clear hI hk
    rintro k ⟨hk,hI⟩
    (repeat' ((conv=>whnf);first|refine vA ?_|((first|refine vF ?_ ?_|refine vI ?_ ?_)<;>intro hc<;>try simp only [vL] at hc)|refine vJ fun hg=>?_|refine vT ?_|(refine vQ ?_ fun x hx=>?_;·omega)|(refine vO ?_ ?_;·omega)|(refine vU ?_ ?_;·kernel_rfl)|refine vX ?_|refine yD (zpJ _ m.W (by omega)) ⟨⟨rfl,rfl⟩,⟨rfl,rfl⟩,rfl⟩ rfl ?_));all_goals try conv=>whnf
    ·rw [e0,if_pos (by rw [hI,zar hx,List.any_cons,show x.any (bad m.W)=true from ‹_›];rfl)]
    ·exact ⟨k+1,[(0,0)],[],⟨by (omega),by rw [hI,zar hx,List.any_cons,show x.any (bad m.W)=false from ‹_›];rfl⟩,by (omega),by (refine ⟨rfl,rfl,rfl,?_,?_⟩;repeat' first|exact trivial|exact rfl|refine And.intro ?_ ?_|refine ⟨_,rfl,?_⟩|decide)⟩
    ·rw [e0,if_neg]
     rw [hI,List.drop_eq_nil_of_le (by omega)];simp
def zeW (m:KM) (a w:Nat):BitVec 64:=(m.rel.getD a []).getD w 0#64
theorem zxA {m:KM} {a w:Nat} {r:List (BitVec 64)} {x:BitVec 64} (h:m.rel[a]? = some r) (h':r[w]? = some x):zeW m a w=x:=by rw [zeW,zaO h,zaO h']
def zfh (m:KM) (g:Nat) (meet:Bool) (w k:Nat):BitVec 64:=(List.range k).foldl (fun s a=>if g.testBit a=true then (if meet=true then s&&&zeW m a w else s|||zeW m a w) else s) (if meet=true then zaq m.W else 0#64)
theorem zlC (m:KM) (g:Nat) (meet:Bool) (w k:Nat):zfh m g meet w (k+1)=if g.testBit k=true then (if meet=true then zfh m g meet w k&&&zeW m k w else zfh m g meet w k|||zeW m k w) else zfh m g meet w k:=by
 unfold zfh;rw [List.range_succ,List.foldl_append];rfl
def zcs (m:KM) (g:Nat) (meet:Bool):List (BitVec 64):=if zbh m≠0∨g < 1∨2 ^ m.rel.length≤g then [] else (List.range m.W.toNat).map fun w=>zfh m g meet w m.rel.length
theorem zuc (m:KM) (g:Nat) (hg:g < 2 ^ 63):Fn Tryz.prog T zeI [.d (dKM m),.d (.int .i64 (g:Int)),.d (.bool false)] [] (.d (dU (zcs m g false))) []:=by
 refine zj zz zj2 (by show 3≤85;decide) ?_
 by_cases hc:zbh m=0
 ·have hgd:=zm4 hc
  have n4:=hgd.n4
  have w1:=hgd.w1
  have w2:=hgd.w2
  obtain ⟨p1,p2⟩:=zl5 (i:=(m.rel.length:Int)) (by omega) (by omega)
  have p2:((2 ^ m.rel.length:Nat):Int)=(1:Int) * 2 ^ (min (m.rel.length:Int).toNat IntKind.i64.bits):=p2
  have hcf:=zpK (T:=T) m
  rw [hc] at hcf
  (repeat' ((conv=>whnf);first|refine zE.no (by decide) ?_|refine vA ?_|(refine vF ?_ ?_<;>intro hc<;>try simp only [vL] at hc)|refine vJ fun hg=>?_|refine vT ?_|((first|refine vO ?_ ?_|refine vP ?_ ?_);·first|omega|(simp only [vM] at *;omega))|refine yD hcf ⟨⟨rfl,rfl⟩,rfl⟩ rfl ?_));all_goals try conv=>whnf
  ·rw [zcs,if_pos (.inr (.inl (by omega)))];rfl
  ·rw [zcs,if_pos (.inr (.inr (by have:=‹_≤(g:Int)›;rw [← p2] at this;omega)))];rfl
  ·have e0:zcs m g false=(List.range m.W.toNat).map fun w=>zfh m g false w m.rel.length:=by
    have:=‹(g:Int) < _›
    rw [← p2] at this
    rw [zcs,if_neg (by omega)]
   rw [e0]
   refine zu (fun ((k,zs):Nat×List D)=>[(1,.d (.int .i64 ((g:Int)))),(2,.d (.bool (false))),(3,.ptr 0 0),(7,.own 1),(8,.d (.int .i64 ((k:Int))))]) (fun ((k,zs):Nat×List D)=>[(0,some (zob m)),(1,some (.row 1 zs))]) 2 (fun ((k,zs):Nat×List D)=>k≤m.W.toNat∧zs=((List.range k).map fun w=>zfh m g false w m.rel.length).map D.u64) (fun ((k,zs):Nat×List D)=>m.W.toNat - k) ((0,[])) [(0,0)]   [1] (⟨by simp,rfl⟩) (by (refine ⟨rfl,rfl,rfl,?_,?_⟩;repeat' first|exact trivial|exact rfl|exact ⟨_,rfl⟩|exact .inl rfl|refine And.intro ?_ ?_|refine ⟨_,rfl,?_⟩|decide)) ?_
   rintro ⟨k,zs⟩ ⟨hk,hI⟩
   have hzl:zs.length≤64:=by rw [hI];simp;omega
   have h64 : ∀ a (r:List (BitVec 64)),m.rel[a]? = some r→r.length=m.W.toNat:=fun a r h=>by have:=hgd.len r (List.mem_of_getElem? h);omega
   (repeat' ((conv=>whnf);first|refine vA ?_|refine vH ?_|(refine vF ?_ ?_<;>intro hc<;>try simp only [vL] at hc)|refine vT ?_));all_goals try conv=>whnf
   ·refine zu (fun ((a,s):Nat×BitVec 64)=>[(1,.d (.int .i64 ((g:Int)))),(2,.d (.bool (false))),(3,.ptr 0 0),(7,.own 1),(8,.d (.int .i64 ((k:Int)))),(9,.d (.u64 (s))),(10,.d (.int .i64 ((a:Int))))]) (fun ((a,s):Nat×BitVec 64)=>[(0,some (zob m)),(1,some (.row 1 zs))]) 2 (fun ((a,s):Nat×BitVec 64)=>a≤m.rel.length∧s=zfh m g false k a) (fun ((a,s):Nat×BitVec 64)=>m.rel.length - a) ((0,0#64)) [(0,0),(1,1)] [] (⟨by simp,rfl⟩) (by (refine ⟨rfl,rfl,rfl,?_,?_⟩;repeat' first|exact trivial|exact rfl|exact .inl rfl|refine And.intro ?_ ?_|refine ⟨_,rfl,?_⟩|decide)) ?_
    rintro ⟨a,s⟩ ⟨ha,hS⟩
    by_cases hal:a < m.rel.length
    ·obtain ⟨r,hr⟩ : ∃ r,m.rel[a]? = some r:=⟨_,List.getElem?_eq_getElem hal⟩
     obtain ⟨x,hx0⟩ : ∃ x,r[k]? = some x:=⟨_,List.getElem?_eq_getElem (by have:=h64 a r hr;omega)⟩
     (repeat' ((conv=>whnf);first|refine vA ?_|refine vE ?_|refine vH ?_|(refine vF ?_ ?_<;>intro hc<;>try simp only [vL] at hc)|refine vJ fun hg=>?_|refine vT ?_|refine vN ‹_› ?_|((first|refine vO ?_ ?_|refine vP ?_ ?_);·omega)|fail));all_goals try conv=>whnf
     all_goals try (exact absurd ‹Int.tmod _ 2=1› ‹¬Int.tmod _ 2=1›)
     ·refine ⟨(a+1,_),[(0,0),(1,1)],[],?_,?_,by (refine ⟨rfl,rfl,rfl,?_,?_⟩;repeat' first|exact trivial|exact rfl|exact .inl rfl|refine And.intro ?_ ?_|refine ⟨_,rfl,?_⟩|decide)⟩
      ·exact ⟨by (omega),by rw [zlC,if_pos ((zgz (m:=g) (k:=a) (by omega)).1 ‹_›),hS,zxA hr hx0];rfl⟩
      ·((simp only [vM] at *;omega))
     ·exact ⟨(a+1,s),[(0,0),(1,1)],[],⟨by (omega),by rw [zlC,if_neg (fun h=>‹¬Int.tmod _ 2=1› ((zgz (m:=g) (k:=a) (by omega)).2 h)),hS]⟩,by ((simp only [vM] at *;omega)),by (refine ⟨rfl,rfl,rfl,?_,?_⟩;repeat' first|exact trivial|exact rfl|exact .inl rfl|refine And.intro ?_ ?_|refine ⟨_,rfl,?_⟩|decide)⟩
     all_goals omega
    ·(repeat' ((conv=>whnf);first|refine vA ?_|refine vE ?_|refine vH ?_|(refine vF ?_ ?_<;>intro hc<;>try simp only [vL] at hc)|refine vJ fun hg=>?_|refine vT ?_|(refine vQ ?_ fun x hx=>?_;·omega)|((first|refine vO ?_ ?_|refine vP ?_ ?_);·first|omega|(simp only [vM] at *;omega))|fail));all_goals try conv=>whnf
     ·omega
     all_goals try omega
     have ea:a=m.rel.length:=by omega
     subst ea
     refine ⟨(k+1,_),[(0,0),(1,3)],[],?_,?_,by (refine ⟨rfl,rfl,rfl,?_,?_⟩;repeat' first|exact trivial|exact rfl|exact .inl rfl|refine And.intro ?_ ?_|refine ⟨_,rfl,?_⟩|decide)⟩
     ·exact ⟨by (omega),by rw [List.range_succ,List.map_append,List.map_append,hI,hS];rfl⟩
     ·((simp only [vM] at *;omega))
   ·rw [hI,show k=m.W.toNat by omega];rfl
 ·have hcf:=zpK (T:=T) m
  (repeat' ((conv=>whnf);first|refine vA ?_|((first|refine vD ?_ ?_|refine vF ?_ ?_)<;>intro hc<;>try simp only [vL] at hc)|refine vJ fun hg=>?_|refine vT ?_|((first|refine vO ?_ ?_|refine vP ?_ ?_);·omega)|refine yD hcf ⟨⟨rfl,rfl⟩,rfl⟩ rfl ?_));all_goals try conv=>whnf
  ·rw [zcs,if_pos (.inl hc)];rfl
  all_goals omega
end Go.Ab
namespace Go.Ab
open Go Go.Proofs
set_option maxRecDepth 10000
set_option maxHeartbeats 4000000
variable {T:Nat→Obj→Prop}
theorem zsN (m:KM) (g:Nat) (hg:g < 2 ^ 63):Fn Tryz.prog T zeH [.d (dKM m),.d (.int .i64 (g:Int))] [] (.d (dU (zcs m g false))) []:=by
 have c:=zuc (T:=T) m g hg
 refine zj zz zj1 (by show 2≤8;decide) ?_
 (repeat' ((conv=>whnf);first|refine vT ?_|refine yN c ⟨⟨rfl,rfl⟩,⟨rfl,rfl⟩,⟨rfl,rfl⟩,rfl⟩ ?_));all_goals try conv=>whnf
 all_goals first|rfl|skip
theorem zyk {n:Int} (h1:1≤n) (h2:n≤64) {s:BitVec 64} (h:bad n s=false) {i:Nat} (hi:s.getLsbD i=true):i < n.toNat:=by
 have h0:s &&& ~~~zaq n=0#64:=by simpa [bad] using h
 have h3:=congrArg (fun x:BitVec 64=>x.getLsbD i) h0
 simp only [BitVec.getLsbD_and,BitVec.getLsbD_not,hi,Bool.true_and,BitVec.getLsbD_zero,Bool.and_eq_false_iff,decide_eq_false_iff_not,Bool.not_eq_false'] at h3
 rcases h3 with h3|h3
 ·exact absurd (BitVec.lt_of_getLsbD hi) h3
 ·unfold zaq at h3
  split at h3
  ·have:=BitVec.lt_of_getLsbD hi;omega
  ·rw [show (1#64 <<< n.toNat) - 1#64=zL (fun _=>true) n.toNat by
    refine zhH fun j=>?_
    rw [zfs (by omega),← BitVec.ofNat_eq_ofNat]
    have:(1#64 <<< n.toNat - 1#64).getLsbD j=decide (j < n.toNat):=by
     rw [show (1#64 <<< n.toNat - 1#64)=BitVec.ofNat 64 (2 ^ n.toNat - 1) by
      apply BitVec.eq_of_toNat_eq
      have hp:2 ^ n.toNat < 2 ^ 64:=Nat.pow_lt_pow_right (by omega) (by omega)
      have hq:=Nat.two_pow_pos n.toNat
      simp [BitVec.toNat_sub,BitVec.toNat_shiftLeft,Nat.shiftLeft_eq]
      omega]
     rw [BitVec.getLsbD_ofNat,Nat.testBit_two_pow_sub_one]
     by_cases hj:j < n.toNat
     ·simp [hj];omega
     ·simp [hj]
    simp [this]] at h3
   exact ((zfs (by omega)).1 h3).1
theorem zvP {m:KM} (hm:zx5 m) {a w v:Nat} (h:(zeW m a w).getLsbD v=true):v < m.W.toNat:=by
 unfold zeW at h
 cases hr:m.rel[a]? with
 | none=>simp [List.getD,hr] at h
 | some r =>
  rw [zaO hr] at h
  cases hx:r[w]? with
  | none=>simp [List.getD,hx] at h
  | some x =>
   rw [zaO hx] at h
   exact zyk hm.w1 hm.w2 (hm.rel r (List.mem_of_getElem? hr) x (List.mem_of_getElem? hx)) h
theorem zjH {m:KM} {g w v:Nat} : ∀ k,(zfh m g false w k).getLsbD v=true ↔ ∃ a,a < k∧g.testBit a=true∧(zeW m a w).getLsbD v=true
 | 0=>by simp [zfh]
 | k+1=>by
  rw [zlC]
  by_cases hg:g.testBit k=true
  ·rw [if_pos hg,if_neg (by decide),BitVec.getLsbD_or,Bool.or_eq_true,zjH k]
   constructor
   ·rintro (⟨a,h1,h2⟩|h)
    ·exact ⟨a,by omega,h2⟩
    ·exact ⟨k,by omega,hg,h⟩
   ·rintro ⟨a,h1,h2,h3⟩
    by_cases e:a=k
    ·subst e;exact .inr h3
    ·exact .inl ⟨a,by omega,h2,h3⟩
  ·rw [if_neg hg,zjH k]
   constructor
   ·rintro ⟨a,h1,h2⟩;exact ⟨a,by omega,h2⟩
   ·rintro ⟨a,h1,h2,h3⟩
    by_cases e:a=k
    ·subst e;exact absurd h2 hg
    ·exact ⟨a,by omega,h2,h3⟩
theorem zti {m:KM} (hc:zbh m=0) {g:Nat} {meet:Bool} (h1:1≤g) (h2:g < 2 ^ m.rel.length):zcs m g meet=(List.range m.W.toNat).map fun w=>zfh m g meet w m.rel.length:=by
 rw [zcs,if_neg (by omega)]
theorem zvq {m:KM} (hc:zbh m=0) {g:Nat} {meet:Bool} (h1:1≤g) (h2:g < 2 ^ m.rel.length) {w:Nat} (hw:w < m.W.toNat):(zcs m g meet).getD w 0#64=zfh m g meet w m.rel.length:=by
 rw [zti hc h1 h2]
 exact zaO (by simp [hw])
noncomputable def zkd (m:KM) (h:Hd) (x y:BitVec 64):BitVec 64 :=
 if h.op=3 then m.val.getD h.i.toNat 0#64 else if h.op≤8 then zqJ h.op x y (zaq m.W) else if h.op=9 then zex (m.rel.getD h.i.toNat []) m.W.toNat x else if h.op=10 then zaq m.W &&& ~~~zex (m.rel.getD h.i.toNat []) m.W.toNat (zaq m.W &&& ~~~x) else
 if h.op=11 then zex (zcs m h.g.toNat false) m.W.toNat x else ztR (zcs m h.g.toNat false) m.W.toNat x y
theorem zyz (m:KM) (hc:zbh m=0) (n:Nd) (x y:BitVec 64) (h3:n.op=3→0≤n.i∧n.i < m.val.length) (h9:n.op=9∨n.op=10→0≤n.i∧n.i < m.rel.length) (h11:11≤n.op→n.op≠12∧1≤n.g∧n.g.toNat < 2 ^ m.rel.length) :
  Fn Tryz.prog T zdq [.d (dKM m),.d (dNd n),.d (.u64 x),.d (.u64 y)] [] (.d (.u64 (zkd m n.hd x y))) []:=by
 have hgd:=zm4 hc
 have w1:=hgd.w1
 have w2:=hgd.w2
 have hlen : ∀ r,m.rel[n.i.toNat]? = some r→(r.length:Int)=m.W:=fun r h=>hgd.len r (List.mem_of_getElem? h)
 have hg63:11≤n.op→n.g.toNat < 2 ^ 63∧((n.g.toNat:Nat):Int)=n.g∧((zcs m n.g.toNat false).length:Int)=m.W∧zgy (zcs m n.g.toNat false) m.W.toNat:=fun h=>by
  obtain ⟨a1,a2,a3⟩:=h11 h
  have n4:=hgd.n4
  have:2 ^ m.rel.length≤2 ^ 4:=Nat.pow_le_pow_right (by omega) n4
  refine ⟨by omega,by omega,by rw [zti hc (by omega) a3];simp;omega,fun v u hv hu=>?_⟩
  rw [zvq hc (by omega) a3 hv,zjH] at hu
  obtain ⟨a,-,-,hu⟩:=hu
  exact zvP hgd hu
 refine zj zz zlQ (by show 4≤92;decide) ?_
 by_cases hop:11≤n.op
 ·obtain ⟨b1,b2,b3,b4⟩:=hg63 hop
  obtain ⟨a1,a2,a3⟩:=h11 hop
  have cg:=zsN (T:=T) m n.g.toNat b1
  rw [b2] at cg
  have cb:=zpc (T:=T) (zcs m n.g.toNat false) m.W x (by omega) (by omega)
  have cc:=zub (T:=T) (zcs m n.g.toNat false) m.W x y (by omega) (by omega) b4
  (repeat' ((conv=>whnf);first|refine zE.decN (by omega) ?_|refine vA ?_|(refine vF ?_ ?_<;>intro hc)|refine vT ?_|(refine vU ?_ ?_;·kernel_rfl)|refine vY ?_|refine yD (zg6 m.W (by omega)) ⟨⟨rfl,rfl⟩,rfl⟩ rfl ?_|refine yN cg ⟨⟨rfl,rfl⟩,⟨rfl,rfl⟩,rfl⟩ ?_|refine yD cb ⟨⟨rfl,rfl⟩,⟨rfl,rfl⟩,⟨rfl,rfl⟩,rfl⟩ rfl ?_|refine yD cc (by (repeat refine ⟨⟨rfl,rfl⟩,?_⟩);rfl) rfl ?_));all_goals try conv=>whnf
  ·rw [zkd,if_neg (by show ¬n.op=3;omega),if_neg (by show ¬n.op≤8;omega),if_neg (by show ¬n.op=9;omega),if_neg (by show ¬n.op=10;omega),if_pos (by show n.op=11;omega)];rfl
  ·rw [zkd,if_neg (by show ¬n.op=3;omega),if_neg (by show ¬n.op≤8;omega),if_neg (by show ¬n.op=9;omega),if_neg (by show ¬n.op=10;omega),if_neg (by show ¬n.op=11;omega)];rfl
 ·by_cases hop':n.op=9∨n.op=10
  ·obtain ⟨i0,i1⟩:=h9 hop'
   obtain ⟨r,hr⟩ : ∃ r,m.rel[n.i.toNat]? = some r:=⟨_,List.getElem?_eq_getElem (by omega)⟩
   have hl:=hlen r hr
   have hrd:m.rel.getD n.i.toNat []=r:=zaO hr
   have cb:=zpc (T:=T) r m.W x (by omega) (by omega)
   have cb2:=zpc (T:=T) r m.W (zaq m.W &&& ~~~x) (by omega) (by omega)
   by_cases h9':n.op=9
   ·(repeat' ((conv=>whnf);first|refine zE.decN (by omega) ?_|refine zE.decY (by omega) ?_|refine vA ?_|refine vT ?_|(refine vR ?_ ‹_› ?_;·omega)|(refine vU ?_ ?_;·kernel_rfl)|refine vY ?_|refine yD (zg6 m.W (by omega)) ⟨⟨rfl,rfl⟩,rfl⟩ rfl ?_|refine yD cb ⟨⟨rfl,rfl⟩,⟨rfl,rfl⟩,⟨rfl,rfl⟩,rfl⟩ rfl ?_));all_goals try conv=>whnf
    rw [zkd,if_neg (show ¬n.hd.op=3 by show ¬n.op=3;omega),if_neg (show ¬n.hd.op≤8 by show ¬n.op≤8;omega),if_pos (show n.hd.op=9 from h9')]
    exact congrArg (fun r=>zex r m.W.toNat x) hrd.symm
   ·(repeat' ((conv=>whnf);first|refine zE.decN (by omega) ?_|refine zE.decY (by omega) ?_|refine vA ?_|refine vT ?_|(refine vR ?_ ‹_› ?_;·omega)|(refine vU ?_ ?_;·kernel_rfl)|refine vY ?_|refine yD (zg6 m.W (by omega)) ⟨⟨rfl,rfl⟩,rfl⟩ rfl ?_|refine yD cb2 ⟨⟨rfl,rfl⟩,⟨rfl,rfl⟩,⟨rfl,rfl⟩,rfl⟩ rfl ?_));all_goals try conv=>whnf
    rw [zkd,if_neg (show ¬n.hd.op=3 by show ¬n.op=3;omega),if_neg (show ¬n.hd.op≤8 by show ¬n.op≤8;omega),if_neg (show ¬n.hd.op=9 from h9'),if_pos (show n.hd.op=10 by show n.op=10;omega)]
    exact congrArg (fun r=>zaq m.W &&& ~~~zex r m.W.toNat (zaq m.W &&& ~~~x)) hrd.symm
  ·(repeat' ((conv=>whnf);first|refine vA ?_|(refine vF ?_ ?_<;>intro hc<;>try simp only [vL] at hc)|refine vT ?_|(refine vS ?_ fun x hx=>?_;·omega)|refine vY ?_|refine yD (zg6 m.W (by omega)) ⟨⟨rfl,rfl⟩,rfl⟩ rfl ?_|refine yD (zsM _ _ _ _) (by (repeat refine ⟨⟨rfl,rfl⟩,?_⟩);rfl) rfl ?_));all_goals try conv=>whnf
   all_goals try omega
   ·rw [zkd,if_pos (show n.hd.op=3 from ‹n.op=3›)]
    exact (zaO hx).symm
   ·rw [zkd,if_neg (show ¬n.hd.op=3 from ‹¬n.op=3›),if_pos (show n.hd.op≤8 from ‹_›)];rfl
end Go.Ab
namespace Go.Ab
open Go Go.Proofs
set_option maxRecDepth 10000
set_option maxHeartbeats 4000000
variable {T:Nat→Obj→Prop}
noncomputable def zau (p:PM) (h:Hd) (x y:BitVec 64):BitVec 64 :=
 if h.op=1 then zaq p.W else if h.op=3 then p.val.getD h.i.toNat 0#64 else if h.op=4 then zaq p.W &&& ~~~x else if h.op=5 then x&&&y else if h.op=6 then x|||y else if h.op=7 then zaq p.W &&& ~~~x|||y else
 if h.op=8 then zaq p.W &&& ~~~(x ^^^ y) else if h.op=9 then zbM p h.i x else if h.op=10 then zaq p.W &&& ~~~zbM p h.i (zaq p.W &&& ~~~x) else if h.op=11 then zeA p h.g.toNat x else
 if h.op=13 then zc3 p h.g.toNat x y else if h.op=14 then zbS p h.i x y else if h.op=15 then zbU p h.i x else 0#64
end Go.Ab
namespace Go.Ab
open Go Go.Proofs
set_option maxRecDepth 10000
set_option maxHeartbeats 4000000
variable {T:Nat→Obj→Prop}
theorem zmf {β:Type} (v:Hd→β→β→β) (d:β) (n:Nd) : ∀ (l:List Nd) (acc:List β),zat v d (l++[n]) acc=zat v d l acc++[v n.hd ((zat v d l acc).getD n.x.toNat d) ((zat v d l acc).getD n.y.toNat d)]
 | [],acc=>rfl
 | m::r,acc=>by rw [List.cons_append,zat,zat,zmf v d n r]
theorem zql (p:PM):ztF (zau p) where
 x h a b c hx:=by
  have : ¬(4≤h.op∧h.op≤21):=by simpa [zR] using hx
  unfold zau
  repeat (rw [if_neg (show ¬h.op=4 by omega)])
  by_cases h1:h.op=1
  ·simp [h1]
  ·by_cases h3:h.op=3
   ·simp [h3]
   ·simp only [h1,h3,if_false,show ¬h.op=5 by omega,show ¬h.op=6 by omega,show ¬h.op=7 by omega,show ¬h.op=8 by omega,show ¬h.op=9 by omega,show ¬h.op=10 by omega,show ¬h.op=11 by omega,show ¬h.op=13 by omega,show ¬h.op=14 by omega,show ¬h.op=15 by omega]
 y h a b c hy:=by
  have : ¬(5≤h.op∧h.op≤8∨h.op=13∨h.op=14∨h.op=16∨h.op=19∨h.op=21):=by simpa [zD] using hy
  unfold zau
  simp only [show ¬h.op=5 by omega,show ¬h.op=6 by omega,show ¬h.op=7 by omega,show ¬h.op=8 by omega,show ¬h.op=13 by omega,show ¬h.op=14 by omega,if_false]
noncomputable def zch (p:PM) (f:List Nd):BitVec 64×Int :=
 if zp p≠0 then (0#64,zp p) else if zbt f≠0 then (0#64,zbt f) else if zaK .i64 (fun p q=>p &&& ~~~q) (uni zaM (cL f):Int) 59≠0 then (0#64,10) else
 if zde f p.cell.length p.val.length=false then (0#64,2) else ((zat (zau p) 0#64 (cL f) []).getD ((cL f).length - 1) 0#64,0)
abbrev dUE (x:BitVec 64×Int):D := .tup [.u64 x.1,.int .i64 x.2]
theorem zzk {f:List Nd} {a b:Nat} (ha:a≤4) (hb:b≤8) (h:zde f a b=true) {n:Nd} (hn:n∈cL f):(n.op=3→0≤n.i∧n.i < b)∧(zae n.op=true→0≤n.i∧n.i < a)∧(zap n.op=true→n.g.toNat < 2 ^ a):=by
 have hh:=zfz hn
 simp only [zde,zfM,Bool.and_eq_true,decide_eq_true_eq,Int.toNat_natCast] at h
 obtain ⟨⟨-,h1⟩,h2⟩:=h
 have h1:=(zdZ zaf).1 (h1.resolve_left (by omega)) n hn
 have h2:=(zdZ zbb).1 (h2.resolve_left (by omega)) n hn
 refine ⟨fun e=>?_,fun e=>?_,fun e=>?_⟩
 ·have e':zbD n.hd.op=true:=decide_eq_true e
  have h3:0≤n.i∧n.i≤7:=hh.fact e'
  rw [zbb,if_pos e'] at h2
  have h2:2 ^ n.i.toNat < 2 ^ b:=h2
  have:=(Nat.pow_lt_pow_iff_right (by decide:1 < 2)).1 h2
  omega
 ·have h3:0≤n.i∧n.i≤3:=hh.agent e
  rw [zaf,if_pos (show zae n.hd.op=true from e)] at h1
  have h1:2 ^ n.i.toNat < 2 ^ a:=h1
  have:=(Nat.pow_lt_pow_iff_right (by decide:1 < 2)).1 h1
  omega
 ·have h3 : ¬ zae n.hd.op=true:=by
   have:11≤n.op∧n.op≤13:=by simpa [zap] using e
   simp only [zae,decide_eq_true_eq];show ¬(n.op=9∨n.op=10∨n.op=14∨n.op=15);omega
  rw [zaf,if_neg h3] at h1
  exact h1
end Go.Ab
namespace Go.Ab
open Go Go.Proofs
set_option maxRecDepth 10000
set_option maxHeartbeats 4000000
variable {T:Nat→Obj→Prop}
theorem zpI (p:PM) (hp:zav p.rank) (a w:Int) (hat:At p a w):Fn Tryz.prog T ze6 [.d (dPM p),.d (.int .i64 a),.d (.int .i64 w)] [] (.d (.u64 (zan p a w))) []:=by
 obtain ⟨hrow,-,hlen,-,h64,ha,-⟩:=hat.rows
 have ha0:=hat.a0
 have hw0:=hat.w0
 have hw1:=hat.w1
 refine zj zz zkN (by show 3≤37;decide) ?_
 (repeat' ((conv=>whnf);first|refine vA ?_|refine vT ?_));all_goals try conv=>whnf
 refine zu (fun ((k,s):Nat×BitVec 64)=>[(1,.d (.int .i64 (a))),(2,.d (.int .i64 (w))),(3,.ptr 0 0),(7,.d (.u64 (s))),(8,.d (.int .i64 ((k:Int))))]) (fun ((k,s):Nat×BitVec 64)=>[(0,some (zaD p))]) 1 (fun ((k,s):Nat×BitVec 64)=>k≤p.W.toNat∧s=zL (fun v=>at0 (za p.cell a.toNat) v==at0 (za p.cell a.toNat) w.toNat) k) (fun ((k,s):Nat×BitVec 64)=>p.W.toNat - k) ((0,0#64)) [(0,0)] [] (⟨by simp,rfl⟩) (by (refine ⟨rfl,rfl,rfl,?_,?_⟩;repeat' first|exact trivial|exact rfl|refine And.intro ?_ ?_|refine ⟨_,rfl,?_⟩|decide)) ?_
 rintro ⟨k,s⟩ ⟨hk,hI⟩
 (repeat' ((conv=>whnf);first|refine vA ?_|(refine vF ?_ ?_<;>intro hc<;>try simp only [vL] at hc)|refine vT ?_|(refine vQ ?_ fun x hx=>?_;·omega)|((first|refine vO ?_ ?_|refine vR ?_ ‹_› ?_|refine vS ?_ fun x hx=>?_|refine vP ?_ ?_);·omega)|(refine vU ?_ ?_;·kernel_rfl)|refine vY ?_));all_goals try conv=>whnf
 ·have h1:=zw ‹(za p.cell a.toNat)[k]? = some _›
  have h2:=zw hx
  refine ⟨(k+1,_),[(0,0)],[],?_,?_,by (refine ⟨rfl,rfl,rfl,?_,?_⟩;repeat' first|exact trivial|exact rfl|refine And.intro ?_ ?_|refine ⟨_,rfl,?_⟩|decide)⟩
  ·exact ⟨by (omega),by rw [zL,if_pos (by simp;omega),hI];rfl⟩
  ·((simp only [vM] at *;omega))
 ·have h1:=zw ‹(za p.cell a.toNat)[k]? = some _›
  have h2:=zw hx
  exact ⟨(k+1,s),[(0,0)],[],⟨by (omega),by rw [zL,if_neg (by simp;omega),hI]⟩,by ((simp only [vM] at *;omega)),by (refine ⟨rfl,rfl,rfl,?_,?_⟩;repeat' first|exact trivial|exact rfl|refine And.intro ?_ ?_|refine ⟨_,rfl,?_⟩|decide)⟩
 ·rw [zan,if_pos hat,hI,zgA,show k=(za p.cell a.toNat).length by omega]
def zgR (rank:List Int) (s:BitVec 64) (k:Nat) (m:Int):Prop:=(m < 0 ∧ ∀ v,v < k→s.getLsbD v=false)∨(0≤m∧(∃ v,v < k∧s.getLsbD v=true∧at0 rank v=m) ∧ ∀ v,v < k→s.getLsbD v=true→m≤at0 rank v)
theorem zgR.keep {rank:List Int} {s:BitVec 64} {k:Nat} {m:Int} (h:zgR rank s k m) (hk:s.getLsbD k=true→0≤m∧m≤at0 rank k):zgR rank s (k+1) m:=by
 rcases h with ⟨h1,h2⟩|⟨h1,⟨v,a,b,c⟩,h3⟩
 ·refine .inl ⟨h1,fun v hv=>?_⟩
  by_cases e:v=k
  ·subst e
   cases hs:s.getLsbD v with
   | false=>rfl
   | true=>have:=hk hs;omega
  ·exact h2 v (by omega)
 ·refine .inr ⟨h1,⟨v,by omega,b,c⟩,fun u hu hs=>?_⟩
  by_cases e:u=k
  ·subst e;exact (hk hs).2
  ·exact h3 u (by omega) hs
theorem zgR.take {rank:List Int} {s:BitVec 64} {k:Nat} {m:Int} (h:zgR rank s k m) (hk:s.getLsbD k=true) (h0:0≤at0 rank k) (hm:m < 0∨at0 rank k < m):zgR rank s (k+1) (at0 rank k):=by
 refine .inr ⟨h0,⟨k,by omega,hk,rfl⟩,fun v hv hs=>?_⟩
 by_cases e:v=k
 ·subst e;exact Int.le_refl _
 ·rcases h with ⟨h1,h2⟩|⟨h1,-,h3⟩
  ·rw [h2 v (by omega)] at hs;cases hs
  ·have:=h3 v (by omega) hs;omega
theorem zu8 (p:PM) (hp:zav p.rank) (a w:Int) (hat:At p a w) (c:BitVec 64):Fn Tryz.prog T ze7 [.d (dPM p),.d (.int .i64 a),.d (.int .i64 w),.d (.u64 c)] [] (.d (.u64 (zhr p a w c))) []:=by
 obtain ⟨hrow,hrank,hlen,hlen',h64,ha,-⟩:=hat.rows
 have ha0:=hat.a0
 have hw0:=hat.w0
 have hw1:=hat.w1
 have hg:=zS hat.ok
 refine zj zz zkO (by show 4≤79;decide) ?_
 (repeat' ((conv=>whnf);first|refine vA ?_|refine vT ?_|refine yD (zpI p hp a w hat) ⟨⟨rfl,rfl⟩,⟨rfl,rfl⟩,⟨rfl,rfl⟩,rfl⟩ rfl ?_));all_goals try conv=>whnf
 refine zu (fun ((k,m):Nat×Int)=>[(1,.d (.int .i64 (a))),(4,.ptr 0 0),(9,.d (.u64 (zan p a w&&&c))),(10,.d (.int .i64 (m))),(11,.d (.u64 (0#64))),(12,.d (.int .i64 ((k:Int))))]) (fun ((k,m):Nat×Int)=>[(0,some (zaD p))]) 1 (fun ((k,m):Nat×Int)=>k≤p.W.toNat∧zgR (za p.rank a.toNat) (zan p a w&&&c) k m) (fun ((k,m):Nat×Int)=>p.W.toNat - k) ((0,-1)) [(0,0)] [] (⟨by simp,.inl ⟨by decide,fun v hv=>by omega⟩⟩) (by (refine ⟨rfl,rfl,rfl,?_,?_⟩;repeat' first|exact trivial|exact rfl|refine And.intro ?_ ?_|refine ⟨_,rfl,?_⟩|decide)) ?_
 rintro ⟨k,m⟩ ⟨hk,hI⟩
 (repeat' ((conv=>whnf);first|refine vA ?_|refine vE ?_|(refine vF ?_ ?_<;>intro hc<;>try simp only [vL] at hc)|refine vT ?_|refine vN ‹_› ?_|(refine vQ ?_ fun x hx=>?_;·omega)|((first|refine vO ?_ ?_|refine vR ?_ ‹_› ?_);·omega)|refine yD (zrH _ _) ⟨⟨rfl,rfl⟩,⟨rfl,rfl⟩,rfl⟩ rfl ?_));all_goals try conv=>whnf
 ·have hb:=zwL ‹_›
  exact ⟨(k+1,m),[(0,0)],[],⟨by (omega),hI.keep fun h=>by rw [hb] at h;cases h⟩,by ((simp only [vM] at *;omega)),by (refine ⟨rfl,rfl,rfl,?_,?_⟩;repeat' first|exact trivial|exact rfl|refine And.intro ?_ ?_|refine ⟨_,rfl,?_⟩|decide)⟩
 ·have hb:=ztN ‹_›
  have e1:=zw ‹(za p.rank a.toNat)[k]? = some _›
  have h0:=zhT hat (i:=k) (by rw [BitVec.getLsbD_and,Bool.and_eq_true] at hb;exact hb.1)
  rw [← e1]
  refine ⟨(k+1,_),[(0,0)],[],?_,?_,by (refine ⟨rfl,rfl,rfl,?_,?_⟩;repeat' first|exact trivial|exact rfl|refine And.intro ?_ ?_|refine ⟨_,rfl,?_⟩|decide)⟩
  ·exact ⟨by (omega),hI.take hb h0 (.inl ‹_›)⟩
  ·((simp only [vM] at *;omega))
 ·have hb:=ztN ‹_›
  have e1:=zw ‹(za p.rank a.toNat)[k]? = some _›
  have h0:=zhT hat (i:=k) (by rw [BitVec.getLsbD_and,Bool.and_eq_true] at hb;exact hb.1)
  have h1:at0 (za p.rank a.toNat) k < m:=by omega
  rw [← e1]
  refine ⟨(k+1,_),[(0,0)],[],?_,?_,by (refine ⟨rfl,rfl,rfl,?_,?_⟩;repeat' first|exact trivial|exact rfl|refine And.intro ?_ ?_|refine ⟨_,rfl,?_⟩|decide)⟩
  ·exact ⟨by (omega),hI.take hb h0 (.inr h1)⟩
  ·((simp only [vM] at *;omega))
 ·have e1:=zw ‹(za p.rank a.toNat)[k]? = some _›
  exact ⟨(k+1,m),[(0,0)],[],⟨by (omega),hI.keep fun h=>by omega⟩,by ((simp only [vM] at *;omega)),by (refine ⟨rfl,rfl,rfl,?_,?_⟩;repeat' first|exact trivial|exact rfl|refine And.intro ?_ ?_|refine ⟨_,rfl,?_⟩|decide)⟩
 ·have hk':k=p.W.toNat:=by omega
  subst hk'
  refine zu (fun ((k,o):Nat×BitVec 64)=>[(1,.d (.int .i64 (a))),(4,.ptr 0 0),(9,.d (.u64 (zan p a w&&&c))),(10,.d (.int .i64 (m))),(11,.d (.u64 (o))),(13,.d (.int .i64 ((k:Int))))]) (fun ((k,o):Nat×BitVec 64)=>[(0,some (zaD p))]) 1 (fun ((k,o):Nat×BitVec 64)=>k≤p.W.toNat∧o=zL (fun v=>(zan p a w&&&c).getLsbD v&&decide (at0 (za p.rank a.toNat) v=m)) k) (fun ((k,o):Nat×BitVec 64)=>p.W.toNat - k) ((0,0#64)) [(0,0)] [] (⟨by simp,rfl⟩) (by (refine ⟨rfl,rfl,rfl,?_,?_⟩;repeat' first|exact trivial|exact rfl|refine And.intro ?_ ?_|refine ⟨_,rfl,?_⟩|decide)) ?_
  rintro ⟨k,o⟩ ⟨hk,hO⟩
  (repeat' ((conv=>whnf);first|refine vA ?_|refine vE ?_|(refine vF ?_ ?_<;>intro hc<;>try simp only [vL] at hc)|refine vT ?_|(refine vQ ?_ fun x hx=>?_;·omega)|((first|refine vO ?_ ?_|refine vR ?_ ‹_› ?_|refine vP ?_ ?_);·omega)|refine vY ?_|refine yD (zrH _ _) ⟨⟨rfl,rfl⟩,⟨rfl,rfl⟩,rfl⟩ rfl ?_));all_goals try conv=>whnf
  ·have hb:=zwL ‹_›
   exact ⟨(k+1,o),[(0,0)],[],⟨by (omega),by rw [zL,if_neg (by simp [hb]),hO]⟩,by ((simp only [vM] at *;omega)),by (refine ⟨rfl,rfl,rfl,?_,?_⟩;repeat' first|exact trivial|exact rfl|refine And.intro ?_ ?_|refine ⟨_,rfl,?_⟩|decide)⟩
  ·have hb:=ztN ‹_›
   have e1:=zw ‹(za p.rank a.toNat)[k]? = some _›
   have h1:at0 (za p.rank a.toNat) k=m:=by omega
   refine ⟨(k+1,_),[(0,0)],[],?_,?_,by (refine ⟨rfl,rfl,rfl,?_,?_⟩;repeat' first|exact trivial|exact rfl|refine And.intro ?_ ?_|refine ⟨_,rfl,?_⟩|decide)⟩
   ·exact ⟨by (omega),by rw [zL,if_pos (by simp [hb,h1]),hO];rfl⟩
   ·((simp only [vM] at *;omega))
  ·have e1:=zw ‹(za p.rank a.toNat)[k]? = some _›
   have h1 : ¬at0 (za p.rank a.toNat) k=m:=by omega
   exact ⟨(k+1,o),[(0,0)],[],⟨by (omega),by rw [zL,if_neg (by simp [h1]),hO]⟩,by ((simp only [vM] at *;omega)),by (refine ⟨rfl,rfl,rfl,?_,?_⟩;repeat' first|exact trivial|exact rfl|refine And.intro ?_ ?_|refine ⟨_,rfl,?_⟩|decide)⟩
  ·rw [hO,show k=p.W.toNat by omega]
   refine zhH fun i=>?_
   rw [zfs (W64 hat.ok),zpy hat]
   have hW : ∀ u,(zan p a w).getLsbD u=true→u < p.W.toNat:=fun u hu=>((zfN hat).1 hu).1
   simp only [BitVec.getLsbD_and,Bool.and_eq_true,decide_eq_true_eq]
   constructor
   ·rintro ⟨h1,⟨h2,h3⟩,h4⟩
    refine ⟨⟨h3,h2⟩,fun u hu hu'=>?_⟩
    rcases hI with ⟨-,g⟩|⟨-,-,g⟩
    ·have:=g i h1;rw [BitVec.getLsbD_and,h2,h3] at this;cases this
    ·rw [h4];exact g u (hW u hu') (by rw [BitVec.getLsbD_and,hu',hu];rfl)
   ·rintro ⟨⟨h3,h2⟩,h4⟩
    have h1:=hW i h2
    refine ⟨h1,⟨h2,h3⟩,?_⟩
    rcases hI with ⟨-,g⟩|⟨-,⟨v,g1,g2,g3⟩,g⟩
    ·have:=g i h1;rw [BitVec.getLsbD_and,h2,h3] at this;cases this
    ·rw [BitVec.getLsbD_and,Bool.and_eq_true] at g2
     have a1:=g i h1 (by rw [BitVec.getLsbD_and,h2,h3];rfl)
     have a2:=h4 v g2.2 g2.1
     omega
end Go.Ab
namespace Go.Ab
open Go Go.Proofs
set_option maxRecDepth 10000
set_option maxHeartbeats 4000000
variable {T:Nat→Obj→Prop}
theorem zqv (p:PM) (hp:zav p.rank) (hc0:zp p=0) (a:Int) (ha0:0≤a) (ha1:a < p.cell.length) (c s:BitVec 64):Fn Tryz.prog T zdK [.d (dPM p),.d (.int .i64 a),.d (.u64 c),.d (.u64 s)] [] (.d (.u64 (zbS p a c s))) []:=by
 have hgd:=zS hc0
 have h2:=hgd.w2
 refine zj zz zhm (by show 4≤30;decide) ?_
 (repeat' ((conv=>whnf);first|refine vA ?_|refine vT ?_));all_goals try conv=>whnf
 refine zu (fun ((k,o):Nat×BitVec 64)=>[(1,.d (.int .i64 (a))),(2,.d (.u64 (c))),(3,.d (.u64 (s))),(4,.ptr 0 0),(9,.d (.u64 (o))),(10,.d (.int .i64 ((k:Int))))]) (fun ((k,o):Nat×BitVec 64)=>[(0,some (zaD p))]) 1 (fun ((k,o):Nat×BitVec 64)=>k≤p.W.toNat∧o=zL (fun w=>decide (zhr p a w c &&& ~~~s=0#64)) k) (fun ((k,o):Nat×BitVec 64)=>p.W.toNat - k) ((0,0#64)) [(0,0)] [] (⟨by simp,rfl⟩) (by (refine ⟨rfl,rfl,rfl,?_,?_⟩;repeat' first|exact trivial|exact rfl|refine And.intro ?_ ?_|refine ⟨_,rfl,?_⟩|decide)) ?_
 rintro ⟨k,o⟩ ⟨hk,hI⟩
 by_cases hkW:k < p.W.toNat
 ·have hat:At p a k:=⟨hc0,ha0,ha1,by omega,by omega⟩
  (repeat' ((conv=>whnf);first|refine vA ?_|(refine vF ?_ ?_<;>intro hc<;>try simp only [vL] at hc)|refine vT ?_|((first|refine vO ?_ ?_|refine vP ?_ ?_);·omega)|refine vY ?_|refine yD (zu8 p hp a k hat c) (by (repeat refine ⟨⟨rfl,rfl⟩,?_⟩);rfl) rfl ?_));all_goals try conv=>whnf
  ·have h1:=‹zhr p a k c &&& ~~~s=0#64›
   refine ⟨(k+1,_),[(0,0)],[],?_,?_,by (refine ⟨rfl,rfl,rfl,?_,?_⟩;repeat' first|exact trivial|exact rfl|refine And.intro ?_ ?_|refine ⟨_,rfl,?_⟩|decide)⟩
   ·exact ⟨by (omega),by rw [zL,if_pos (decide_eq_true h1),hI];rfl⟩
   ·((simp only [vM] at *;omega))
  ·have h1:=‹¬zhr p a k c &&& ~~~s=0#64›
   exact ⟨(k+1,o),[(0,0)],[],⟨by (omega),by rw [zL,if_neg (by simpa using h1),hI]⟩,by ((simp only [vM] at *;omega)),by (refine ⟨rfl,rfl,rfl,?_,?_⟩;repeat' first|exact trivial|exact rfl|refine And.intro ?_ ?_|refine ⟨_,rfl,?_⟩|decide)⟩
  all_goals omega
 ·(repeat' ((conv=>whnf);first|refine vA ?_|(refine vF ?_ ?_<;>intro hc<;>try simp only [vL] at hc)|refine vT ?_|refine vY ?_));all_goals try conv=>whnf
  ·omega
  ·rw [hI,show k=p.W.toNat by omega];rfl
end Go.Ab
namespace Go.Ab
open Go Go.Proofs
set_option maxRecDepth 10000
set_option maxHeartbeats 4000000
variable {T:Nat→Obj→Prop}
def zoS (p:PM) (a w:Nat):BitVec 64:=zL (fun v=>decide (at0 (za p.cell a) v=at0 (za p.cell a) w∧at0 (za p.rank a) v≤at0 (za p.rank a) w)) p.W.toNat
theorem zud (p:PM) (hp:zav p.rank) (a w:Nat) (hat:At p a w):Fn Tryz.prog T zeO [.d (dPM p),.d (.int .i64 (a:Int)),.d (.int .i64 (w:Int))] [] (.d (.u64 (zoS p a w))) []:=by
 obtain ⟨hrow,hrank,hlen,hlen',h64,ha,-⟩:=hat.rows
 have hw1:=hat.w1
 rw [Int.toNat_natCast] at hrow hrank hlen hlen'
 refine zj zz zj8 (by show 3≤56;decide) ?_
 (repeat' ((conv=>whnf);first|refine vA ?_|refine vT ?_));all_goals try conv=>whnf
 refine zu (fun ((k,o):Nat×BitVec 64)=>[(1,.d (.int .i64 ((a:Int)))),(2,.d (.int .i64 ((w:Int)))),(3,.ptr 0 0),(7,.d (.u64 (o))),(8,.d (.int .i64 ((k:Int))))]) (fun ((k,o):Nat×BitVec 64)=>[(0,some (zaD p))]) 1 (fun ((k,o):Nat×BitVec 64)=>k≤p.W.toNat∧o=zL (fun v=>decide (at0 (za p.cell a) v=at0 (za p.cell a) w∧at0 (za p.rank a) v≤at0 (za p.rank a) w)) k) (fun ((k,o):Nat×BitVec 64)=>p.W.toNat - k) ((0,0#64)) [(0,0)] [] (⟨by simp,rfl⟩) (by (refine ⟨rfl,rfl,rfl,?_,?_⟩;repeat' first|exact trivial|exact rfl|refine And.intro ?_ ?_|refine ⟨_,rfl,?_⟩|decide)) ?_
 rintro ⟨k,o⟩ ⟨hk,hI⟩
 by_cases hkW:(k:Int) < p.W
 ·obtain ⟨x1,e1⟩ : ∃ x,(za p.cell a)[k]? = some x:=⟨_,List.getElem?_eq_getElem (by omega)⟩
  obtain ⟨x2,e2⟩ : ∃ x,(za p.cell a)[w]? = some x:=⟨_,List.getElem?_eq_getElem (by omega)⟩
  obtain ⟨x3,e3⟩ : ∃ x,(za p.rank a)[k]? = some x:=⟨_,List.getElem?_eq_getElem (by omega)⟩
  obtain ⟨x4,e4⟩ : ∃ x,(za p.rank a)[w]? = some x:=⟨_,List.getElem?_eq_getElem (by omega)⟩
  have f1:=zw e1
  have f2:=zw e2
  have f3:=zw e3
  have f4:=zw e4
  (repeat' ((conv=>whnf);first|refine vA ?_|(refine vF ?_ ?_<;>intro hc<;>try simp only [vL] at hc)|refine vT ?_|refine vN ‹_› ?_|((first|refine vO ?_ ?_|refine vP ?_ ?_);·omega)|(refine vU ?_ ?_;·kernel_rfl)|refine vY ?_));all_goals try conv=>whnf
  ·refine ⟨(k+1,_),[(0,0)],[],?_,?_,by (refine ⟨rfl,rfl,rfl,?_,?_⟩;repeat' first|exact trivial|exact rfl|refine And.intro ?_ ?_|refine ⟨_,rfl,?_⟩|decide)⟩
   ·exact ⟨by (omega),by rw [zL,if_pos (decide_eq_true ⟨by omega,by omega⟩),hI];rfl⟩
   ·((simp only [vM] at *;omega))
  ·exact ⟨(k+1,o),[(0,0)],[],⟨by (omega),by rw [zL,if_neg (by rw [decide_eq_true_eq];omega),hI]⟩,by ((simp only [vM] at *;omega)),by (refine ⟨rfl,rfl,rfl,?_,?_⟩;repeat' first|exact trivial|exact rfl|refine And.intro ?_ ?_|refine ⟨_,rfl,?_⟩|decide)⟩
  ·exact ⟨(k+1,o),[(0,0)],[],⟨by (omega),by rw [zL,if_neg (by rw [decide_eq_true_eq];omega),hI]⟩,by ((simp only [vM] at *;omega)),by (refine ⟨rfl,rfl,rfl,?_,?_⟩;repeat' first|exact trivial|exact rfl|refine And.intro ?_ ?_|refine ⟨_,rfl,?_⟩|decide)⟩
  all_goals omega
 ·(repeat' ((conv=>whnf);first|refine zE.decN (by omega) ?_|refine vA ?_|refine vT ?_|refine vY ?_));all_goals try conv=>whnf
  rw [hI,show k=p.W.toNat by omega];rfl
theorem zsO (p:PM) (hp:zav p.rank) (hc0:zp p=0) (a:Nat) (ha:a < p.cell.length) (s:BitVec 64):Fn Tryz.prog T zel [.d (dPM p),.d (.int .i64 (a:Int)),.d (.u64 s)] [] (.d (.u64 (zbU p a s))) []:=by
 have hgd:=zS hc0
 have h2:=hgd.w2
 have e:zbU p a s=zL (fun w=>decide (zoS p a w &&& ~~~s=0#64)) p.W.toNat:=by
  refine zhH fun w=>?_
  rw [zgu hc0 ha,zdX (W64 hc0)]
  refine and_congr_right fun hw=>?_
  rw [zft]
  unfold zoS
  constructor
  ·intro h v hv
   rw [zdX (W64 hc0)] at hv
   exact h v ⟨hv.1,hv.2.1⟩ hv.2.2
  ·intro h v hv hr
   exact h v ((zdX (W64 hc0)).2 ⟨hv.1,hv.2,hr⟩)
 rw [e]
 refine zj zz ziB (by show 3≤27;decide) ?_
 (repeat' ((conv=>whnf);first|refine vA ?_|refine vT ?_));all_goals try conv=>whnf
 refine zu (fun ((k,o):Nat×BitVec 64)=>[(1,.d (.int .i64 ((a:Int)))),(2,.d (.u64 (s))),(3,.ptr 0 0),(7,.d (.u64 (o))),(8,.d (.int .i64 ((k:Int))))]) (fun ((k,o):Nat×BitVec 64)=>[(0,some (zaD p))]) 1 (fun ((k,o):Nat×BitVec 64)=>k≤p.W.toNat∧o=zL (fun w=>decide (zoS p a w &&& ~~~s=0#64)) k) (fun ((k,o):Nat×BitVec 64)=>p.W.toNat - k) ((0,0#64)) [(0,0)] [] (⟨by simp,rfl⟩) (by (refine ⟨rfl,rfl,rfl,?_,?_⟩;repeat' first|exact trivial|exact rfl|refine And.intro ?_ ?_|refine ⟨_,rfl,?_⟩|decide)) ?_
 rintro ⟨k,o⟩ ⟨hk,hI⟩
 by_cases hkW:k < p.W.toNat
 ·have hat:At p a k:=⟨hc0,by omega,by omega,by omega,by omega⟩
  (repeat' ((conv=>whnf);first|refine vA ?_|(refine vF ?_ ?_<;>intro hc<;>try simp only [vL] at hc)|refine vT ?_|((first|refine vO ?_ ?_|refine vP ?_ ?_);·omega)|refine vY ?_|refine yD (zud p hp a k hat) ⟨⟨rfl,rfl⟩,⟨rfl,rfl⟩,⟨rfl,rfl⟩,rfl⟩ rfl ?_));all_goals try conv=>whnf
  ·refine ⟨(k+1,_),[(0,0)],[],?_,?_,by (refine ⟨rfl,rfl,rfl,?_,?_⟩;repeat' first|exact trivial|exact rfl|refine And.intro ?_ ?_|refine ⟨_,rfl,?_⟩|decide)⟩
   ·exact ⟨by (omega),by rw [zL,if_pos (decide_eq_true ‹_›),hI];rfl⟩
   ·((simp only [vM] at *;omega))
  ·exact ⟨(k+1,o),[(0,0)],[],⟨by (omega),by rw [zL,if_neg (by simpa using ‹¬_›),hI]⟩,by ((simp only [vM] at *;omega)),by (refine ⟨rfl,rfl,rfl,?_,?_⟩;repeat' first|exact trivial|exact rfl|refine And.intro ?_ ?_|refine ⟨_,rfl,?_⟩|decide)⟩
  all_goals omega
 ·(repeat' ((conv=>whnf);first|refine zE.decN (by omega) ?_|refine vA ?_|refine vT ?_|refine vY ?_));all_goals try conv=>whnf
  rw [hI,show k=p.W.toNat by omega]
def zeo (p:PM) (a:Nat):List (BitVec 64):=(List.range p.W.toNat).map fun (w:Nat)=>zan p a w
def z8 (p:PM):KM:=⟨p.W,p.val,(List.range p.cell.length).map (zeo p)⟩
theorem zt8 (p:PM) (hp:zav p.rank) (hc0:zp p=0):Fn Tryz.prog T zdr [.d (dPM p)] [] (.d (dKM (z8 p))) []:=by
 have hgd:=zS hc0
 have h1:=hgd.w1
 have h2:=hgd.w2
 have n4:=hgd.n4
 have v8:=hgd.v8
 refine zj zz zg9 (by show 1≤55;decide) ?_
 (repeat' ((conv=>whnf);first|refine vA ?_|refine vT ?_));all_goals try conv=>whnf
 refine zu (fun ((k,zs):Nat×List D)=>[(1,.ptr 0 0),(2,.ptr 1 0),(3,.ptr 2 0),(4,.d (.int .i64 ((k:Int))))]) (fun ((k,zs):Nat×List D)=>[(0,some (zaD p)),(1,some (.box [.d (.int .i64 0),.nils 1,.nils 1])),(2,some (.box [.d (.int .i64 p.W),.own 3,.nils 1])),(3,some (.row 1 zs))]) 4 (fun ((k,zs):Nat×List D)=>k≤p.val.length∧zs=(p.val.take k).map D.u64) (fun ((k,zs):Nat×List D)=>p.val.length - k) ((0,[])) [(0,0),(1,1),(2,2)]   [3] (⟨by simp,rfl⟩) (by (refine ⟨rfl,rfl,rfl,?_,?_⟩;repeat' first|exact trivial|exact rfl|exact ⟨_,rfl⟩|refine And.intro ?_ ?_|refine ⟨_,rfl,?_⟩|decide)) ?_
 rintro ⟨k,zs⟩ ⟨hk,hI⟩
 have hzl:zs.length≤8:=by rw [hI];simp;omega
 (repeat' ((conv=>whnf);first|refine vA ?_|(refine vF ?_ ?_<;>intro hc<;>try simp only [vL] at hc)|refine vJ fun hg=>?_|refine vT ?_|(refine vQ ?_ fun x hx=>?_;·omega)|((first|refine vO ?_ ?_|refine vP ?_ ?_);·first|omega|(simp only [vM] at *;omega))|(refine vU ?_ ?_;·kernel_rfl)|fail));all_goals try conv=>whnf
 ·refine ⟨(k+1,_),[(0,0),(1,1),(2,2),(3,5)],[],?_,?_,by (refine ⟨rfl,rfl,rfl,?_,?_⟩;repeat' first|exact trivial|exact rfl|refine And.intro ?_ ?_|refine ⟨_,rfl,?_⟩|decide)⟩
  ·exact ⟨by (omega),by rw [List.take_add_one,List.map_append,hI,hx];rfl⟩
  ·((simp only [vM] at *;omega))
 ·rw [show k=p.val.length by omega,List.take_length] at hI
  subst hI
  refine zu (fun ((a,rs):Nat×List D)=>[(1,.ptr 0 0),(2,.ptr 1 0),(3,.ptr 2 0),(5,.d (.int .i64 ((a:Int))))]) (fun ((a,rs):Nat×List D)=>[(0,some (zaD p)),(1,some (.box [.d (.int .i64 0),.nils 1,.nils 1])),(2,some (.box [.d (.int .i64 p.W),.own 3,.own 4])),(3,some (.row 1 (p.val.map D.u64))),(4,some (.row 1 rs))]) 5 (fun ((a,rs):Nat×List D)=>a≤p.cell.length∧rs=((List.range a).map (zeo p)).map dU) (fun ((a,rs):Nat×List D)=>p.cell.length - a) ((0,[])) [(0,0),(1,1),(2,2),(3,3)]   [4] (⟨by simp,rfl⟩) (by (refine ⟨rfl,rfl,rfl,?_,?_⟩;repeat' first|exact trivial|exact rfl|exact ⟨_,rfl⟩|refine And.intro ?_ ?_|refine ⟨_,rfl,?_⟩|decide)) ?_
  rintro ⟨a,rs⟩ ⟨ha,hR⟩
  have hrl:rs.length≤8:=by rw [hR];simp;omega
  (repeat' ((conv=>whnf);first|refine vA ?_|(refine vF ?_ ?_<;>intro hc<;>try simp only [vL] at hc)|refine vJ fun hg=>?_|refine vT ?_));all_goals try conv=>whnf
  ·refine zu (fun ((w,zs):Nat×List D)=>[(1,.ptr 0 0),(2,.ptr 1 0),(3,.ptr 2 0),(5,.d (.int .i64 ((a:Int)))),(6,.own 5),(7,.d (.int .i64 ((w:Int))))]) (fun ((w,zs):Nat×List D)=>[(0,some (zaD p)),(1,some (.box [.d (.int .i64 0),.nils 1,.nils 1])),(2,some (.box [.d (.int .i64 p.W),.own 3,.own 4])),(3,some (.row 1 (p.val.map D.u64))),(4,some (.row 1 rs)),(5,some (.row 1 zs))]) 6 (fun ((w,zs):Nat×List D)=>w≤p.W.toNat∧zs=((List.range w).map fun (w:Nat)=>zan p a w).map D.u64) (fun ((w,zs):Nat×List D)=>p.W.toNat - w) ((0,[])) [(0,0),(1,1),(2,2),(3,3),(4,4)]   [5] (⟨by simp,rfl⟩) (by (refine ⟨rfl,rfl,rfl,?_,?_⟩;repeat' first|exact trivial|exact rfl|exact ⟨_,rfl⟩|refine And.intro ?_ ?_|refine ⟨_,rfl,?_⟩|decide)) ?_
   rintro ⟨w,zs⟩ ⟨hw,hZ⟩
   have hzw:zs.length≤64:=by rw [hZ];simp;omega
   by_cases hwW:w < p.W.toNat
   ·have hat:At p a w:=⟨hc0,by omega,by omega,by omega,by omega⟩
    (repeat' ((conv=>whnf);first|refine zE.decY (by omega) ?_|refine vA ?_|refine vT ?_|((first|refine vO ?_ ?_|refine vP ?_ ?_);·first|omega|(simp only [vM] at *;omega))|refine yD (zpI p hp a w hat) ⟨⟨rfl,rfl⟩,⟨rfl,rfl⟩,⟨rfl,rfl⟩,rfl⟩ rfl ?_));all_goals try conv=>whnf
    refine ⟨(w+1,_),[(0,0),(1,1),(2,2),(3,3),(4,4),(5,7)],[],?_,?_,by (refine ⟨rfl,rfl,rfl,?_,?_⟩;repeat' first|exact trivial|exact rfl|refine And.intro ?_ ?_|refine ⟨_,rfl,?_⟩|decide)⟩
    ·exact ⟨by (omega),by rw [List.range_succ,List.map_append,List.map_append,hZ];rfl⟩
    ·((simp only [vM] at *;omega))
   ·(repeat' ((conv=>whnf);first|refine zE.decN (by omega) ?_|refine vA ?_|refine vT ?_|((first|refine vO ?_ ?_|refine vP ?_ ?_);·first|omega|(simp only [vM] at *;omega))|fail));all_goals try conv=>whnf
    have ew:w=p.W.toNat:=by omega
    subst ew
    refine ⟨(a+1,_),[(0,0),(1,1),(2,2),(3,3),(4,7)],[],?_,?_,by (refine ⟨rfl,rfl,rfl,?_,?_⟩;repeat' first|exact trivial|exact rfl|refine And.intro ?_ ?_|refine ⟨_,rfl,?_⟩|decide)⟩
    ·exact ⟨by (omega),by rw [List.range_succ,List.map_append,List.map_append,hR,hZ];rfl⟩
    ·((simp only [vM] at *;omega))
  ·have ea:a=p.cell.length:=by omega
   subst ea
   subst hR
   rfl
end Go.Ab
namespace Go.Ab
def zb2 (k:Nat) (n:Nd):Nd := { n with x:=if zR n.op=true then n.x+k else n.x,y:=if zD n.op=true then n.y+k else n.y }
def zc7 (f c:List Nd):List Nd:=f++c.map (zb2 f.length)
theorem zum {n:Nd} {j:Int} {k:Nat} (hj:0≤j) (h:zb9 n j=0):zb9 (zb2 k n) (k+j)=0:=by
 obtain ⟨h1,h2,h3,h4,h5⟩:=zbJ.1 h
 refine zbJ.2 ⟨h1,fun e=>?_,fun e=>?_,fun e=>?_,fun e=>?_⟩
 ·have e:zR n.op=true:=e
  have:=h2 e
  simp only [zb2,e,if_true];omega
 ·have e:zR n.op=false:=e
  have:=h3 e
  simp only [zb2,e];simpa using this
 ·have e:zD n.op=true:=e
  have:=h4 e
  simp only [zb2,e,if_true];omega
 ·have e:zD n.op=false:=e
  have:=h5 e
  simp only [zb2,e];simpa using this
theorem zpq {f c:List Nd} (hf:zam f) (hc:zam c):zam (zc7 f c):=by
 intro k n hk
 unfold zc7 at hk
 rw [List.getElem?_append] at hk
 split at hk
 ·exact hf k n hk
 ·rename_i h
  rw [List.getElem?_map,Option.map_eq_some_iff] at hk
  obtain ⟨m,hm,rfl⟩:=hk
  have:=zum (k:=f.length) (by omega) (hc _ m hm)
  rwa [show ((f.length:Nat):Int)+((k - f.length:Nat):Int)=k by omega] at this
theorem zhp {f c:List Nd} (hf:zam f) (hc:zam c) : ∀ (m j:Nat),j < m→j < c.length→zW (zc7 f c) (f.length+j)=zW c j
 | 0,j,h,_=>by omega
 | m+1,j,h,hj=>by
  have ho:=zpq hf hc
  have hl:f.length+j < (zc7 f c).length:=by simp [zc7];omega
  have hg:(zc7 f c).getD (f.length+j) default=zb2 f.length (c.getD j default):=by
   simp [zc7,List.getD,hj]
  rw [zdI ho hl,zdI hc hj,hg]
  have eo:(zb2 f.length (c.getD j default)).op=(c.getD j default).op:=rfl
  have eh:(zb2 f.length (c.getD j default)).hd=(c.getD j default).hd:=rfl
  rw [eo,eh]
  cases hy:zD (c.getD j default).op with
  | true =>
   have hx:=zac hy
   have e1:=zaX hc hj hx
   have e2:=zdv hc hj hy
   have x1:(zb2 f.length (c.getD j default)).x.toNat=f.length+(c.getD j default).x.toNat:=by simp only [zb2,hx,if_true];omega
   have y1:(zb2 f.length (c.getD j default)).y.toNat=f.length+(c.getD j default).y.toNat:=by simp only [zb2,hy,if_true];omega
   simp only [cond_true]
   rw [x1,y1,zhp hf hc m _ (by omega) (by omega),zhp hf hc m _ (by omega) (by omega)]
  | false =>
   cases hx:zR (c.getD j default).op with
   | true =>
    have e1:=zaX hc hj hx
    have x1:(zb2 f.length (c.getD j default)).x.toNat=f.length+(c.getD j default).x.toNat:=by simp only [zb2,hx,if_true];omega
    simp only [cond_true,cond_false]
    rw [x1,zhp hf hc m _ (by omega) (by omega)]
   | false=>rfl
def zo1:Nat→List Nd→Nd→List (List Nd)→Option (Nd×List Nd)
 | _,f,x,[]=>some (x,f)
 | k,f,x,o::r=>if zbt o≠0 then none else
  zo1 (k+1) (zc7 f (cL o)) (if k=0 then { x with x:=((zc7 f (cL o)).length:Int) - 1 } else { x with y:=((zc7 f (cL o)).length:Int) - 1 }) r
def zgF (x:Nd) (f:List Nd):List Nd:=if zb9 x f.length≠0 then [] else if 200 < (zbF (f++[x]) f.length).length then [] else zbF (f++[x]) f.length
def zkX (x:Nd) (os:List (List Nd)):List Nd:=match zo1 0 [] x os with
 | none=>[]
 | some (x,f)=>zgF x f
structure IsF (f:List Nd) (t:Tm):Prop where
 ok:zbt f=0
 tree:zW f (f.length - 1)=t
theorem zvt {f:List Nd} (h:zbt f=0):IsF f (zW f (f.length - 1)):=⟨h,rfl⟩
theorem IsF.canon {f:List Nd} {t:Tm} (h:IsF f t):zmn t (cL f)∧(cL f).length≤f.length:=by
 have:=zjd h.ok
 rwa [h.tree] at this
theorem IsF.tok {f:List Nd} {t:Tm} (h:IsF f t):t.ok:=by
 obtain ⟨h1,h2,h3⟩:=zgE.1 h.ok
 rw [← h.tree]
 exact zgL h3 f.length _ (by omega) (by omega)
theorem zt4 {x:Nd} {f:List Nd} (hf:zam f) (hx:zb9 x f.length=0) (hl:f.length≤199):IsF (zgF x f) (zW (f++[x]) f.length)∧(zgF x f).length≤f.length+1:=by
 have hok:zam (f++[x]):=by
  intro k n hk
  rw [List.getElem?_append] at hk
  split at hk
  ·exact hf k n hk
  ·rename_i h1
   have:k=f.length:=by have:=(List.getElem?_eq_some_iff.1 hk).1;simp at this;omega
   subst this
   simp at hk;subst hk;exact hx
 have hlt:f.length < (f++[x]).length:=by simp
 have h1:=zia hok hlt
 have h2:=(zhM hok hlt).2.1
 simp only [List.length_append,List.length_cons,List.length_nil] at h2
 have e:zgF x f=zbF (f++[x]) f.length:=by
  unfold zgF
  rw [if_neg (by omega),if_neg (by omega)]
 rw [e]
 exact ⟨⟨zgE.2 ⟨h1.pos,by omega,h1.ok⟩,h1.tree⟩,h2⟩
theorem zyT {x:Nd} {f:List Nd} (hf:zam f) (hx:zb9 x f.length=0):zW (f++[x]) f.length=cond (zD x.op) (.b x.hd (zW f x.x.toNat) (zW f x.y.toNat)) (cond (zR x.op) (.u x.hd (zW f x.x.toNat)) (.z x.hd)):=by
 have hok:zam (f++[x]):=by
  intro k n hk
  rw [List.getElem?_append] at hk
  split at hk
  ·exact hf k n hk
  ·rename_i h1
   have:k=f.length:=by have:=(List.getElem?_eq_some_iff.1 hk).1;simp at this;omega
   subst this
   simp at hk;subst hk;exact hx
 have hg:(f++[x]).getD f.length default=x:=by simp [List.getD]
 obtain ⟨-,h2,-,h4,-⟩:=zbJ.1 hx
 rw [zdI hok (by simp),hg]
 cases hy:zD x.op with
 | true =>
  have hxx:=zac hy
  have e1:=h2 hxx
  have e2:=h4 hy
  simp only [cond_true]
  rw [zaR hf (by omega),zaR hf (by omega)]
 | false =>
  cases hxx:zR x.op with
  | true =>
   have e1:=h2 hxx
   simp only [cond_true,cond_false]
   rw [zaR hf (by omega)]
  | false=>rfl
theorem zuV {h:Hd} (hh:zet h) (hx:zR h.op=true) (hy:zD h.op=false) {o:List Nd} {t:Tm} (ho:IsF o t) (hl:o.length≤199):IsF (zkX ⟨h.op,h.i,h.e,h.g,0,0⟩ [o]) (.u h t)∧(zkX ⟨h.op,h.i,h.e,h.g,0,0⟩ [o]).length≤o.length+1:=by
 obtain ⟨c1,c2⟩:=ho.canon
 have hp:=c1.pos
 have e0:(zc7 [] (cL o)).length=(cL o).length:=by simp [zc7]
 have hok:=zpq zfn c1.ok
 have ht:zW (zc7 [] (cL o)) ((cL o).length - 1)=t:=by
  have:=zhp (f:=[]) zfn c1.ok (cL o).length ((cL o).length - 1) (by omega) (by omega)
  rw [List.length_nil,Nat.zero_add] at this
  rw [this];exact c1.tree
 have hn:zb9 ⟨h.op,h.i,h.e,h.g,((zc7 [] (cL o)).length:Int) - 1,0⟩ (zc7 [] (cL o)).length=0:=zbJ.2 ⟨hh,fun _=>by simp only;omega,fun e=>by simp [hx] at e,fun e=>by simp [hy] at e,fun _=>rfl⟩
 have e:zkX ⟨h.op,h.i,h.e,h.g,0,0⟩ [o]=zgF ⟨h.op,h.i,h.e,h.g,((zc7 [] (cL o)).length:Int) - 1,0⟩ (zc7 [] (cL o)):=by
  simp [zkX,zo1,ho.ok]
 have h1:=zt4 hok hn (by omega)
 rw [zyT hok hn] at h1
 simp only [hx,hy,cond_false,cond_true] at h1
 rw [show (((zc7 [] (cL o)).length:Int) - 1).toNat=(cL o).length - 1 by omega,ht] at h1
 rw [e]
 exact ⟨h1.1,by have:=h1.2;omega⟩
end Go.Ab
namespace Go.Ab
open Go
def zqC (h:Hd):Prop := ∀ i,(zaM h).testBit i=true→(59:Nat).testBit i=true
def zhI (p:PM) (h:Hd):Prop:=zaf h < 2 ^ p.cell.length∧zbb h < 2 ^ p.val.length
theorem zrW {c:List Nd} {t:Tm} (hc:zmn t c):zaK .i64 (fun p q=>p &&& ~~~q) (uni zaM c:Int) 59=0↔t.all zqC:=by
 have hu:uni zaM c < 2 ^ 63:=Nat.lt_trans ((zdZ zaM).2 fun n _=>zg7 n.hd) (by decide)
 have:=zhJ (b:=59) hu (by decide)
 rw [show ((59:Nat):Int)=59 from rfl] at this
 rw [this,← hc.all]
 constructor
 ·intro h n hn i hi
  exact h i (by rw [zgP];exact List.any_eq_true.2 ⟨n,hn,hi⟩)
 ·intro h i hi
  rw [zgP,List.any_eq_true] at hi
  obtain ⟨n,hn,hi⟩:=hi
  exact h n hn i hi
theorem zmr {p q:Hd→Prop} : ∀ {t:Tm},t.all (fun h=>p h∧q h)↔t.all p∧t.all q
 | .z h=>Iff.rfl
 | .u h x=>by
  simp only [Tm.all,zmr (t:=x)]
  exact ⟨fun ⟨⟨a,b⟩,c,d⟩=>⟨⟨a,c⟩,b,d⟩,fun ⟨⟨a,c⟩,b,d⟩=>⟨⟨a,b⟩,c,d⟩⟩
 | .b h x y=>by
  simp only [Tm.all,zmr (t:=x),zmr (t:=y)]
  exact ⟨fun ⟨⟨a,b⟩,⟨c,d⟩,e,f⟩=>⟨⟨a,c,e⟩,b,d,f⟩,fun ⟨⟨a,c,e⟩,b,d,f⟩=>⟨⟨a,b⟩,⟨c,d⟩,e,f⟩⟩
theorem zrA {p:PM} (hg:zww p) {f:List Nd} {t:Tm} (hf:IsF f t):zde f p.cell.length p.val.length=true↔t.all (zhI p):=by
 have h4:=hg.n4
 have h8:=hg.v8
 have hc:=hf.canon.1
 unfold zhI
 rw [zmr,← hc.all,← hc.all,← zdZ zaf,← zdZ zbb]
 simp only [zde,zfM,Bool.and_eq_true,decide_eq_true_eq,Int.toNat_natCast]
 constructor
 ·rintro ⟨⟨-,h1⟩,h2⟩
  exact ⟨h1.resolve_left (by omega),h2.resolve_left (by omega)⟩
 ·rintro ⟨h1,h2⟩
  exact ⟨⟨hf.ok,.inr h1⟩,.inr h2⟩
theorem zrP {p:PM} {f:List Nd} {t:Tm} (hf:IsF f t) (hc0:zp p=0) (h1:t.all zqC) (h2:t.all (zhI p)):zch p f=(ev (zau p) 0#64 t,0):=by
 have hc:=hf.canon.1
 have hg:=zS hc0
 rw [zch,if_neg (not_not_intro hc0),if_neg (not_not_intro hf.ok),if_neg (not_not_intro ((zrW hc).2 h1)),if_neg (by rw [(zrA hg hf).2 h2];decide),zqb (zql p) hc]
structure OkT (p:PM) (f:List Nd) (t:Tm):Prop where
 isF:IsF f t
 lang:t.all zqC
 fit:t.all (zhI p)
theorem OkT.holds {p:PM} {f:List Nd} {t:Tm} (h:OkT p f t) (hc0:zp p=0):zch p f=(ev (zau p) 0#64 t,0):=zrP h.isF hc0 h.lang h.fit
theorem OkT.unary {p:PM} {f:List Nd} {t:Tm} (hf:OkT p f t) {h:Hd} (hh:zet h) (hx:zR h.op=true) (hy:zD h.op=false) (ha:zqC h) (hp:zhI p h) (hl:f.length≤199) :
  OkT p (zkX ⟨h.op,h.i,h.e,h.g,0,0⟩ [f]) (.u h t):=⟨(zuV hh hx hy hf.isF hl).1,⟨ha,hf.lang⟩,⟨hp,hf.fit⟩⟩
end Go.Ab
namespace Go.Ab
open Go Go.Proofs
set_option maxRecDepth 10000
set_option maxHeartbeats 4000000
variable {T:Nat→Obj→Prop}
section
variable {p:PM} (hc0:zp p=0)
include hc0
theorem zzd {s:BitVec 64} (h : ∀ i,s.getLsbD i=true→i < p.W.toNat):bad p.W s=false:=by
 have:s &&& ~~~zaq p.W=0#64:=zft.2 fun i hi=>(zc2 hc0).2 (h i hi)
 simp [bad,this]
theorem zoy {a w:Nat} (hw:w < p.W.toNat):(zeo p a).getD w 0#64=zan p a w:=zaO (by simp [zeo,hw])
theorem zrU {a w:Nat} (ha:a < p.cell.length) (hw:w < p.W.toNat):zeW (z8 p) a w=zan p a w:=by
 rw [zeW,show (z8 p).rel.getD a []=zeo p a from zaO (by simp [z8,ha]),zoy hc0 hw]
theorem zpT:zbh (z8 p)=0:=by
 have hg:=zS hc0
 have h1:=hg.w1
 have h2:=hg.w2
 have e1:(z8 p).rel.any (fun r=>decide ((r.length:Int)≠(z8 p).W))=false:=by
  rw [List.any_eq_false]
  intro r hr
  obtain ⟨a,-,rfl⟩:=List.mem_map.1 hr
  simp [zeo,z8];omega
 have e2:(z8 p).val.any (bad (z8 p).W)=false:=by
  rw [List.any_eq_false]
  intro s hs
  show ¬bad p.W s=true
  rw [hg.val s hs];simp
 have e3:(z8 p).rel.any (fun r=>r.any (bad (z8 p).W))=false:=by
  rw [List.any_eq_false]
  intro r hr
  obtain ⟨a,ha,rfl⟩:=List.mem_map.1 hr
  rw [Bool.not_eq_true,List.any_eq_false]
  intro s hs
  obtain ⟨w,hw,rfl⟩:=List.mem_map.1 hs
  rw [List.mem_range] at ha hw
  rw [Bool.not_eq_true]
  exact zzd hc0 fun i hi=>((za8 hc0 ha hw).1 hi).1
 have n4:=hg.n4
 have v8:=hg.v8
 rw [zbh,if_neg (by show ¬(p.W < 1∨64 < p.W);omega),if_neg (by show ¬(4 < ((List.range p.cell.length).map (zeo p)).length∨8 < p.val.length);simp;omega),e1,e2,e3]
 rfl
theorem zwP {a:Nat} (ha:a < p.cell.length) (s:BitVec 64):zex ((z8 p).rel.getD a []) p.W.toNat s=zbM p a s:=by
 rw [show (z8 p).rel.getD a []=zeo p a from zaO (by simp [z8,ha])]
 refine zhH fun w=>?_
 unfold zex zbM
 rw [zdX (W64 hc0),zdX (W64 hc0)]
 refine and_congr_right fun hw=>?_
 rw [zoy hc0 hw]
theorem zjI {g w v:Nat} (h1:1≤g) (h2:g < 2 ^ p.cell.length) (hw:w < p.W.toNat):((zcs (z8 p) g false).getD w 0#64).getLsbD v=true↔Suc p g w v:=by
 have el:(z8 p).rel.length=p.cell.length:=by simp [z8]
 rw [zvq (zpT hc0) h1 (by rw [el];exact h2) hw,zjH,el]
 constructor
 ·rintro ⟨a,ha,hga,hv⟩
  rw [zrU hc0 ha hw] at hv
  exact ⟨hw,a,ha,hga,(za8 hc0 ha hw).1 hv⟩
 ·rintro ⟨-,a,ha,hga,hv⟩
  exact ⟨a,ha,hga,by rw [zrU hc0 ha hw];exact (za8 hc0 ha hw).2 hv⟩
theorem zuU {g:Nat} (h1:1≤g) (h2:g < 2 ^ p.cell.length) (s:BitVec 64):zex (zcs (z8 p) g false) p.W.toNat s=zeA p g s:=by
 refine zhH fun w=>?_
 unfold zex
 rw [zdX (W64 hc0),zhu hc0]
 refine and_congr_right fun hw=>?_
 rw [zft]
 exact forall_congr' fun v=>by rw [zjI hc0 h1 h2 hw]
theorem ztS {g:Nat} (h1:1≤g) (h2:g < 2 ^ p.cell.length) (c s:BitVec 64):ztR (zcs (z8 p) g false) p.W.toNat c s=zc3 p g c s:=by
 have hs : ∀ v u,zdy (zcs (z8 p) g false) p.W.toNat c v u↔Suc p g v u∧c.getLsbD u=true:=fun v u=>by
  unfold zdy
  rw [BitVec.getLsbD_and,Bool.and_eq_true]
  constructor
  ·rintro ⟨hv,h,hc⟩;exact ⟨(zjI hc0 h1 h2 hv).1 h,hc⟩
  ·rintro ⟨h,hc⟩;exact ⟨h.1,(zjI hc0 h1 h2 h.1).2 h,hc⟩
 have hB:zgy (zcs (z8 p) g false) p.W.toNat:=fun v u hv hu=>((zjI hc0 h1 h2 hv).1 hu).lt
 refine zhH fun w=>?_
 unfold ztR
 rw [zdX (W64 hc0),zcR hc0]
 refine and_congr_right fun hw=>?_
 rw [zft]
 refine forall_congr' fun v=>?_
 rw [zp7 (W64 hc0) hB]
 refine imp_congr ⟨fun h=>?_,fun h=>?_⟩ Iff.rfl
 ·induction h with
  | base h=>exact .base ((hs _ _).1 h).1 ((hs _ _).1 h).2
  | step _ h ih=>exact .step ih ((hs _ _).1 h).1 ((hs _ _).1 h).2
 ·induction h with
  | base h hc=>exact .base ((hs _ _).2 ⟨h,hc⟩)
  | step _ h hc ih=>exact .step ih ((hs _ _).2 ⟨h,hc⟩)
theorem zyO {n:Hd} {x y:BitVec 64} (hop:1≤n.op∧n.op≤13∧n.op≠12) (h9:n.op=9∨n.op=10→0≤n.i∧n.i < p.cell.length) (h11:11≤n.op→1≤n.g∧n.g.toNat < 2 ^ p.cell.length):zkd (z8 p) n x y=zau p n x y:=by
 obtain ⟨o1,o2,o3⟩:=hop
 have hcase:n.op=1∨n.op=2∨n.op=3∨n.op=4∨n.op=5∨n.op=6∨n.op=7∨n.op=8∨n.op=9∨n.op=10∨n.op=11∨n.op=13:=by omega
 have hb:n.op=9∨n.op=10 → ∀ s,zex ((z8 p).rel.getD n.i.toNat []) (z8 p).W.toNat s=zbM p n.i s:=fun h s=>by
  obtain ⟨i0,i1⟩:=h9 h
  have:=zwP hc0 (a:=n.i.toNat) (by omega) s
  rwa [show ((n.i.toNat:Nat):Int)=n.i by omega] at this
 unfold zkd zau zqJ
 rcases hcase with h|h|h|h|h|h|h|h|h|h|h|h
 all_goals simp only [h]
 all_goals first|rfl|skip
 ·exact hb (.inl h) x
 ·show zaq p.W &&& ~~~_=_
  rw [hb (.inr h)];rfl
 ·obtain ⟨g1,g2⟩:=h11 (by omega)
  exact zuU hc0 (by omega) g2 x
 ·obtain ⟨g1,g2⟩:=h11 (by omega)
  exact ztS hc0 (by omega) g2 x y
end
end Go.Ab
namespace Go.Ab
open Go Go.Proofs
set_option maxRecDepth 10000
set_option maxHeartbeats 4000000
set_option maxHeartbeats 40000000
variable {T:Nat→Obj→Prop}
theorem zwq (p:PM) (n:Nd) (a b:BitVec 64):zau p n.hd (cond (zR n.op) a 0#64) (cond (zD n.op) b 0#64)=zau p n.hd a b:=by
 have hu:=zql p
 have h1:zau p n.hd (cond (zR n.op) a 0#64) (cond (zD n.op) b 0#64)=zau p n.hd a (cond (zD n.op) b 0#64):=by
  cases h:zR n.op with
  | true=>rfl
  | false=>exact hu.x n.hd _ _ _ h
 rw [h1]
 cases h:zD n.op with
 | true=>rfl
 | false=>exact hu.y n.hd _ _ _ h
theorem zoF {f:List Nd} (h:zaK .i64 (fun p q=>p &&& ~~~q) (uni zaM (cL f):Int) 59=0) {n:Nd} (hn:n∈cL f):1≤n.op∧n.op≤15∧n.op≠12:=by
 have hlt:uni zaM (cL f) < 2 ^ 63:=Nat.lt_trans ((zdZ zaM).2 fun n _=>zg7 n.hd) (by decide)
 have h1:=(zhJ hlt (b:=59) (by decide)).1 h
 have h2 : ∀ i,(zaM n.hd).testBit i=true→(59:Nat).testBit i=true:=fun i hi=>h1 i (by rw [zgP];exact List.any_eq_true.2 ⟨n,hn,hi⟩)
 have ho:=zyd (zfz hn)
 have key : ∀ (o:Int) (i:Nat),n.op=o→((zcZ o).toNat).testBit i=true→(59:Nat).testBit i=true:=fun o i e hi=>h2 i (by rw [zaM];show ((zcZ n.op).toNat).testBit i=true;rw [e];exact hi)
 refine ⟨ho.1,?_,fun e=>absurd (key 12 2 e (by decide)) (by decide)⟩
 refine Classical.byContradiction fun hn=>?_
 have:n.op=16∨n.op=17∨n.op=18∨n.op=19∨n.op=20∨n.op=21:=by omega
 rcases this with e|e|e|e|e|e
 ·exact absurd (key 16 6 e (by decide)) (by decide)
 ·exact absurd (key 17 7 e (by decide)) (by decide)
 all_goals exact absurd (key _ 8 e (by decide)) (by decide)
theorem zt6 (p:PM) (hp:zav p.rank) (f:List Nd):Fn Tryz.prog T zeN [.d (dPM p),.d (dF f)] [] (.d (dUE (zch p f))) []:=by
 have hlen:=zkY f
 have hok:=zo2 f
 refine zj zz zj7 (by show 2≤126;decide) ?_
 (repeat' ((conv=>whnf);first|refine vA ?_|refine vE ?_|((first|refine vD ?_ ?_|refine vI ?_ ?_)<;>intro hc<;>try simp only [vL] at hc)|refine vJ fun hg=>?_|refine vT ?_|refine yD (ziq _ hp) ⟨⟨rfl,rfl⟩,rfl⟩ rfl ?_|refine yD (zhO _) ⟨⟨rfl,rfl⟩,rfl⟩ rfl ?_|refine yD (zhy _) ⟨⟨rfl,rfl⟩,rfl⟩ rfl ?_|refine yD (zrJ _ _ _) ⟨⟨rfl,rfl⟩,⟨rfl,rfl⟩,⟨rfl,rfl⟩,rfl⟩ rfl ?_));all_goals try conv=>whnf
 ·have e:zch p f=(0#64,zp p):=if_pos ‹_›
  rw [e];rfl
 ·have e:zch p f=(0#64,zbt f):=by rw [zch,if_neg (by omega),if_pos ‹_›]
  rw [e];rfl
 ·have e:zch p f=(0#64,10):=by rw [zch,if_neg (by omega),if_neg (by omega),if_pos ‹_›]
  rw [e];rfl
 ·have hc0:=‹zp p=0›
  have hf0:=‹zbt f=0›
  have hgd:=zS hc0
  have hfit:=‹zde f _ _=true›
  have e:zch p f=((zat (zau p) 0#64 (cL f) []).getD ((cL f).length - 1) 0#64,0):=by rw [zch,if_neg (by omega),if_neg (by omega),if_neg (by omega),if_neg (by simp [hfit])]
  have hpos:=(zjd hf0).1.pos
  have hal : ∀ n,n∈cL f→1≤n.op∧n.op≤15∧n.op≠12:=fun n hn=>zoF ‹_› hn
  rw [e]
  (repeat' ((conv=>whnf);first|refine vA ?_|refine vT ?_|refine yN (zt8 p hp hc0) ⟨⟨rfl,rfl⟩,rfl⟩ ?_|refine yN (zdV _) ⟨⟨rfl,rfl⟩,rfl⟩ ?_));all_goals try conv=>whnf
  refine zu (fun ((k,zs):Nat×List D)=>[(2,.ptr 0 0),(7,.ptr 1 0),(8,.d (dF (cL f))),(9,.own 2),(10,.d (.int .i64 ((k:Int))))]) (fun ((k,zs):Nat×List D)=>[(0,some (zaD p)),(1,some (zob (z8 p))),(2,some (.row 1 zs))]) 3 (fun ((k,zs):Nat×List D)=>k≤(cL f).length∧zs=(zat (zau p) 0#64 ((cL f).take k) []).map D.u64) (fun ((k,zs):Nat×List D)=>(cL f).length - k) ((0,[])) [(0,0),(1,1)]   [2] (⟨by simp,rfl⟩) (by (refine ⟨rfl,rfl,rfl,?_,?_⟩;repeat' first|exact trivial|exact rfl|exact ⟨_,rfl⟩|refine And.intro ?_ ?_|refine ⟨_,rfl,?_⟩|decide)) ?_
  rintro ⟨k,zs⟩ ⟨hk,hI⟩
  subst hI
  have hl:(zat (zau p) 0#64 ((cL f).take k) []).length=k:=by rw [znV];simp;omega
  by_cases hkl:k < (cL f).length
  ·obtain ⟨n,hn⟩ : ∃ n,(cL f)[k]? = some n:=⟨(cL f)[k],by simp [hkl]⟩
   have hnm:=List.mem_of_getElem? hn
   obtain ⟨f1,f2,f3⟩:=zzk hgd.n4 hgd.v8 hfit hnm
   have hh:=zfz hnm
   obtain ⟨o1,o2,o3⟩:=hal n hnm
   have hok1:=hok k n hn
   obtain ⟨-,x1,-,y1,-⟩:=ziH hok1
   have hst0:zat (zau p) 0#64 ((cL f).take (k+1)) []=zat (zau p) 0#64 ((cL f).take k) []++[zau p n.hd (cond (zR n.op) ((zat (zau p) 0#64 ((cL f).take k) []).getD n.x.toNat 0#64) 0#64) (cond (zD n.op) ((zat (zau p) 0#64 ((cL f).take k) []).getD n.y.toNat 0#64) 0#64)]:=by
    rw [zwq,List.take_add_one,hn];exact zmf _ _ _ _ _
   generalize zat (zau p) 0#64 ((cL f).take k) []=S at hst0 hl
   have hSl:(S.map D.u64).length≤200:=by simp;omega
   have cO : ∀ x y,n.op≤13→Fn Tryz.prog T zdq [.d (dKM (z8 p)),.d (dNd n),.d (.u64 x),.d (.u64 y)] [] (.d (.u64 (zau p n.hd x y))) []:=fun x y h13=>by
    have el:(z8 p).rel.length=p.cell.length:=by simp [z8]
    have h9:n.op=9∨n.op=10→0≤n.i∧n.i < p.cell.length:=fun h=>f2 (decide_eq_true (by omega))
    have h11:11≤n.op→1≤n.g∧n.g.toNat < 2 ^ p.cell.length:=fun h=>by
     have hug:zap n.op=true:=decide_eq_true (by omega)
     have:=hh.group hug
     exact ⟨this.1,f3 hug⟩
    rw [← zyO hc0 (n:=n.hd) ⟨o1,h13,o3⟩ h9 h11]
    exact zyz (z8 p) (zpT hc0) n x y f1 (by rw [el];exact h9) (fun h=>⟨o3,by rw [el];exact h11 h⟩)
   cases hx:zR n.op with
   | false =>
    have hy:zD n.op=false:=by
     cases hy:zD n.op with
     | true=>rw [zac hy] at hx;cases hx
     | false=>rfl
    have hux:=hx▸zcL (T:=T) n.op
    have huy:=hy▸zbv (T:=T) n.op
    have h13:n.op≤13:=by have : ¬(4≤n.op∧n.op≤21):=of_decide_eq_false hx;omega
    have hst:=hst0
    rw [hx,hy] at hst
    have cO:=cO 0#64 0#64 h13
    (repeat' ((conv=>whnf);first|refine zE.decN (by omega) ?_|refine vA ?_|refine vH ?_|(refine vF ?_ ?_<;>intro hc<;>try simp only [vL] at hc)|refine vJ fun hg=>?_|refine vT ?_|refine vN ‹_› ?_|(refine vQ ?_ fun x hx=>?_;·omega)|((first|refine vO ?_ ?_|refine vP ?_ ?_);·first|omega|(simp only [vM] at *;omega))|(refine vU ?_ ?_;·kernel_rfl)|refine yD hux (by (repeat refine ⟨⟨rfl,rfl⟩,?_⟩);rfl) rfl ?_|refine yD huy (by (repeat refine ⟨⟨rfl,rfl⟩,?_⟩);rfl) rfl ?_|refine yD cO (by (repeat refine ⟨⟨rfl,rfl⟩,?_⟩);rfl) rfl ?_));all_goals try conv=>whnf
    all_goals try omega
    refine ⟨(k+1,_),[(0,0),(1,1),(2,4)],[],?_,?_,by (refine ⟨rfl,rfl,rfl,?_,?_⟩;repeat' first|exact trivial|exact rfl|refine And.intro ?_ ?_|refine ⟨_,rfl,?_⟩|decide)⟩
    ·exact ⟨hkl,by rw [hst,List.map_append];rfl⟩
    ·((simp only [vM] at *;omega))
   | true =>
    have hux:=hx▸zcL (T:=T) n.op
    obtain ⟨x2,x3⟩:=x1 hx
    obtain ⟨a,ha⟩ : ∃ a,S[n.x.toNat]? = some a:=⟨_,List.getElem?_eq_getElem (by omega)⟩
    cases hy:zD n.op with
    | false =>
     have huy:=hy▸zbv (T:=T) n.op
     have hst:=hst0
     rw [hx,hy,zaO ha] at hst
     have h14:n.op≠14:=fun h=>by rw [zD,h] at hy;revert hy;decide
     by_cases h15:n.op=15
     ·obtain ⟨i0,i1⟩:=f2 (decide_eq_true (by omega))
      have cS:=zsO (T:=T) p hp hc0 n.i.toNat (by omega) a
      rw [show ((n.i.toNat:Nat):Int)=n.i by omega,show zbU p n.i a=zau p n.hd a 0#64 by unfold zau;simp only [show n.hd.op=15 from h15];rfl] at cS
      (repeat' ((conv=>whnf);first|refine zE.decN (by omega) ?_|refine zE.decY (by omega) ?_|refine vA ?_|refine vG ?_|refine vH ?_|(refine vF ?_ ?_<;>intro hc<;>try simp only [vL] at hc)|refine vJ fun hg=>?_|refine vT ?_|refine vN ‹_› ?_|(refine vQ ?_ fun x hx=>?_;·omega)|((first|refine vO ?_ ?_|refine vP ?_ ?_);·first|omega|(simp only [vM] at *;omega))|(refine vU ?_ ?_;·kernel_rfl)|refine yD hux (by (repeat refine ⟨⟨rfl,rfl⟩,?_⟩);rfl) rfl ?_|refine yD huy (by (repeat refine ⟨⟨rfl,rfl⟩,?_⟩);rfl) rfl ?_|refine yD cS ⟨⟨rfl,rfl⟩,⟨rfl,rfl⟩,⟨rfl,rfl⟩,rfl⟩ rfl ?_));all_goals try conv=>whnf
      all_goals try omega
      refine ⟨(k+1,_),[(0,0),(1,1),(2,4)],[],?_,?_,by (refine ⟨rfl,rfl,rfl,?_,?_⟩;repeat' first|exact trivial|exact rfl|refine And.intro ?_ ?_|refine ⟨_,rfl,?_⟩|decide)⟩
      ·exact ⟨hkl,by rw [hst,List.map_append];rfl⟩
      ·((simp only [vM] at *;omega))
     ·have cO:=cO a 0#64 (by omega)
      (repeat' ((conv=>whnf);first|refine zE.decN (by omega) ?_|refine vA ?_|refine vG ?_|refine vH ?_|(refine vF ?_ ?_<;>intro hc<;>try simp only [vL] at hc)|refine vJ fun hg=>?_|refine vT ?_|refine vN ‹_› ?_|(refine vQ ?_ fun x hx=>?_;·omega)|((first|refine vO ?_ ?_|refine vP ?_ ?_);·first|omega|(simp only [vM] at *;omega))|(refine vU ?_ ?_;·kernel_rfl)|refine yD hux (by (repeat refine ⟨⟨rfl,rfl⟩,?_⟩);rfl) rfl ?_|refine yD huy (by (repeat refine ⟨⟨rfl,rfl⟩,?_⟩);rfl) rfl ?_|refine yD cO (by (repeat refine ⟨⟨rfl,rfl⟩,?_⟩);rfl) rfl ?_));all_goals try conv=>whnf
      all_goals try omega
      refine ⟨(k+1,_),[(0,0),(1,1),(2,4)],[],?_,?_,by (refine ⟨rfl,rfl,rfl,?_,?_⟩;repeat' first|exact trivial|exact rfl|refine And.intro ?_ ?_|refine ⟨_,rfl,?_⟩|decide)⟩
      ·exact ⟨hkl,by rw [hst,List.map_append];rfl⟩
      ·((simp only [vM] at *;omega))
    | true =>
     have huy:=hy▸zbv (T:=T) n.op
     obtain ⟨y2,y3⟩:=y1 hy
     obtain ⟨b,hb⟩ : ∃ b,S[n.y.toNat]? = some b:=⟨_,List.getElem?_eq_getElem (by omega)⟩
     have hst:=hst0
     rw [hx,hy,zaO ha,zaO hb] at hst
     have h15:n.op≠15:=fun h=>by rw [zD,h] at hy;revert hy;decide
     by_cases h14:n.op=14
     ·obtain ⟨i0,i1⟩:=f2 (decide_eq_true (by omega))
      have cB:=zqv (T:=T) p hp hc0 n.i i0 i1 a b
      rw [show zbS p n.i a b=zau p n.hd a b by unfold zau;simp only [show n.hd.op=14 from h14];rfl] at cB
      (repeat' ((conv=>whnf);first|refine zE.decY (by omega) ?_|refine vA ?_|refine vG ?_|(refine vF ?_ ?_<;>intro hc<;>try simp only [vL] at hc)|refine vJ fun hg=>?_|refine vT ?_|refine vN ‹_› ?_|(refine vQ ?_ fun x hx=>?_;·omega)|((first|refine vO ?_ ?_|refine vP ?_ ?_);·first|omega|(simp only [vM] at *;omega))|(refine vU ?_ ?_;·kernel_rfl)|refine yD hux (by (repeat refine ⟨⟨rfl,rfl⟩,?_⟩);rfl) rfl ?_|refine yD huy (by (repeat refine ⟨⟨rfl,rfl⟩,?_⟩);rfl) rfl ?_|refine yD cB (by (repeat refine ⟨⟨rfl,rfl⟩,?_⟩);rfl) rfl ?_));all_goals try conv=>whnf
      all_goals try omega
      refine ⟨(k+1,_),[(0,0),(1,1),(2,4)],[],?_,?_,by (refine ⟨rfl,rfl,rfl,?_,?_⟩;repeat' first|exact trivial|exact rfl|refine And.intro ?_ ?_|refine ⟨_,rfl,?_⟩|decide)⟩
      ·exact ⟨hkl,by rw [hst,List.map_append];rfl⟩
      ·((simp only [vM] at *;omega))
     ·have cO:=cO a b (by omega)
      (repeat' ((conv=>whnf);first|refine zE.decN (by omega) ?_|refine vA ?_|refine vG ?_|(refine vF ?_ ?_<;>intro hc<;>try simp only [vL] at hc)|refine vJ fun hg=>?_|refine vT ?_|refine vN ‹_› ?_|(refine vQ ?_ fun x hx=>?_;·omega)|((first|refine vO ?_ ?_|refine vP ?_ ?_);·first|omega|(simp only [vM] at *;omega))|(refine vU ?_ ?_;·kernel_rfl)|refine yD hux (by (repeat refine ⟨⟨rfl,rfl⟩,?_⟩);rfl) rfl ?_|refine yD huy (by (repeat refine ⟨⟨rfl,rfl⟩,?_⟩);rfl) rfl ?_|refine yD cO (by (repeat refine ⟨⟨rfl,rfl⟩,?_⟩);rfl) rfl ?_));all_goals try conv=>whnf
      all_goals try omega
      refine ⟨(k+1,_),[(0,0),(1,1),(2,4)],[],?_,?_,by (refine ⟨rfl,rfl,rfl,?_,?_⟩;repeat' first|exact trivial|exact rfl|refine And.intro ?_ ?_|refine ⟨_,rfl,?_⟩|decide)⟩
      ·exact ⟨hkl,by rw [hst,List.map_append];rfl⟩
      ·((simp only [vM] at *;omega))
  ·have ek:k=(cL f).length:=by omega
   subst ek
   rw [List.take_length] at hl ⊢
   (repeat' ((conv=>whnf);first|refine vA ?_|(refine vF ?_ ?_<;>intro hc<;>try simp only [vL] at hc)|refine vJ fun hg=>?_|refine vT ?_|(refine vQ ?_ fun x hx=>?_;·first|omega|(simp only [vM] at *;omega))|((first|refine vO ?_ ?_|refine vP ?_ ?_);·(simp only [vM] at *;omega))|fail));all_goals try conv=>whnf
   all_goals try omega
   rw [show ((((zat (zau p) 0#64 (cL f) []).map D.u64).length:Int) - 1).toNat=(cL f).length - 1 by rw [List.length_map];omega] at hx
   rw [zaO hx];rfl
 ·have e:zch p f=(0#64,2):=by rw [zch,if_neg (by omega),if_neg (by omega),if_neg (by omega),if_pos ‹_›]
  rw [e];rfl
end Go.Ab
namespace Go.Ab
open Go
def zT (e:Nat→Nat→Bool) (w:Nat):Nat:=((List.range w).find? fun v=>e v w).getD w
theorem zgH (e:Nat→Nat→Bool) (w:Nat):(zT e w < w∧e (zT e w) w=true∨zT e w=w) ∧ ∀ v,v < zT e w→e v w=false:=by
 unfold zT
 cases h:(List.range w).find? fun v=>e v w with
 | none =>
  refine ⟨.inr rfl,fun v hv=>?_⟩
  have:=List.find?_eq_none.1 h v (List.mem_range.2 hv)
  simpa using this
 | some u =>
  obtain ⟨h1,l1,l2,h2,h3⟩:=List.find?_eq_some_iff_append.1 h
  have hu:u∈List.range w:=by rw [h2];simp
  have hlen:l1.length=u:=by
   have h4:(List.range w)[l1.length]? = some u:=by rw [h2];simp
   rw [List.getElem?_range (by
    have:l1.length < (List.range w).length:=by rw [h2];simp
    simpa using this)] at h4
   exact Option.some.inj h4
  refine ⟨.inl ⟨List.mem_range.1 hu,h1⟩,fun v hv=>?_⟩
  have hv:v < u:=hv
  have hm:v∈l1:=by
   have h4:(List.range w)[v]? = some v:=List.getElem?_range (by have:=List.mem_range.1 hu;omega)
   rw [h2,List.getElem?_append_left (by omega)] at h4
   exact List.mem_of_getElem? h4
  simpa using h3 v hm
theorem zul (e:Nat→Nat→Bool) (w:Nat):zT e w≤w:=by
 rcases (zgH e w).1 with h|h<;>omega
theorem zrY {e:Nat→Nat→Bool} {w v:Nat} (h:v < zT e w):e v w=false:=(zgH e w).2 v h
structure Eqv (e:Nat→Nat→Bool):Prop where
 refl : ∀ v,e v v=true
 symm : ∀ v w,e v w=true→e w v=true
 trans : ∀ u v w,e u v=true→e v w=true→e u w=true
section
variable {e:Nat→Nat→Bool} (he:Eqv e)
include he
theorem zpi (w:Nat):e (zT e w) w=true:=by
 rcases (zgH e w).1 with h|h
 ·exact h.2
 ·rw [h];exact he.refl w
theorem zlT {v w:Nat} : zT e v=zT e w↔e v w=true:=by
 constructor
 ·intro h
  have h1:=zpi he v
  rw [h] at h1
  exact he.trans _ _ _ (he.symm _ _ h1) (zpi he w)
 ·intro h
  have a : ∀ {v w},e v w=true→zT e w≤zT e v:=by
   intro v w h
   rcases Nat.lt_or_ge (zT e v) (zT e w) with hl|hl
   ·have:=zrY hl
    rw [he.trans _ _ _ (zpi he v) h] at this;cases this
   ·exact hl
  have:=a h;have:=a (he.symm _ _ h);omega
theorem zzT (w:Nat):zT e (zT e w)=zT e w:=(zlT he).2 (zpi he w)
end
theorem znF {e e':Nat→Nat→Bool} {w:Nat} (h : ∀ v,v≤w→e v w=e' v w):zT e w=zT e' w:=by
 have a : ∀ {e e':Nat→Nat→Bool},(∀ v,v≤w→e v w=e' v w)→zT e w≤zT e' w:=by
  intro e e' h
  rcases Nat.lt_or_ge (zT e' w) (zT e w) with hl|hl
  ·have h1:=zrY hl
   have hle:=zul e w
   rcases (zgH e' w).1 with h2|h2
   ·rw [h _ (by omega),h2.2] at h1;cases h1
   ·omega
  ·exact hl
 have:=a h;have:=a fun v hv=>(h v hv).symm;omega
structure zd5 (n:Nat) (q:Nat→Nat):Prop where
 le : ∀ w,w < n→q w≤w
 idem : ∀ w,w < n→q (q w)=q w
theorem znE {e:Nat→Nat→Bool} (he:Eqv e) (n:Nat):zd5 n (zT e):=⟨fun w _=>zul e w,fun w _=>zzT he w⟩
def zd8 {α:Type} [DecidableEq α] (k:Nat→α) (v w:Nat):Bool:=decide (k v=k w)
theorem znC {α:Type} [DecidableEq α] (k:Nat→α):Eqv (zd8 k) :=
 ⟨fun v=>by simp [zd8],fun v w h=>by simp only [zd8,decide_eq_true_eq] at h ⊢;exact h.symm,fun u v w h h'=>by simp only [zd8,decide_eq_true_eq] at h h' ⊢;exact h.trans h'⟩
theorem zwR {n:Nat} {q:Nat→Nat} (h:zd5 n q) {w:Nat} (hw:w < n):zT (zd8 q) w=q w:=by
 have h1:=h.le w hw
 have h2:=h.idem w hw
 have h3:zT (zd8 q) w≤q w:=by
  rcases Nat.lt_or_ge (q w) (zT (zd8 q) w) with hl|hl
  ·have:=zrY hl
   simp [zd8,h2] at this
  ·exact hl
 have h4:=zpi (znC q) w
 simp only [zd8,decide_eq_true_eq] at h4
 have h5:=h.le (zT (zd8 q) w) (by omega)
 omega
def zad (q:Nat→Nat) (s:BitVec 64) (k:Nat):BitVec 64:=(List.range k).foldl (fun o w=>if s.getLsbD w=true then o|||1#64 <<< q w else o) 0#64
theorem zhs (q:Nat→Nat) (s:BitVec 64) (k:Nat):zad q s (k+1)=if s.getLsbD k=true then zad q s k|||1#64 <<< q k else zad q s k:=by
 unfold zad;rw [List.range_succ,List.foldl_append];rfl
def zaT (n:Nat) (rels:List (Nat→BitVec 64)) (q:Nat→Nat) (v w:Nat):Bool:=decide (q v=q w)&&rels.all fun r=>decide (zad q (r v) n=zad q (r w) n)
theorem zep (n:Nat) (rels:List (Nat→BitVec 64)) (q:Nat→Nat):Eqv (zaT n rels q):=by
 refine ⟨fun v=>by simp [zaT],fun v w h=>?_,fun u v w h h'=>?_⟩
 ·simp only [zaT,Bool.and_eq_true,decide_eq_true_eq,List.all_eq_true] at h ⊢
  exact ⟨h.1.symm,fun r hr=>(h.2 r hr).symm⟩
 ·simp only [zaT,Bool.and_eq_true,decide_eq_true_eq,List.all_eq_true] at h h' ⊢
  exact ⟨h.1.trans h'.1,fun r hr=>(h.2 r hr).trans (h'.2 r hr)⟩
def zbC (n:Nat) (rels:List (Nat→BitVec 64)) (q:Nat→Nat):Nat→Nat:=zT (zaT n rels q)
theorem znf (n:Nat) (rels:List (Nat→BitVec 64)) (q:Nat→Nat) (m:Nat):zd5 m (zbC n rels q):=znE (zep n rels q) m
theorem zjb {q q':Nat→Nat} {s:BitVec 64} {n:Nat} (h : ∀ w,w < n→q w=q' w) : ∀ k,k≤n→zad q s k=zad q' s k
 | 0,_=>rfl
 | k+1,hk=>by rw [zhs,zhs,zjb h k (by omega),h k (by omega)]
theorem zsZ {n:Nat} {rels:List (Nat→BitVec 64)} {q q':Nat→Nat} (h : ∀ w,w < n→q w=q' w) {w:Nat} (hw:w < n):zbC n rels q w=zbC n rels q' w:=by
 refine znF fun v hv=>?_
 unfold zaT
 rw [h v (by omega),h w hw]
 congr 1
 refine congrArg (fun f=>rels.all f) (funext fun r=>?_)
 rw [zjb h n (Nat.le_refl _),zjb h n (Nat.le_refl _)]
section
variable {n:Nat} {rels:List (Nat→BitVec 64)} {q:Nat→Nat} (hq:zd5 n q)
include hq
theorem zmE {w:Nat} (hw:w < n):q (zbC n rels q w)=q w:=by
 have:=zpi (zep n rels q) w
 simp only [zaT,Bool.and_eq_true,decide_eq_true_eq] at this
 exact this.1
theorem zwm {w:Nat} (hw:w < n) (h:q w=w):zbC n rels q w=w:=by
 have h1:=zul (zaT n rels q) w
 have h2:=zmE (rels:=rels) hq hw
 have h3:=hq.le (zbC n rels q w) (by unfold zbC;omega)
 unfold zbC at *;omega
theorem zuD (h : ∀ w,w < n→zbC n rels q w=w→q w=w) {w:Nat} (hw:w < n):zbC n rels q w=q w:=by
 have hc:=znf n rels q n
 have h1:=h (zbC n rels q w) (by have:=hc.le w hw;omega) (hc.idem w hw)
 rw [← h1,zmE hq hw]
end
def zg0 (n:Nat) (q:Nat→Nat):Nat:=((List.range n).filter fun w=>decide (q w=w)).length
theorem zpE {p p':Nat→Bool} (hi : ∀ w,p w=true→p' w=true) : ∀ l:List Nat,(l.filter p).length≤(l.filter p').length∧((∃ w∈l,p w=false∧p' w=true)→(l.filter p).length < (l.filter p').length)
 | []=>⟨Nat.le_refl _,fun ⟨w,h,_⟩=>by cases h⟩
 | x::l=>by
  obtain ⟨h1,h2⟩:=zpE hi l
  cases hp:p x with
  | true =>
   rw [List.filter_cons_of_pos hp,List.filter_cons_of_pos (hi x hp)]
   refine ⟨by simpa using h1,fun ⟨w,hw,h3,h4⟩=>?_⟩
   rcases List.mem_cons.1 hw with rfl|hw
   ·rw [hp] at h3;cases h3
   ·have:=h2 ⟨w,hw,h3,h4⟩;simpa using this
  | false =>
   rw [List.filter_cons_of_neg (by simp [hp])]
   cases hp':p' x with
   | true =>
    rw [List.filter_cons_of_pos hp',List.length_cons]
    exact ⟨by omega,fun _=>by omega⟩
   | false =>
    rw [List.filter_cons_of_neg (by simp [hp'])]
    refine ⟨h1,fun ⟨w,hw,h3,h4⟩=>?_⟩
    rcases List.mem_cons.1 hw with rfl|hw
    ·rw [hp'] at h4;cases h4
    ·exact h2 ⟨w,hw,h3,h4⟩
theorem zte (n:Nat) (q:Nat→Nat):zg0 n q≤n:=by
 unfold zg0
 have:=List.length_filter_le (fun w=>decide (q w=w)) (List.range n)
 simpa using this
theorem zyp {n:Nat} {rels:List (Nat→BitVec 64)} {q:Nat→Nat} (hq:zd5 n q) (h : ∃ w,w < n∧zbC n rels q w≠q w):zg0 n q < zg0 n (zbC n rels q):=by
 unfold zg0
 have e1:(List.range n).filter (fun w=>decide (q w=w))=(List.range n).filter fun w=>decide (w < n∧q w=w):=by
  refine List.filter_congr fun w hw=>?_
  have:=List.mem_range.1 hw
  simp [this]
 have e2:(List.range n).filter (fun w=>decide (zbC n rels q w=w))=(List.range n).filter fun w=>decide (w < n∧zbC n rels q w=w):=by
  refine List.filter_congr fun w hw=>?_
  have:=List.mem_range.1 hw
  simp [this]
 rw [e1,e2]
 refine (zpE (fun w hw=>?_) _).2 ?_
 ·simp only [decide_eq_true_eq] at hw ⊢
  exact ⟨hw.1,zwm hq hw.1 hw.2⟩
 ·obtain ⟨w,hw,hne⟩:=h
  by_cases hall : ∀ w,w < n→zbC n rels q w=w→q w=w
  ·exact absurd (zuD hq hall hw) hne
  ·simp only [Classical.not_forall] at hall
   obtain ⟨u,hu,h1,h2⟩:=hall
   exact ⟨u,List.mem_range.2 hu,by simp [h2],by simp [hu,h1]⟩
def zbc (n:Nat) (rels:List (Nat→BitVec 64)) (q0:Nat→Nat):Nat→Nat→Nat
 | 0=>q0
 | k+1=>zbC n rels (zbc n rels q0 k)
section
variable {n:Nat} {rels:List (Nat→BitVec 64)} {q0:Nat→Nat} (hq:zd5 n q0)
include hq
theorem zfG : ∀ k,zd5 n (zbc n rels q0 k)
 | 0=>hq
 | k+1=>znf _ _ _ _
theorem zjO {k:Nat} (h : ∀ w,w < n→zbc n rels q0 (k+1) w=zbc n rels q0 k w) : ∀ j,k≤j → ∀ w,w < n→zbc n rels q0 j w=zbc n rels q0 k w:=by
 intro j hj
 induction j with
 | zero=>intro w hw;rw [show k=0 by omega]
 | succ j ih =>
  intro w hw
  by_cases e:k=j+1
  ·rw [e]
  ·have ih:=ih (by omega)
   rw [← h w hw]
   exact zsZ ih hw
theorem zjN {k:Nat} (h : ∀ j,j < k → ∃ w,w < n∧zbc n rels q0 (j+1) w≠zbc n rels q0 j w) : ∀ j,j≤k→zg0 n q0+j≤zg0 n (zbc n rels q0 j)
 | 0,_=>Nat.le_refl _
 | j+1,hj=>by
  have h1:=zjN h j (by omega)
  have h2:=zyp (zfG hq j) (h j (by omega))
  show zg0 n q0+(j+1)≤zg0 n (zbC n rels (zbc n rels q0 j))
  omega
theorem zvw {j:Nat} (hn:0 < n) (hj:n≤j) {w:Nat} (hw:w < n):zbc n rels q0 j w=zbc n rels q0 n w:=by
 by_cases hall : ∀ i,i < n → ∃ w,w < n∧zbc n rels q0 (i+1) w≠zbc n rels q0 i w
 ·have h1:=zjN hq hall n (Nat.le_refl _)
  have h2:=zte n (zbc n rels q0 n)
  have h3:0 < zg0 n q0:=by
   unfold zg0
   have h0:q0 0=0:=by have:=hq.le 0 hn;omega
   exact List.length_pos_of_mem (List.mem_filter.2 ⟨List.mem_range.2 hn,by simp [h0]⟩)
  omega
 ·simp only [Classical.not_forall] at hall
  obtain ⟨i,hi,hs⟩:=hall
  have hst : ∀ w,w < n→zbc n rels q0 (i+1) w=zbc n rels q0 i w:=fun w hw=>by
   by_cases e:zbc n rels q0 (i+1) w=zbc n rels q0 i w
   ·exact e
   ·exact absurd ⟨w,hw,e⟩ hs
  rw [zjO hq hst j (by omega) w hw,zjO hq hst n (by omega) w hw]
end
end Go.Ab
namespace Go.Ab
open Go
structure Mn (p:PM) (a:Nat) (c:BitVec 64) (w v:Nat):Prop where
 cell:InC p a w v
 cond:c.getLsbD v=true
 best : ∀ u,InC p a w u→c.getLsbD u=true→rkA p a v≤rkA p a u
section
variable {p:PM} (hc0:zp p=0) {a:Nat} (ha:a < p.cell.length)
include hc0 ha
theorem zs8 {c s:BitVec 64} {w:Nat} : (zbS p a c s).getLsbD w=true↔w < p.W.toNat ∧ ∀ v,Mn p a c w v→s.getLsbD v=true:=by
 rw [zq6 hc0 ha]
 exact and_congr_right fun _=>⟨fun h v hv=>h v hv.cell hv.cond hv.best,fun h v h1 h2 h3=>h v ⟨h1,h2,h3⟩⟩
theorem zvT {w:Nat} (hw:w < p.W.toNat) {v:Nat} (hv:InC p a w v):0≤rkA p a v :=
 zhT (ztL hc0 ha hw) ((za8 hc0 ha hw).2 hv)
omit hc0 ha in
theorem zms {x y:BitVec 64} {i:Nat} : (x&&&y).getLsbD i=true↔x.getLsbD i=true∧y.getLsbD i=true:=by
 rw [BitVec.getLsbD_and,Bool.and_eq_true]
omit hc0 ha in
theorem zoG {x y:BitVec 64} {i:Nat} : (x|||y).getLsbD i=true↔x.getLsbD i=true∨y.getLsbD i=true:=by
 rw [BitVec.getLsbD_or,Bool.or_eq_true]
omit hc0 ha in
theorem zmC {x y:BitVec 64} {i:Nat} : (x &&& ~~~y).getLsbD i=true↔x.getLsbD i=true ∧ ¬y.getLsbD i=true:=by
 rw [BitVec.getLsbD_and,BitVec.getLsbD_not,Bool.and_eq_true]
 constructor
 ·rintro ⟨h1,h2⟩
  refine ⟨h1,fun h=>?_⟩
  rw [h] at h2;simp at h2
 ·rintro ⟨h1,h2⟩
  have:i < 64:=BitVec.lt_of_getLsbD h1
  refine ⟨h1,?_⟩
  rw [decide_eq_true this,Bool.true_and]
  cases hy:y.getLsbD i with
  | true=>exact absurd hy h2
  | false=>rfl
end
end Go.Ab
namespace Go.Ab
open Go
structure zi0 (p p':PM) (Z:Nat→Nat→Prop):Prop where
 n:p.cell.length=p'.cell.length
 lt : ∀ {v v'},Z v v'→v < p.W.toNat∧v' < p'.W.toNat
 fact : ∀ {v v'},Z v v' → ∀ i,(p.val.getD i 0#64).getLsbD v=true↔(p'.val.getD i 0#64).getLsbD v'=true
 cf : ∀ {a v v' u},a < p.cell.length→Z v v'→InC p a v u → ∃ u',InC p' a v' u'∧Z u u'
 cb : ∀ {a v v' u'},a < p.cell.length→Z v v'→InC p' a v' u' → ∃ u,InC p a v u∧Z u u'
 sf : ∀ {a v v' u},a < p.cell.length→Z v v'→InC p a v u→rkA p a u≤rkA p a v → ∃ u',InC p' a v' u'∧rkA p' a u'≤rkA p' a v'∧Z u u'
 sb : ∀ {a v v' u'},a < p.cell.length→Z v v'→InC p' a v' u'→rkA p' a u'≤rkA p' a v' → ∃ u,InC p a v u∧rkA p a u≤rkA p a v∧Z u u'
theorem zi0.symm {p p':PM} {Z:Nat→Nat→Prop} (B:zi0 p p' Z):zi0 p' p (fun v' v=>Z v v') where
 n:=B.n.symm
 lt h:=(B.lt h).symm
 fact h i:=(B.fact h i).symm
 cf ha h hu:=B.cb (by have:=B.n;omega) h hu
 cb ha h hu:=B.cf (by have:=B.n;omega) h hu
 sf ha h hu hr:=B.sb (by have:=B.n;omega) h hu hr
 sb ha h hu hr:=B.sf (by have:=B.n;omega) h hu hr
def zV (Z:Nat→Nat→Prop) (x x':BitVec 64):Prop := ∀ v v',Z v v'→(x.getLsbD v=true↔x'.getLsbD v'=true)
theorem zV.symm {Z:Nat→Nat→Prop} {x x':BitVec 64} (h:zV Z x x'):zV (fun v' v=>Z v v') x' x:=fun v' v hz=>(h v v' hz).symm
section
variable {p p':PM} {Z:Nat→Nat→Prop} (hc0:zp p=0) (hc0':zp p'=0) (B:zi0 p p' Z)
include hc0 hc0' B
theorem zuL:zV Z (zaq p.W) (zaq p'.W):=fun v v' hz=>by
 rw [zc2 hc0,zc2 hc0'];exact ⟨fun _=>(B.lt hz).2,fun _=>(B.lt hz).1⟩
omit hc0 hc0' B in
theorem zuM {x x' y y':BitVec 64} (hx:zV Z x x') (hy:zV Z y y'):zV Z (x&&&y) (x'&&&y'):=fun v v' hz=>by
 rw [zms,zms,hx v v' hz,hy v v' hz]
omit hc0 hc0' B in
theorem zq2 {x x' y y':BitVec 64} (hx:zV Z x x') (hy:zV Z y y'):zV Z (x|||y) (x'|||y'):=fun v v' hz=>by
 rw [zoG,zoG,hx v v' hz,hy v v' hz]
omit hc0 hc0' B in
theorem zgV {x x' y y':BitVec 64} (hx:zV Z x x') (hy:zV Z y y'):zV Z (x &&& ~~~y) (x' &&& ~~~y'):=fun v v' hz=>by
 rw [zmC,zmC,hx v v' hz,hy v v' hz]
omit hc0 hc0' B in
theorem zuO {x x' y y':BitVec 64} (hx:zV Z x x') (hy:zV Z y y'):zV Z (x ^^^ y) (x' ^^^ y'):=fun v v' hz=>by
 have h1:=hx v v' hz
 have h2:=hy v v' hz
 rw [BitVec.getLsbD_xor,BitVec.getLsbD_xor]
 rw [show x.getLsbD v=x'.getLsbD v' from Bool.eq_iff_iff.2 h1,show y.getLsbD v=y'.getLsbD v' from Bool.eq_iff_iff.2 h2]
theorem zrT {a:Nat} (ha:a < p.cell.length) {x x':BitVec 64} (h:zV Z x x') {v v':Nat} (hz:Z v v') (hk:(zbM p a x).getLsbD v=true):(zbM p' a x').getLsbD v'=true:=by
 rw [zhB hc0 ha] at hk
 rw [zhB hc0' (by have:=B.n;omega)]
 refine ⟨(B.lt hz).2,fun u' hu'=>?_⟩
 obtain ⟨u,hu,hzu⟩:=B.cb ha hz hu'
 exact (h u u' hzu).1 (hk.2 u hu)
theorem zsn {a:Nat} (ha:a < p.cell.length) {x x':BitVec 64} (h:zV Z x x') {v v':Nat} (hz:Z v v') (hk:(zbU p a x).getLsbD v=true):(zbU p' a x').getLsbD v'=true:=by
 rw [zgu hc0 ha] at hk
 rw [zgu hc0' (by have:=B.n;omega)]
 refine ⟨(B.lt hz).2,fun u' hu' hr=>?_⟩
 obtain ⟨u,hu,hr2,hzu⟩:=B.sb ha hz hu' hr
 exact (h u u' hzu).1 (hk.2 u hu hr2)
omit hc0 hc0' in
theorem znX {g:Nat} {v v' u':Nat} (hz:Z v v') (h:Suc p' g v' u') : ∃ u,Suc p g v u∧Z u u':=by
 obtain ⟨h1,a,h2,h3,h4⟩:=h
 obtain ⟨u,hu,hzu⟩:=B.cb (by have:=B.n;omega) hz h4
 exact ⟨u,⟨(B.lt hz).1,a,by have:=B.n;omega,h3,hu⟩,hzu⟩
theorem zpC {g:Nat} {x x':BitVec 64} (h:zV Z x x') {v v':Nat} (hz:Z v v') (hk:(zeA p g x).getLsbD v=true):(zeA p' g x').getLsbD v'=true:=by
 rw [zhu hc0] at hk
 rw [zhu hc0']
 refine ⟨(B.lt hz).2,fun u' hu'=>?_⟩
 obtain ⟨u,hu,hzu⟩:=znX B hz hu'
 exact (h u u' hzu).1 (hk.2 u hu)
omit hc0 hc0' in
theorem zyq {g:Nat} {c c':BitVec 64} (hc:zV Z c c') {v v' u':Nat} (hz:Z v v') (h:CP p' g c' v' u') : ∃ u,CP p g c v u∧Z u u':=by
 induction h with
 | base h1 h2 =>
  obtain ⟨u,hu,hzu⟩:=znX B hz h1
  exact ⟨u,.base hu ((hc _ _ hzu).2 h2),hzu⟩
 | step _ h1 h2 ih =>
  obtain ⟨u,hu,hzu⟩:=ih
  obtain ⟨t,ht,hzt⟩:=znX B hzu h1
  exact ⟨t,.step hu ht ((hc _ _ hzt).2 h2),hzt⟩
theorem zog {g:Nat} {c c' x x':BitVec 64} (hc:zV Z c c') (h:zV Z x x') {v v':Nat} (hz:Z v v') (hk:(zc3 p g c x).getLsbD v=true):(zc3 p' g c' x').getLsbD v'=true:=by
 rw [zcR hc0] at hk
 rw [zcR hc0']
 refine ⟨(B.lt hz).2,fun u' hu'=>?_⟩
 obtain ⟨u,hu,hzu⟩:=zyq B hc hz hu'
 exact (h u u' hzu).1 (hk.2 u hu)
omit hc0' in
theorem zuR {a:Nat} (ha:a < p.cell.length) {c c':BitVec 64} (hc:zV Z c c') {v v' u':Nat} (hz:Z v v') (h:Mn p' a c' v' u') : ∃ u,Mn p a c v u∧Z u u':=by
 have hv:=(B.lt hz).1
 obtain ⟨u0,hu0,hz0⟩:=B.cb ha hz h.cell
 obtain ⟨u,⟨h1,h2⟩,h3⟩:=zxf (K:=fun i=>InC p a v i∧Z i u') (R:=rkA p a) (fun i hi=>zvT hc0 ha hv hi.1) (rkA p a u0).toNat u0 ⟨hu0,hz0⟩ (Nat.le_refl _)
 refine ⟨u,⟨h1,(hc u u' h2).2 h.cond,fun t ht htc=>?_⟩,h2⟩
 rcases Int.lt_or_le (rkA p a t) (rkA p a u) with hlt|hle
 ·exfalso
  have htu:InC p a u t:=⟨ht.1,by have:=ht.2;have:=h1.2;omega⟩
  obtain ⟨t',ht',hrt,hzt⟩:=B.sf ha h2 htu (by omega)
  have hct':InC p' a v' t':=⟨ht'.1,by have:=ht'.2;have:=h.cell.2;omega⟩
  have hge:=h.best t' hct' ((hc t t' hzt).1 htc)
  have hut:InC p' a t' u':=⟨h.cell.1,ht'.2.symm⟩
  obtain ⟨w,hw,hrw,hzw⟩:=B.sb ha hzt hut (by omega)
  have hcw:InC p a v w:=⟨hw.1,by have:=hw.2;have:=ht.2;omega⟩
  have:=h3 w ⟨hcw,hzw⟩
  omega
 ·exact hle
theorem zs9 {a:Nat} (ha:a < p.cell.length) {c c' x x':BitVec 64} (hc:zV Z c c') (h:zV Z x x') {v v':Nat} (hz:Z v v') (hk:(zbS p a c x).getLsbD v=true):(zbS p' a c' x').getLsbD v'=true:=by
 rw [zs8 hc0 ha] at hk
 rw [zs8 hc0' (by have:=B.n;omega)]
 refine ⟨(B.lt hz).2,fun u' hu'=>?_⟩
 obtain ⟨u,hu,hzu⟩:=zuR hc0 B ha hc hz hu'
 exact (h u u' hzu).1 (hk.2 u hu)
theorem zn4 {a:Nat} (ha:a < p.cell.length) {x x':BitVec 64} (h:zV Z x x'):zV Z (zbM p a x) (zbM p' a x'):=fun v v' hz =>
 ⟨zrT hc0 hc0' B ha h hz,zrT hc0' hc0 B.symm (by have:=B.n;omega) h.symm hz⟩
theorem ztG {a:Nat} (ha:a < p.cell.length) {x x':BitVec 64} (h:zV Z x x'):zV Z (zbU p a x) (zbU p' a x'):=fun v v' hz =>
 ⟨zsn hc0 hc0' B ha h hz,zsn hc0' hc0 B.symm (by have:=B.n;omega) h.symm hz⟩
theorem zsz {g:Nat} {x x':BitVec 64} (h:zV Z x x'):zV Z (zeA p g x) (zeA p' g x'):=fun v v' hz =>
 ⟨zpC hc0 hc0' B h hz,zpC hc0' hc0 B.symm h.symm hz⟩
theorem zq1 {g:Nat} {c c' x x':BitVec 64} (hc:zV Z c c') (h:zV Z x x'):zV Z (zc3 p g c x) (zc3 p' g c' x'):=fun v v' hz =>
 ⟨zog hc0 hc0' B hc h hz,zog hc0' hc0 B.symm hc.symm h.symm hz⟩
theorem zuN {a:Nat} (ha:a < p.cell.length) {c c' x x':BitVec 64} (hc:zV Z c c') (h:zV Z x x'):zV Z (zbS p a c x) (zbS p' a c' x'):=fun v v' hz =>
 ⟨zs9 hc0 hc0' B ha hc h hz,zs9 hc0' hc0 B.symm (by have:=B.n;omega) hc.symm h.symm hz⟩
theorem zkW {h:Hd} (hh:zet h) (hf:zhI p h) {x x' y y':BitVec 64} (hx:zV Z x x') (hy:zV Z y y'):zV Z (zau p h x y) (zau p' h x' y'):=by
 have hA:=zuL hc0 hc0' B
 have hag:zae h.op=true → ∃ a:Nat,h.i=(a:Int)∧a < p.cell.length:=fun e=>by
  have h3:0≤h.i∧h.i≤3:=hh.agent e
  have h1:=hf.1
  rw [zaf,if_pos e] at h1
  have:=(Nat.pow_lt_pow_iff_right (by decide:1 < 2)).1 h1
  exact ⟨h.i.toNat,by omega,this⟩
 unfold zau
 by_cases h1:h.op=1
 ·rw [if_pos h1,if_pos h1];exact hA
 rw [if_neg h1,if_neg h1]
 by_cases h3:h.op=3
 ·rw [if_pos h3,if_pos h3];exact fun v v' hz=>B.fact hz _
 rw [if_neg h3,if_neg h3]
 by_cases h4:h.op=4
 ·rw [if_pos h4,if_pos h4];exact zgV hA hx
 rw [if_neg h4,if_neg h4]
 by_cases h5:h.op=5
 ·rw [if_pos h5,if_pos h5];exact zuM hx hy
 rw [if_neg h5,if_neg h5]
 by_cases h6:h.op=6
 ·rw [if_pos h6,if_pos h6];exact zq2 hx hy
 rw [if_neg h6,if_neg h6]
 by_cases h7:h.op=7
 ·rw [if_pos h7,if_pos h7];exact zq2 (zgV hA hx) hy
 rw [if_neg h7,if_neg h7]
 by_cases h8:h.op=8
 ·rw [if_pos h8,if_pos h8];exact zgV hA (zuO hx hy)
 rw [if_neg h8,if_neg h8]
 by_cases h9:h.op=9
 ·rw [if_pos h9,if_pos h9];obtain ⟨a,ha,hl⟩:=hag (decide_eq_true (by omega));rw [ha];exact zn4 hc0 hc0' B hl hx
 rw [if_neg h9,if_neg h9]
 by_cases h10:h.op=10
 ·rw [if_pos h10,if_pos h10];obtain ⟨a,ha,hl⟩:=hag (decide_eq_true (by omega));rw [ha];exact zgV hA (zn4 hc0 hc0' B hl (zgV hA hx))
 rw [if_neg h10,if_neg h10]
 by_cases h11:h.op=11
 ·rw [if_pos h11,if_pos h11];exact zsz hc0 hc0' B hx
 rw [if_neg h11,if_neg h11]
 by_cases h13:h.op=13
 ·rw [if_pos h13,if_pos h13];exact zq1 hc0 hc0' B hx hy
 rw [if_neg h13,if_neg h13]
 by_cases h14:h.op=14
 ·rw [if_pos h14,if_pos h14];obtain ⟨a,ha,hl⟩:=hag (decide_eq_true (by omega));rw [ha];exact zuN hc0 hc0' B hl hx hy
 rw [if_neg h14,if_neg h14]
 by_cases h15:h.op=15
 ·rw [if_pos h15,if_pos h15];obtain ⟨a,ha,hl⟩:=hag (decide_eq_true (by omega));rw [ha];exact ztG hc0 hc0' B hl hx
 rw [if_neg h15,if_neg h15]
 intro v v' hz;simp
omit hc0 hc0' B in
theorem zi6:zV Z 0#64 0#64:=fun v v' hz=>by simp
theorem zi5 : ∀ (t:Tm),t.all zet→t.all (zhI p)→zV Z (ev (zau p) 0#64 t) (ev (zau p') 0#64 t)
 | .z h,h1,h2=>zkW hc0 hc0' B h1 h2 zi6 zi6
 | .u h x,h1,h2=>zkW hc0 hc0' B h1.1 h2.1 (zi5 x h1.2 h2.2) zi6
 | .b h x y,h1,h2=>zkW hc0 hc0' B h1.1 h2.1 (zi5 x h1.2.1 h2.2.1) (zi5 y h1.2.2 h2.2.2)
end
end Go.Ab
namespace Go.Proofs
def Tryz.lays129_ren:Go.Shelf.Ren:=⟨fun|129=>159|n=>n,fun|53=>44|3=>3|4=>4|46=>101|5=>5|9=>9|n=>n,fun|n=>n⟩
theorem Tryz.lays129:Go.Proofs.Lays.n129 Tryz.prog Tryz.lays129_ren := {
 mixed:=by kernel_rfl
 f129:=Tryz.func159.trans (congrArg some (by kernel_rfl))
 t3:=Tryz.underlying3
 a3:=Tryz.isAgg3
 z3:=Tryz.sizeOf3
 v3:=Tryz.zeroValue3
 t4:=Tryz.underlying4
 a4:=Tryz.isAgg4
 z4:=Tryz.sizeOf4
 v4:=Tryz.zeroValue4
 t5:=Tryz.underlying5
 a5:=Tryz.isAgg5
 z5:=Tryz.sizeOf5
 v5:=Tryz.zeroValue5
 t9:=Tryz.underlying9
 a9:=Tryz.isAgg9
 z9:=Tryz.sizeOf9
 v9:=Tryz.zeroValue9
 t46:=Tryz.underlying101
 a46:=Tryz.isAgg101
 z46:=Tryz.sizeOf101
 v46:=Tryz.zeroValue101
 t53:=Tryz.underlying44
 a53:=Tryz.isAgg44
 z53:=Tryz.sizeOf44
 v53:=Tryz.zeroValue44 }
end Go.Proofs
namespace Go.Ab
open Go Go.Proofs
set_option maxRecDepth 10000
set_option maxHeartbeats 4000000
variable {T:Nat→Obj→Prop}
theorem ztP:zcq Tryz.prog zcy:=⟨_,Tryz.func159,by kernel_rfl,by kernel_rfl⟩
theorem zrF (x:BitVec 64):Fn Tryz.prog T zcy [.d (.u64 x)] [] (.d (.int .i64 (Sort.bitsLen x.toNat:Int))) []:=by
 refine ztg (ds:=[.u64 x]) ztP fun w args hw hsz hargs=>?_
 obtain ⟨X,hX⟩:=hargs 0 (by simp)
 have ha:args = #[.int .u64 (x.toNat:Int)]:=by
  have h0:args.getD 0 undef = .int .u64 (x.toNat:Int):=by
   generalize args.getD 0 undef=y at hX
   cases hX;rfl
  obtain ⟨l⟩:=args
  match l,hsz with
  | [y],_=>rw [← h0];rfl
 rw [ha]
 have:=Any.bits_Len64 Tryz.lays129 (x.toNat:Int) w (by omega) (by have:=x.isLt;omega)
 refine this.mono fun e w' he=>⟨_,he.1,he.2,fun X=>?_⟩
 rw [Int.toNat_natCast,Go.Proofs.bitLen_eq _ x.isLt]
 exact .int _ _ (by decide)
theorem zzm (x:BitVec 64):Fn Tryz.prog T zdd [.d (.u64 x)] [] (.d (.int .i64 (Sort.bitsLen x.toNat:Int))) []:=by
 refine zj zz zox (by show 1≤8;decide) ?_
 (repeat' ((conv=>whnf);first|refine vT ?_|refine vX ?_|refine yD (zrF _) ⟨⟨rfl,rfl⟩,rfl⟩ rfl ?_));all_goals try conv=>whnf
end Go.Ab
namespace Go.Ab
open Go Go.Proofs
set_option maxRecDepth 10000
set_option maxHeartbeats 4000000
variable {T:Nat→Obj→Prop}
section
open Go.Sort
variable {α:Type} [Inhabited α] (lt:α→α→Bool)
def zfp (d:Array α) (a b p lim:Nat) (wb wp:Bool):Array α :=
 if a > 0∧lt d[a - 1]! d[p]! = false then pdq lt (partitionEqual lt d a b p).2 (partitionEqual lt d a b p).1 b lim wb wp
 else if (partition lt d a b p).1 - a < b - (partition lt d a b p).1 then
  pdq lt (pdq lt (partition lt d a b p).2.2 a (partition lt d a b p).1 lim true true) ((partition lt d a b p).1+1) b lim (decide ((partition lt d a b p).1 - a ≥ (b - a) / 8)) (partition lt d a b p).2.1
 else pdq lt (pdq lt (partition lt d a b p).2.2 ((partition lt d a b p).1+1) b lim true true) a (partition lt d a b p).1 lim (decide (b - (partition lt d a b p).1 ≥ (b - a) / 8)) (partition lt d a b p).2.1
def zse (d:Array α) (a b p lim:Nat) (wb wp:Bool) (hint:Hint):Array α :=
 if wb=true∧wp=true∧hint = .increasing then (if (partialInsertionSort lt d a b).2=true then (partialInsertionSort lt d a b).1 else zfp lt (partialInsertionSort lt d a b).1 a b p lim wb wp)
 else zfp lt d a b p lim wb wp
def znM (d:Array α) (a b lim:Nat) (wb wp:Bool):Array α :=
 if (choosePivot lt d a b).2 = .decreasing then zse lt (reverseRange d a b) a b ((b - 1) - ((choosePivot lt d a b).1 - a)) lim wb wp .increasing
 else zse lt d a b (choosePivot lt d a b).1 lim wb wp (choosePivot lt d a b).2
variable {lt}
theorem zna {d:Array α} {a b p:Nat} (hab:a < b) (hb:b≤d.size):a < (partitionEqual lt d a b p).1∧(partitionEqual lt d a b p).1≤b∧(partitionEqual lt d a b p).2.size=d.size:=by
 obtain ⟨h1,h2,h3,_⟩:=partEqLoop_spec lt a b (b - 1+1 - (a+1)) (a+1) (b - 1) (Sort.swp d a p) (Nat.le_refl _) (by omega) (by omega) (by omega) (by rw [Ab.swp_size];exact hb) (fun t _ _=>by omega) (fun t _ _=>by omega)
 exact ⟨h1,h2,by rw [show (partitionEqual lt d a b p).2=(partEqLoop lt a (a+1) (b - 1) (Sort.swp d a p)).2 from rfl,h3.1,Ab.swp_size]⟩
theorem zxy (hS:SWO lt) {d:Array α} {a b p lim:Nat} {wb wp:Bool} (ha:a≤p) (hp:p < b) (hb:b≤d.size) :
  (if a > 0 && !lt d[a - 1]! d[p]! then
   match partitionEqual lt d a b p with
   | (mid,d4)=>if _h:a < mid∧mid≤b then pdq lt d4 mid b lim wb wp else d4
  else
   match partition lt d a b p with
   | (mid,ap,d4) =>
    if _h:a≤mid∧mid < b then
     if mid - a < b - mid then pdq lt (pdq lt d4 a mid lim true true) (mid+1) b lim (decide (mid - a ≥ (b - a) / 8)) ap
     else pdq lt (pdq lt d4 (mid+1) b lim true true) a mid lim (decide (b - mid ≥ (b - a) / 8)) ap
    else d4)=zfp lt d a b p lim wb wp:=by
 obtain ⟨e1,e2,_⟩:=zna (lt:=lt) (p:=p) (show a < b by omega) hb
 obtain ⟨q1,q2,_⟩:=partition_holds lt hS d a b p ha hp hb
 unfold zfp
 by_cases h:a > 0∧lt d[a - 1]! d[p]! = false
 ·rw [if_pos h,if_pos (by simpa using h)]
  exact dif_pos ⟨e1,e2⟩
 ·rw [if_neg h,if_neg (by simpa using h)]
  exact dif_pos ⟨q1,q2⟩
theorem ziV : ∀ {j:Nat} {d:Array α},(Sort.shiftDown lt j d).size=d.size
 | 0,d=>rfl
 | j+1,d=>by
  unfold Sort.shiftDown
  split
  ·rfl
  ·rw [ziV,Ab.swp_size]
theorem zmg {b:Nat} : ∀ (n j:Nat) (d:Array α),b - j≤n→(Sort.shiftUp lt b j d).size=d.size
 | 0,j,d,h=>by rw [Sort.shiftUp,if_neg (by omega)]
 | n+1,j,d,h=>by
  rw [Sort.shiftUp]
  split
  ·split
   ·rfl
   ·rw [zmg n _ _ (by omega),Ab.swp_size]
  ·rfl
theorem zoI {a b:Nat} : ∀ (s i:Nat) (d:Array α),(Sort.partialIns lt a b s i d).1.size=d.size
 | 0,i,d=>rfl
 | s+1,i,d=>by
  rw [Sort.partialIns_succ]
  split
  ·rfl
  ·split
   ·rfl
   ·rw [zoI s]
    unfold Sort.fixUp Sort.fixDown
    split<;>split<;>simp [zmg _ _ _ (Nat.le_refl _),ziV,Ab.swp_size]
theorem zl4 {a b:Nat} {d:Array α} : (Sort.partialInsertionSort lt d a b).1.size=d.size:=zoI _ _ _
theorem zzt (hS:SWO lt) {d:Array α} {a b limit:Nat} {wb wp:Bool} (h12 : ¬b - a≤12) (h0:limit≠0) (hb:b≤d.size) :
  pdq lt d a b limit wb wp=if wb=true then znM lt d a b limit wb wp else znM lt (breakPatterns d a b) a b (limit - 1) wb wp:=by
 have key : ∀ (d1:Array α) (lim:Nat),d1.size=d.size →
   (if (if (wb&&wp&&decide ((if (choosePivot lt d1 a b).2 = .decreasing then Hint.increasing else (choosePivot lt d1 a b).2) = .increasing))=true then partialInsertionSort lt (if (choosePivot lt d1 a b).2 = .decreasing then reverseRange d1 a b else d1) a b else ((if (choosePivot lt d1 a b).2 = .decreasing then reverseRange d1 a b else d1),false)).2=true then
    (if (wb&&wp&&decide ((if (choosePivot lt d1 a b).2 = .decreasing then Hint.increasing else (choosePivot lt d1 a b).2) = .increasing))=true then partialInsertionSort lt (if (choosePivot lt d1 a b).2 = .decreasing then reverseRange d1 a b else d1) a b else ((if (choosePivot lt d1 a b).2 = .decreasing then reverseRange d1 a b else d1),false)).1
   else zfp lt (if (wb&&wp&&decide ((if (choosePivot lt d1 a b).2 = .decreasing then Hint.increasing else (choosePivot lt d1 a b).2) = .increasing))=true then partialInsertionSort lt (if (choosePivot lt d1 a b).2 = .decreasing then reverseRange d1 a b else d1) a b else ((if (choosePivot lt d1 a b).2 = .decreasing then reverseRange d1 a b else d1),false)).1 a b
    (if (choosePivot lt d1 a b).2 = .decreasing then (b - 1) - ((choosePivot lt d1 a b).1 - a) else (choosePivot lt d1 a b).1) lim wb wp)=znM lt d1 a b lim wb wp:=by
  intro d1 lim _
  unfold znM zse
  by_cases hc:(choosePivot lt d1 a b).2 = .decreasing
  ·simp only [hc,if_true]
   by_cases hw:wb=true∧wp=true
   ·simp [hw.1,hw.2]
   ·have:(wb&&wp)=false:=by
     cases wb<;>cases wp<;>simp_all
    simp [this,hw]
  ·simp only [hc,if_false]
   by_cases hw:wb=true∧wp=true∧(choosePivot lt d1 a b).2 = .increasing
   ·simp [hw.1,hw.2.1,hw.2.2]
   ·have:(wb&&wp&&decide ((choosePivot lt d1 a b).2 = .increasing))=false:=by
     cases wb<;>cases wp<;>simp_all
    simp only [this,Bool.false_eq_true,if_false,if_neg hw]
 have fin : ∀ (d1:Array α) (lim:Nat),PermIn a b d d1→(let c:=choosePivot lt d1 a b
  let d2:=if c.2 = .decreasing then reverseRange d1 a b else d1
  let pivot:=if c.2 = .decreasing then (b - 1) - (c.1 - a) else c.1
  let hint:=if c.2 = .decreasing then Hint.increasing else c.2
  let pi:=if wb&&wp&&hint = .increasing then partialInsertionSort lt d2 a b else (d2,false)
  if pi.2 then pi.1 else
  let d3:=pi.1
  if a > 0 && !lt d3[a - 1]! d3[pivot]! then
   match partitionEqual lt d3 a b pivot with
   | (mid,d4)=>if _h:a < mid∧mid≤b then pdq lt d4 mid b lim wb wp else d4
  else
   match partition lt d3 a b pivot with
   | (mid,ap,d4) =>
    if _h:a≤mid∧mid < b then
     if mid - a < b - mid then pdq lt (pdq lt d4 a mid lim true true) (mid+1) b lim (decide (mid - a ≥ (b - a) / 8)) ap
     else pdq lt (pdq lt d4 (mid+1) b lim true true) a mid lim (decide (b - mid ≥ (b - a) / 8)) ap
    else d4)=znM lt d1 a b lim wb wp:=by
  intro d1 lim hp1
  rw [← key d1 lim hp1.1]
  have hc:=choosePivot_holds lt d1 a b (by omega)
  have hpv:=pivot_range hc.1 hc.2 ((choosePivot lt d1 a b).2 = .decreasing)
  have hr:(if (choosePivot lt d1 a b).2 = .decreasing then reverseRange d1 a b else d1).size=d.size:=by
   split
   ·rw [(reverseRange_holds d1 a b (by omega) (by rw [hp1.1];exact hb)).1,hp1.1]
   ·exact hp1.1
  refine ite_congr rfl (fun _=>rfl) fun _=>zxy hS ?_ ?_ ?_
  ·exact hpv.1
  ·exact hpv.2
  ·by_cases hw:(wb&&wp&&decide ((if (choosePivot lt d1 a b).2 = .decreasing then Hint.increasing else (choosePivot lt d1 a b).2) = .increasing))=true
   ·rw [if_pos hw,zl4,hr];exact hb
   ·rw [if_neg hw]
    show b≤(if (choosePivot lt d1 a b).2 = .decreasing then reverseRange d1 a b else d1).size
    rw [hr];exact hb
 rw [Sort.pdq,if_neg h12,if_neg h0]
 cases wb with
 | true=>exact fin d limit (permIn_refl d a b)
 | false=>exact fin (breakPatterns d a b) (limit - 1) (breakPatterns_holds d a b (by omega) hb)
theorem zpR {a b:Nat} : ∀ (n i:Nat) (d:Array α),b - i≤n→(Sort.insOuter lt a b i d).size=d.size
 | 0,i,d,h=>by rw [Ab.insOuter_stop (by omega)]
 | n+1,i,d,h=>by
  by_cases h1:i < b
  ·rw [Ab.insOuter_step h1,zpR n _ _ (by omega),Ab.insInner_size]
  ·rw [Ab.insOuter_stop h1]
theorem zsf {first:Nat} : ∀ (k:Nat) (d:Array α),(Sort.heapPop lt first k d).size=d.size
 | 0,d=>rfl
 | k+1,d=>by rw [Sort.heapPop,zsf k,Ab.siftDown_size,Ab.swp_size]
theorem zxx (hS:SWO lt) : ∀ (N:Nat) (d:Array α) (a b limit:Nat) (wb wp:Bool),b - a≤N→a≤b→b≤d.size→(pdq lt d a b limit wb wp).size=d.size:=by
 intro N
 induction N using Nat.strongRecOn with
 | _ N ih =>
 intro d a b limit wb wp hN hab hb
 by_cases h12:b - a≤12
 ·rw [Sort.pdq,if_pos h12];exact zpR _ _ _ (Nat.le_refl _)
 by_cases h0:limit=0
 ·rw [Sort.pdq,if_neg h12,if_pos h0,Sort.heapSort,zsf,Ab.build_size]
 have tail : ∀ (u:Array α) (p lim:Nat),u.size=d.size→a≤p→p < b→(zfp lt u a b p lim wb wp).size=d.size:=by
  intro u p lim hu h1 h2
  obtain ⟨e1,e2,e3⟩:=zna (lt:=lt) (p:=p) (show a < b by omega) (show b≤u.size by omega)
  obtain ⟨q1,q2,q3,_⟩:=partition_holds lt hS u a b p h1 h2 (by omega)
  unfold zfp
  split
  ·rw [ih (b - (partitionEqual lt u a b p).1) (by omega) _ _ _ _ _ _ (Nat.le_refl _) e2 (by omega),e3,hu]
  ·split
   ·rw [ih (b - ((partition lt u a b p).1+1)) (by omega) _ _ _ _ _ _ (Nat.le_refl _) (by omega) (by rw [ih ((partition lt u a b p).1 - a) (by omega) _ _ _ _ _ _ (Nat.le_refl _) q1 (by rw [q3.1];omega),q3.1];omega),
     ih ((partition lt u a b p).1 - a) (by omega) _ _ _ _ _ _ (Nat.le_refl _) q1 (by rw [q3.1];omega),q3.1,hu]
   ·rw [ih ((partition lt u a b p).1 - a) (by omega) _ _ _ _ _ _ (Nat.le_refl _) (by omega) (by rw [ih (b - ((partition lt u a b p).1+1)) (by omega) _ _ _ _ _ _ (Nat.le_refl _) (by omega) (by rw [q3.1];omega),q3.1];omega),
     ih (b - ((partition lt u a b p).1+1)) (by omega) _ _ _ _ _ _ (Nat.le_refl _) (by omega) (by rw [q3.1];omega),q3.1,hu]
 have goD : ∀ (u:Array α) (p lim:Nat) (hint:Hint),u.size=d.size→a≤p→p < b→(zse lt u a b p lim wb wp hint).size=d.size:=by
  intro u p lim hint hu h1 h2
  unfold zse
  split
  ·split
   ·rw [zl4,hu]
   ·exact tail _ _ _ (by rw [zl4,hu]) h1 h2
  ·exact tail _ _ _ hu h1 h2
 have goC : ∀ (u:Array α) (lim:Nat),u.size=d.size→(znM lt u a b lim wb wp).size=d.size:=by
  intro u lim hu
  have hc:=choosePivot_holds lt u a b (by omega)
  unfold znM
  split
  ·refine goD _ _ _ _ (by rw [(reverseRange_holds u a b hab (by omega)).1,hu]) (by omega) (by omega)
  ·exact goD _ _ _ _ hu hc.1 hc.2
 rw [zzt hS h12 h0 hb]
 split
 ·exact goC _ _ rfl
 ·exact goC _ _ (breakPatterns_holds d a b hab hb).1
end
end Go.Ab
namespace Go.Ab
open Go Go.Proofs
set_option maxRecDepth 10000
set_option maxHeartbeats 4000000
section
variable {α:Type} [Inhabited α] [DecidableEq α]
def ddA (d:Array α):Nat→List α
 | 0=>[]
 | n+1=>if 0 < n∧d[n]! = d[n - 1]! then ddA d n else ddA d n++[d[n]!]
def Steps (d:Array α):Prop := ∀ j,0 < j→j < d.size→d[j]! ≠ d[j - 1]!
theorem zwn {d:Array α} {n:Nat} (h:n < d.size):d.toList.take (n+1)=d.toList.take n++[d[n]!]:=by
 rw [List.take_add_one,zyj h];rfl
theorem zo6 {d:Array α} : ∀ {n:Nat},n≤d.size→(∀ j,0 < j→j < n→d[j]! ≠ d[j - 1]!)→ddA d n=d.toList.take n
 | 0,_,_=>rfl
 | n+1,h,hs=>by
  rw [ddA,if_neg (fun hh=>hs n hh.1 (by omega) hh.2),zo6 (by omega) (fun j h0 h1=>hs j h0 (by omega)),zwn (by omega)]
theorem zwW {d:Array α} {k:Nat} (h0:0 < k) (h1:k < d.size) (hk : ∀ j,0 < j→j < k→d[j]! ≠ d[j - 1]!) (he:d[k]! = d[k - 1]!):d.toList.take k=ddA d (k+1):=by
 rw [ddA,if_pos ⟨h0,he⟩,zo6 (by omega) hk]
theorem zxL {e:Array α} {a:Nat} {x:α} (h:a < e.size):(e.setIfInBounds a x).toList.take (a+1)=e.toList.take a++[x]:=by
 have hl:a < e.toList.length:=by simpa using h
 rw [Array.toList_setIfInBounds,List.take_add_one,List.getElem?_set_self hl,List.take_set_of_le (Nat.le_refl a)];rfl
theorem zyV {e:Array α} {a j:Nat} {x:α} (h:a≠j):(e.setIfInBounds a x)[j]! = e[j]! := by
 simp [getElem!_def,Array.getElem?_setIfInBounds_ne h]
theorem zyt {d:Array α} {n:Nat} (h:0 < n) (he:d[n]! = d[n - 1]!):ddA d (n+1)=ddA d n:=by rw [ddA,if_pos ⟨h,he⟩]
theorem zzj {d:Array α} {n:Nat} (he:d[n]! ≠ d[n - 1]!):ddA d (n+1)=ddA d n++[d[n]!]:=by rw [ddA,if_neg (fun h=>he h.2)]
theorem zyr {enc:α→D} {e:Array α} {z:D} {a n:Nat} (h:a≤e.size):((List.take a (e.toList.map enc))++(List.replicate n z++List.drop (a+n) (e.toList.map enc))).take a=(e.toList.take a).map enc:=by
 rw [List.take_append_of_le_length (by simp;omega),List.take_take,Nat.min_self,List.map_take]
end
end Go.Ab
namespace Go.Ab
open Go Go.Proofs
set_option maxRecDepth 10000
set_option maxHeartbeats 4000000
variable {T:Nat→Obj→Prop}
def uAt (r:List (BitVec 64)) (w:Nat):BitVec 64:=r.getD w 0
end Go.Ab
namespace Go.Ab
open Go Go.Proofs Go.MapKept
abbrev GI := List (Int × List Int)
theorem zrz : ∀ (l : List MapEntry) (ks : List Int) (i : Nat) (c : Int), ks.length = l.length → (∀ j, j < ks.length → (l.getD j default).key = .int .i64 (ks.getD j 0)) →
    (c ∉ ks ∧ Instr.findNow (.int .i64) (.int .i64 c) l i = some none) ∨ ∃ j, j < ks.length ∧ ks.getD j 0 = c ∧ Instr.findNow (.int .i64) (.int .i64 c) l i = some (some (i + j, (l.getD j default).val))
  | [], [], i, c, _, _ => .inl ⟨by simp, rfl⟩
  | [], _ :: _, _, _, h, _ => by simp at h
  | _ :: _, [], _, _, h, _ => by simp at h
  | e :: l, k :: ks, i, c, h, hk => by
    have h0 : e.key = .int .i64 k := by simpa using hk 0 (by simp)
    have hs : Instr.sameNow (.int .i64) (.int .i64 c) e.key = some (decide (c = k)) := by rw [h0]; simp [Instr.sameNow, zgG]
    by_cases hc : c = k
    · refine .inr ⟨0, by simp, by simp [hc], ?_⟩
      subst hc
      simp [Instr.findNow, hs]
    · rcases zrz l ks (i + 1) c (by simpa using h) (fun j hj => by simpa using hk (j + 1) (by simpa using hj)) with ⟨h1, h2⟩ | ⟨j, h1, h2, h3⟩
      · exact .inl ⟨by simp [hc, h1], by simp [Instr.findNow, hs, hc, h2]⟩
      · exact .inr ⟨j + 1, by simpa using h1, by simpa using h2, by simp [Instr.findNow, hs, hc, h3]; omega⟩
theorem zp9 {w : World} {m : Nat} {es : Array MapEntry} {clock : Nat} (hm : w.heap[m]? = some (.map es clock)) {c : Int} {v : Value} {r : Option (Nat × Value)} (hf : Instr.findNow (.int .i64) (.int .i64 c) es.toList 0 = some r)
    (hr : ∀ j u, r = some (j, u) → j < es.size ∧ (es.getD j default).key = .int .i64 c) :
    (Instr.mapUpdate 90 (.map (some m)) (.int .i64 c) v).run Tryz.prog w = .ok () { w with heap := w.heap.setIfInBounds m (match r with
      | none => .map (es.push { key := .int .i64 c, val := v, born := clock }) (clock + 1)
      | some p => .map (es.modify p.1 fun e => { e with key := .int .i64 c, val := v }) clock) } := by
  have hik : IsKey (.int .i64) (.int .i64 c) := rfl
  have hck := fun b => run_checkKey (w := w) Tryz.underlying3 hik b 9999
  have hfk := run_findKey (w := w) Tryz.underlying3 hf
  cases r with
  | none =>
    have hset := run_setObj_map (P := Tryz.prog) (.map (es.push { key := .int .i64 c, val := v, born := clock }) (clock + 1)) hm
    simp [Instr.mapUpdate, run_underlying Tryz.underlying90, zbd hm, hck, hfk, hset]
  | some p =>
    obtain ⟨j, u⟩ := p
    obtain ⟨hj, hkj⟩ := hr j u rfl
    have hold : ((es[j]?).map (·.key)).getD (.int .i64 c) = .int .i64 c := by
      rw [← hkj]; simp [Array.getD_eq_getD_getElem?, hj]
    have hset := run_setObj_map (P := Tryz.prog) (.map (es.modify j fun e => { e with key := .int .i64 c, val := v }) clock) hm
    simp [Instr.mapUpdate, run_underlying Tryz.underlying90, zbd hm, hck, hfk, hold, Instr.keyThatStays, zmd hik, hset]
structure Grp (O : World → Value → Nat → List Int → Prop) (w : World) (m : Nat) (gs : GI) (es : Array MapEntry) (clock : Nat) (blk : Nat → Nat) : Prop where
  heap : w.heap[m]? = some (.map es clock)
  st : zdR es clock
  size : es.size = gs.length
  key : ∀ i, i < gs.length → (es.getD i default).key = .int .i64 (gs.getD i default).1
  val : ∀ i, i < gs.length → O w (es.getD i default).val (blk i) (gs.getD i default).2
  apart : ∀ i j, i < gs.length → j < gs.length → blk i = blk j → i = j
section
variable {O : World → Value → Nat → List Int → Prop} {w : World} {m : Nat} {gs : GI} {es : Array MapEntry} {clock : Nat} {blk : Nat → Nat}
theorem Grp.find (h : Grp O w m gs es clock blk) (c : Int) : (c ∉ gs.map Prod.fst ∧ Instr.findNow (.int .i64) (.int .i64 c) es.toList 0 = some none) ∨
    ∃ j, j < gs.length ∧ (gs.getD j default).1 = c ∧ Instr.findNow (.int .i64) (.int .i64 c) es.toList 0 = some (some (j, (es.getD j default).val)) := by
  have hg : ∀ j, j < gs.length → (gs.map Prod.fst).getD j 0 = (gs.getD j default).1 := fun j hj => by simp [List.getD, hj]
  rcases zrz es.toList (gs.map Prod.fst) 0 c (by simp [h.size]) (fun j hj => by
    rw [List.length_map] at hj
    rw [zbq, h.key j hj, hg j hj]) with h1 | ⟨j, h1, h2, h3⟩
  · exact .inl h1
  · rw [List.length_map] at h1
    rw [hg j h1] at h2
    refine .inr ⟨j, h1, h2, ?_⟩
    rw [h3, Nat.zero_add, zbq]
theorem ziU {P : Program} {w : World} {t kt e : TypeId} {d : TypeDesc} {kv : Value} (ht : P.underlying t = some (.map kt e)) (hkd : P.underlying kt = some d) (hik : IsKey d kv) {zv : Value} (hz : ∀ w, (zeroValue e).run P w = .ok zv w)
    {ok : Bool} {m : Nat} {ents : Array MapEntry} {clock : Nat} (hm : w.heap[m]? = some (.map ents clock)) {r : Option (Nat × Value)} (hf : Instr.findNow d kv ents.toList 0 = some r) :
    (Instr.lookup t (.map (some m)) kv ok).run P w = .ok (if ok then .tuple #[zcY r zv, .bool r.isSome] else zcY r zv) w := by
  have hfk := run_findKey (w := w) hkd hf
  have hck : ∀ b, (Instr.checkKey b 10000 kt kv).run P w = .ok () w := fun b => run_checkKey hkd hik b 9999
  cases r with
  | none => simp [Instr.lookup, run_underlying ht, zbd hm, hck, hfk, hz, zcY]
  | some p => obtain ⟨i, v⟩ := p; simp [Instr.lookup, run_underlying ht, zbd hm, hck, hfk, zcY]
theorem zuh {w : World} {m : Nat} {es : Array MapEntry} {clock : Nat} (h : w.heap[m]? = some (.map es clock)) {c : Int} (hf : Instr.findNow (.int .i64) (.int .i64 c) es.toList 0 = some none) : (Instr.lookup 90 (.map (some m)) (.int .i64 c) false).run Tryz.prog w = .ok (.slice none 0 0) w := by
  have hz : ∀ w, (zeroValue 28).run Tryz.prog w = .ok (.slice none 0 0) w := fun w => by kernel_rfl
  simpa [zcY] using ziU (ok := false) Tryz.underlying90 Tryz.underlying3 (show IsKey (.int .i64) (.int .i64 c) from rfl) hz h hf
theorem zui {w : World} {m : Nat} {es : Array MapEntry} {clock : Nat} (h : w.heap[m]? = some (.map es clock)) {c : Int} {j : Nat} {v : Value} (hf : Instr.findNow (.int .i64) (.int .i64 c) es.toList 0 = some (some (j, v))) : (Instr.lookup 90 (.map (some m)) (.int .i64 c) false).run Tryz.prog w = .ok v w := by
  have hz : ∀ w, (zeroValue 28).run Tryz.prog w = .ok (.slice none 0 0) w := fun w => by kernel_rfl
  simpa [zcY] using ziU (ok := false) Tryz.underlying90 Tryz.underlying3 (show IsKey (.int .i64) (.int .i64 c) from rfl) hz h hf
theorem zrN {i j : Nat} {x : Int × List Int} (hi : i < gs.length) : (gs.set i x).getD j default = if j = i then x else gs.getD j default := by
  by_cases h : j = i
  · subst h; simp [List.getD, hi]
  · rw [if_neg h]; simp [List.getD, Ne.symm h]
theorem zrM {j : Nat} {x : Int × List Int} (hj : j < gs.length + 1) : (gs ++ [x]).getD j default = if j = gs.length then x else gs.getD j default := by
  by_cases h : j = gs.length
  · subst h; simp [List.getD]
  · rw [if_neg h]; simp [List.getD, List.getElem?_append_left (show j < gs.length by omega)]
theorem Grp.set {w1 : World} (h : Grp O w m gs es clock blk) {c : Int} {i : Nat} {u v : Value} {g : Nat} {zs : List Int} (hi : i < gs.length) (hc : (gs.getD i default).1 = c)
    (hf : Instr.findNow (.int .i64) (.int .i64 c) es.toList 0 = some (some (i, u))) (hm : w1.heap[m]? = some (.map es clock))
    (hv : ∀ o, O { w1 with heap := w1.heap.setIfInBounds m o } v g zs)
    (ho : ∀ o j, j < gs.length → j ≠ i → O { w1 with heap := w1.heap.setIfInBounds m o } (es.getD j default).val (blk j) (gs.getD j default).2) (hg : ∀ j, j < gs.length → j ≠ i → blk j ≠ g) :
    ∃ es', (Instr.mapUpdate 90 (.map (some m)) (.int .i64 c) v).run Tryz.prog w1 = .ok () { w1 with heap := w1.heap.setIfInBounds m (.map es' clock) } ∧
      Grp O { w1 with heap := w1.heap.setIfInBounds m (.map es' clock) } m (gs.set i (c, zs)) es' clock (fun j => if j = i then g else blk j) ∧ ∀ j, j < gs.length → (es'.getD j default).born = (es.getD j default).born := by
  have hj : i < es.size := by rw [h.size]; exact hi
  have hmod : ∀ j, (es.modify i fun e => { e with key := .int .i64 c, val := v }).getD j default = if j = i then { key := .int .i64 c, val := v, born := (es.getD i default).born } else es.getD j default := fun j => zm8 hj
  refine ⟨es.modify i fun e => { e with key := .int .i64 c, val := v }, zp9 hm hf (fun j u' e => ?_), ⟨?_, ?_, ?_, fun j hj' => ?_, fun j hj' => ?_, fun j k hj' hk' e => ?_⟩, fun j hj' => ?_⟩
  · cases e; exact ⟨hj, by rw [h.key i hi, hc]⟩
  · simp [zg hm]
  · refine ⟨fun p q hp hq he => ?_, fun p hp => ?_⟩
    · simp only [Array.size_modify] at hp hq
      rw [hmod, hmod] at he
      refine h.st.inj p q hp hq ?_
      split at he <;> split at he <;> simp_all
    · simp only [Array.size_modify] at hp
      rw [hmod p]
      by_cases e : p = i
      · rw [if_pos e]; exact h.st.lt i hj
      · rw [if_neg e]; exact h.st.lt p hp
  · simp [h.size]
  · rw [List.length_set] at hj'
    rw [hmod, zrN hi]
    split
    · rfl
    · exact h.key j hj'
  · rw [List.length_set] at hj'
    rw [hmod, zrN hi]
    split
    · exact hv _
    · exact ho _ j hj' ‹_›
  · rw [List.length_set] at hj' hk'
    by_cases e1 : j = i <;> by_cases e2 : k = i
    · omega
    · rw [if_pos e1, if_neg e2] at e; exact absurd e.symm (hg k hk' e2)
    · rw [if_neg e1, if_pos e2] at e; exact absurd e (hg j hj' e1)
    · rw [if_neg e1, if_neg e2] at e; exact h.apart j k hj' hk' e
  · rw [hmod j]
    by_cases e : j = i
    · rw [if_pos e, e]
    · rw [if_neg e]
theorem Grp.add {w1 : World} (h : Grp O w m gs es clock blk) {c : Int} {v : Value} {g : Nat} {zs : List Int}
    (hf : Instr.findNow (.int .i64) (.int .i64 c) es.toList 0 = some none) (hm : w1.heap[m]? = some (.map es clock))
    (hv : ∀ o, O { w1 with heap := w1.heap.setIfInBounds m o } v g zs)
    (ho : ∀ o j, j < gs.length → O { w1 with heap := w1.heap.setIfInBounds m o } (es.getD j default).val (blk j) (gs.getD j default).2) (hg : ∀ j, j < gs.length → blk j ≠ g) :
    ∃ es', (Instr.mapUpdate 90 (.map (some m)) (.int .i64 c) v).run Tryz.prog w1 = .ok () { w1 with heap := w1.heap.setIfInBounds m (.map es' (clock + 1)) } ∧
      Grp O { w1 with heap := w1.heap.setIfInBounds m (.map es' (clock + 1)) } m (gs ++ [(c, zs)]) es' (clock + 1) (fun j => if j = gs.length then g else blk j) := by
  have hget : ∀ j, (es.push { key := .int .i64 c, val := v, born := clock }).getD j default = if j = gs.length then { key := .int .i64 c, val := v, born := clock } else es.getD j default := by
    intro j
    rw [← h.size]
    simp only [Array.getD_eq_getD_getElem?, Array.getElem?_push]
    split <;> rfl
  refine ⟨es.push { key := .int .i64 c, val := v, born := clock }, zp9 hm hf (fun j u' e => by cases e), ⟨?_, zne h.st _ _, ?_, fun j hj' => ?_, fun j hj' => ?_, fun j k hj' hk' e => ?_⟩⟩
  · simp [zg hm]
  · simp [h.size]
  · simp only [List.length_append, List.length_cons, List.length_nil] at hj'
    rw [hget, zrM hj']
    split
    · rfl
    · exact h.key j (by omega)
  · simp only [List.length_append, List.length_cons, List.length_nil] at hj'
    rw [hget, zrM hj']
    split
    · exact hv _
    · exact ho _ j (by omega)
  · simp only [List.length_append, List.length_cons, List.length_nil] at hj' hk'
    by_cases e1 : j = gs.length <;> by_cases e2 : k = gs.length
    · omega
    · rw [if_pos e1, if_neg e2] at e; exact absurd e.symm (hg k (by omega))
    · rw [if_neg e1, if_pos e2] at e; exact absurd e (hg j (by omega))
    · rw [if_neg e1, if_neg e2] at e; exact h.apart j k (by omega) (by omega) e
end
end Go.Ab
namespace Go.Ab
open Go Go.Proofs
set_option maxRecDepth 10000
set_option maxHeartbeats 4000000
variable {T:Nat→Obj→Prop}
abbrev zma (d:Array (Int)):Ob := .row 1 (d.toList.map (D.int .i64))
end Go.Ab
namespace Go.Ab
open Go Go.Proofs
set_option maxRecDepth 10000
set_option maxHeartbeats 4000000
variable {T:Nat→Obj→Prop}
set_option maxHeartbeats 1000000 in
theorem zmK (d:Array Int) (hs:d.size≤536870912) (hd:Steps d):Fn Tryz.prog T zbG [.own 0] [zma d] (.own 0) [some (zma d)]:=by
 have hln:d.toList.length=d.size:=Array.length_toList
 refine zaW zz zc0 (by show 1≤61;decide) _ (fun e env mem n h=>h) ?_
 (repeat' ((conv=>whnf);first|refine vA ?_|(refine vF ?_ ?_<;>intro hc<;>try simp only [vL] at hc)|refine vJ fun hg=>?_));all_goals try conv=>whnf
 ·refine ⟨trivial,_,[(0,0)],[],rfl,.inl (by (repeat' exact rfl)),⟨by rfl,by rfl,by rfl,trivial,by (repeat' first|exact trivial|exact rfl|refine And.intro ?_ ?_|refine ⟨_,rfl,?_⟩|exact of_decide_eq_true rfl)⟩,by (repeat' first|exact trivial|exact rfl|refine And.intro ?_ ?_)⟩
 refine zu (fun (i:Int)=>[(0,.own 0),(3,.d (.int .i64 (i))),(ze,.own 0)]) (fun (i:Int)=>[(0,some (zma d))]) 1 (fun (i:Int) => ∃ k:Nat,i=k∧0 < k∧k≤d.size) (fun (i:Int)=>(d.size - i).toNat) (1) [(0,0)] [] (⟨1,rfl,by omega,by omega⟩) (by (refine ⟨rfl,rfl,rfl,?_,?_⟩;repeat' first|exact trivial|exact rfl|refine And.intro ?_ ?_|refine ⟨_,rfl,?_⟩|decide)) ?_
 rintro _ ⟨k,rfl,hk0,hk1⟩
 (repeat' ((conv=>whnf);first|refine vA ?_|(refine vF ?_ ?_<;>intro hc<;>try simp only [vL] at hc)|refine vJ fun hg=>?_|(refine vQ ?_ fun x hx=>?_;·omega)|((first|refine vO ?_ ?_|refine vP ?_ ?_);·first|omega|(simp only [vM] at *;omega))|(refine vU ?_ ?_;·kernel_rfl)|fail));all_goals try conv=>whnf
 ·have g1:=zdS (zfL k ‹d.toList[(k:Int).toNat]? = some _› rfl)
  have g2:=zdS (zfL (k - 1) ‹d.toList[((k:Int) - 1).toNat]? = some _› (by omega))
  exact absurd (g1.1.trans (‹_=_›.trans g2.1.symm)) (hd k hk0 g1.2)
 ·refine ⟨_,[(0,0)],[],?_,?_,by (refine ⟨rfl,rfl,rfl,?_,?_⟩;repeat' first|exact trivial|exact rfl|refine And.intro ?_ ?_|refine ⟨_,rfl,?_⟩|decide)⟩
  ·exact ⟨k+1,by omega,by omega,by omega⟩
  ·(omega)
 ·refine ⟨trivial,_,[(0,0)],[],rfl,.inl (by (repeat' exact rfl)),⟨by rfl,by rfl,by rfl,trivial,by (repeat' first|exact trivial|exact rfl|refine And.intro ?_ ?_|refine ⟨_,rfl,?_⟩|exact of_decide_eq_true rfl)⟩,by (repeat' first|exact trivial|exact rfl|refine And.intro ?_ ?_)⟩
set_option maxHeartbeats 1000000 in
theorem zlu (d:Array Int) (hs:d.size≤536870912) (hd : ¬Steps d):Fn Tryz.prog T zbG [.own 0] [zma d] (.own 1) [none,some (.row 1 ((ddA d d.size).map (D.int .i64)))]:=by
 generalize hR:(ddA d d.size).map (D.int .i64)=R
 have hln:d.toList.length=d.size:=Array.length_toList
 refine zaW zz zc0 (by show 1≤61;decide) _ (fun e env mem n h=>h) ?_
 (repeat' ((conv=>whnf);first|refine vA ?_|(refine vF ?_ ?_<;>intro hc<;>try simp only [vL] at hc)|refine vJ fun hg=>?_));all_goals try conv=>whnf
 ·exact absurd (fun j hj0 hj1=>by omega) hd
 refine zu (fun (i:Int)=>[(0,.own 0),(3,.d (.int .i64 (i))),(ze,.own 0)]) (fun (i:Int)=>[(0,some (zma d))]) 1 (fun (i:Int) => ∃ k:Nat,i=k∧0 < k∧k≤d.size ∧ ∀ j,0 < j→j < k→d[j]! ≠ d[j - 1]!) (fun (i:Int)=>(d.size - i).toNat) (1) [(0,0)] [] (⟨1,rfl,by omega,by omega,fun j _ _=>by omega⟩) (by (refine ⟨rfl,rfl,rfl,?_,?_⟩;repeat' first|exact trivial|exact rfl|refine And.intro ?_ ?_|refine ⟨_,rfl,?_⟩|decide)) ?_
 rintro _ ⟨k,rfl,hk0,hk1,hk⟩
 (repeat' ((conv=>whnf);first|refine vA ?_|(refine vF ?_ ?_<;>intro hc<;>try simp only [vL] at hc)|refine vJ fun hg=>?_|(refine vQ ?_ fun x hx=>?_;·omega)|((first|refine vO ?_ ?_|refine vP ?_ ?_);·first|omega|(simp only [vM] at *;omega))|(refine vU ?_ ?_;·kernel_rfl)|fail));all_goals try conv=>whnf
 ·have g1:=zdS (zfL k ‹d.toList[(k:Int).toNat]? = some _› rfl)
  have g2:=zdS (zfL (k - 1) ‹d.toList[((k:Int) - 1).toNat]? = some _› (by omega))
  have hkk:d[k]! = d[k - 1]! := g1.1.trans (‹_=_›.trans g2.1.symm)
  refine zu (fun ((w,q,xs):Int×Int×List D)=>[(0,.own 0),(3,.d (.int .i64 (w))),(4,.view 0 k ((d.toList.map (D.int .i64)).length - k)),(5,.d (.int .i64 (q))),(ze,.own 0)]) (fun ((w,q,xs):Int×Int×List D)=>[(0,some (.row 1 xs))]) 1 (fun ((w,q,xs):Int×Int×List D) => ∃ (a b:Nat) (e:Array Int),w=a∧q=b∧xs=e.toList.map (D.int .i64)∧0 < b∧k+b≤d.size∧a < k+b∧e.size=d.size∧e.toList.take a=ddA d (k+b) ∧ ∀ j,k+b - 1≤j→j < d.size→e[j]! = d[j]!) (fun ((w,q,xs):Int×Int×List D)=>(d.size - k - q).toNat) (((k:Int),(1:Int),d.toList.map (D.int .i64))) [(0,0)] [] (⟨k,1,d,rfl,rfl,rfl,by omega,by omega,by omega,rfl,zwW hk0 g1.2 hk hkk,fun _ _ _=>rfl⟩) (by (refine ⟨rfl,rfl,rfl,?_,?_⟩;repeat' first|exact trivial|exact rfl|refine And.intro ?_ ?_|refine ⟨_,rfl,?_⟩|decide)) ?_
  rintro ⟨_,_,_⟩ ⟨a,b,e,rfl,rfl,rfl,hb0,hb1,hab,he,ha,hj⟩
  have hle:e.toList.length=e.size:=Array.length_toList
  (repeat' ((conv=>whnf);first|refine vA ?_|((first|refine vD ?_ ?_|refine vF ?_ ?_)<;>intro hc<;>try simp only [vL] at hc)|refine vN ‹_› ?_|(refine vQ ?_ fun x hx=>?_;·omega)|((first|refine vO ?_ ?_|refine vP ?_ ?_);·first|omega|(simp only [vM] at *;omega))|(refine vU ?_ ?_;·kernel_rfl)|fail));all_goals try conv=>whnf
  ·have h1:=zdS ‹e.toList[k+((b:Nat):Int).toNat]? = some _›
   have h2:=zdS (zfL (i:=((k+b - 1:Nat):Int)) (k+b - 1) (by rw [← ‹e.toList[k+(((b:Nat):Int) - 1).toNat]? = some _›];congr 1;omega) rfl)
   simp only [Int.toNat_natCast] at h1
   have e1:=hj (k+b) (by omega) (by omega)
   have e2:=hj (k+b - 1) (by omega) (by omega)
   refine ⟨(_,_,_),[(0,0)],[],?_,?_,by (refine ⟨rfl,rfl,rfl,?_,?_⟩;repeat' first|exact trivial|exact rfl|refine And.intro ?_ ?_|refine ⟨_,rfl,?_⟩|decide)⟩
   ·exact ⟨a+1,b+1,e.setIfInBounds a e[k+b]!,by omega,by omega,by rw [h1.1];simp [List.map_set],by omega,by omega,by omega,by simp [he],
     by rw [zxL (by omega),ha,← Nat.add_assoc,zzj (by rw [← e1,← e2,h1.1,h2.1];assumption),e1],
     fun j h0 h1=>by rw [zyV (by omega)];exact hj j (by omega) h1⟩
   ·((simp only [vM] at *;omega))
  ·have h1:=zdS ‹e.toList[k+((b:Nat):Int).toNat]? = some _›
   have h2:=zdS (zfL (i:=((k+b - 1:Nat):Int)) (k+b - 1) (by rw [← ‹e.toList[k+(((b:Nat):Int) - 1).toNat]? = some _›];congr 1;omega) rfl)
   simp only [Int.toNat_natCast] at h1
   have e1:=hj (k+b) (by omega) (by omega)
   have e2:=hj (k+b - 1) (by omega) (by omega)
   refine ⟨(_,_,_),[(0,0)],[],?_,?_,by (refine ⟨rfl,rfl,rfl,?_,?_⟩;repeat' first|exact trivial|exact rfl|refine And.intro ?_ ?_|refine ⟨_,rfl,?_⟩|decide)⟩
   ·exact ⟨a,b+1,e,rfl,by omega,rfl,by omega,by omega,by omega,he,
     by rw [ha,← Nat.add_assoc,zyt (by omega) (by rw [← e1,← e2,h1.1,h2.1];assumption)],
     fun j h0 h1=>hj j (by omega) h1⟩
   ·((simp only [vM] at *;omega))
  ·have hE:=zyr (enc:=(D.int .i64)) (e:=e) (z:=(D.int .i64) 0) (a:=a) (n:=(e.toList.map (D.int .i64)).length - a) (by omega)
   rw [ha,show k+b=d.size by omega,hR] at hE
   subst hE
   refine zqG.mk (by simp only [List.length_append,List.length_take,List.length_replicate,List.length_drop,List.length_map,hle];omega) ?_
   (repeat' ((conv=>whnf);fail));all_goals try conv=>whnf
   refine ⟨trivial,_,[(1,1)],[],rfl,.inl (by (repeat' exact rfl)),⟨by rfl,by rfl,by rfl,trivial,by (repeat' first|exact trivial|exact rfl|refine And.intro ?_ ?_|refine ⟨_,rfl,?_⟩|exact of_decide_eq_true rfl)⟩,by (repeat' first|exact trivial|refine And.intro ?_ ?_)⟩
 ·refine ⟨_,[(0,0)],[],?_,?_,by (refine ⟨rfl,rfl,rfl,?_,?_⟩;repeat' first|exact trivial|exact rfl|refine And.intro ?_ ?_|refine ⟨_,rfl,?_⟩|decide)⟩
  ·exact ⟨k+1,by omega,by omega,by omega,fun j h0 h1=>by
    by_cases hjk:j=k
    ·subst hjk
     have g1:=zdS (zfL j ‹d.toList[(j:Int).toNat]? = some _› rfl)
     have g2:=zdS (zfL (j - 1) ‹d.toList[((j:Int) - 1).toNat]? = some _› (by omega))
     rw [g1.1,g2.1];assumption
    ·exact hk j h0 (by omega)⟩
  ·(omega)
 ·exact absurd (fun j h0 h1=>hk j h0 (by omega)) hd
end Go.Ab
namespace Go.Ab
open Go Go.Proofs Go.MapKept
variable {T : Nat → Obj → Prop}
def O2 (base : Nat) (w : World) (v : Value) (g : Nat) (zs : List Int) : Prop := ∃ cap c e, v = .slice (some ⟨g, 0, none⟩) zs.length cap ∧ base ≤ g ∧ w.heap[g]? = some (.cells c e (0, 0)) ∧ zs.length ≤ cap ∧ cap ≤ c.size ∧ zs.length ≤ 536870912 ∧
  ∀ j, j < zs.length → c.getD j undef = .int .i64 (zs.getD j 0)
def zaC (zs : List Int) : Ob := .row 1 (zs.map (D.int .i64))
theorem O2.kept {base : Nat} {w w' : World} {v : Value} {g : Nat} {zs : List Int} (h : O2 base w v g zs) (hg : w'.heap[g]? = w.heap[g]?) : O2 base w' v g zs := by
  obtain ⟨cap, c, e, h1, h2, h3, h4⟩ := h
  exact ⟨cap, c, e, h1, h2, hg.trans h3, h4⟩
def zqL (T : Nat → Obj → Prop) (w : World) (g : Nat) : zq where
  w0 := w
  O := fun b => b < w.heap.size ∧ b ≠ g
  R := fun b => b = g
  nt := 0
  pin := fun b o => T b o ∧ w.heap[b]? = some o ∧ b ≠ g
  pinO := fun b o h => ⟨zg h.2.1, h.2.2⟩
  ghost := fun _ => undef
  small := Nat.zero_le _
  dfr := []
  inv := fun _ _ _ _ => True
  stab := fun _ _ _ _ _ _ _ _ _ _ _ _ => trivial
  mono := fun _ _ _ _ _ _ _ => trivial
theorem zz1 {base : Nat} {w : World} {v : Value} {g : Nat} {zs : List Int} (h : O2 base w v g zs) :
    Sim (zqL T w g) (fun _ => .undef) (zo [some (zaC zs)]) (fun i => 1 ≤ i) (fun _ => some g) ⟨#[], []⟩ w ∧
    VSim (fun _ => some g) (zo [some (zaC zs)]) (fun i => 1 ≤ i) ((zqL T w g).X (fun _ => some g) (zo [some (zaC zs)])) w (.own 0) v := by
  obtain ⟨cap, c, e, rfl, h2, h3, h4, h5, h6, h7⟩ := h
  have hm : ∀ i, zo [some (zaC zs)] i = if i = 0 then some (zaC zs) else none := fun i => by
    match i with
    | 0 => rfl
    | i + 1 => rfl
  have e0 : ∀ i, zo [some (zaC zs)] i ≠ none → i = 0 := fun i hi => by
    rw [hm] at hi
    by_cases h : i = 0
    · exact h
    · rw [if_neg h] at hi; exact absurd rfl hi
  refine ⟨⟨fun t => .undef _, fun id ob hid => ?_, fun i j b hi hj _ _ => by rw [e0 i hi, e0 j hj], fun id b hi hb => ?_, fun id hid => by rw [hm, if_neg (by omega)], ⟨rfl, rfl, rfl, Nat.le_refl _, fun _ _ _ => rfl, fun b c e h => ⟨c, h, rfl⟩⟩, ⟨rfl, rfl⟩, fun b hb => hb.1, fun b o h => h.2.1, fun _ _ _ => trivial⟩, ?_⟩
  · rw [hm] at hid
    by_cases h : id = 0
    · rw [if_pos h] at hid
      cases hid
      refine .row 1 (zs.map (D.int .i64)) g c e rfl h3 (by rw [List.length_map]; omega) (by rw [List.length_map]; omega) (fun x hx => ?_) (fun i j hi hj => ?_)
      · obtain ⟨y, -, rfl⟩ := List.mem_map.1 hx
        rfl
      · rw [List.length_map] at hi
        have : j = 0 := by omega
        subst this
        rw [Nat.mul_one, Nat.add_zero, h7 i hi]
        rw [show (zs.map (D.int .i64)).getD i .nil = .int .i64 (zs.getD i 0) by simp [List.getD, hi]]
        exact .int .i64 _ (by simp)
    · rw [if_neg h] at hid; cases hid
  · cases hb
    exact ⟨fun h => h.2 rfl, .inl rfl⟩
  · have := VSim.own (σ := fun _ => some g) (M := zo [some (zaC zs)]) (F := fun i => 1 ≤ i) (X := (zqL T w g).X (fun _ => some g) (zo [some (zaC zs)])) (w := w) 0 1 (zs.map (D.int .i64)) g cap c e rfl rfl h3 (by rw [List.length_map]; omega) (by omega)
    rwa [List.length_map] at this
theorem zuf {w w' : World} {g : Nat} (h : ztC (fun b => b = g) w w') : w.grownBy w' (some g) :=
  ⟨h.os, h.tape, h.output, h.size, fun b hb hne => h.block b hb (fun e => hne (by rw [e]))⟩
theorem zpm {σ : Nat → Option Nat} {M : Nat → Option Ob} {F X : Nat → Prop} {w : World} {id : Nat} {ys : List Int} {v : Value} (hV : VSim σ M F X w (.own id) v) (hO : za5 σ M F X w id (zaC ys)) (hm : M id = some (zaC ys)) (hl : ys.length ≤ 536870912) (h0 : ys ≠ []) :
    ∃ g, σ id = some g ∧ O2 0 w v g ys := by
  have hlen : (ys.map (D.int .i64)).length = ys.length := List.length_map _
  unfold zaC at hm hO
  have pos : 0 < ys.length := List.length_pos_iff.2 h0
  cases hV with
  | ownDead _ ad l c h1 => rw [hm] at h1; cases h1
  | ownNil _ s h1 => rw [hm] at h1; simp at h1; exact absurd h1.2 h0
  | own _ s xs b cap c e h1 h2 h3 h4 h5 =>
    rw [hm] at h1
    simp only [Option.some.injEq, Ob.row.injEq] at h1
    obtain ⟨rfl, rfl⟩ := h1
    refine ⟨b, h2, cap, c, e, by rw [hlen], Nat.zero_le _, h3, by omega, by omega, hl, fun j hj => ?_⟩
    generalize hxs : ys.map (D.int .i64) = xs at hO hlen
    cases hO with
    | nilrow s h => rw [List.length_nil] at hlen; omega
    | row s xs' b' c' e' g1 g2 g3 g4 g5 g6 =>
      rw [h2] at g1; cases g1
      rw [h3] at g2; cases g2
      have := g6 j 0 (by omega) (by omega)
      rw [Nat.mul_one, Nat.add_zero, ← hxs, show (ys.map (D.int .i64)).getD j .nil = .int .i64 (ys.getD j 0) by simp [List.getD, hj]] at this
      generalize c.getD j undef = z at this ⊢
      cases this; rfl
theorem zrf {f : Nat} {zs ys : List Int} {id : Nat} {obs' : List (Option Ob)} (hf : Fn Tryz.prog T f [.own 0] [zaC zs] (.own id) obs') (hid : zo obs' id = some (zaC ys)) (hl : ys.length ≤ 536870912) (h0 : ys ≠ [])
    {base : Nat} {w : World} {v : Value} {g : Nat} (h : O2 base w v g zs) (hT : ∀ b o, T b o → w.heap[b]? = some o ∧ b ≠ g) (hb : base ≤ w.heap.size) :
    Calls Tryz.prog f #[v] w fun e w' => ∃ v' g', e = .returned v' ∧ O2 base w' v' g' ys ∧ (g' = g ∨ w.heap.size ≤ g') ∧ w.grownBy w' (some g) := by
  obtain ⟨hS, hV⟩ := zz1 (T := T) h
  have hbg : base ≤ g := by obtain ⟨_, _, _, _, h2, _⟩ := h; exact h2
  intro cs
  obtain ⟨v', w', σ', ⟨fr, hc, hfn, hlk⟩, hS', hV', -⟩ := hf.2 (zqL T w g) (fun _ => some g) ⟨#[], []⟩ w #[v] (fun b o ht => ⟨ht, hT b o ht⟩) (fun _ _ _ _ => trivial) hS rfl (fun i hi => by
    match i, hi with
    | 0, _ => exact hV) cs
  obtain ⟨g', hg', cap, c, e, q1, -, q2⟩ := zpm hV' (hS'.mem id _ hid) hid hl h0
  have hmine := (hS'.mine id g' (by rw [hid]; simp) hg').2
  refine ⟨.returned v', w', fr, ⟨v', g', rfl, ⟨cap, c, e, q1, ?_, q2⟩, hmine, zuf hS'.kept⟩, hc, hfn, hlk⟩
  rcases hmine with rfl | h
  · exact hbg
  · exact Nat.le_trans hb h
end Go.Ab
namespace Go.Ab
open Go Go.Proofs Go.MapKept
def inC (rank cell : List Int) (k : Nat) (c : Int) : List Int := ((List.range k).filter fun w => at0 cell w == c).map (at0 rank)
def zI (cell rank : List Int) (k : Nat) : GI := (zy (cell.take k)).map fun c => (c, inC rank cell k c)
theorem zjL {cell rank : List Int} {k : Nat} {c : Int} : inC rank cell (k + 1) c = inC rank cell k c ++ (if at0 cell k = c then [at0 rank k] else []) := by
  unfold inC
  rw [List.range_succ, List.filter_append, List.map_append]
  congr 1
  by_cases h : at0 cell k = c
  · simp [h]
  · simp [h]
theorem ztk {cell rank : List Int} {k : Nat} {c : Int} : (inC rank cell k c).length ≤ k := by
  unfold inC
  rw [List.length_map]
  have := List.length_filter_le (fun w => at0 cell w == c) (List.range k)
  rwa [List.length_range] at this
theorem zm6 {l : List Int} {c : Int} : zy (l ++ [c]) = if c ∈ zy l then zy l else zy l ++ [c] := by
  simp only [zy, List.foldl_append, List.foldl_cons, List.foldl_nil]
  by_cases h : c ∈ List.foldl (fun l c => if c ∈ l then l else l ++ [c]) [] l
  · exact (if_pos h).trans (if_pos h).symm
  · exact (if_neg h).trans (if_neg h).symm
theorem zoC : ∀ {l acc : List Int}, acc.Nodup → (l.foldl (fun l c => if c ∈ l then l else l ++ [c]) acc).Nodup
  | [], acc, h => h
  | x :: l, acc, h => by
    rw [List.foldl_cons]
    refine zoC ?_
    split
    · exact h
    · rename_i hx
      exact List.nodup_append.2 ⟨h, by simp, fun a ha b hb => by simp at hb; subst hb; intro e; subst e; exact hx ha⟩
theorem zlY {l : List Int} : (zy l).Nodup := zoC List.nodup_nil
theorem zss {cell : List Int} {k : Nat} (h : k < cell.length) : cell.take (k + 1) = cell.take k ++ [at0 cell k] := by
  rw [List.take_add_one, ziu h]; rfl
theorem zpP {cell rank : List Int} {k : Nat} : (zI cell rank k).map Prod.fst = zy (cell.take k) := by
  rw [zI, List.map_map]
  exact (List.map_congr_left fun _ _ => rfl).trans (List.map_id _)
theorem zzo {cell rank : List Int} {k : Nat} (hk : k < cell.length) (h : at0 cell k ∉ (zI cell rank k).map Prod.fst) : zI cell rank (k + 1) = zI cell rank k ++ [(at0 cell k, [at0 rank k])] := by
  rw [zpP] at h
  have h0 : inC rank cell k (at0 cell k) = [] := by
    rw [inC, List.map_eq_nil_iff, List.filter_eq_nil_iff]
    intro w hw he
    rw [List.mem_range] at hw
    refine h (zj9.2 ?_)
    rw [← (show at0 cell w = at0 cell k by simpa using he)]
    exact List.mem_of_getElem? (i := w) (by rw [List.getElem?_take, if_pos hw, ziu (by omega)])
  rw [zI, zss hk, zm6, if_neg h, List.map_append]
  congr 1
  · refine List.map_congr_left fun c hc => ?_
    rw [zjL, if_neg (fun e => h (by rw [e]; exact hc)), List.append_nil]
  · simp [zjL, h0]
theorem zzp {cell rank : List Int} {k i : Nat} (hk : k < cell.length) (hi : i < (zI cell rank k).length) (hc : ((zI cell rank k).getD i default).1 = at0 cell k) :
    zI cell rank (k + 1) = (zI cell rank k).set i (at0 cell k, ((zI cell rank k).getD i default).2 ++ [at0 rank k]) := by
  have hl : i < (zy (cell.take k)).length := by simpa [zI] using hi
  have hg : ∀ j (hj : j < (zy (cell.take k)).length), (zI cell rank k)[j]'(by simpa [zI] using hj) = ((zy (cell.take k))[j], inC rank cell k (zy (cell.take k))[j]) := fun j hj => by simp [zI]
  have hci : (zy (cell.take k))[i] = at0 cell k := by
    rw [← hc]; simp [List.getD, hi, hg i hl]
  have hm : at0 cell k ∈ zy (cell.take k) := by rw [← hci]; exact List.getElem_mem _
  have hn : zI cell rank (k + 1) = (zy (cell.take k)).map fun c => (c, inC rank cell (k + 1) c) := by rw [zI, zss hk, zm6, if_pos hm]
  rw [hn]
  refine List.ext_getElem (by simp [zI]) fun j h1 h2 => ?_
  have hj : j < (zy (cell.take k)).length := by simpa using h1
  rw [List.getElem_map, List.getElem_set]
  by_cases e : i = j
  · subst e
    rw [if_pos rfl, hci, zjL, if_pos rfl]
    simp [List.getD, hi, hg i hl, hci]
  · rw [if_neg e, hg j hj, zjL, if_neg, List.append_nil]
    intro h
    exact e ((List.getElem_inj zlY).1 (hci.trans h))
def O1 (base : Nat) (w : World) (v : Value) (g : Nat) (zs : List Int) : Prop := w.ownsRow base 3 1 v zs.length (zs.map (Value.int .i64)) ∧ v.ownBlock = some g
theorem O1.kept {base : Nat} {w w' : World} {v : Value} {g : Nat} {zs : List Int} {row : Option Nat} (h : O1 base w v g zs) (hg : w.grownBy w' row) (hne : some g ≠ row) : O1 base w' v g zs := ⟨h.1.kept hg (.inr (by rw [h.2]; exact hne)), h.2⟩
theorem O1.lt {base : Nat} {w : World} {v : Value} {g : Nat} {zs : List Int} (h : O1 base w v g zs) : base ≤ g ∧ g < w.heap.size := h.1.lt g h.2
theorem O1.O2 {base : Nat} {w : World} {v : Value} {g : Nat} {zs : List Int} (h : O1 base w v g zs) (hl : zs.length ≤ 536870912) : O2 base w v g zs := by
  obtain ⟨⟨h1, h2⟩, h3⟩ := h
  rcases h2 with ⟨rfl, h2⟩ | ⟨g', cap, cur, rfl, h4, h5, h6, h7, h8, h9⟩
  · cases h3
  · cases h3
    refine ⟨cap, cur, 3, rfl, h4, h5, h6, by omega, hl, fun j hj => ?_⟩
    have : (cur.toList.take (zs.length * 1))[j]? = some (Value.int .i64 (zs.getD j 0)) := by rw [h9]; simp [hj, List.getD]
    rw [List.getElem?_take, if_pos (by omega)] at this
    rw [Array.getD_eq_getD_getElem?, ← Array.getElem?_toList, this]; rfl
theorem zen (w : World) (m : Nat) (o : Obj) : w.grownBy { w with heap := w.heap.setIfInBounds m o } (some m) :=
  ⟨rfl, rfl, rfl, by simp, fun k _ hk => by simp [Array.getElem?_setIfInBounds_ne (fun e : m = k => hk (by rw [e]))]⟩
section
variable {w : World} {base m : Nat} {gs : GI} {es : Array MapEntry} {clock : Nat} {blk : Nat → Nat}
theorem Grp.look1 (h : Grp (O1 base) w m gs es clock blk) (hmb : m < base) (c : Int) : ∃ v zs, ∃ tgt : List Int → GI, (v.ownBlock ≠ some m) ∧ (∀ w', w'.heap[m]? = w.heap[m]? → (Instr.lookup 90 (.map (some m)) (.int .i64 c) false).run Tryz.prog w' = .ok v w') ∧ w.ownsRow base 3 1 v zs.length (zs.map (Value.int .i64)) ∧
    ((∃ i, i < gs.length ∧ (gs.getD i default).1 = c ∧ zs = (gs.getD i default).2 ∧ tgt = fun ys => gs.set i (c, ys)) ∨ (c ∉ gs.map Prod.fst ∧ zs = [] ∧ tgt = fun ys => gs ++ [(c, ys)])) ∧
    ∀ w1 v' x, w.grownBy w1 v.ownBlock → w1.ownsRow base 3 1 v' (zs.length + 1) (zs.map (Value.int .i64) ++ [.int .i64 x]) → (v'.ownBlock = v.ownBlock ∨ v'.ownBlock = some w.heap.size ∨ ∃ g, v'.ownBlock = some g ∧ w.heap.size ≤ g) →
      ∃ w2 es' clock' blk', (Instr.mapUpdate 90 (.map (some m)) (.int .i64 c) v').run Tryz.prog w1 = .ok () w2 ∧ Grp (O1 base) w2 m (tgt (zs ++ [x])) es' clock' blk' ∧ w1.grownBy w2 (some m) := by
  have hmw : m < w.heap.size := zg h.heap
  have nn : ∀ {w1 : World} {v' : Value} {zs : List Int} {x : Int}, w1.ownsRow base 3 1 v' (zs.length + 1) (zs.map (Value.int .i64) ++ [.int .i64 x]) → ∃ g, O1 base w1 v' g (zs ++ [x]) := by
    intro w1 v' zs x ho
    have ho' : w1.ownsRow base 3 1 v' (zs ++ [x]).length ((zs ++ [x]).map (Value.int .i64)) := by simpa using ho
    rcases ho.2 with ⟨_, h0⟩ | ⟨g, cap, cur, rfl, _⟩
    · omega
    · exact ⟨g, ho', rfl⟩
  rcases h.find c with ⟨hn, hf⟩ | ⟨i, hi, hc, hf⟩
  · refine ⟨_, [], _, by simp [Value.ownBlock], fun w' hw' => zuh (hw'.trans h.heap) hf, World.ownsRow_nil _ _ _ _, .inr ⟨hn, rfl, rfl⟩, fun w1 v' x hg ho hl => ?_⟩
    obtain ⟨g, hv⟩ := nn ho
    have hgw : w.heap.size ≤ g := by
      rcases hl with h1 | h1 | ⟨g', h1, h2⟩
      · rw [hv.2] at h1; cases h1
      · rw [hv.2] at h1; cases h1; exact Nat.le_refl _
      · rw [hv.2] at h1; cases h1; exact h2
    have hm1 : w1.heap[m]? = some (.map es clock) := (hg.block m hmw (by simp [Value.ownBlock])).trans h.heap
    obtain ⟨es', h1, h2⟩ := h.add (w1 := w1) (c := c) (v := v') (g := g) (zs := [] ++ [x]) hf hm1
      (fun o => hv.kept (zen w1 m o) (by simp; have := hv.lt; omega))
      (fun o j hj => ((h.val j hj).kept hg (by simp [Value.ownBlock])).kept (zen w1 m o) (by have := (h.val j hj).lt; simp; omega))
      (fun j hj => by have := (h.val j hj).lt; omega)
    exact ⟨_, es', _, _, h1, h2, zen _ _ _⟩
  · have hvi := h.val i hi
    refine ⟨_, (gs.getD i default).2, _, by rw [hvi.2]; have := hvi.lt; simp; omega, fun w' hw' => zui (hw'.trans h.heap) hf, hvi.1, .inl ⟨i, hi, hc, rfl, rfl⟩, fun w1 v' x hg ho hl => ?_⟩
    rw [hvi.2] at hg hl
    obtain ⟨g, hv⟩ := nn ho
    have hgw : g = blk i ∨ w.heap.size ≤ g := by
      rcases hl with h1 | h1 | ⟨g', h1, h2⟩
      · rw [hv.2] at h1; cases h1; exact .inl rfl
      · rw [hv.2] at h1; cases h1; exact .inr (Nat.le_refl _)
      · rw [hv.2] at h1; cases h1; exact .inr h2
    have hmi : m ≠ blk i := by have := hvi.lt; omega
    have hm1 : w1.heap[m]? = some (.map es clock) := (hg.block m hmw (by simpa using hmi)).trans h.heap
    have hne : ∀ j, j < gs.length → j ≠ i → blk j ≠ blk i := fun j hj hji e => hji (h.apart j i hj hi e)
    obtain ⟨es', h1, h2, -⟩ := h.set (w1 := w1) (c := c) (u := (es.getD i default).val) (v := v') (g := g) (zs := (gs.getD i default).2 ++ [x]) hi hc hf hm1
      (fun o => hv.kept (zen w1 m o) (by simp; have := hv.lt; omega))
      (fun o j hj hji => ((h.val j hj).kept hg (by simpa using hne j hj hji)).kept (zen w1 m o) (by have := (h.val j hj).lt; simp; omega))
      (fun j hj hji => by
        have := (h.val j hj).lt
        rcases hgw with rfl | h3
        · exact hne j hj hji
        · omega)
    exact ⟨_, es', _, _, h1, h2, zen _ _ _⟩
end
end Go.Ab
namespace Go.Proofs
def Tryz.lays189_ren : Go.Shelf.Ren := ⟨fun | 189 => 110 | 125 => 124 | 257 => 143 | 128 => 158 | 129 => 159 | 294 => 166 | 295 => 167 | 296 => 168 | 297 => 169 | 298 => 170 | 299 => 171 | 216 => 172 | 300 => 173 | 301 => 174 | 328 => 192 | 329 => 179 | 330 => 180 | 331 => 193 | 332 => 194 | 215 => 195 | 343 => 201 | n => n, fun | 28 => 28 | 3 => 3 | 46 => 101 | 0 => 0 | 51 => 158 | 53 => 44 | 4 => 4 | 183 => 151 | 182 => 150 | 131 => 122 | 5 => 5 | 9 => 9 | 218 => 172 | 222 => 176 | 228 => 188 | 229 => 37 | n => n, fun | n => n⟩
theorem Tryz.lays189 : Go.Proofs.Lays.n189 Tryz.prog Tryz.lays189_ren := {
  mixed := by kernel_rfl
  f125 := Tryz.func124.trans (congrArg some (by kernel_rfl))
  f128 := Tryz.func158.trans (congrArg some (by kernel_rfl))
  f129 := Tryz.func159.trans (congrArg some (by kernel_rfl))
  f189 := Tryz.func110.trans (congrArg some (by kernel_rfl))
  f215 := Tryz.func195.trans (congrArg some (by kernel_rfl))
  f216 := Tryz.func172.trans (congrArg some (by kernel_rfl))
  f257 := Tryz.func143.trans (congrArg some (by kernel_rfl))
  f294 := Tryz.func166.trans (congrArg some (by kernel_rfl))
  f295 := Tryz.func167.trans (congrArg some (by kernel_rfl))
  f296 := Tryz.func168.trans (congrArg some (by kernel_rfl))
  f297 := Tryz.func169.trans (congrArg some (by kernel_rfl))
  f298 := Tryz.func170.trans (congrArg some (by kernel_rfl))
  f299 := Tryz.func171.trans (congrArg some (by kernel_rfl))
  f300 := Tryz.func173.trans (congrArg some (by kernel_rfl))
  f301 := Tryz.func174.trans (congrArg some (by kernel_rfl))
  f328 := Tryz.func192.trans (congrArg some (by kernel_rfl))
  f329 := Tryz.func179.trans (congrArg some (by kernel_rfl))
  f330 := Tryz.func180.trans (congrArg some (by kernel_rfl))
  f331 := Tryz.func193.trans (congrArg some (by kernel_rfl))
  f332 := Tryz.func194.trans (congrArg some (by kernel_rfl))
  f343 := Tryz.func201.trans (congrArg some (by kernel_rfl))
  t0 := Tryz.underlying0
  a0 := Tryz.isAgg0
  z0 := Tryz.sizeOf0
  v0 := Tryz.zeroValue0
  t3 := Tryz.underlying3
  a3 := Tryz.isAgg3
  z3 := Tryz.sizeOf3
  v3 := Tryz.zeroValue3
  t4 := Tryz.underlying4
  a4 := Tryz.isAgg4
  z4 := Tryz.sizeOf4
  v4 := Tryz.zeroValue4
  t5 := Tryz.underlying5
  a5 := Tryz.isAgg5
  z5 := Tryz.sizeOf5
  v5 := Tryz.zeroValue5
  t9 := Tryz.underlying9
  a9 := Tryz.isAgg9
  z9 := Tryz.sizeOf9
  v9 := Tryz.zeroValue9
  t28 := Tryz.underlying28
  a28 := Tryz.isAgg28
  z28 := Tryz.sizeOf28
  v28 := Tryz.zeroValue28
  t46 := Tryz.underlying101
  a46 := Tryz.isAgg101
  z46 := Tryz.sizeOf101
  v46 := Tryz.zeroValue101
  t51 := Tryz.underlying158
  a51 := Tryz.isAgg158
  z51 := Tryz.sizeOf158
  v51 := Tryz.zeroValue158
  t53 := Tryz.underlying44
  a53 := Tryz.isAgg44
  z53 := Tryz.sizeOf44
  v53 := Tryz.zeroValue44
  t131 := Tryz.underlying122
  a131 := Tryz.isAgg122
  z131 := Tryz.sizeOf122
  v131 := Tryz.zeroValue122
  t182 := Tryz.underlying150
  a182 := Tryz.isAgg150
  z182 := Tryz.sizeOf150
  v182 := Tryz.zeroValue150
  t183 := Tryz.underlying151
  a183 := Tryz.isAgg151
  z183 := Tryz.sizeOf151
  v183 := Tryz.zeroValue151
  t218 := Tryz.underlying172
  a218 := Tryz.isAgg172
  z218 := Tryz.sizeOf172
  v218 := Tryz.zeroValue172
  t222 := Tryz.underlying176
  a222 := Tryz.isAgg176
  z222 := Tryz.sizeOf176
  v222 := Tryz.zeroValue176
  t228 := Tryz.underlying188
  a228 := Tryz.isAgg188
  z228 := Tryz.sizeOf188
  v228 := Tryz.zeroValue188
  t229 := Tryz.underlying37
  a229 := Tryz.isAgg37
  z229 := Tryz.sizeOf37
  v229 := Tryz.zeroValue37 }
end Go.Proofs
namespace Go.Ab
open Go Go.Proofs Go.MapKept
open Go.ChangeMaps (setBlock)
variable {T : Nat → Obj → Prop}
def zd6 (zs : List Int) : List Int := ddA (Sort.sort Sort.ltInt zs.toArray) (Sort.sort Sort.ltInt zs.toArray).size
theorem ztX {d : Array Int} : ∀ {n : Nat}, 0 < n → ddA d n ≠ []
  | 1, _ => by simp [ddA]
  | n + 2, _ => by
    rw [ddA]
    split
    · exact ztX (Nat.succ_pos n)
    · simp
theorem zrl {α : Type} [Inhabited α] [DecidableEq α] {d : Array α} : ∀ {n : Nat}, (ddA d n).length ≤ n
  | 0 => Nat.le_refl 0
  | n + 1 => by
    have := zrl (d := d) (n := n)
    rw [ddA]
    split
    · omega
    · simp; omega
theorem zqj (d : Array Int) : (Sort.sort Sort.ltInt d).size = d.size := zxx Sort.swo_ltInt d.size d 0 d.size _ true true (by omega) (Nat.zero_le _) (Nat.le_refl _)
theorem zre {d : Array Int} (hl : d.size ≤ 536870912) (h0 : 0 < d.size) {base : Nat} {w : World} {v : Value} {g : Nat} (h : O2 base w v g d.toList) (hT : ∀ b o, T b o → w.heap[b]? = some o ∧ b ≠ g) (hb : base ≤ w.heap.size) :
    Calls Tryz.prog 111 #[v] w fun e w' => ∃ v' g', e = .returned v' ∧ O2 base w' v' g' (ddA d d.size) ∧ (g' = g ∨ w.heap.size ≤ g') ∧ w.grownBy w' (some g) := by
  by_cases hs : Steps d
  · have hd : ddA d d.size = d.toList := by
      rw [zo6 (Nat.le_refl _) (fun j h1 h2 => hs j h1 h2), List.take_of_length_le (by simp)]
    exact zrf (T := T) (f := 111) (id := 0) (zmK d hl hs) (by rw [hd]; rfl) (Nat.le_trans zrl hl) (ztX h0) h hT hb
  · exact zrf (T := T) (f := 111) (id := 1) (zlu d hl hs) rfl (Nat.le_trans zrl hl) (ztX h0) h hT hb
theorem ztQ {zs : List Int} (hl : zs.length ≤ 536870912) (h0 : zs ≠ []) {base : Nat} {w : World} {v : Value} {g : Nat} (h : O2 base w v g zs) (hT : ∀ b o, T b o → w.heap[b]? = some o ∧ b ≠ g) :
    Calls Tryz.prog 110 #[v] w fun e w' => e = .returned (.tuple #[]) ∧ O2 base w' v g (Sort.sort Sort.ltInt zs.toArray).toList ∧ w.grownBy w' (some g) := by
  have hz : (Sort.sort Sort.ltInt zs.toArray).toList.length = zs.length := by rw [Array.length_toList, zqj]; simp
  obtain ⟨cap, c, e, rfl, h2, h3, h4, h5, h6, h7⟩ := h
  have hH := holds_of_blockI (ss := zs) h3 (by
    refine List.ext_getElem (by simp; omega) fun i h1 h8 => ?_
    have h8 : i < zs.length := by simpa using h8
    have := h7 i h8
    simp [List.getD, h8, show i < c.size by omega] at this
    simp [this])
  refine (Any.slices_Sort_int Tryz.lays189 g 0 cap zs w hH (zg h3) (by omega)).mono fun x w' => ?_
  rintro ⟨rfl, n, os, rfl⟩
  have hq : (zs.mergeSort fun x y => decide (x ≤ y)) = (Sort.sort Sort.ltInt zs.toArray).toList := (Go.Sort.sortInt zs).symm
  rw [hq]
  generalize (Sort.sort Sort.ltInt zs.toArray).toList = ys at hz
  refine ⟨rfl, ⟨cap, _, e, by rw [hz], h2, heap_sortedI _ h3, by omega, by simp [Sort.putCells]; omega, by omega, fun j hj => ?_⟩, grownBy_sortedI _⟩
  have ht := take_putCellsI c ys (by omega)
  have := congrArg (fun l : List Value => l.getD j undef) ht
  simp [List.getD, List.getElem?_take, hj] at this
  simpa [List.getD, hj] using this
def gAt (gs : GI) (born : Nat → Nat) (seen : Array Nat) : GI := (List.range gs.length).map fun j => ((gs.getD j default).1, if seen.contains (born j) then zd6 (gs.getD j default).2 else (gs.getD j default).2)
def zhh (n : Nat) (born : Nat → Nat) (seen : Array Nat) : Nat := ((List.range n).filter fun j => !seen.contains (born j)).length
structure Mid (w : World) (m base r clock : Nat) (gs : GI) (born : Nat → Nat) (seen : Array Nat) (wr : World) : Prop where
  ex : ∃ es blk, Grp (O2 base) wr m (gAt gs born seen) es clock blk ∧ (∀ j, j < gs.length → (es.getD j default).born = born j) ∧ ∀ j, j < gs.length → blk j ≠ r ∧ blk j < wr.heap.size
  iter : wr.heap[r]? = some (.mapIter (some m) clock seen clock)
  grown : w.grownBy wr none
  mr : m < base ∧ base ≤ r ∧ w.heap.size ≤ m
theorem zdA {gs : GI} {born : Nat → Nat} {seen : Array Nat} : (gAt gs born seen).length = gs.length := by simp [gAt]
theorem zth {gs : GI} {born : Nat → Nat} {seen : Array Nat} {j : Nat} (hj : j < gs.length) : (gAt gs born seen).getD j default = ((gs.getD j default).1, if seen.contains (born j) then zd6 (gs.getD j default).2 else (gs.getD j default).2) := by
  simp [gAt, List.getD, hj]
theorem zw8 {gs : GI} {born : Nat → Nat} {seen : Array Nat} {i : Nat} (hi : i < gs.length) (hb : ∀ j, j < gs.length → born j = born i → j = i) :
    gAt gs born (seen.push (born i)) = (gAt gs born seen).set i ((gs.getD i default).1, zd6 (gs.getD i default).2) := by
  refine List.ext_getElem (by simp [gAt]) fun j h1 h2 => ?_
  have hj : j < gs.length := by simpa [gAt] using h1
  rw [List.getElem_set]
  simp only [gAt, List.getElem_map, List.getElem_range, Array.contains_push]
  by_cases e : i = j
  · subst e; simp
  · rw [if_neg e]
    have : (born j == born i) = false := by simpa using fun h => e (hb j hj h).symm
    simp [this]
theorem zs1 {n : Nat} {born : Nat → Nat} {seen : Array Nat} {i : Nat} (hi : i < n) (hs : seen.contains (born i) = false) : zhh n born (seen.push (born i)) < zhh n born seen := by
  unfold zhh
  have hsub : ((List.range n).filter fun j => !(seen.push (born i)).contains (born j)) = ((List.range n).filter fun j => !seen.contains (born j)).filter fun j => !(born j == born i) := by
    rw [List.filter_filter]
    refine List.filter_congr fun j _ => ?_
    rw [Array.contains_push]
    cases seen.contains (born j) <;> cases (born j == born i) <;> rfl
  rw [hsub]
  refine Nat.lt_of_le_of_ne (List.length_filter_le _ _) fun h => ?_
  have := (List.filter_eq_self.1 (List.length_filter_eq_length_iff.1 h |> fun hh => List.filter_eq_self.2 hh)) i (List.mem_filter.2 ⟨List.mem_range.2 hi, by simpa using hs⟩)
  simp at this
end Go.Ab
namespace Go.Ab
open Go Go.Proofs Go.MapKept
open Go.ChangeMaps (setBlock)
variable {T : Nat → Obj → Prop}
theorem Mid.round {w wr : World} {m base r clock : Nat} {gs : GI} {born : Nat → Nat} {seen : Array Nat} (h : Mid w m base r clock gs born seen wr) (ty : TypeId) (hT : ∀ b o, T b o → w.heap[b]? = some o)
    (hk : ∀ i j, i < gs.length → j < gs.length → (gs.getD i default).1 = (gs.getD j default).1 → i = j) (hz : ∀ j, j < gs.length → (gs.getD j default).2 ≠ [] ∧ (gs.getD j default).2.length ≤ 536870912) :
    ((Instr.next (.pointer (some ⟨r, 0, none⟩)) false ty).run Tryz.prog wr = .ok (.tuple #[.bool false]) wr ∧ ∀ j, j < gs.length → seen.contains (born j) = true) ∨
    ∃ (c : Int) (v : Value) (wn : World), (Instr.next (.pointer (some ⟨r, 0, none⟩)) false ty).run Tryz.prog wr = .ok (.tuple #[.bool true, .int .i64 c, v]) wn ∧ (Instr.entry (.pointer (some ⟨r, 0, none⟩))).run Tryz.prog wn = .ok (.tuple #[.int .i64 c, v]) wn ∧
      Calls Tryz.prog 110 #[v] wn fun e w' => e = .returned (.tuple #[]) ∧ Calls Tryz.prog 111 #[v] w' fun e w'' => ∃ v', e = .returned v' ∧ ∃ wz seen', (Instr.mapUpdate 90 (.map (some m)) (.int .i64 c) v').run Tryz.prog w'' = .ok () wz ∧
        Mid w m base r clock gs born seen' wz ∧ zhh gs.length born seen' < zhh gs.length born seen := by
  obtain ⟨es, blk, hG, hborn, hblk⟩ := h.ex
  obtain ⟨hmb, hbr, hwm⟩ := h.mr
  have hsz : es.size = gs.length := hG.size.trans zdA
  have idx : ∀ x ∈ es.toList, ∃ j, j < gs.length ∧ es.getD j default = x := fun x hx => by
    obtain ⟨j, hj, rfl⟩ := List.getElem_of_mem hx
    rw [Array.length_toList] at hj
    exact ⟨j, by omega, by simp [Array.getD_eq_getD_getElem?, hj]⟩
  have hold : ∀ x ∈ es.toList, x.born < clock := fun x hx => by
    obtain ⟨j, hj, rfl⟩ := idx x hx
    exact hG.st.lt j (by omega)
  have hbi : ∀ i j, i < gs.length → j < gs.length → born i = born j → i = j := fun i j hi hj e => hG.st.inj i j (by omega) (by omega) (by rw [hborn i hi, hborn j hj, e])
  rcases run_next_at (P := Tryz.prog) wr ty r m clock clock seen es clock h.iter hG.heap hold (Nat.le_refl _) with ⟨h0, hrun⟩ | ⟨e, he, w1, hw1, hrun⟩
  · refine .inl ⟨hrun, fun j hj => ?_⟩
    by_cases hc : seen.contains (born j) = true
    · exact hc
    · have hm : es.getD j default ∈ (leftOf es seen) := by
        unfold leftOf
        refine Array.mem_filter.2 ⟨?_, ?_⟩
        · rw [show es.getD j default = es[j]'(by omega) by simp [Array.getD_eq_getD_getElem?, show j < es.size by omega]]
          exact Array.getElem_mem _
        · rw [hborn j hj]; simpa using hc
      have : leftOf es seen = #[] := Array.eq_empty_of_size_eq_zero h0
      rw [this] at hm
      simp at hm
  · right
    have he' : e ∈ es ∧ seen.contains e.born = false := by
      have : e ∈ leftOf es seen := by simpa using he
      unfold leftOf at this
      obtain ⟨h1, h2⟩ := Array.mem_filter.1 this
      exact ⟨h1, by simpa using h2⟩
    obtain ⟨j, hj, rfl⟩ := idx e (by simpa using he'.1)
    have hs := he'.2
    rw [hborn j hj] at hs hrun
    have hjl : j < (gAt gs born seen).length := by rw [zdA]; exact hj
    have hkey := hG.key j hjl
    have hval := hG.val j hjl
    have hgj := zth (born := born) (seen := seen) hj
    rw [hs] at hgj
    simp only [Bool.false_eq_true, if_false] at hgj
    rw [hgj] at hkey hval
    simp only at hkey hval
    rw [hkey] at hrun
    have hw1h : w1.heap = wr.heap ∧ w1.os = wr.os ∧ w1.tape = wr.tape ∧ w1.output = wr.output := by rcases hw1 with rfl | rfl <;> exact ⟨rfl, rfl, rfl, rfl⟩
    have hrlt : r < wr.heap.size := zg h.iter
    generalize hwn : setBlock w1 r (.mapIter (some m) clock (seen.push (born j)) clock) = wn at hrun
    have nr : wn.heap[r]? = some (.mapIter (some m) clock (seen.push (born j)) clock) := by rw [← hwn]; simp [setBlock, hw1h.1, hrlt]
    have no : ∀ b, b ≠ r → wn.heap[b]? = wr.heap[b]? := fun b hb => by rw [← hwn]; simp [setBlock, hw1h.1, Array.getElem?_setIfInBounds_ne (Ne.symm hb)]
    have ns : wn.heap.size = wr.heap.size := by rw [← hwn]; simp [setBlock, hw1h.1]
    have nx : wn.os = wr.os ∧ wn.tape = wr.tape ∧ wn.output = wr.output := by rw [← hwn]; exact hw1h.2
    clear hwn
    obtain ⟨hbj1, hbj2⟩ := hblk j hj
    have hbase : ∀ i, i < gs.length → base ≤ blk i := fun i hi => by
      obtain ⟨_, _, _, _, h2, _⟩ := hG.val i (by rw [zdA]; exact hi); exact h2
    have hgn : w.grownBy wn none := ⟨nx.1.trans h.grown.os, nx.2.1.trans h.grown.tape, nx.2.2.trans h.grown.output, by rw [ns]; exact h.grown.size, fun b hb _ => (no b (by omega)).trans (h.grown.block b hb (by simp))⟩
    have hTn : ∀ (x : World), wn.grownBy x (some (blk j)) → ∀ b o, T b o → x.heap[b]? = some o ∧ b ≠ blk j := fun x hx b o ht => by
      have h1 := hT b o ht
      have h2 := zg h1
      have h3 := hbase j hj
      exact ⟨(hx.block b (Nat.lt_of_lt_of_le h2 hgn.size) (by simp; omega)).trans ((hgn.block b h2 (by simp)).trans h1), by omega⟩
    have hself : wn.grownBy wn (some (blk j)) := ⟨rfl, rfl, rfl, Nat.le_refl _, fun _ _ _ => rfl⟩
    refine ⟨(gs.getD j default).1, (es.getD j default).val, wn, hrun, ?_, ?_⟩
    · have := run_entry_at (P := Tryz.prog) wn r m clock seen es clock (es.getD j default) (by rw [hborn j hj]; exact nr) ((no m (by omega)).trans hG.heap) (by simpa using he'.1) (by
        refine List.pairwise_iff_getElem.2 fun p q hp hq hpq e => ?_
        simp only [List.length_map, Array.length_toList] at hp hq
        have := hG.st.inj p q hp hq (by simpa [Array.getD_eq_getD_getElem?, hp, hq] using e)
        omega)
      rw [hkey] at this
      exact this
    · refine (ztQ (T := T) (hz j hj).2 (hz j hj).1 (hval.kept (no _ hbj1)) (hTn wn hself)).mono ?_
      rintro e1 w' ⟨rfl, hO1, hg1⟩
      refine ⟨rfl, ?_⟩
      have hds : (Sort.sort Sort.ltInt (gs.getD j default).2.toArray).size = (gs.getD j default).2.length := by rw [zqj]; simp
      refine (zre (T := T) (d := Sort.sort Sort.ltInt (gs.getD j default).2.toArray) (by rw [hds]; exact (hz j hj).2) (by rw [hds]; exact List.length_pos_iff.2 (hz j hj).1) hO1 (hTn w' hg1) (by have := hbase j hj; have := hg1.size; omega)).mono ?_
      rintro e2 w'' ⟨v', g', rfl, hO2, hg', hg2⟩
      refine ⟨v', rfl, ?_⟩
      have hg12 : wn.grownBy w'' (some (blk j)) := ⟨hg2.os.trans hg1.os, hg2.tape.trans hg1.tape, hg2.output.trans hg1.output, Nat.le_trans hg1.size hg2.size, fun b hb hne => (hg2.block b (Nat.lt_of_lt_of_le hb hg1.size) hne).trans (hg1.block b hb hne)⟩
      have hmj : m ≠ blk j := by have := hbase j hj; omega
      have hm2 : w''.heap[m]? = some (.map es clock) := (hg12.block m (by rw [ns]; omega) (by simpa using hmj)).trans ((no m (by omega)).trans hG.heap)
      have hg'b : base ≤ g' := by obtain ⟨_, _, _, _, h2, _⟩ := hO2; exact h2
      have hg'l : g' < w''.heap.size := by obtain ⟨_, _, _, _, _, h3, _⟩ := hO2; exact zg h3
      have hg'r : g' ≠ r := by
        rcases hg' with rfl | h3
        · exact hbj1
        · have := hg1.size; omega
      have hf : Instr.findNow (.int .i64) (.int .i64 (gs.getD j default).1) es.toList 0 = some (some (j, (es.getD j default).val)) := by
        rcases hG.find (gs.getD j default).1 with ⟨hn, -⟩ | ⟨i, hi, hi2, hf⟩
        · refine absurd ?_ hn
          refine List.mem_map.2 ⟨(gAt gs born seen).getD j default, ?_, by rw [hgj]⟩
          simp [List.getD, hjl]
        · rw [zdA] at hi
          rw [zth hi] at hi2
          have := hk i j hi hj hi2
          subst this
          exact hf
      obtain ⟨es', hup, hG', hbn⟩ := hG.set (w1 := w'') (c := (gs.getD j default).1) (i := j) (u := (es.getD j default).val) (v := v') (g := g') (zs := zd6 (gs.getD j default).2) hjl (by rw [hgj]) hf hm2
        (fun o => hO2.kept (by simp [Array.getElem?_setIfInBounds_ne (show m ≠ g' by omega)]))
        (fun o i hi hij => (hG.val i hi).kept (by
          rw [zdA] at hi
          have h1 := hbase i hi
          have h2 : blk i ≠ blk j := fun e => hij (hG.apart i j (by rw [zdA]; exact hi) hjl e)
          obtain ⟨h3, h4⟩ := hblk i hi
          show (w''.heap.setIfInBounds m o)[blk i]? = _
          rw [Array.getElem?_setIfInBounds_ne (show m ≠ blk i by omega), hg12.block (blk i) (by rw [ns]; exact h4) (by simpa using h2), no _ h3]))
        (fun i hi hij => by
          rw [zdA] at hi
          have h2 : blk i ≠ blk j := fun e => hij (hG.apart i j (by rw [zdA]; exact hi) hjl e)
          have h4 := (hblk i hi).2
          rcases hg' with rfl | h3
          · exact h2
          · have := hg1.size; omega)
      refine ⟨_, seen.push (born j), hup, ⟨⟨es', fun i => if i = j then g' else blk i, ?_, fun i hi => (hbn i (by rw [zdA]; exact hi)).trans (hborn i hi), fun i hi => ?_⟩, ?_, ?_, hmb, hbr, hwm⟩, zs1 hj hs⟩
      · rw [zw8 hj (fun i hi e => hbi i j hi hj e)]
        exact hG'
      · show (if i = j then g' else blk i) ≠ r ∧ (if i = j then g' else blk i) < _
        by_cases e : i = j
        · rw [if_pos e]; exact ⟨hg'r, by simpa using hg'l⟩
        · rw [if_neg e]
          refine ⟨(hblk i hi).1, ?_⟩
          have := (hblk i hi).2; have := hg12.size; simp; omega
      · show (w''.heap.setIfInBounds m _)[r]? = _
        rw [Array.getElem?_setIfInBounds_ne (show m ≠ r by omega), hg12.block r (by rw [ns]; exact hrlt) (by simpa using Ne.symm hbj1), nr]
      · refine ⟨hg12.os.trans hgn.os, hg12.tape.trans hgn.tape, hg12.output.trans hgn.output, by simp; exact Nat.le_trans hgn.size hg12.size, fun b hb _ => ?_⟩
        show (w''.heap.setIfInBounds m _)[b]? = _
        have := hbase j hj
        rw [Array.getElem?_setIfInBounds_ne (show m ≠ b by omega), hg12.block b (Nat.lt_of_lt_of_le hb hgn.size) (by simp; omega), hgn.block b hb (by simp)]
def zxj (r n : Nat) (born : Nat → Nat) (w : World) : Nat := match w.heap[r]? with
  | some (.mapIter _ _ seen _) => zhh n born seen
  | _ => 0
theorem Mid.mu {w wr : World} {m base r clock n : Nat} {gs : GI} {born : Nat → Nat} {seen : Array Nat} (h : Mid w m base r clock gs born seen wr) : zxj r n born wr = zhh n born seen := by
  rw [zxj, h.iter]
theorem zyC {gs : GI} {born : Nat → Nat} : gAt gs born #[] = gs := by
  refine List.ext_getElem (by simp [gAt]) fun j h1 h2 => ?_
  simp [gAt, List.getD, h2]
theorem zyB {gs : GI} {born : Nat → Nat} {seen : Array Nat} (h : ∀ j, j < gs.length → seen.contains (born j) = true) : gAt gs born seen = gs.map fun p => (p.1, zd6 p.2) := by
  refine List.ext_getElem (by simp [gAt]) fun j h1 h2 => ?_
  have hj : j < gs.length := by simpa using h2
  have := h j hj
  simp only [gAt, List.getElem_map, List.getElem_range, this, if_true]
  simp [List.getD, hj]
theorem Mid.start {w wr : World} {m base clock : Nat} {gs : GI} {es : Array MapEntry} {blk : Nat → Nat} (hG : Grp (O1 base) wr m gs es clock blk) (hz : ∀ j, j < gs.length → (gs.getD j default).2.length ≤ 536870912)
    (hgr : w.grownBy wr none) (hmb : m < base) (hb : base ≤ wr.heap.size) (hwm : w.heap.size ≤ m) :
    Mid w m base wr.heap.size clock gs (fun j => (es.getD j default).born) #[] (wr.alloc (.mapIter (some m) clock #[] clock)) := by
  refine ⟨⟨es, blk, ?_, fun j hj => rfl, fun j hj => ?_⟩, heap_alloc_new _ _, hgr.trans (World.grownBy_alloc _ _ _), hmb, hb, hwm⟩
  · rw [zyC]
    exact ⟨(heap_alloc_old _ _ (zg hG.heap)).trans hG.heap, hG.st, hG.size, hG.key, fun i hi => ((hG.val i hi).O2 (hz i hi)).kept (heap_alloc_old _ _ (hG.val i hi).lt.2), hG.apart⟩
  · have := (hG.val j hj).lt
    exact ⟨by omega, by simp; omega⟩
end Go.Ab
namespace Go.Ab
open Go Go.Proofs Go.MapKept Go.RowKit Go.WideMaps Go.Maps
theorem zxE : (Tryz.prog.info? 3).map (fun i => (i.zero, i.size, i.bytes)) = some (some (.int .i64 0), 1, 8) := by kernel_rfl
variable {T : Nat → Obj → Prop}
theorem zzS {cell rank : List Int} (hl : cell.length ≤ 536870912) : ∀ j, j < (zI cell rank cell.length).length → ((zI cell rank cell.length).getD j default).2 ≠ [] ∧ ((zI cell rank cell.length).getD j default).2.length ≤ 536870912 := by
  intro j hj
  have hm : (zI cell rank cell.length).getD j default ∈ zI cell rank cell.length := by simp [List.getD, hj]
  obtain ⟨c, hc, e⟩ := List.mem_map.1 hm
  rw [← e]
  refine ⟨fun h => ?_, Nat.le_trans ztk hl⟩
  rw [List.take_length] at hc
  obtain ⟨i, hi, h2⟩ := zfl.1 (zj9.1 hc)
  have : at0 rank i ∈ inC rank cell cell.length c := List.mem_map.2 ⟨i, List.mem_filter.2 ⟨List.mem_range.2 hi, by simpa using h2⟩, rfl⟩
  rw [show inC rank cell cell.length c = [] from h] at this
  cases this
theorem zyD {cell rank : List Int} : ∀ i j, i < (zI cell rank cell.length).length → j < (zI cell rank cell.length).length → ((zI cell rank cell.length).getD i default).1 = ((zI cell rank cell.length).getD j default).1 → i = j := by
  intro i j hi hj e
  have hn : ((zI cell rank cell.length).map Prod.fst).Nodup := by rw [zpP]; exact zlY
  have hi' : i < ((zI cell rank cell.length).map Prod.fst).length := by simpa using hi
  have hj' : j < ((zI cell rank cell.length).map Prod.fst).length := by simpa using hj
  refine (List.getElem_inj (h₀ := hi') (h₁ := hj') hn).1 ?_
  simpa [List.getD, hi, hj] using e
set_option maxHeartbeats 4000000 in
set_option maxRecDepth 100000 in
theorem zoK (b1 o1 cap1 b2 o2 cap2 n2 : Nat) (cell rank : List Int) (w : World) (hn : 0 < cell.length) (hn2 : cell.length ≤ n2) (hl : cell.length ≤ 536870912)
    (hT : ∀ b o, T b o → w.heap[b]? = some o) (hb1 : b1 < w.heap.size) (hb2 : b2 < w.heap.size)
    (hc1 : ∀ j, j < cell.length → w.cell? ⟨b1, o1 + j, none⟩ = some (.int .i64 (at0 cell j))) (hc2 : ∀ j, j < cell.length → w.cell? ⟨b2, o2 + j, none⟩ = some (.int .i64 (at0 rank j))) :
    Calls Tryz.prog 70 #[.slice (some ⟨b1, o1, none⟩) cell.length cap1, .slice (some ⟨b2, o2, none⟩) n2 cap2] w fun e w' => e = .returned (.map (some w.heap.size)) ∧ w.grownBy w' none ∧ ∃ es clock blk, Grp (O2 (w.heap.size + 1)) w' w.heap.size ((zI cell rank cell.length).map fun p => (p.1, zd6 p.2)) es clock blk := by
  have hmm := @run_makeMap Tryz.prog
  obtain ⟨i0, hi, hz0, hz1, hz2⟩ := info_parts zxE
  go_enter Tryz.func70, Tryz.ntmps70
  go_wp2
  go_loopw [13] (fun i wr => ∃ k : Nat, k ≤ cell.length ∧ i = .int .i64 k ∧ ∃ es clock blk, Grp (O1 (w.heap.size + 1)) wr w.heap.size (zI cell rank k) es clock blk ∧ w.grownBy wr none ∧ w.heap.size + 1 ≤ wr.heap.size)
    (fun i _ => cell.length - (RowKit.intOf i).toNat)
  case atStart =>
    refine ⟨0, Nat.zero_le _, rfl, #[], 0, fun _ => 0, ?_, World.grownBy_alloc _ _ _, by simp⟩
    exact ⟨heap_alloc_new _ _, ⟨fun i j hi => by simp at hi, fun i hi => by simp at hi⟩, rfl, fun i hi => by simp [zI, zy] at hi, fun i hi => by simp [zI, zy] at hi, fun i j hi => by simp [zI, zy] at hi⟩
  case round =>
    obtain ⟨k, hk, rfl, es, clock, blk, hG, hgr, hsz⟩ := hrel
    have hcx1 : k < cell.length → wr.cell? ⟨b1, o1 + k, none⟩ = some (.int .i64 (at0 cell k)) := fun hlt => (zdi (hgr.block b1 hb1 (by simp))).trans (hc1 k hlt)
    have hcx2 : k < cell.length → wr.cell? ⟨b2, o2 + k, none⟩ = some (.int .i64 (at0 rank k)) := fun hlt => (zdi (hgr.block b2 hb2 (by simp))).trans (hc2 k hlt)
    obtain ⟨v, zs, tgt, hvm, hlook, hown, hcase, hback⟩ := hG.look1 (Nat.lt_succ_self _) (at0 cell k)
    have hmw : w.heap.size < wr.heap.size := by omega
    have hzl : zs.length ≤ k := by
      rcases hcase with ⟨i, hi1, -, rfl, -⟩ | ⟨-, rfl, -⟩
      · have : (zI cell rank k).getD i default ∈ zI cell rank k := by simp [List.getD, hi1]
        obtain ⟨c, -, hc⟩ := List.mem_map.1 this
        rw [← hc]; exact ztk
      · simp
    have hvb : ∀ b, b < w.heap.size → some b ≠ v.ownBlock := fun b hb e => by have := (hown.lt b e.symm).1; omega
    have hik0 : (0 : Int) ≤ (k : Int) := Int.natCast_nonneg _
    have hik1 : k < cell.length → (k : Int) < (n2 : Int) := fun h => by omega
    have hbk : k < cell.length → ∀ w1 gg cap o, (wr.drew.alloc o).grownBy w1 v.ownBlock → w1.ownsRow (w.heap.size + 1) 3 1 (.slice (some ⟨gg, 0, none⟩) (zs.length + 1) cap) (zs.length + 1) (zs.map (Value.int .i64) ++ [.int .i64 (at0 rank k)]) → (v.ownBlock = some gg ∨ gg = wr.heap.size + 1) →
        ∃ w2 es' clock' blk', (Instr.mapUpdate 90 (.map (some w.heap.size)) (.int .i64 (at0 cell k)) (.slice (some ⟨gg, 0, none⟩) (zs.length + 1) cap)).run Tryz.prog w1 = .ok () w2 ∧ Grp (O1 (w.heap.size + 1)) w2 w.heap.size (zI cell rank (k + 1)) es' clock' blk' ∧ w.grownBy w2 none ∧ w.heap.size + 1 ≤ w2.heap.size := by
      intro hlt w1 gg cap o hgrow hown1 hat
      have h1 : wr.drew.grownBy w1 v.ownBlock := (World.grownBy_alloc wr.drew _ _).trans hgrow
      obtain ⟨w2, es', clock', blk', q1, q2, q3⟩ := hback w1 _ _ ⟨h1.os, h1.tape, h1.output, h1.size, h1.block⟩ hown1 (hat.elim (fun h => .inl h.symm) (fun h => .inr (.inr ⟨gg, rfl, by omega⟩)))
      have hs1 : wr.heap.size ≤ w1.heap.size := h1.size
      have hs2 := q3.size
      refine ⟨w2, es', clock', blk', q1, ?_, ⟨q3.os.trans (h1.os.trans hgr.os), q3.tape.trans (h1.tape.trans hgr.tape), q3.output.trans (h1.output.trans hgr.output), by omega, fun b hb _ => ?_⟩, by omega⟩
      · rcases hcase with ⟨i, hi1, hi2, rfl, rfl⟩ | ⟨hn1, rfl, rfl⟩
        · rw [zzp hlt hi1 hi2]; exact q2
        · rw [zzo hlt hn1]; exact q2
      · exact (q3.block b (by omega) (by simp; omega)).trans ((h1.block b (show b < wr.heap.size by omega) (hvb b hb)).trans (hgr.block b hb (by simp)))
    have hrange := run_range_map (P := Tryz.prog) wr 90 3 28 w.heap.size es clock Tryz.underlying90 hG.heap
    go_wp2_with fail
    · clear hrange
      have hlt : k < cell.length := by assumption
      have hik1 := hik1 hlt
      have hl0 : (Instr.lookup 90 (.map (some w.heap.size)) (.int .i64 (at0 cell k)) false).run Tryz.prog wr.drew = .ok v wr.drew := hlook _ rfl
      have hl1 : ∀ o, (Instr.lookup 90 (.map (some w.heap.size)) (.int .i64 (at0 cell k)) false).run Tryz.prog (wr.drew.alloc o) = .ok v (wr.drew.alloc o) := fun o => hlook _ (heap_alloc_old _ _ hmw)
      have hb2r : b2 < wr.heap.size := by omega
      have hl2 : ∀ o, (Instr.lookup 90 (.map (some w.heap.size)) (.int .i64 (at0 cell k)) false).run Tryz.prog (wr.alloc o).drew = .ok v (wr.alloc o).drew := fun o => hlook _ (heap_alloc_old _ _ hmw)
      have hc2k := hcx2 hlt
      go_region_law
        ((refine step_append_lies _ (by rfl) _ _ _ (by rfl) (w.heap.size + 1) 3 i0 _ 1 8 Tryz.underlying28 hi hz0 hz1 hz2 rfl (by omega) v zs.length (zs.map (Value.int .i64)) (by rfl) (hown.drew.alloc _)
            ⟨wr.heap.size, 0, none⟩ 1 1 [.int .i64 (at0 rank k)] (by rfl) (by rfl) (World.news_of_block (cs := #[.int .i64 (at0 rank k)]) (t := 3) (fr := (0, 0)) (heap_alloc_new _ _)) (by simp [Value.oneCell'])
            (by omega) (by unfold maxLen; omega) (by omega) (by simp; omega) (wr.heap.size + 1) (by simp) ?_; intro gg cap w1 hown1 hgrow hat hlt1; obtain ⟨w2, es', clock', blk', hup, hG2, hgr2, hsz2⟩ := hbk hlt w1 gg cap _ hgrow hown1 hat))
      all_goals
        clear hup hl0 hl1 hl2
        go_wp2
        go_roundw
        case rel =>
          exact ⟨k + 1, by omega, by go_num, es', clock', blk', hG2, hgr2, hsz2⟩
        case measure => simp [RowKit.intOf]; omega
    · have hke : k = cell.length := by omega
      subst hke
      have hz : ∀ j, j < (zI cell rank cell.length).length → ((zI cell rank cell.length).getD j default).2 ≠ [] ∧ ((zI cell rank cell.length).getD j default).2.length ≤ 536870912 := zzS hl
      have hk : ∀ i j, i < (zI cell rank cell.length).length → j < (zI cell rank cell.length).length → ((zI cell rank cell.length).getD i default).1 = ((zI cell rank cell.length).getD j default).1 → i = j := zyD
      have hM := Mid.start hG (fun j hj => (hz j hj).2) hgr (Nat.lt_succ_self _) hsz (Nat.le_refl _)
      generalize hborn : (fun j => (es.getD j default).born) = born at hM
      generalize hrr : wr.heap.size = r at hM
      clear hback hbk hlook hcase hrange hG
      rw [show decide (cell.length < cell.length) = false by simp]
      go_loopw [8] (fun _ wr2 => ∃ seen, Mid w w.heap.size (w.heap.size + 1) r clock (zI cell rank cell.length) born seen wr2) (fun _ wr2 => zxj r (zI cell rank cell.length).length born wr2)
      case atStart => exact ⟨#[], hM⟩
      case round =>
        obtain ⟨seen, hM2⟩ := hrel
        rcases hM2.round (T := T) 0 hT hk hz with ⟨hnext, hall⟩ | ⟨c, v, wn, hnext, hentry, hcalls⟩
        · go_wp2
          go_ret
          refine ⟨rfl, hM2.grown, ?_⟩
          obtain ⟨es2, blk2, h1, -⟩ := hM2.ex
          rw [zyB hall] at h1
          exact ⟨es2, _, blk2, h1⟩
        · go_wp2_with (first
            | (go_at_call 110; refine hcalls.mono ?_; rintro e w' ⟨rfl, hcomp⟩)
            | (go_at_call 111; refine hcomp.mono ?_; rintro e w'' ⟨v', rfl, wz, seen', hup, hMz, hlt⟩))
          go_roundw
          case rel => exact ⟨seen', hMz⟩
          case measure => rw [hMz.mu, hM2.mu]; exact hlt
end Go.Ab
namespace Go.Ab
open Go Go.Proofs Go.MapKept
section
variable {α : Type} [Inhabited α] [DecidableEq α]
theorem zg2 {d : Array α} {x : α} : ∀ {n : Nat}, x ∈ ddA d n ↔ ∃ i, i < n ∧ d[i]! = x
  | 0 => by simp [ddA]
  | n + 1 => by
    rw [ddA]
    constructor
    · intro h
      split at h
      · obtain ⟨i, h1, h2⟩ := zg2.1 h
        exact ⟨i, by omega, h2⟩
      · rcases List.mem_append.1 h with h | h
        · obtain ⟨i, h1, h2⟩ := zg2.1 h
          exact ⟨i, by omega, h2⟩
        · exact ⟨n, by omega, by simp at h; exact h.symm⟩
    · rintro ⟨i, h1, h2⟩
      split
      · rename_i hc
        by_cases e : i = n
        · subst e
          exact zg2.2 ⟨i - 1, by omega, by rw [← hc.2]; exact h2⟩
        · exact zg2.2 ⟨i, by omega, h2⟩
      · by_cases e : i = n
        · subst e; exact List.mem_append.2 (.inr (by simp [h2]))
        · exact List.mem_append.2 (.inl (zg2.2 ⟨i, by omega, h2⟩))
theorem zo5 {lt : α → α → Bool} {d : Array α} (hs : ∀ i j, i < j → j < d.size → lt d[j]! d[i]! = false) (tri : ∀ x y, lt x y = false → lt y x = false → x = y) : ∀ {n : Nat}, n ≤ d.size → (ddA d n).Pairwise fun x y => lt x y = true
  | 0, _ => List.Pairwise.nil
  | n + 1, h => by
    rw [ddA]
    split
    · exact zo5 hs tri (by omega)
    · rename_i hc
      refine List.pairwise_append.2 ⟨zo5 hs tri (by omega), List.pairwise_singleton _ _, fun x hx y hy => ?_⟩
      obtain ⟨i, hi, rfl⟩ := zg2.1 hx
      have hy : y = d[n]! := by simpa using hy
      subst hy
      cases hb : lt d[i]! d[n]! with
      | true => rfl
      | false =>
        have e1 := tri _ _ hb (hs i n hi (by omega))
        refine absurd ⟨by omega, ?_⟩ hc
        by_cases e : i = n - 1
        · rw [← e]; exact e1.symm
        · refine (tri _ _ ?_ ?_)
          · exact hs (n - 1) n (by omega) (by omega)
          · rw [← e1]; exact hs i (n - 1) (by omega) (by omega)
theorem zsa {R : α → α → Prop} (irr : ∀ x, ¬R x x) (tr : ∀ x y z, R x y → R y z → R x z) : ∀ {l l' : List α}, l.Pairwise R → l'.Pairwise R → (∀ x, x ∈ l ↔ x ∈ l') → l = l'
  | [], [], _, _, _ => rfl
  | [], y :: l', _, _, h => by have := (h y).2 (by simp); cases this
  | x :: l, [], _, _, h => by have := (h x).1 (by simp); cases this
  | x :: l, y :: l', h1, h2, h => by
    obtain ⟨a1, a2⟩ := List.pairwise_cons.1 h1
    obtain ⟨b1, b2⟩ := List.pairwise_cons.1 h2
    have hxy : x = y := by
      rcases List.mem_cons.1 ((h x).1 (by simp)) with e | hx
      · exact e
      · rcases List.mem_cons.1 ((h y).2 (by simp)) with e | hy
        · exact e.symm
        · exact absurd (tr _ _ _ (a1 y hy) (b1 x hx)) (irr x)
    subst hxy
    rw [zsa irr tr a2 b2 fun z => ?_]
    constructor
    · intro hz
      rcases List.mem_cons.1 ((h z).1 (List.mem_cons_of_mem _ hz)) with rfl | h3
      · exact absurd (a1 z hz) (irr z)
      · exact h3
    · intro hz
      rcases List.mem_cons.1 ((h z).2 (List.mem_cons_of_mem _ hz)) with rfl | h3
      · exact absurd (b1 z hz) (irr z)
      · exact h3
end
theorem zxX {α : Type} [Inhabited α] {lt : α → α → Bool} (hS : Sort.SWO lt) (d : Array α) : (Sort.sort lt d).toList.Perm d.toList := by
  obtain ⟨⟨h1, -, h2⟩, -⟩ := Sort.sort_sorts lt hS d
  have e1 : (Sort.sort lt d).extract 0 d.size = Sort.sort lt d := by rw [← h1]; simp
  have e2 : d.extract 0 d.size = d := by simp
  rwa [e1, e2] at h2
theorem zyI {α : Type} [Inhabited α] {d : Array α} {x : α} : x ∈ d.toList ↔ ∃ i, i < d.size ∧ d[i]! = x := by
  constructor
  · intro h
    obtain ⟨i, hi, rfl⟩ := List.getElem_of_mem h
    rw [Array.length_toList] at hi
    exact ⟨i, hi, by simp [hi]⟩
  · rintro ⟨i, hi, rfl⟩
    rw [show d[i]! = d.toList[i]'(by simpa using hi) by simp [hi]]
    exact List.getElem_mem _
theorem ztf (zs : List Int) : zd6 zs = zko zs := by
  have hS := Sort.swo_ltInt
  obtain ⟨⟨h1, -, -⟩, h3⟩ := Sort.sort_sorts Sort.ltInt hS zs.toArray
  refine zsa (R := (· < ·)) (fun x => Int.lt_irrefl x) (fun x y z => Int.lt_trans) ?_ zeX fun x => ?_
  · have := zo5 (lt := Sort.ltInt) (d := Sort.sort Sort.ltInt zs.toArray) (fun i j hij hj => h3 i j (Nat.zero_le _) hij (by rw [← h1]; exact hj)) (fun x y a b => by simp only [Sort.ltInt, decide_eq_false_iff_not] at a b; omega) (Nat.le_refl _)
    exact this.imp fun h => by simpa [Sort.ltInt] using h
  · rw [zlV, zd6, zg2, ← zyI, (zxX hS zs.toArray).mem_iff]
end Go.Ab
namespace Go.Ab
open Go Go.Proofs Go.MapKept Go.RowKit Go.WideMaps Go.Maps
variable {T : Nat → Obj → Prop}
set_option maxRecDepth 100000 in
theorem zoJ (a : Option Addr) (cap : Nat) (vb : Value) (w : World) :
    Calls Tryz.prog 70 #[.slice a 0 cap, vb] w fun e w' => e = .returned (.map (some w.heap.size)) ∧ w.grownBy w' none ∧ w'.heap[w.heap.size]? = some (.map #[] 0) := by
  have hmm := @run_makeMap Tryz.prog
  have hrange := run_range_map (P := Tryz.prog) (w.alloc (.map #[] 0)) 90 3 28 w.heap.size #[] 0 Tryz.underlying90 (heap_alloc_new _ _)
  have hnext : (Instr.next (.pointer (some ⟨w.heap.size + 1, 0, none⟩)) false 0).run Tryz.prog ((w.alloc (.map #[] 0)).alloc (.mapIter (some w.heap.size) 0 #[] 0)) = .ok (.tuple #[.bool false]) ((w.alloc (.map #[] 0)).alloc (.mapIter (some w.heap.size) 0 #[] 0)) := by
    rcases run_next_at (P := Tryz.prog) ((w.alloc (.map #[] 0)).alloc (.mapIter (some w.heap.size) 0 #[] 0)) 0 (w.heap.size + 1) w.heap.size 0 0 #[] #[] 0 (by have := heap_alloc_new (w.alloc (.map #[] 0)) (.mapIter (some w.heap.size) 0 #[] 0); simpa using this)
      ((heap_alloc_old _ _ (by simp)).trans (heap_alloc_new _ _)) (by simp) (Nat.le_refl _) with ⟨-, h⟩ | ⟨e, he, -⟩
    · exact h
    · simp [leftOf] at he
  simp only [show (w.alloc (.map #[] 0)).heap.size = w.heap.size + 1 by simp] at hrange
  go_enter Tryz.func70, Tryz.ntmps70
  go_wp2
  refine wp_loop_rounds 1 ?_
  rw [rounds_succ]
  go_wp2
  refine wp_loop_rounds 1 ?_
  rw [rounds_succ]
  go_wp2
  go_ret
  exact ⟨rfl, (World.grownBy_alloc _ _ _).trans (World.grownBy_alloc _ _ _), (heap_alloc_old _ _ (by simp)).trans (heap_alloc_new _ _)⟩
theorem znP : zc1 T := by
  intro cell rank hle h64
  refine zhN ⟨_, Tryz.func70, by decide, rfl⟩ fun B σ a w args hT hS hsz hargs => ?_
  have ha : args = #[args.getD 0 undef, args.getD 1 undef] := by
    apply Array.ext
    · simpa using hsz
    · intro i h1 h2
      match i, h2 with
      | 0, _ => simp [Array.getD, show 0 < args.size by omega]
      | 1, _ => simp [Array.getD, show 1 < args.size by omega]
  have h0 := hargs 0 (by simp)
  have h1 := hargs 1 (by simp)
  have fin : ∀ (e : Ending) (w' : World) (es : Array MapEntry) (clock : Nat) (blk : Nat → Nat), e = .returned (.map (some w.heap.size)) → w.grownBy w' none → Grp (O2 (w.heap.size + 1)) w' w.heap.size ((zI cell rank cell.length).map fun p => (p.1, zd6 p.2)) es clock blk →
      ∃ v' σ', e = .returned v' ∧ Sim B (fun _ => .undef) (zo []) (fun i => ([] : List (Option Ob)).length ≤ i) σ' a w' ∧ VSim σ' (zo []) (fun i => ([] : List (Option Ob)).length ≤ i) (B.X σ' (zo [])) w' (.d (.map (zf7 cell rank))) v' ∧
        ∀ i ob, ([] : List Ob)[i]? = some ob → zo [] i = none ∨ (σ' i = σ i ∧ ∃ ob', zo [] i = some ob' ∧ zbp ob ob') := by
    intro e w' es clock blk he hg hG
    have hX : ∀ b, w.heap.size ≤ b → ¬B.X σ (zo []) b := by
      rintro b hb (h | ⟨id, h, -⟩)
      · have := hS.olt b h; omega
      · exact h (by simp [zo])
    have hgl : ((zI cell rank cell.length).map fun p => (p.1, zd6 p.2)).length = (zy cell).length := by simp [zI]
    have hgd : ∀ i, i < (zy cell).length → ((zI cell rank cell.length).map fun p => (p.1, zd6 p.2)).getD i default = ((zy cell).getD i 0, zaa cell rank ((zy cell).getD i 0)) := by
      intro i hi
      simp only [zI, List.take_length, List.map_map, List.getD, List.getElem?_map, List.getElem?_eq_getElem hi, Option.map_some, Option.getD_some, Function.comp, ztf]
      rfl
    refine ⟨_, σ, he, ⟨fun t => .undef _, fun id ob h => by simp [zo] at h, fun i j b h => absurd (by simp [zo]) h, fun id b h => absurd (by simp [zo]) h, fun _ _ => by simp [zo], ?_, hS.nt, fun b hb => Nat.lt_of_lt_of_le (hS.olt b hb) hg.size, fun b o hp => (hg.block b (zg (hS.pins b o hp)) (by simp)).trans (hS.pins b o hp), fun id l h => by simp [zo] at h⟩, .d _ _ ?_, fun i ob h => by simp at h⟩
    · refine ⟨hg.os.trans hS.kept.os, hg.tape.trans hS.kept.tape, hg.output.trans hS.kept.output, Nat.le_trans hS.kept.size hg.size, fun b hb hR => (hg.block b (Nat.lt_of_lt_of_le hb hS.kept.size) (by simp)).trans (hS.kept.block b hb hR), fun b c e h => ?_⟩
      obtain ⟨c', h1, h2⟩ := hS.kept.cells b c e h
      exact ⟨c', (hg.block b (zg h1) (by simp)).trans h1, h2⟩
    · refine .map _ _ es clock (hX _ (Nat.le_refl _)) (zg hG.heap) hG.heap (by rw [hG.size, hgl]; simp) hG.st (fun i hi => ?_) (fun i hi => ?_)
      · rw [List.length_map] at hi
        rw [hG.key i (by rw [hgl]; exact hi), hgd i hi, show ((zy cell).map fun c => (D.int .i64 c, dI (zaa cell rank c))).getD i (.nil, .nil) = (D.int .i64 ((zy cell).getD i 0), dI (zaa cell rank ((zy cell).getD i 0))) by simp [List.getD, hi]]
        exact .int .i64 _ (by simp)
      · rw [List.length_map] at hi
        have hv := hG.val i (by rw [hgl]; exact hi)
        rw [hgd i hi] at hv
        rw [show ((zy cell).map fun c => (D.int .i64 c, dI (zaa cell rank c))).getD i (.nil, .nil) = (D.int .i64 ((zy cell).getD i 0), dI (zaa cell rank ((zy cell).getD i 0))) by simp [List.getD, hi]]
        simp only
        generalize zaa cell rank ((zy cell).getD i 0) = zs at hv
        replace hv : O2 (w.heap.size + 1) w' (es.getD i default).val (blk i) zs := hv
        obtain ⟨cap, c, e, q1, q2, q3, q4, q5, q6, q7⟩ := hv
        rw [q1]
        have hl : (zs.map (D.int .i64)).length = zs.length := List.length_map _
        rw [← hl]
        refine .arr 1 (zs.map (D.int .i64)) (blk i) 0 cap (fun j => c.getD j undef) (hX _ (by omega)) (zg q3) (fun x hx => ?_) (by omega) (by omega) (fun j hj => ?_) (fun j k hj hk => ?_)
        · obtain ⟨y, -, rfl⟩ := List.mem_map.1 hx; rfl
        · have hjc : j < c.size := by omega
          simp [World.cell?, q3, Array.getD_eq_getD_getElem?, hjc]
        · have : k = 0 := by omega
          subst this
          rw [hl] at hj
          rw [Nat.mul_one, Nat.add_zero]
          rw [q7 j hj, show (zs.map (D.int .i64)).getD j .nil = .int .i64 (zs.getD j 0) by simp [List.getD, hj]]
          exact .int .i64 _ (by simp)
  have read : ∀ (xs : List Int) (v : Value), xs ≠ [] → zh (B.X σ (zo [])) w (dI xs) v → ∃ b off cap, v = .slice (some ⟨b, off, none⟩) xs.length cap ∧ b < w.heap.size ∧ ∀ j, j < xs.length → w.cell? ⟨b, off + j, none⟩ = some (.int .i64 (at0 xs j)) := by
    intro xs v hne hd
    unfold dI at hd
    have hl : (xs.map (D.int .i64)).length = xs.length := List.length_map _
    generalize hys : xs.map (D.int .i64) = ys at hd hl
    cases hd with
    | arr0 s a cap => exact absurd (List.eq_nil_of_length_eq_zero (by simpa using hl.symm)) hne
    | arr s _ b off cap cv g1 g2 g3 g4 g5 g6 g7 =>
      refine ⟨b, off, cap, by rw [hl], g2, fun j hj => ?_⟩
      have h6 := g6 j (by omega)
      have h7 := g7 j 0 (by omega) (by omega)
      rw [Nat.mul_one, Nat.add_zero, ← hys, show (xs.map (D.int .i64)).getD j .nil = .int .i64 (at0 xs j) by simp [List.getD, at0, hj]] at h7
      rw [h6]
      generalize cv j = z at h7
      cases h7; rfl
  rw [ha]
  have e0 : ([V.d (dI cell), V.d (dI rank)].getD 0 .undef) = .d (dI cell) := rfl
  have e1 : ([V.d (dI cell), V.d (dI rank)].getD 1 .undef) = .d (dI rank) := rfl
  rw [e0] at h0
  rw [e1] at h1
  generalize args.getD 0 undef = va at h0
  generalize args.getD 1 undef = vb at h1
  cases h0 with
  | d _ _ hd0 =>
  cases h1 with
  | d _ _ hd1 =>
  by_cases hc : cell = []
  · subst hc
    have hv : ∃ a' cap, va = .slice a' 0 cap := by
      unfold dI at hd0
      cases hd0 with
      | arr0 s a' cap => exact ⟨a', cap, rfl⟩
      | arr s _ b off cap cv => exact ⟨_, cap, rfl⟩
    obtain ⟨a', cap, rfl⟩ := hv
    refine (zoJ a' cap vb w).mono ?_
    rintro e w' ⟨he, hg, hh⟩
    exact fin e w' #[] 0 (fun _ => 0) he hg ⟨hh, ⟨fun i j hi => by simp at hi, fun i hi => by simp at hi⟩, rfl, fun i hi => by simp [zI, zy] at hi, fun i hi => by simp [zI, zy] at hi, fun i j hi => by simp [zI, zy] at hi⟩
  · have hpos : 0 < cell.length := List.length_pos_iff.2 hc
    obtain ⟨b1, o1, cap1, rfl, l1, c1⟩ := read cell va hc hd0
    obtain ⟨b2, o2, cap2, rfl, l2, c2⟩ := read rank vb (fun e => by rw [e] at hle; simp at hle; exact hc (List.eq_nil_of_length_eq_zero (by simp [hle]))) hd1
    refine (zoK (T := T) b1 o1 cap1 b2 o2 cap2 rank.length cell rank w hpos hle (by omega) (fun b o ht => hS.pins b o (hT b o ht)) l1 l2 c1 (fun j hj => c2 j (by omega))).mono ?_
    rintro e w' ⟨he, hg, es, clock, blk, hG⟩
    exact fin e w' es clock blk he hg hG
end Go.Ab
namespace Go.Ab
open Go Go.Proofs
theorem zx1 {p:PM} {a:Nat} : (zbE p a).length=p.W.toNat:=by simp [zbE]
theorem zyR {p:PM} {a:Nat} (hW:p.W≤64) {w v:Nat} : rb (zbE p a) w v=(decide (w < p.W.toNat)&&decide (v < p.W.toNat)&&(at0 (za p.cell a) v==at0 (za p.cell a) w)&&decide (at0 (za p.rank a) v≤at0 (za p.rank a) w)):=by
 by_cases hw:w < p.W.toNat
 ·have:(zbE p a)[w]? = some (zbo (za p.cell a) (za p.rank a) w p.W.toNat):=by simp [zbE,hw]
  rw [zzX this,zbo,zf8]
  by_cases hv:v < p.W.toNat
  ·simp [hw,hv,show v < 64 by omega]
  ·simp [hv]
 ·rw [zzx (by rw [zx1];omega)];simp [hw]
theorem zsW {p:PM} {a:Nat} (hW:p.W≤64) {w v:Nat} : rb (zbE p a) w v=true↔w < p.W.toNat∧v < p.W.toNat∧at0 (za p.cell a) v=at0 (za p.cell a) w∧at0 (za p.rank a) v≤at0 (za p.rank a) w:=by
 rw [zyR hW]
 simp only [Bool.and_eq_true,decide_eq_true_eq,beq_iff_eq,and_assoc]
end Go.Ab
namespace Go.Ab
open Go
theorem zuq {x:BitVec 64} {k i:Nat} (hk:k < 64):(x|||1#64 <<< k).getLsbD i=true↔x.getLsbD i=true∨i=k:=by
 rw [BitVec.getLsbD_or,Bool.or_eq_true,ztb]
 constructor
 ·rintro (h|h)
  ·exact .inl h
  ·simp at h;exact .inr h.2
 ·rintro (h|rfl)
  ·exact .inl h
  ·exact .inr (by simp [hk])
theorem zcQ {q:Nat→Nat} {s:BitVec 64} {b:Nat} : ∀ k,(∀ w,w < k→q w < 64)→((zad q s k).getLsbD b=true ↔ ∃ w,w < k∧s.getLsbD w=true∧q w=b)
 | 0,_=>by simp [zad]
 | k+1,h=>by
  have ih:=zcQ (q:=q) (s:=s) (b:=b) k fun w hw=>h w (by omega)
  rw [zhs]
  split
  ·rename_i hs
   rw [zuq (h k (by omega)),ih]
   constructor
   ·rintro (⟨w,h1,h2⟩|rfl)
    ·exact ⟨w,by omega,h2⟩
    ·exact ⟨k,by omega,hs,rfl⟩
   ·rintro ⟨w,h1,h2,h3⟩
    by_cases e:w=k
    ·subst e;exact .inr h3.symm
    ·exact .inl ⟨w,by omega,h2,h3⟩
  ·rename_i hs
   rw [ih]
   constructor
   ·rintro ⟨w,h1,h2⟩;exact ⟨w,by omega,h2⟩
   ·rintro ⟨w,h1,h2,h3⟩
    by_cases e:w=k
    ·subst e;exact absurd h2 hs
    ·exact ⟨w,by omega,h2,h3⟩
def zbi (l:List (BitVec 64)) (w:Nat):Nat→Nat
 | 0=>0
 | k+1=>zbi l w k+if (l.getD k 0#64).getLsbD w=true then 2 ^ k else 0
theorem znu (l:List (BitVec 64)) (w:Nat) : ∀ k,zbi l w k < 2 ^ k
 | 0=>by simp [zbi]
 | k+1=>by
  have:=znu l w k
  have h2:=Nat.two_pow_pos k
  rw [zbi,Nat.pow_succ]
  split<;>omega
theorem zf1 (l:List (BitVec 64)) (w:Nat) {i:Nat} : ∀ k,(zbi l w k).testBit i=true↔i < k∧(l.getD i 0#64).getLsbD w=true
 | 0=>by simp [zbi]
 | k+1=>by
  have hlt:=znu l w k
  have ih:=zf1 l w (i:=i) k
  have e:zbi l w (k+1)=2 ^ k * (if (l.getD k 0#64).getLsbD w=true then 1 else 0)+zbi l w k:=by
   rw [zbi];split<;>omega
  rw [e,Nat.testBit_two_pow_mul_add _ hlt]
  by_cases h:i < k
  ·rw [if_pos h,ih]
   exact ⟨fun ⟨a,b⟩=>⟨by omega,b⟩,fun ⟨a,b⟩=>⟨h,b⟩⟩
  ·rw [if_neg h]
   by_cases h2:i=k
   ·subst h2
    rw [Nat.sub_self]
    split
    ·rename_i hb;exact ⟨fun _=>⟨by omega,hb⟩,fun _=>by decide⟩
    ·rename_i hb;exact ⟨fun h=>by simp at h,fun h=>absurd h.2 hb⟩
   ·constructor
    ·intro h3
     exfalso
     obtain ⟨m,hm⟩ : ∃ m,i - k=m+1:=⟨i - k - 1,by omega⟩
     rw [hm,Nat.testBit_succ] at h3
     split at h3<;>simp at h3
    ·rintro ⟨a,-⟩;omega
def zd3 (p:PM) (w:Nat):Nat:=zbi p.val w p.val.length
theorem zrx {p:PM} {v w:Nat} : zd3 p v=zd3 p w ↔ ∀ i,(p.val.getD i 0#64).getLsbD v=true↔(p.val.getD i 0#64).getLsbD w=true:=by
 constructor
 ·intro h i
  by_cases hi:i < p.val.length
  ·have a:=zf1 p.val v (i:=i) p.val.length
   have b:=zf1 p.val w (i:=i) p.val.length
   rw [show zbi p.val v p.val.length=zbi p.val w p.val.length from h] at a
   exact ⟨fun hv=>(b.1 (a.2 ⟨hi,hv⟩)).2,fun hw=>(a.1 (b.2 ⟨hi,hw⟩)).2⟩
  ·have:p.val.getD i 0#64=0#64:=by rw [List.getD,List.getElem?_eq_none (by omega)];rfl
   rw [this];simp
 ·intro h
  refine Nat.eq_of_testBit_eq fun i=>?_
  rw [Bool.eq_iff_iff]
  unfold zd3
  rw [zf1,zf1,h i]
def zqP (p:PM):Nat→Nat:=zT (zd8 (zd3 p))
def wkB (p:PM) (a w:Nat):BitVec 64:=uAt (zbE p a) w
def zbj (p:PM):List (Nat→BitVec 64):=(List.range p.cell.length).flatMap fun (a:Nat)=>[fun (w:Nat)=>zan p (a:Int) (w:Int),fun w=>wkB p a w]
def zQ (p:PM) (k:Nat):Nat→Nat:=zbc p.W.toNat (zbj p) (zqP p) k
theorem zc4 (p:PM) (n:Nat):zd5 n (zqP p):=znE (znC _) n
theorem zoW {p:PM} (hc0:zp p=0) {a w i:Nat} (hw:w < p.W.toNat):(wkB p a w).getLsbD i=true↔InC p a w i∧rkA p a i≤rkA p a w:=by
 have h2:=(zS hc0).w2
 show rb (zbE p a) w i=true↔_
 rw [zsW h2]
 exact ⟨fun ⟨_,a,b,c⟩=>⟨⟨a,b⟩,c⟩,fun ⟨⟨a,b⟩,c⟩=>⟨hw,a,b,c⟩⟩
theorem zka {p:PM} {r:Nat→BitVec 64} : r∈zbj p ↔ ∃ a:Nat,a < p.cell.length∧(r=(fun (w:Nat)=>zan p (a:Int) (w:Int))∨r=fun w=>wkB p a w):=by
 unfold zbj
 rw [List.mem_flatMap]
 constructor
 ·rintro ⟨a,ha,h⟩
  simp only [List.mem_cons,List.not_mem_nil,or_false] at h
  exact ⟨a,List.mem_range.1 ha,h⟩
 ·rintro ⟨a,ha,h⟩
  exact ⟨a,List.mem_range.2 ha,by simpa using h⟩
structure znk (p:PM) (q:Nat→Nat):Prop where
 canon:zd5 p.W.toNat q
 fact : ∀ {v w},v < p.W.toNat→w < p.W.toNat→q v=q w→zd3 p v=zd3 p w
 rel : ∀ {v w},v < p.W.toNat→w < p.W.toNat→q v=q w → ∀ r∈zbj p,zad q (r v) p.W.toNat=zad q (r w) p.W.toNat
theorem zkl (p:PM) : ∀ (k:Nat) {v w:Nat},v < p.W.toNat→w < p.W.toNat→zQ p k v=zQ p k w→zd3 p v=zd3 p w
 | 0,v,w,hv,hw,h=>by
  have:=(zlT (znC (zd3 p))).1 h
  simpa [zd8] using this
 | k+1,v,w,hv,hw,h=>by
  have h1:=zmE (rels:=zbj p) (zfG (rels:=zbj p) (zc4 p p.W.toNat) k) hv
  have h2:=zmE (rels:=zbj p) (zfG (rels:=zbj p) (zc4 p p.W.toNat) k) hw
  refine zkl p k hv hw ?_
  show zbc _ _ _ k v=zbc _ _ _ k w
  rw [← h1,← h2]
  exact congrArg _ h
theorem zgt (p:PM) (k:Nat):zd5 p.W.toNat (zQ p k):=zfG (zc4 p _) k
theorem zsh {p:PM} (hc0:zp p=0) {j:Nat} (hj:p.W.toNat≤j) {w:Nat} (hw:w < p.W.toNat):zQ p j w=zQ p p.W.toNat w :=
 zvw (zc4 p _) (by omega) hj hw
theorem zxY {p:PM} (hc0:zp p=0) {j:Nat} (hj:p.W.toNat≤j):znk p (zQ p j) where
 canon:=zgt p j
 fact:=fun hv hw h=>zkl p j hv hw h
 rel:=fun {v w} hv hw h r hr=>by
  have hs : ∀ {w},w < p.W.toNat→zbC p.W.toNat (zbj p) (zQ p j) w=zQ p j w:=fun {w} hw=>by
   have h1:zQ p (j+1) w=zQ p p.W.toNat w:=zsh hc0 (by omega) hw
   have h2:=zsh hc0 hj hw
   rw [h2,← h1];rfl
  rw [← hs hv,← hs hw] at h
  have h1:=(zlT (zep p.W.toNat (zbj p) (zQ p j))).1 h
  simp only [zaT,Bool.and_eq_true,decide_eq_true_eq,List.all_eq_true] at h1
  exact h1.2 r hr
section
variable {p:PM} (hc0:zp p=0) {q:Nat→Nat} (S:znk p q)
include hc0 S
theorem znk.q64 {w:Nat} (hw:w < p.W.toNat):q w < 64:=by
 have:=S.canon.le w hw
 have:=W64 hc0
 omega
theorem znk.cell {a v w u:Nat} (ha:a < p.cell.length) (hv:v < p.W.toNat) (hw:w < p.W.toNat) (h:q v=q w) (hu:InC p a v u) : ∃ u',InC p a w u'∧q u'=q u:=by
 have hr:=S.rel hv hw h _ (zka.2 ⟨a,ha,.inl rfl⟩)
 have h1:=(zcQ (s:=zan p (a:Int) (v:Int)) (b:=q u) p.W.toNat fun w hw=>S.q64 hc0 hw).2 ⟨u,hu.1,(za8 hc0 ha hv).2 hu,rfl⟩
 rw [hr] at h1
 obtain ⟨u',h2,h3,h4⟩:=(zcQ p.W.toNat fun w hw=>S.q64 hc0 hw).1 h1
 exact ⟨u',(za8 hc0 ha hw).1 h3,h4⟩
theorem znk.weak {a v w u:Nat} (ha:a < p.cell.length) (hv:v < p.W.toNat) (hw:w < p.W.toNat) (h:q v=q w) (hu:InC p a v u) (hr':rkA p a u≤rkA p a v) : ∃ u',InC p a w u'∧rkA p a u'≤rkA p a w∧q u'=q u:=by
 have hr:=S.rel hv hw h _ (zka.2 ⟨a,ha,.inr rfl⟩)
 have h1:=(zcQ (s:=wkB p a v) (b:=q u) p.W.toNat fun w hw=>S.q64 hc0 hw).2 ⟨u,hu.1,(zoW hc0 hv).2 ⟨hu,hr'⟩,rfl⟩
 rw [hr] at h1
 obtain ⟨u',h2,h3,h4⟩:=(zcQ p.W.toNat fun w hw=>S.q64 hc0 hw).1 h1
 obtain ⟨h5,h6⟩:=(zoW hc0 hw).1 h3
 exact ⟨u',h5,h6,h4⟩
theorem znk.bis:zi0 p p (fun v w=>v < p.W.toNat∧w < p.W.toNat∧q v=q w) where
 n:=rfl
 lt h:=⟨h.1,h.2.1⟩
 fact h i:=zrx.1 (S.fact h.1 h.2.1 h.2.2) i
 cf ha h hu:=by
  obtain ⟨u',h1,h2⟩:=S.cell hc0 ha h.1 h.2.1 h.2.2 hu
  exact ⟨u',h1,hu.1,h1.1,h2.symm⟩
 cb ha h hu:=by
  obtain ⟨u',h1,h2⟩:=S.cell hc0 ha h.2.1 h.1 h.2.2.symm hu
  exact ⟨u',h1,h1.1,hu.1,h2⟩
 sf ha h hu hr:=by
  obtain ⟨u',h1,h2,h3⟩:=S.weak hc0 ha h.1 h.2.1 h.2.2 hu hr
  exact ⟨u',h1,h2,hu.1,h1.1,h3.symm⟩
 sb ha h hu hr:=by
  obtain ⟨u',h1,h2,h3⟩:=S.weak hc0 ha h.2.1 h.1 h.2.2.symm hu hr
  exact ⟨u',h1,h2,h1.1,hu.1,h3⟩
end
end Go.Ab
namespace Go.Ab
open Go
theorem zi0.trans {p p' p2:PM} {Z Z':Nat→Nat→Prop} (B:zi0 p p' Z) (B':zi0 p' p2 Z'):zi0 p p2 (fun v w => ∃ u,Z v u∧Z' u w) where
 n:=B.n.trans B'.n
 lt:=fun ⟨u,h,h'⟩=>⟨(B.lt h).1,(B'.lt h').2⟩
 fact:=fun ⟨u,h,h'⟩ i=>(B.fact h i).trans (B'.fact h' i)
 cf ha:=fun ⟨u,h,h'⟩ hu=>by
  obtain ⟨x,h1,h2⟩:=B.cf ha h hu
  obtain ⟨y,h3,h4⟩:=B'.cf (by have:=B.n;omega) h' h1
  exact ⟨y,h3,x,h2,h4⟩
 cb ha:=fun ⟨u,h,h'⟩ hu=>by
  obtain ⟨x,h1,h2⟩:=B'.cb (by have:=B.n;omega) h' hu
  obtain ⟨y,h3,h4⟩:=B.cb ha h h1
  exact ⟨y,h3,x,h4,h2⟩
 sf ha:=fun ⟨u,h,h'⟩ hu hr=>by
  obtain ⟨x,h1,h1r,h2⟩:=B.sf ha h hu hr
  obtain ⟨y,h3,h3r,h4⟩:=B'.sf (by have:=B.n;omega) h' h1 h1r
  exact ⟨y,h3,h3r,x,h2,h4⟩
 sb ha:=fun ⟨u,h,h'⟩ hu hr=>by
  obtain ⟨x,h1,h1r,h2⟩:=B'.sb (by have:=B.n;omega) h' hu hr
  obtain ⟨y,h3,h3r,h4⟩:=B.sb ha h h1 h1r
  exact ⟨y,h3,h3r,x,h4,h2⟩
section
variable {p:PM} (hc0:zp p=0)
include hc0
theorem zqU {k w:Nat} (hw:w < p.W.toNat):zQ p k w < 64:=by
 have:=(zgt p k).le w hw
 have:=W64 hc0
 omega
end
abbrev zz2 (p:PM):Nat→Nat:=zQ p 64
section
variable {p:PM} (hc0:zp p=0)
include hc0
theorem zwV:znk p (zz2 p):=zxY hc0 (W64 hc0)
end
end Go.Ab
namespace Go.Ab
open Go
section
variable {p:PM} (hc0:zp p=0)
include hc0
omit hc0 in
theorem znT {k v w:Nat} (h:zQ p (k+1) v=zQ p (k+1) w):zQ p k v=zQ p k w ∧ ∀ r∈zbj p,zad (zQ p k) (r v) p.W.toNat=zad (zQ p k) (r w) p.W.toNat:=by
 have h1:=(zlT (zep p.W.toNat (zbj p) (zQ p k))).1 h
 simp only [zaT,Bool.and_eq_true,decide_eq_true_eq,List.all_eq_true] at h1
 exact h1
omit hc0 in
theorem zsi {v w:Nat} : ∀ {k j:Nat},j≤k→zQ p k v=zQ p k w→zQ p j v=zQ p j w
 | 0,j,hj,h=>by rw [show j=0 by omega];exact h
 | k+1,j,hj,h=>by
  by_cases e:j=k+1
  ·rw [e];exact h
  ·exact zsi (by omega) (znT h).1
def za6 (p:PM) (k:Nat) (x:BitVec 64):Prop := ∀ v w,v < p.W.toNat→w < p.W.toNat→zQ p k v=zQ p k w→(x.getLsbD v=true↔x.getLsbD w=true)
omit hc0 in
theorem za6.up {k j:Nat} {x:BitVec 64} (h:za6 p k x) (hj:k≤j):za6 p j x:=fun v w hv hw e=>h v w hv hw (zsi hj e)
theorem zxG {k a v w u:Nat} (ha:a < p.cell.length) (hv:v < p.W.toNat) (hw:w < p.W.toNat) (h:zQ p (k+1) v=zQ p (k+1) w) (hu:InC p a v u) : ∃ u',InC p a w u'∧zQ p k u'=zQ p k u:=by
 have hr:=(znT h).2 _ (zka.2 ⟨a,ha,.inl rfl⟩)
 have h1:=(zcQ (s:=zan p (a:Int) (v:Int)) (b:=zQ p k u) p.W.toNat fun w hw=>zqU hc0 hw).2 ⟨u,hu.1,(za8 hc0 ha hv).2 hu,rfl⟩
 rw [hr] at h1
 obtain ⟨u',h2,h3,h4⟩:=(zcQ p.W.toNat fun w hw=>zqU hc0 hw).1 h1
 exact ⟨u',(za8 hc0 ha hw).1 h3,h4⟩
theorem zxH {k a v w u:Nat} (ha:a < p.cell.length) (hv:v < p.W.toNat) (hw:w < p.W.toNat) (h:zQ p (k+1) v=zQ p (k+1) w) (hu:InC p a v u) (hr':rkA p a u≤rkA p a v) : ∃ u',InC p a w u'∧rkA p a u'≤rkA p a w∧zQ p k u'=zQ p k u:=by
 have hr:=(znT h).2 _ (zka.2 ⟨a,ha,.inr rfl⟩)
 have h1:=(zcQ (s:=wkB p a v) (b:=zQ p k u) p.W.toNat fun w hw=>zqU hc0 hw).2 ⟨u,hu.1,(zoW hc0 hv).2 ⟨hu,hr'⟩,rfl⟩
 rw [hr] at h1
 obtain ⟨u',h2,h3,h4⟩:=(zcQ p.W.toNat fun w hw=>zqU hc0 hw).1 h1
 obtain ⟨h5,h6⟩:=(zoW hc0 hw).1 h3
 exact ⟨u',h5,h6,h4⟩
theorem zsg (k:Nat):za6 p k (zaq p.W):=fun v w hv hw _=>by rw [zc2 hc0,zc2 hc0];exact ⟨fun _=>hw,fun _=>hv⟩
omit hc0 in
theorem ziT {k:Nat} {x y:BitVec 64} (hx:za6 p k x) (hy:za6 p k y):za6 p k (x &&& ~~~y):=fun v w hv hw h=>by rw [zmC,zmC,hx v w hv hw h,hy v w hv hw h]
omit hc0 in
theorem zxC {k:Nat} {x y:BitVec 64} (hx:za6 p k x) (hy:za6 p k y):za6 p k (x&&&y):=fun v w hv hw h=>by rw [zms,zms,hx v w hv hw h,hy v w hv hw h]
omit hc0 in
theorem zts {k:Nat} {x y:BitVec 64} (hx:za6 p k x) (hy:za6 p k y):za6 p k (x|||y):=fun v w hv hw h=>by rw [zoG,zoG,hx v w hv hw h,hy v w hv hw h]
omit hc0 in
theorem zxD {k:Nat} {x y:BitVec 64} (hx:za6 p k x) (hy:za6 p k y):za6 p k (x ^^^ y):=fun v w hv hw h=>by
 rw [BitVec.getLsbD_xor,BitVec.getLsbD_xor,show x.getLsbD v=x.getLsbD w from Bool.eq_iff_iff.2 (hx v w hv hw h),show y.getLsbD v=y.getLsbD w from Bool.eq_iff_iff.2 (hy v w hv hw h)]
theorem zp8 {k a:Nat} (ha:a < p.cell.length) {x:BitVec 64} (hx:za6 p k x):za6 p (k+1) (zbM p a x):=by
 have one : ∀ v w,v < p.W.toNat→w < p.W.toNat→zQ p (k+1) v=zQ p (k+1) w→(zbM p a x).getLsbD v=true→(zbM p a x).getLsbD w=true:=by
  intro v w hv hw h hk
  rw [zhB hc0 ha] at hk ⊢
  refine ⟨hw,fun u hu=>?_⟩
  obtain ⟨u',h1,h2⟩:=zxG hc0 ha hw hv h.symm hu
  exact (hx u' u h1.1 hu.1 h2).1 (hk.2 u' h1)
 exact fun v w hv hw h=>⟨one v w hv hw h,one w v hw hv h.symm⟩
theorem zvS {k a:Nat} (ha:a < p.cell.length) {x:BitVec 64} (hx:za6 p k x):za6 p (k+1) (zbU p a x):=by
 have one : ∀ v w,v < p.W.toNat→w < p.W.toNat→zQ p (k+1) v=zQ p (k+1) w→(zbU p a x).getLsbD v=true→(zbU p a x).getLsbD w=true:=by
  intro v w hv hw h hk
  rw [zgu hc0 ha] at hk ⊢
  refine ⟨hw,fun u hu hr=>?_⟩
  obtain ⟨u',h1,h1r,h2⟩:=zxH hc0 ha hw hv h.symm hu hr
  exact (hx u' u h1.1 hu.1 h2).1 (hk.2 u' h1 h1r)
 exact fun v w hv hw h=>⟨one v w hv hw h,one w v hw hv h.symm⟩
def zhb (op:Int):Nat:=if (9≤op∧op≤15)∨16≤op then 1 else 0
def zas (h:Hd) (x y:Nat):Nat:=max (if zR h.op=true then x else 0) (if zD h.op=true then y else 0)+zhb h.op
omit hc0 in
theorem zrn {h:Hd} {t u:Nat} : (zR h.op=true→t+zhb h.op≤zas h t u)∧(zD h.op=true→u+zhb h.op≤zas h t u)∧zhb h.op≤zas h t u:=by
 unfold zas
 refine ⟨fun e=>?_,fun e=>?_,by omega⟩
 ·rw [if_pos e];omega
 ·rw [if_pos e];omega
def zfa (h:Hd):Prop:=h.op≤10∨h.op=15
theorem zkh {h:Hd} (hh:zet h) (hf:zhI p h) (hp:zfa h) {x y:BitVec 64} {k j:Nat} (hx:zR h.op=true→za6 p k x) (hy:zD h.op=true→za6 p k y) (hj:k+zhb h.op≤j):za6 p j (zau p h x y):=by
 have hag:zae h.op=true → ∃ a:Nat,h.i=(a:Int)∧a < p.cell.length:=fun e=>by
  have h3:0≤h.i∧h.i≤3:=hh.agent e
  have h1:=hf.1
  rw [zaf,if_pos e] at h1
  have:=(Nat.pow_lt_pow_iff_right (by decide:1 < 2)).1 h1
  exact ⟨h.i.toNat,by omega,this⟩
 have hX:4≤h.op→h.op≤21→za6 p k x:=fun a b=>hx (by simp [zR];omega)
 have hY:5≤h.op→h.op≤8→za6 p k y:=fun a b=>hy (by simp [zD];omega)
 have hA:=zsg hc0 k
 unfold zau
 by_cases h1:h.op=1
 ·rw [if_pos h1];exact hA.up (by omega)
 rw [if_neg h1]
 by_cases h3:h.op=3
 ·rw [if_pos h3]
  exact fun v w hv hw e=>zrx.1 (zkl p j hv hw e) _
 rw [if_neg h3]
 by_cases h4:h.op=4
 ·rw [if_pos h4];exact (ziT hA (hX (by omega) (by omega))).up (by omega)
 rw [if_neg h4]
 by_cases h5:h.op=5
 ·rw [if_pos h5];exact (zxC (hX (by omega) (by omega)) (hY (by omega) (by omega))).up (by omega)
 rw [if_neg h5]
 by_cases h6:h.op=6
 ·rw [if_pos h6];exact (zts (hX (by omega) (by omega)) (hY (by omega) (by omega))).up (by omega)
 rw [if_neg h6]
 by_cases h7:h.op=7
 ·rw [if_pos h7];exact (zts (ziT hA (hX (by omega) (by omega))) (hY (by omega) (by omega))).up (by omega)
 rw [if_neg h7]
 by_cases h8:h.op=8
 ·rw [if_pos h8];exact (ziT hA (zxD (hX (by omega) (by omega)) (hY (by omega) (by omega)))).up (by omega)
 rw [if_neg h8]
 by_cases h9:h.op=9
 ·rw [if_pos h9]
  obtain ⟨a,ha,hl⟩:=hag (decide_eq_true (by omega))
  rw [ha];exact (zp8 hc0 hl (hX (by omega) (by omega))).up (by rw [zhb,if_pos (by omega)] at hj;omega)
 rw [if_neg h9]
 by_cases h10:h.op=10
 ·rw [if_pos h10]
  obtain ⟨a,ha,hl⟩:=hag (decide_eq_true (by omega))
  rw [ha];exact (ziT (zsg hc0 _) (zp8 hc0 hl (ziT hA (hX (by omega) (by omega))))).up (by rw [zhb,if_pos (by omega)] at hj;omega)
 rw [if_neg h10,if_neg (by unfold zfa at hp;omega),if_neg (by unfold zfa at hp;omega),if_neg (by unfold zfa at hp;omega)]
 by_cases h15:h.op=15
 ·rw [if_pos h15]
  obtain ⟨a,ha,hl⟩:=hag (decide_eq_true (by omega))
  rw [ha];exact (zvS hc0 hl (hX (by omega) (by omega))).up (by rw [zhb,if_pos (by omega)] at hj;omega)
 rw [if_neg h15]
 exact fun v w _ _ _=>by simp
theorem zmD : ∀ (t:Tm),t.ok→t.all (zhI p)→t.all zfa→za6 p (ev zas 0 t) (ev (zau p) 0#64 t)
 | .z h,⟨hh,hx,hy⟩,h2,h3=>zkh hc0 hh h2 h3 (k:=0) (fun e=>by rw [hx] at e;cases e) (fun e=>by rw [hy] at e;cases e) (by have:=(zrn (h:=h) (t:=0) (u:=0)).2.2;show 0+zhb h.op≤zas h 0 0;omega)
 | .u h x,⟨hh,hx,hy,ho⟩,h2,h3=>by
  have ih:=zmD x ho h2.2 h3.2
  exact zkh hc0 hh h2.1 h3.1 (fun _=>ih) (fun e=>by rw [hy] at e;cases e) ((zrn (h:=h) (t:=ev zas 0 x) (u:=0)).1 hx)
 | .b h x y,⟨hh,hx,hy,ho,ho'⟩,h2,h3=>by
  have ih:=zmD x ho h2.2.1 h3.2.1
  have ih':=zmD y ho' h2.2.2 h3.2.2
  have d:=zrn (h:=h) (t:=ev zas 0 x) (u:=ev zas 0 y)
  by_cases hle:ev zas 0 x≤ev zas 0 y
  ·exact zkh hc0 hh h2.1 h3.1 (fun _=>ih.up hle) (fun _=>ih') (d.2.1 hy)
  ·exact zkh hc0 hh h2.1 h3.1 (fun _=>ih) (fun _=>ih'.up (by omega)) (d.1 hx)
end
end Go.Ab
namespace Go.Ab
open Go Go.Proofs
set_option maxRecDepth 10000
set_option maxHeartbeats 4000000
variable {T:Nat→Obj→Prop}
def ptL (n:Nat) (q:Nat→Nat):List Int:=(List.range n).map fun w=>((q w:Nat):Int)
theorem zb0 {n:Nat} {q:Nat→Nat} {w:Nat} (hw:w < n):(ptL n q)[w]? = some ((q w:Nat):Int):=by simp [ptL,hw]
theorem zdE {n:Nat} {q:Nat→Nat} : (ptL n q).length=n:=by simp [ptL]
theorem zf6 {n:Nat} {q q':Nat→Nat} (h : ∀ w,w < n→q w=q' w):ptL n q=ptL n q':=List.map_congr_left fun w hw=>by rw [h w (List.mem_range.1 hw)]
theorem zyQ {n:Nat} {q q':Nat→Nat} (h:ptL n q=ptL n q') {w:Nat} (hw:w < n):q w=q' w:=by
 have:=zb0 (q:=q) hw
 rw [h,zb0 hw] at this
 have:=Option.some.inj this
 omega
theorem zvd {n:Nat} {q:Nat→Nat} (hq:zd5 n q) (hn:n≤64):Fn Tryz.prog T zgk [.d (dI (ptL n q))] [] (.d (.int .i64 0)) []:=by
 have hl:(ptL n q).length=n:=zdE
 refine zj zz zmL (by show 1≤31;decide) ?_
 (repeat' ((conv=>whnf);first|refine vA ?_|(refine vF ?_ ?_<;>intro hc<;>try simp only [vL] at hc)|refine vJ fun hg=>?_|refine vT ?_|refine vX ?_));all_goals try conv=>whnf
 ·omega
 ·refine zX (fun (k:Nat)=>[(0,.d (dI (ptL n q))),(8,.d (dI (ptL n q))),(9,.d (.int .i64 (((ptL n q).map (D.int .i64)).length:Int))),(10,.d (.int .i64 ((k:Int))))]) (fun (k:Nat)=>k≤n) (fun (k:Nat)=>n - k) (0) (by simp) (by (repeat' first|exact trivial|exact rfl|refine And.intro ?_ ?_)) ?_
  rintro k hk
  by_cases hkl:k < n
  ·have e1:(ptL n q)[k]? = some ((q k:Nat):Int):=zb0 hkl
   have b1:=hq.le k hkl
   have e2:(ptL n q)[q k]? = some ((q k:Nat):Int):=by rw [zb0 (by omega),hq.idem k hkl]
   (repeat' ((conv=>whnf);first|refine vA ?_|refine vH ?_|((first|refine vD ?_ ?_|refine vF ?_ ?_)<;>intro hc<;>try simp only [vL] at hc)|refine vT ?_|refine vN ‹_› ?_|(refine vO ?_ ?_;·omega)|refine vX ?_));all_goals try conv=>whnf
   all_goals try omega
   exact ⟨k+1,[],[],by (omega),by (omega),by (refine ⟨rfl,rfl,rfl,?_,?_⟩;repeat' first|exact trivial|exact rfl|refine And.intro ?_ ?_)⟩
  ·(repeat' ((conv=>whnf);first|refine vA ?_|((first|refine vD ?_ ?_|refine vF ?_ ?_)<;>intro hc<;>try simp only [vL] at hc)|refine vT ?_|(refine vQ ?_ fun x hx=>?_;·omega)|((first|refine vO ?_ ?_|refine vS ?_ fun x hx=>?_);·omega)|refine vX ?_));all_goals try conv=>whnf
   all_goals omega
def zeU (a b:List Int) (v w:Nat):Bool:=decide (at0 a v=at0 a w∧at0 b v=at0 b w)
abbrev pkD (x y:Int):D := .agg [.int .i64 x,.int .i64 y]
def zcG (a b:List Int) (k:Nat) (x y:Int):Option Nat:=(List.range k).find? fun j=>decide (at0 a j=x∧at0 b j=y)
def zkP (a b:List Int) (k:Nat) (es:List (D×D)):Prop := ∀ x y,z2 es (pkD x y)=some ((zcG a b k x y).map fun (j:Nat)=>D.int .i64 (j:Int))
theorem zeP (k:D) (l:List (D×D)) : ∀ es:List (D×D),z2 es k=some none→z2 (es++l) k=z2 l k
 | [],_=>rfl
 | (a,v)::r,h=>by
  simp only [z2] at h
  show z2 ((a,v)::(r++l)) k=_
  simp only [z2]
  split at h
  ·cases h
  ·exact zeP k l r h
  ·cases h
theorem zmV (k:D) (l:List (D×D)) : ∀ (es:List (D×D)) (x:D),z2 es k=some (some x)→z2 (es++l) k=some (some x)
 | [],_,h=>by cases h
 | (a,v)::r,x,h=>by
  simp only [z2] at h
  show z2 ((a,v)::(r++l)) k=_
  simp only [z2]
  split at h
  ·exact h
  ·exact zmV k l r x h
  ·cases h
theorem zvL (x y x' y':Int):D.eqk (pkD x y) (pkD x' y')=some (decide (x=x')&&(decide (y=y')&&true)):=rfl
theorem zls (a b:List Int) (k:Nat) (x y:Int):zcG a b (k+1) x y=match zcG a b k x y with
  | some j=>some j
  | none=>if at0 a k=x∧at0 b k=y then some k else none:=by
 unfold zcG
 rw [List.range_succ,List.find?_append]
 cases h:(List.range k).find? fun j=>decide (at0 a j=x∧at0 b j=y) with
 | some j=>rfl
 | none =>
  show (none:Option Nat).or _=_
  rw [Option.none_or]
  simp only [List.find?]
  by_cases e:at0 a k=x∧at0 b k=y
  ·rw [if_pos e,decide_eq_true e]
  ·rw [if_neg e,decide_eq_false e]
theorem zsL {a b:List Int} {k j:Nat} {es:List (D×D)} (h:zkP a b k es) (hf:zcG a b k (at0 a k) (at0 b k)=some j):zkP a b (k+1) es:=by
 intro x y
 rw [h x y,zls]
 cases e:zcG a b k x y with
 | some i=>rfl
 | none =>
  show _=some (Option.map _ (if at0 a k=x∧at0 b k=y then some k else none))
  rw [if_neg]
  rintro ⟨rfl,rfl⟩;rw [hf] at e;cases e
theorem zt5 {a b:List Int} {k:Nat} {es:List (D×D)} (h:zkP a b k es) (hf:zcG a b k (at0 a k) (at0 b k)=none):zkP a b (k+1) (es++[(pkD (at0 a k) (at0 b k),.int .i64 (k:Int))]):=by
 intro x y
 rw [zls]
 cases e:zcG a b k x y with
 | some i=>exact zmV _ _ _ _ (by rw [h x y,e];rfl)
 | none =>
  rw [zeP _ _ _ (by rw [h x y,e];rfl)]
  show _=some (Option.map _ (if at0 a k=x∧at0 b k=y then some k else none))
  simp only [z2,zvL]
  by_cases e1:at0 a k=x∧at0 b k=y
  ·obtain ⟨rfl,rfl⟩:=e1
   simp
  ·rw [if_neg e1]
   by_cases e2:x=at0 a k
   ·have e3 : ¬ y=at0 b k:=fun e3=>e1 ⟨e2.symm,e3.symm⟩
    simp [e2,e3]
   ·simp [e2]
theorem zpV (a b:List Int) (k:Nat):zT (zeU a b) k=(zcG a b k (at0 a k) (at0 b k)).getD k:=rfl
theorem ztt {e:Nat→Nat→Bool} {n k j:Nat} (h:zT e k=j):(((List.range n).map fun i=>D.int .i64 (if i < k then (zT e i:Int) else 0)).set k (D.int .i64 (j:Int)))=(List.range n).map fun i=>D.int .i64 (if i < k+1 then (zT e i:Int) else 0):=by
 refine (zf9 _).trans (zM fun u hu=>?_)
 by_cases e1:u=k
 ·subst e1;rw [if_pos rfl,if_pos (by omega),h]
 ·rw [if_neg e1]
  by_cases e2:u < k
  ·rw [if_pos e2,if_pos (by omega)]
  ·rw [if_neg e2,if_neg (by omega)]
theorem zva (a b:List Int) (hl:b.length=a.length) (hn:a.length≤64):Fn Tryz.prog T zfR [.d (dI a),.d (dI b)] [] (.d (dI (ptL a.length (zT (zeU a b))))) []:=by
 refine zj zz zlF (by show 2≤48;decide) ?_
 (repeat' ((conv=>whnf);first|refine vA ?_|refine vJ fun hg=>?_|refine vT ?_|(refine vP ?_ ?_;·(simp only [vM] at *;omega))|fail));all_goals try conv=>whnf
 refine zu (fun ((k,es,zs):Nat×List (D×D)×List D)=>[(0,.d (dI a)),(1,.d (dI b)),(5,.map 0),(6,.own 1),(16,.d (.int .i64 ((a.map (D.int .i64)).length:Int))),(17,.d (.int .i64 ((k:Int))))]) (fun ((k,es,zs):Nat×List (D×D)×List D)=>[(0,some (.map es)),(1,some (.row 1 zs))]) 2 (fun ((k,es,zs):Nat×List (D×D)×List D)=>k≤a.length∧zkP a b k es∧zs=(List.range a.length).map fun i=>D.int .i64 (if i < k then (zT (zeU a b) i:Int) else 0)) (fun ((k,es,zs):Nat×List (D×D)×List D)=>a.length - k) ((0,[],List.replicate (((a.map (D.int .i64)).length:Int)).toNat (D.int .i64 0))) [(0,0),(1,1)] [] (⟨by simp,fun x y=>by simp [z2,zcG],by simp only [Nat.not_lt_zero,if_false];rw [List.length_map,Int.toNat_natCast];exact zbB _ _⟩) (by (refine ⟨rfl,rfl,rfl,?_,?_⟩;repeat' first|exact trivial|exact rfl|refine And.intro ?_ ?_|refine ⟨_,rfl,?_⟩|decide)) ?_
 rintro ⟨k,es,zs⟩ ⟨hk,hM,rfl⟩
 by_cases hkl:k < a.length
 ·obtain ⟨x,e1⟩ : ∃ x,a[k]? = some x:=⟨_,List.getElem?_eq_getElem hkl⟩
  obtain ⟨y,e2⟩ : ∃ y,b[k]? = some y:=⟨_,List.getElem?_eq_getElem (by omega)⟩
  have f1:at0 a k=x:=zw e1
  have f2:at0 b k=y:=zw e2
  cases hf:zcG a b k x y with
  | some j =>
   have hfd:z2 es (pkD x y)=some (some (.int .i64 (j:Int))):=by rw [hM x y,hf];rfl
   (repeat' ((conv=>whnf);first|refine vA ?_|refine vE ?_|refine vG ?_|(refine vF ?_ ?_<;>intro hc<;>try simp only [vL] at hc)|refine vT ?_|refine vN ‹_› ?_|((first|refine vO ?_ ?_|refine vP ?_ ?_);·first|omega|(simp only [vM] at *;omega))|(refine vU ?_ ?_;·kernel_rfl)|refine zmo.mk _ ‹_› ?_));all_goals try conv=>whnf
   ·have hlo:zT (zeU a b) k=j:=by rw [zpV,f1,f2,hf];rfl
    refine ⟨(k+1,es,_),[(0,0),(1,1)],[],?_,?_,by (refine ⟨rfl,rfl,rfl,?_,?_⟩;repeat' first|exact trivial|exact rfl|refine And.intro ?_ ?_|refine ⟨_,rfl,?_⟩|decide)⟩
    ·exact ⟨by (omega),zsL hM (by rw [f1,f2];exact hf),ztt hlo⟩
    ·((simp only [vM] at *;omega))
   all_goals omega
  | none =>
   have hfd:z2 es (pkD x y)=some none:=by rw [hM x y,hf];rfl
   have hfn:z2 (es++[(pkD x y,.int .i64 (k:Int))]) (pkD x y)=some (some (.int .i64 (k:Int))):=by rw [zeP _ _ _ hfd];simp [z2,zvL]
   (repeat' ((conv=>whnf);first|refine vA ?_|(refine vF ?_ ?_<;>intro hc<;>try simp only [vL] at hc)|refine vT ?_|refine vN ‹_› ?_|((first|refine vO ?_ ?_|refine vP ?_ ?_);·first|omega|(simp only [vM] at *;omega))|(refine vU ?_ ?_;·kernel_rfl)|refine zmo.mk _ ‹_› ?_));all_goals try conv=>whnf
   ·have hlo:zT (zeU a b) k=k:=by rw [zpV,f1,f2,hf];rfl
    refine ⟨(k+1,_,_),[(0,0),(1,1)],[],?_,?_,by (refine ⟨rfl,rfl,rfl,?_,?_⟩;repeat' first|exact trivial|exact rfl|refine And.intro ?_ ?_|refine ⟨_,rfl,?_⟩|decide)⟩
    ·exact ⟨by (omega),by subst f1 f2;exact zt5 hM hf,ztt hlo⟩
    ·((simp only [vM] at *;omega))
   all_goals omega
 ·(repeat' ((conv=>whnf);first|refine vA ?_|(refine vF ?_ ?_<;>intro hc<;>try simp only [vL] at hc)|refine vT ?_|(refine vQ ?_ fun x hx=>?_;·omega)|(refine vU ?_ ?_;·kernel_rfl)|fail));all_goals try conv=>whnf
  ·omega
  ·have e0:k=a.length:=by omega
   subst e0
   refine congrArg (fun l=>some (D.arr 1 l)) ?_
   unfold ptL
   rw [List.map_map]
   exact zM fun u hu=>by rw [if_pos hu];rfl
theorem zrG {n:Nat} {q:Nat→Nat} (hq:zd5 n q) (hn:n≤64) (keys:List Int) (hl:keys.length=n):Fn Tryz.prog T zgl [.d (dI (ptL n q)),.d (dI keys)] [] (.d (.tup [dI (ptL n (zT (zeU (ptL n q) keys))),.int .i64 0])) []:=by
 have hp:=zdE (n:=n) (q:=q)
 have cd:=zva (T:=T) (ptL n q) keys (by omega) (by omega)
 rw [hp] at cd
 refine zj zz zmM (by show 2≤20;decide) ?_
 (repeat' ((conv=>whnf);first|refine vA ?_|refine vH ?_|(refine vD ?_ ?_<;>intro hc<;>try simp only [vL] at hc)|refine vJ fun hg=>?_|refine vT ?_|refine yD (zvd hq hn) ⟨⟨rfl,rfl⟩,rfl⟩ rfl ?_|refine yN cd ⟨⟨rfl,rfl⟩,⟨rfl,rfl⟩,rfl⟩ ?_));all_goals try conv=>whnf
 ·omega
 ·rfl
end Go.Ab
namespace Go.Ab
open Go Go.Proofs
set_option maxRecDepth 10000
set_option maxHeartbeats 4000000
variable {T:Nat→Obj→Prop}
def zik (p:PM):List Int:=ptL p.W.toNat (zd3 p)
theorem zyP {x k:Nat} (h:x < 2 ^ k):x|||2 ^ k=x+2 ^ k:=by
 have:=Nat.two_pow_add_eq_or_of_lt (i:=k) h 1
 rw [Nat.or_comm,show 2 ^ k=2 ^ k * 1 by omega,← this];omega
theorem zwX {l:List (BitVec 64)} {w k:Nat} {s:BitVec 64} (hs:l[k]? = some s) (hk:k < 8) :
  zaK .i64 (fun p q=>p|||q) (zbi l w k:Int) ((((s >>> w&&&1#64).toNat:Int)) * 2 ^ (min k IntKind.i64.bits))=(zbi l w (k+1):Int):=by
 have h1:=znu l w k
 have hp:2 ^ k≤2 ^ 7:=Nat.pow_le_pow_right (by decide) (by omega)
 have hb:min k IntKind.i64.bits=k:=by show min k 64=k;omega
 rw [hb,zbi,show l.getD k 0#64=s by rw [List.getD,hs];rfl]
 by_cases h:s.getLsbD w=true
 ·have e:s >>> w&&&1#64=1#64:=(zh1 s w).2 h
  rw [e,if_pos h]
  have:=zfc (a:=zbi l w k) (b:=2 ^ k) (by omega) (by omega)
  rw [show ((1#64).toNat:Int) * 2 ^ k=((2 ^ k:Nat):Int) by simp,this,zyP h1]
 ·have e:s >>> w&&&1#64=0#64:=(zgX s w).2 (by simpa using h)
  rw [e,if_neg h]
  have:=zfc (a:=zbi l w k) (b:=0) (by omega) (by omega)
  rw [show ((0#64).toNat:Int) * 2 ^ k=((0:Nat):Int) by simp,this];simp
theorem zuS (s:BitVec 64) (w:Nat):(s >>> w&&&1#64).toNat≤1:=by
 cases h:s.getLsbD w with
 | true=>rw [(zh1 s w).2 h];decide
 | false=>rw [(zgX s w).2 h];decide
theorem zv3 {x k:Nat} (hx:x≤1) (hk:k < 8):0≤(x:Int) * 2 ^ (min (k:Int).toNat IntKind.i64.bits)∧(x:Int) * 2 ^ (min (k:Int).toNat IntKind.i64.bits)≤9223372036854775807:=by
 have hp:2 ^ k≤2 ^ 7:=Nat.pow_le_pow_right (by decide) (by omega)
 have hb:min (k:Int).toNat IntKind.i64.bits=k:=by show min k 64=k;omega
 rw [hb]
 match x,hx with
 | 0,_=>simp
 | 1,_ =>
  rw [show ((1:Nat):Int) * 2 ^ k=((2 ^ k:Nat):Int) by simp]
  have h7:(2:Nat) ^ 7=128:=rfl
  exact ⟨Int.natCast_nonneg _,Int.ofNat_le.2 (show 2 ^ k≤9223372036854775807 by omega)⟩
theorem zve (p:PM) (hc0:zp p=0):Fn Tryz.prog T zfS [.d (dPM p)] [] (.d (dI (zik p))) []:=by
 have hg:=zS hc0
 have w1:=hg.w1
 have w2:=hg.w2
 have v8:=hg.v8
 refine zj zz zlG (by show 1≤39;decide) ?_
 (repeat' ((conv=>whnf);first|refine vA ?_|refine vJ fun hg=>?_|refine vT ?_|(refine vP ?_ ?_;·omega)|fail));all_goals try conv=>whnf
 refine zu (fun ((i,zs):Nat×List D)=>[(3,.own 0),(11,.d (dU p.val)),(12,.d (.int .i64 ((p.val.map D.u64).length:Int))),(13,.d (.int .i64 ((i:Int))))]) (fun ((i,zs):Nat×List D)=>[(0,some (.row 1 zs))]) 1 (fun ((i,zs):Nat×List D)=>i≤p.val.length∧zs=(List.range p.W.toNat).map fun w=>D.int .i64 (zbi p.val w i:Int)) (fun ((i,zs):Nat×List D)=>p.val.length - i) ((0,List.replicate p.W.toNat (D.int .i64 0))) [(0,1)] [] (⟨by simp,by simp only [zbi];exact zbB _ _⟩) (by (refine ⟨rfl,rfl,rfl,?_,?_⟩;repeat' first|exact trivial|exact rfl|refine And.intro ?_ ?_|refine ⟨_,rfl,?_⟩|decide)) ?_
 rintro ⟨i,zs⟩ ⟨hi,rfl⟩
 by_cases hil:i < p.val.length
 ·obtain ⟨s,hs⟩ : ∃ s,p.val[i]? = some s:=⟨_,List.getElem?_eq_getElem hil⟩
  (repeat' ((conv=>whnf);first|refine vA ?_|(refine vF ?_ ?_<;>intro hc<;>try simp only [vL] at hc)|refine vJ fun hg=>?_|refine vT ?_|refine vN ‹_› ?_));all_goals try conv=>whnf
  ·refine zu (fun ((w,zs):Nat×List D)=>[(3,.own 0),(4,.d (.int .i64 ((i:Int)))),(5,.d (.u64 (s))),(11,.d (dU p.val)),(12,.d (.int .i64 ((p.val.map D.u64).length:Int))),(13,.d (.int .i64 ((i:Int)))),(19,.d (.int .i64 (((List.range p.W.toNat).map fun w=>D.int .i64 (zbi p.val w i:Int)).length:Int))),(20,.d (.int .i64 ((w:Int))))]) (fun ((w,zs):Nat×List D)=>[(0,some (.row 1 zs))]) 1 (fun ((w,zs):Nat×List D)=>w≤p.W.toNat∧zs=(List.range p.W.toNat).map fun u=>D.int .i64 (if u < w then (zbi p.val u (i+1):Int) else (zbi p.val u i:Int))) (fun ((w,zs):Nat×List D)=>p.W.toNat - w) ((0,_)) [(0,0)] [] (⟨by simp,by simp only [Nat.not_lt_zero,if_false]⟩) (by (refine ⟨rfl,rfl,rfl,?_,?_⟩;repeat' first|exact trivial|exact rfl|refine And.intro ?_ ?_|refine ⟨_,rfl,?_⟩|decide)) ?_
   rintro ⟨w,zs⟩ ⟨hw,rfl⟩
   by_cases hwl:w < p.W.toNat
   ·have er:(List.range p.W.toNat)[w]? = some w:=List.getElem?_range hwl
    have bs:(s >>> (w:Int).toNat&&&(1:BitVec 64)).toNat≤1:=zuS s _
    have hor:=zwX (w:=w) hs (by omega)
    have hsh:0≤(((s >>> (w:Int).toNat&&&(1:BitVec 64)).toNat:Int)) * 2 ^ (min (i:Int).toNat IntKind.i64.bits)∧(((s >>> (w:Int).toNat&&&(1:BitVec 64)).toNat:Int)) * 2 ^ (min (i:Int).toNat IntKind.i64.bits)≤9223372036854775807:=zv3 bs (by omega)
    have e1 : ¬ w < w:=by omega
    (repeat' ((conv=>whnf);first|refine vA ?_|(refine vF ?_ ?_<;>intro hc<;>try simp only [vL] at hc)|refine vT ?_|refine vN ‹_› ?_|((first|refine vO ?_ ?_|refine vP ?_ ?_);·first|omega|(simp only [vM] at *;omega))|(refine vU ?_ ?_;·kernel_rfl)|fail));all_goals try conv=>whnf
    ·refine ⟨(w+1,_),[(0,0)],[],?_,?_,by (refine ⟨rfl,rfl,rfl,?_,?_⟩;repeat' first|exact trivial|exact rfl|refine And.intro ?_ ?_|refine ⟨_,rfl,?_⟩|decide)⟩
     ·refine ⟨by (omega),(zf9 _).trans (zM fun u hu=>?_)⟩
      show (if u=w then _ else _)=_
      by_cases e:u=w
      ·subst e
       rw [if_pos rfl,if_pos (show u < u+1 by omega),if_neg e1]
       exact congrArg (D.int .i64) hor
      ·rw [if_neg e]
       by_cases e2:u < w
       ·rw [if_pos e2,if_pos (show u < w+1 by omega)]
       ·rw [if_neg e2,if_neg (show ¬ u < w+1 by omega)]
     ·((simp only [vM] at *;omega))
    ·omega
   ·(repeat' ((conv=>whnf);first|refine vA ?_|(refine vF ?_ ?_<;>intro hc<;>try simp only [vL] at hc)|refine vT ?_|(refine vQ ?_ fun x hx=>?_;·omega)|((first|refine vO ?_ ?_|refine vP ?_ ?_);·omega)|(refine vU ?_ ?_;·kernel_rfl)|fail));all_goals try conv=>whnf
    ·omega
    ·have e0:w=p.W.toNat:=by omega
     subst e0
     refine ⟨(i+1,_),[(0,0)],[],?_,?_,by (refine ⟨rfl,rfl,rfl,?_,?_⟩;repeat' first|exact trivial|exact rfl|refine And.intro ?_ ?_|refine ⟨_,rfl,?_⟩|decide)⟩
     ·exact ⟨by (omega),zM fun u hu=>by rw [if_pos hu]⟩
     ·((simp only [vM] at *;omega))
  all_goals omega
 ·(repeat' ((conv=>whnf);first|refine vA ?_|(refine vF ?_ ?_<;>intro hc<;>try simp only [vL] at hc)|refine vJ fun hg=>?_|refine vT ?_|(refine vQ ?_ fun x hx=>?_;·omega)|fail));all_goals try conv=>whnf
  ·omega
  ·have e0:i=p.val.length:=by omega
   subst e0
   refine congrArg (fun l=>some (D.arr 1 l)) ?_
   unfold zik ptL
   rw [List.map_map];rfl
end Go.Ab
namespace Go.Ab
open Go Go.Proofs
set_option maxRecDepth 10000
set_option maxHeartbeats 4000000
variable {T:Nat→Obj→Prop}
def zgs (a:Nat) (b:Bool) (rows:List (BitVec 64)):List D:=[.agg [.int .i64 (a:Int),.bool b,dU rows]]
def zle (p:PM) (a:Nat):List (BitVec 64):=(List.range p.W.toNat).map fun (w:Nat)=>zan p (a:Int) (w:Int)
def zbZ (p:PM) (a:Nat):List (List D):=((List.range p.cell.length).drop a).flatMap fun a=>[zgs a false (zle p a),zgs a true (zbE p a)]
theorem zm7 {p:PM} {a:Nat} (ha:a < p.cell.length):zbZ p a=zgs a false (zle p a)::zgs a true (zbE p a)::zbZ p (a+1):=by
 unfold zbZ
 rw [List.drop_eq_getElem_cons (by simpa using ha),List.flatMap_cons]
 simp
theorem zoz {p:PM} {a:Nat} (ha:p.cell.length≤a):zbZ p a=[]:=by
 unfold zbZ
 rw [List.drop_eq_nil_of_le (by simpa using ha)];rfl
theorem zrR (hR:zc1 T) (p:PM) (hp:zav p.rank) (hc0:zp p=0):It Tryz.prog T zaG [.ptr 0 0] [zaD p] (zbZ p 0):=by
 have hg:=zS hc0
 have w1:=hg.w1
 have w2:=hg.w2
 have n4:=hg.n4
 refine zpS zz zjR rfl (by show 2≤51;decide) fun l=>?_
 (repeat' ((conv=>whnf);first|refine vJ fun hg=>?_|refine vT ?_));all_goals try conv=>whnf
 refine zu (fun (a:Nat)=>[(0,.yld l),(1,.ptr 0 0),(10,.d (.int .i64 ((p.cell.map dI).length:Int))),(11,.d (.int .i64 ((a:Int))))]) (fun (a:Nat)=>[(0,some (zaD p)),(1,some (.todo (some (zbZ p a))))]) 2 (fun (a:Nat)=>a≤p.cell.length) (fun (a:Nat)=>p.cell.length - a) (0) [(0,0),(1,1)] [] (by simp) (by (refine ⟨rfl,rfl,rfl,?_,?_⟩;repeat' first|exact trivial|exact rfl|refine And.intro ?_ ?_|refine ⟨_,rfl,?_⟩|decide)) ?_
 rintro a ha
 by_cases hal:a < p.cell.length
 ·have hd:=zm7 hal
  have cw:=zu7 (T:=T) hR p hp (a:Int)
  rw [show zc5 p (a:Int)=(zbE p a,0) by rw [zc5,if_neg (not_not_intro hc0),if_neg (by omega)];rfl] at cw
  (repeat' ((conv=>whnf);first|refine vA ?_|(refine vF ?_ ?_<;>intro hc<;>try simp only [vL] at hc)|refine vK fun hg=>?_|refine vT ?_|(refine vP ?_ ?_;·omega)|fail));all_goals try conv=>whnf
  ·refine zu (fun ((w,zs):Nat×List D)=>[(0,.yld l),(1,.ptr 0 0),(3,.d (.int .i64 ((a:Int)))),(4,.own 2),(10,.d (.int .i64 ((p.cell.map dI).length:Int))),(11,.d (.int .i64 ((a:Int)))),(18,.d (.int .i64 ((List.replicate p.W.toNat (D.u64 (0:BitVec 64))).length:Int))),(19,.d (.int .i64 ((w:Int))))]) (fun ((w,zs):Nat×List D)=>[(0,some (zaD p)),(1,some (.todo (some (zbZ p a)))),(2,some (.row 1 zs))]) 3 (fun ((w,zs):Nat×List D)=>w≤p.W.toNat∧zs=(List.range p.W.toNat).map fun (u:Nat)=>D.u64 (if u < w then zan p (a:Int) (u:Int) else 0)) (fun ((w,zs):Nat×List D)=>p.W.toNat - w) ((0,List.replicate p.W.toNat (D.u64 0))) [(0,0),(1,1),(2,2)] [] (⟨by simp,by simp only [Nat.not_lt_zero,if_false];exact zbB _ _⟩) (by (refine ⟨rfl,rfl,rfl,?_,?_⟩;repeat' first|exact trivial|exact rfl|refine And.intro ?_ ?_|refine ⟨_,rfl,?_⟩|decide)) ?_
   rintro ⟨w,zs⟩ ⟨hw,hz⟩
   have hzl:zs.length=p.W.toNat:=by rw [hz];simp
   by_cases hwl:w < p.W.toNat
   ·(repeat' ((conv=>whnf);first|refine vA ?_|(refine vF ?_ ?_<;>intro hc<;>try simp only [vL] at hc)|refine vT ?_|((first|refine vO ?_ ?_|refine vP ?_ ?_);·omega)|refine yD (zyw hR p hp (a:Int) (w:Int)) ⟨⟨rfl,rfl⟩,⟨rfl,rfl⟩,⟨rfl,rfl⟩,rfl⟩ rfl ?_));all_goals try conv=>whnf
    ·refine ⟨(w+1,_),[(0,0),(1,1),(2,2)],[],?_,?_,by (refine ⟨rfl,rfl,rfl,?_,?_⟩;repeat' first|exact trivial|exact rfl|refine And.intro ?_ ?_|refine ⟨_,rfl,?_⟩|decide)⟩
     ·refine ⟨by (omega),?_⟩
      rw [hz]
      refine (zf9 _).trans (zM fun u hu=>?_)
      show (if u=w then _ else _)=_
      by_cases e:u=w
      ·subst e
       rw [if_pos rfl,if_pos (show u < u+1 by omega)]
      ·rw [if_neg e]
       by_cases e2:u < w
       ·rw [if_pos e2,if_pos (show u < w+1 by omega)]
       ·rw [if_neg e2,if_neg (show ¬ u < w+1 by omega)]
     ·((simp only [vM] at *;omega))
    all_goals omega
   ·have e0:w=p.W.toNat:=by omega
    obtain rfl:zs=(zle p a).map D.u64:=by
     rw [hz];unfold zle;rw [List.map_map]
     exact zM fun u hu=>by rw [if_pos (by omega)];rfl
    (repeat' ((conv=>whnf);first|refine vA ?_|(refine vF ?_ ?_<;>intro hc<;>try simp only [vL] at hc)|refine vT ?_|refine yN cw ⟨⟨rfl,rfl⟩,⟨rfl,rfl⟩,rfl⟩ ?_));all_goals try conv=>whnf
    ·omega
    ·refine ⟨rfl,zgs a false (zle p a),zgs a true (zbE p a)::zbZ p (a+1),congrArg (fun l=>some (Ob.todo (some l))) hd,rfl,rfl,rfl,?_,?_⟩
     ·(repeat' ((conv=>whnf);first|refine vE ?_|refine vG ?_|refine vT ?_));all_goals try conv=>whnf
      refine ⟨rfl,zgs a true (zbE p a),zbZ p (a+1),rfl,rfl,rfl,rfl,?_,?_⟩
      ·(repeat' ((conv=>whnf);first|refine vE ?_|refine vG ?_|refine vT ?_|(refine vO ?_ ?_;·omega)|fail));all_goals try conv=>whnf
       exact ⟨a+1,[(0,0),(1,1)],[],by (omega),by (omega),by (refine ⟨rfl,rfl,rfl,?_,?_⟩;repeat' first|exact trivial|exact rfl|refine And.intro ?_ ?_|refine ⟨_,rfl,?_⟩|decide)⟩
      ·(repeat' ((conv=>whnf);first|refine vE ?_|refine vH ?_|refine vT ?_));all_goals try conv=>whnf
       right;rfl
     ·(repeat' ((conv=>whnf);first|refine vE ?_|refine vH ?_|refine vT ?_));all_goals try conv=>whnf
      right;rfl
  ·omega
 ·(repeat' ((conv=>whnf);first|refine vA ?_|(refine vF ?_ ?_<;>intro hc<;>try simp only [vL] at hc)|refine vK fun hg=>?_|refine vT ?_|(refine vP ?_ ?_;·omega)|fail));all_goals try conv=>whnf
  ·omega
  ·left;exact congrArg (fun l=>some (Ob.todo (some l))) (zoz (by omega))
theorem zvf (p:PM):Fn Tryz.prog T zdn [.d (dPM p)] [] (.fn zaG [.ptr 0 0]) [some (zaD p)]:=by
 refine zaW zz zlI (by show 1≤4;decide) _ (fun e env mem n h=>h) ?_
 (repeat' ((conv=>whnf);refine vT ?_));all_goals try conv=>whnf
 exact ⟨trivial,_,[(0,0)],[],rfl,.inl (by (repeat' first|exact rfl|refine And.intro ?_ ?_|refine ⟨_,rfl,?_⟩)),⟨rfl,rfl,rfl,trivial,by (repeat' first|exact trivial|exact rfl|refine And.intro ?_ ?_|refine ⟨_,rfl,?_⟩|exact of_decide_eq_true rfl)⟩,trivial⟩
def zbP:Nat→List (BitVec 64)→List (D×D)
 | _,[]=>[]
 | i,x::r=>(.u64 x,.int .i64 (i:Int))::zbP (i+1) r
def zgT (dl:List (BitVec 64)) (x:BitVec 64):List (BitVec 64):=if x∈dl then dl else dl++[x]
theorem znJ : ∀ (dl:List (BitVec 64)) (i:Nat),(zbP i dl).length=dl.length
 | [],_=>rfl
 | x::r,i=>by simp [zbP,znJ r (i+1)]
theorem zm9 (x:BitVec 64) : ∀ (dl:List (BitVec 64)) (i:Nat),zbP i (dl++[x])=zbP i dl++[(.u64 x,.int .i64 ((i+dl.length:Nat):Int))]
 | [],i=>by simp [zbP]
 | y::r,i=>by
  rw [List.cons_append,zbP,zbP,zm9 x r (i+1),List.cons_append,List.length_cons,show i+1+r.length=i+(r.length+1) by omega]
theorem zp2 (x:BitVec 64) : ∀ (dl:List (BitVec 64)) (i:Nat),z2 (zbP i dl) (.u64 x)=some (if x∈dl then some (.int .i64 ((i+dl.idxOf x:Nat):Int)) else none)
 | [],i=>by simp [zbP,z2]
 | y::r,i=>by
  have ih:=zp2 x r (i+1)
  show (match D.eqk (.u64 x) (.u64 y) with
   | some true=>some (some (D.int .i64 (i:Int)))
   | some false=>z2 (zbP (i+1) r) (.u64 x)
   | none=>none)=_
  show (match some (decide (x=y)) with
   | some true=>some (some (D.int .i64 (i:Int)))
   | some false=>z2 (zbP (i+1) r) (.u64 x)
   | none=>none)=_
  by_cases e:x=y
  ·subst e;simp
  ·rw [decide_eq_false e]
   show z2 (zbP (i+1) r) (.u64 x)=_
   rw [ih,List.idxOf_cons]
   have:(y==x)=false:=by simp [Ne.symm e]
   rw [this]
   by_cases hm:x∈r
   ·rw [if_pos hm,if_pos (List.mem_cons_of_mem _ hm)]
    show some (some (D.int .i64 _))=some (some (D.int .i64 _))
    congr 4
    simp only [cond_false]
    omega
   ·rw [if_neg hm,if_neg (by simp [e,hm])]
theorem zyo (s:BitVec 64) (k m:Nat):(s >>> k&&&(1:BitVec 64)) <<< m=if s.getLsbD k=true then 1#64 <<< m else 0#64:=by
 by_cases h:s.getLsbD k=true
 ·rw [if_pos h,show s >>> k&&&(1:BitVec 64)=1#64 from (zh1 s k).2 h]
 ·rw [if_neg h,show s >>> k&&&(1:BitVec 64)=0#64 from (zgX s k).2 (by simpa using h)];simp
theorem zwO {q:Nat→Nat} {s:BitVec 64} {k:Nat} : zad q s k|||(s >>> k&&&(1:BitVec 64)) <<< q k=zad q s (k+1):=by
 rw [zyo,zhs]
 split<;>simp
theorem zzn {n:Nat} {q:Nat→Nat} (hq:zd5 n q) (hn:n≤64) (s:BitVec 64) (dl:List (BitVec 64)) (hdl:dl.length≤64):Fn Tryz.prog T zbN [.d (.u64 s),.ptr 0 0,.ptr 1 0] [.box [.d (dI (ptL n q))],.box [.map 2],.map (zbP 0 dl)]
  (.d (.int .i64 (((zgT dl (zad q s n)).idxOf (zad q s n):Nat):Int))) [some (.box [.d (dI (ptL n q))]),some (.box [.map 2]),some (.map (zbP 0 (zgT dl (zad q s n))))]:=by
 refine zaW zz zjQ (by show 3≤41;decide) _ (fun e env mem n h=>h) ?_
 (repeat' ((conv=>whnf);first|refine vA ?_|refine vJ fun hg=>?_|refine vT ?_));all_goals try conv=>whnf
 refine zu (fun ((k,o):Nat×BitVec 64)=>[(0,.d (.u64 (s))),(1,.ptr 0 0),(2,.ptr 1 0),(5,.d (.u64 (o))),(10,.d (dI (ptL n q))),(11,.d (.int .i64 (((ptL n q).map (D.int .i64)).length:Int))),(12,.d (.int .i64 ((k:Int)))),(1000000,.ptr 0 0),(1000001,.ptr 1 0),(1000002,.map 2)]) (fun ((k,o):Nat×BitVec 64)=>[(0,some (.box [.d (dI (ptL n q))])),(1,some (.box [.map 2])),(2,some (.map (zbP 0 dl)))]) 3 (fun ((k,o):Nat×BitVec 64)=>k≤n∧o=zad q s k) (fun ((k,o):Nat×BitVec 64)=>n - k) ((0,0#64)) [(0,0),(1,1),(2,2)] [] (⟨by simp,rfl⟩) (by (refine ⟨rfl,rfl,rfl,?_,?_⟩;repeat' first|exact trivial|exact rfl|refine And.intro ?_ ?_|refine ⟨_,rfl,?_⟩|decide)) ?_
 rintro ⟨k,o⟩ ⟨hk,hI⟩
 have hpl:=zdE (n:=n) (q:=q)
 by_cases hkl:k < n
 ·have e1:(ptL n q)[k]? = some ((q k:Nat):Int):=zb0 hkl
  have b1:=hq.le k hkl
  (repeat' ((conv=>whnf);first|refine vA ?_|(refine vF ?_ ?_<;>intro hc<;>try simp only [vL] at hc)|refine vT ?_|refine vN ‹_› ?_|((first|refine vO ?_ ?_|refine vP ?_ ?_);·omega)|fail));all_goals try conv=>whnf
  ·refine ⟨(k+1,_),[(0,0),(1,1),(2,2)],[],?_,?_,by (refine ⟨rfl,rfl,rfl,?_,?_⟩;repeat' first|exact trivial|exact rfl|refine And.intro ?_ ?_|refine ⟨_,rfl,?_⟩|decide)⟩
   ·refine ⟨by (omega),?_⟩
    rw [hI];exact zwO
   ·((simp only [vM] at *;omega))
  ·omega
 ·have e0:k=n:=by omega
  subst e0
  subst hI
  have hfd:=zp2 (zad q s k) dl 0
  by_cases hm:zad q s k∈dl
  ·rw [if_pos hm,Nat.zero_add] at hfd
   have ea:zgT dl (zad q s k)=dl:=if_pos hm
   rw [ea]
   (repeat' ((conv=>whnf);first|refine vA ?_|refine vE ?_|refine vG ?_|(refine vF ?_ ?_<;>intro hc<;>try simp only [vL] at hc)|refine vT ?_|(refine vQ ?_ fun x hx=>?_;·omega)|((first|refine vO ?_ ?_|refine vP ?_ ?_);·omega)|refine zmo.mk _ ‹_› ?_));all_goals try conv=>whnf
   ·omega
   ·refine ⟨trivial,_,[(0,0),(1,1),(2,2)],[],rfl,.inl (by (repeat' exact rfl)),⟨by rfl,by rfl,by rfl,trivial,by (repeat' first|exact trivial|exact rfl|refine And.intro ?_ ?_|refine ⟨_,rfl,?_⟩|exact of_decide_eq_true rfl)⟩,by (repeat' first|exact trivial|exact rfl|refine And.intro ?_ ?_|refine ⟨_,rfl,?_⟩)⟩
  ·rw [if_neg hm] at hfd
   have ea:zgT dl (zad q s k)=dl++[zad q s k]:=if_neg hm
   have eb:zbP 0 (dl++[zad q s k])=zbP 0 dl++[(.u64 (zad q s k),.int .i64 ((zbP 0 dl).length:Int))]:=by rw [zm9,znJ,Nat.zero_add]
   have ec:(dl++[zad q s k]).idxOf (zad q s k)=(zbP 0 dl).length:=by rw [znJ,List.idxOf_append,if_neg hm];simp
   have hfn:z2 (zbP 0 dl++[(.u64 (zad q s k),.int .i64 ((zbP 0 dl).length:Int))]) (.u64 (zad q s k))=some (some (.int .i64 ((zbP 0 dl).length:Int))):=by rw [zeP _ _ _ hfd];simp [z2,D.eqk,D.same]
   rw [ea,eb,ec]
   (repeat' ((conv=>whnf);first|refine vA ?_|(refine vF ?_ ?_<;>intro hc<;>try simp only [vL] at hc)|refine vT ?_|(refine vQ ?_ fun x hx=>?_;·omega)|((first|refine vO ?_ ?_|refine vP ?_ ?_);·omega)|refine zmo.mk _ ‹_› ?_));all_goals try conv=>whnf
   ·omega
   ·refine ⟨trivial,_,[(0,0),(1,1),(2,2)],[],rfl,.inl (by (repeat' exact rfl)),⟨by rfl,by rfl,by rfl,trivial,by (repeat' first|exact trivial|exact rfl|refine And.intro ?_ ?_|refine ⟨_,rfl,?_⟩|exact of_decide_eq_true rfl)⟩,by (repeat' first|exact trivial|exact rfl|refine And.intro ?_ ?_|refine ⟨_,rfl,?_⟩)⟩
end Go.Ab
namespace Go.Ab
open Go Go.Proofs
set_option maxRecDepth 10000
set_option maxHeartbeats 4000000
variable {T:Nat→Obj→Prop}
def zeT (bl:Nat→BitVec 64) (k:Nat):List (BitVec 64):=(List.range k).foldl (fun l w=>zgT l (bl w)) []
theorem zf5 (bl:Nat→BitVec 64) (k:Nat):zeT bl (k+1)=zgT (zeT bl k) (bl k):=by
 unfold zeT;rw [List.range_succ,List.foldl_append];rfl
theorem znn (l:List (BitVec 64)) (x:BitVec 64):(∃ t,zgT l x=l++t)∧x∈zgT l x∧(zgT l x).length≤l.length+1:=by
 unfold zgT
 split
 ·rename_i h;exact ⟨⟨[],by simp⟩,h,by omega⟩
 ·exact ⟨⟨[x],rfl⟩,by simp,by simp⟩
theorem zr5 (bl:Nat→BitVec 64) : ∀ k,(zeT bl k).length≤k
 | 0=>by simp [zeT]
 | k+1=>by
  rw [zf5]
  have:=(znn (zeT bl k) (bl k)).2.2
  have:=zr5 bl k
  omega
theorem zr6 (bl:Nat→BitVec 64) {k:Nat} : ∀ m,k≤m → ∃ t,zeT bl m=zeT bl k++t
 | 0,h=>⟨[],by have:k=0:=Nat.le_zero.1 h;subst this;simp⟩
 | m+1,h=>by
  by_cases e:k=m+1
  ·exact ⟨[],by rw [e];simp⟩
  ·obtain ⟨t,ht⟩:=zr6 bl (k:=k) m (by omega)
   obtain ⟨⟨t',ht'⟩,-⟩:=znn (zeT bl m) (bl m)
   exact ⟨t++t',by rw [zf5,ht',ht];simp⟩
def zd9 (bl:Nat→BitVec 64) (w:Nat):Nat:=(zeT bl (w+1)).idxOf (bl w)
theorem ztn (bl:Nat→BitVec 64) {w m:Nat} (h:w < m):zd9 bl w=(zeT bl m).idxOf (bl w)∧bl w∈zeT bl m:=by
 obtain ⟨t,ht⟩:=zr6 bl (k:=w+1) m (by omega)
 have hm:bl w∈zeT bl (w+1):=by rw [zf5];exact (znn _ _).2.1
 rw [ht]
 exact ⟨by rw [List.idxOf_append,if_pos hm];rfl,List.mem_append_left _ hm⟩
theorem zxd (bl:Nat→BitVec 64) {v w n:Nat} (hv:v < n) (hw:w < n):zd9 bl v=zd9 bl w↔bl v=bl w:=by
 obtain ⟨h1,m1⟩:=ztn bl hv
 obtain ⟨h2,m2⟩:=ztn bl hw
 rw [h1,h2]
 constructor
 ·intro h
  have g1:=List.getElem_idxOf (List.idxOf_lt_length_of_mem m1)
  have g2:=List.getElem_idxOf (List.idxOf_lt_length_of_mem m2)
  rw [← g1,← g2]
  congr 1
 ·intro h;rw [h]
theorem zv0 (n:Nat) (q:Nat→Nat):zaT n [] q=zd8 q:=by
 funext v w;simp [zaT,zd8]
theorem zv1 {n i:Nat} {rels:List (Nat→BitVec 64)} {q:Nat→Nat} {r:Nat→BitVec 64} (hr:rels[i]? = some r) {w:Nat} (hw:w < n) :
  zT (zeU (ptL n (zT (zaT n (rels.take i) q))) (ptL n (zd9 fun w=>zad q (r w) n))) w=zT (zaT n (rels.take (i+1)) q) w:=by
 refine znF fun v hv=>?_
 have h1:at0 (ptL n (zT (zaT n (rels.take i) q))) v=((zT (zaT n (rels.take i) q) v:Nat):Int):=zw (zb0 (by omega))
 have h2:at0 (ptL n (zT (zaT n (rels.take i) q))) w=((zT (zaT n (rels.take i) q) w:Nat):Int):=zw (zb0 hw)
 have h3:at0 (ptL n (zd9 fun w=>zad q (r w) n)) v=((zd9 (fun w=>zad q (r w) n) v:Nat):Int):=zw (zb0 (by omega))
 have h4:at0 (ptL n (zd9 fun w=>zad q (r w) n)) w=((zd9 (fun w=>zad q (r w) n) w:Nat):Int):=zw (zb0 hw)
 unfold zeU
 rw [h1,h2,h3,h4]
 have e1:=zlT (zep n (rels.take i) q) (v:=v) (w:=w)
 have e2:=zxd (fun w=>zad q (r w) n) (v:=v) (w:=w) (n:=n) (by omega) hw
 rw [Bool.eq_iff_iff,decide_eq_true_eq]
 rw [show (((zT (zaT n (rels.take i) q) v:Nat):Int)=((zT (zaT n (rels.take i) q) w:Nat):Int))↔zaT n (rels.take i) q v w=true from by rw [← e1];omega]
 rw [show (((zd9 (fun w=>zad q (r w) n) v:Nat):Int)=((zd9 (fun w=>zad q (r w) n) w:Nat):Int))↔zad q (r v) n=zad q (r w) n from by rw [← e2];omega]
 unfold zaT
 rw [List.take_add_one,hr]
 simp [and_assoc]
theorem zuH (p:PM) (a:Nat):zbE p a=(List.range p.W.toNat).map (wkB p a):=by
 have e : ∀ w,w < p.W.toNat→wkB p a w=zbo (za p.cell a) (za p.rank a) w p.W.toNat:=fun w hw=>by
  unfold wkB uAt zbE
  rw [List.getD,List.getElem?_map,List.getElem?_range hw];rfl
 exact (zM e).symm
def zkf (p:PM) (a:Nat):List (Nat→BitVec 64):=((List.range p.cell.length).drop a).flatMap fun (a:Nat)=>[fun (w:Nat)=>zan p (a:Int) (w:Int),fun w=>wkB p a w]
theorem zuw {p:PM} {a:Nat} (ha:a < p.cell.length):zkf p a=(fun (w:Nat)=>zan p (a:Int) (w:Int))::(fun w=>wkB p a w)::zkf p (a+1):=by
 unfold zkf
 rw [List.drop_eq_getElem_cons (by simpa using ha),List.flatMap_cons]
 simp
theorem zvQ {p:PM} {a:Nat} (ha:p.cell.length≤a):zkf p a=[]:=by
 unfold zkf
 rw [List.drop_eq_nil_of_le (by simpa using ha)];rfl
theorem znD {p:PM} : ∀ (k a:Nat),p.cell.length - a=k→(zbZ p a).length=(zkf p a).length ∧ ∀ {i:Nat} {x:List D},(zbZ p a)[i]? = some x → ∃ (ag:Nat) (b:Bool) (r:Nat→BitVec 64),x=zgs ag b ((List.range p.W.toNat).map r)∧(zkf p a)[i]? = some r
 | 0,a,h=>by
  rw [zoz (p:=p) (a:=a) (by omega),zvQ (p:=p) (a:=a) (by omega)]
  exact ⟨rfl,fun {i x} h=>by simp at h⟩
 | k+1,a,h=>by
  obtain ⟨h1,h2⟩:=znD (p:=p) k (a+1) (by omega)
  rw [zm7 (p:=p) (a:=a) (by omega),zuw (p:=p) (a:=a) (by omega)]
  refine ⟨by simp [h1],fun {i x} hx=>?_⟩
  match i,hx with
  | 0,hx=>exact ⟨a,false,_,(Option.some.inj hx).symm,rfl⟩
  | 1,hx=>exact ⟨a,true,_,by rw [← zuH];exact (Option.some.inj hx).symm,rfl⟩
  | i+2,hx=>exact h2 hx
theorem zyF {p:PM} {i:Nat} {x:List D} (h:(zbZ p 0)[i]? = some x) : ∃ (a:Nat) (b:Bool) (r:Nat→BitVec 64),x=zgs a b ((List.range p.W.toNat).map r)∧(zbj p)[i]? = some r:=(znD (p:=p) p.cell.length 0 (by omega)).2 h
theorem zvA (p:PM):(zbZ p 0).length=(zbj p).length:=(znD (p:=p) p.cell.length 0 (by omega)).1
theorem zw1 (hR:zc1 T) (p:PM) (hp:zav p.rank) (hc0:zp p=0) {q:Nat→Nat} (hq:zd5 p.W.toNat q):Fn Tryz.prog T zdm [.d (dPM p),.d (dI (ptL p.W.toNat q))] [] (.d (dI (ptL p.W.toNat (zbC p.W.toNat (zbj p) q)))) []:=by
 have hg:=zS hc0
 have w1:=hg.w1
 have w2:=hg.w2
 have h64:=W64 hc0
 have hpl:=zdE (n:=p.W.toNat) (q:=q)
 refine zj zz zlH (by show 2≤43;decide) ?_
 (repeat' ((conv=>whnf);first|refine vA ?_|refine vT ?_));all_goals try conv=>whnf
 refine zai.res (zvf p) (by (repeat refine ⟨⟨rfl,rfl⟩,?_⟩);rfl) ?_
 (repeat' ((conv=>whnf);refine vT ?_));all_goals try conv=>whnf
 refine zvU (zrR hR p hp hc0) [3] [] (by first|((repeat refine ⟨⟨rfl,rfl⟩,?_⟩);rfl)|(repeat' first|exact rfl|refine And.intro ?_ ?_|refine ⟨_,rfl,?_⟩)) (by (repeat' first|exact rfl|refine And.intro ?_ ?_|refine ⟨_,rfl,?_⟩)) (by rfl) (by rfl) [(3,.ptr 0 0),(5,.ptr 1 0)] (fun (a:List Int)=>[(0,some (.box [.d (dI (ptL p.W.toNat q))])),(1,some (.box [.d (dI a)]))]) 2 (fun i (a:List Int)=>a=ptL p.W.toNat (zT (zaT p.W.toNat ((zbj p).take i) q))) (ptL p.W.toNat q) [(0,1),(1,2)] [] (zf6 fun w hw=>by rw [List.take_zero,zv0];exact (zwR hq hw).symm) (by (refine ⟨rfl,rfl,rfl,?_,?_⟩;repeat' first|exact trivial|exact rfl|refine And.intro ?_ ?_|refine ⟨_,rfl,?_⟩|decide)) ?_ ?_
 ·intro i x a hx ha
  obtain ⟨ag,bo,r,rfl,hr⟩:=zyF hx
  subst ha
  refine ⟨rfl,?_⟩
  obtain ⟨bl,hbl⟩ : ∃ bl:Nat→BitVec 64,bl=fun w=>zad q (r w) p.W.toNat:=⟨_,rfl⟩
  (repeat' ((conv=>whnf);first|refine vA ?_|refine vJ fun hg=>?_|refine vK fun hg=>?_|refine vT ?_|(refine vP ?_ ?_;·(simp only [vM] at *;omega))|fail));all_goals try conv=>whnf
  refine zu (fun ((w,dl,zs):Nat×List (BitVec 64)×List D)=>[(3,.ptr 0 0),(5,.ptr 1 0),(6,.ptr 2 0),(8,.fn zbN [.ptr 0 0,.ptr 4 0]),(9,.own 5),(21,.d (.int .i64 ((List.replicate (((ptL p.W.toNat q).map (D.int .i64)).length:Int).toNat (D.int .i64 0)).length:Int))),(22,.d (.int .i64 ((w:Int)))),(1000003,.ptr 0 0),(1000005,.ptr 1 0)]) (fun ((w,dl,zs):Nat×List (BitVec 64)×List D)=>[(0,some (.box [.d (dI (ptL p.W.toNat q))])),(1,some (.box [.d (dI (ptL p.W.toNat (zT (zaT p.W.toNat ((zbj p).take i) q))))])),(2,some (.box [.d (.int .i64 (ag:Int)),.d (.bool bo),.d (dU ((List.range p.W.toNat).map r))])),(3,some (.map (zbP 0 dl))),(4,some (.box [.map 3])),(5,some (.row 1 zs))]) 6 (fun ((w,dl,zs):Nat×List (BitVec 64)×List D)=>w≤p.W.toNat∧dl=zeT bl w∧zs=(List.range p.W.toNat).map fun u=>D.int .i64 (if u < w then (zd9 bl u:Int) else 0)) (fun ((w,dl,zs):Nat×List (BitVec 64)×List D)=>p.W.toNat - w) ((0,[],_)) [(0,0),(1,1),(2,2),(3,3),(4,4),(5,5)] [] (⟨by simp,rfl,by simp only [Nat.not_lt_zero,if_false];rw [List.length_map,Int.toNat_natCast,zdE];exact zbB _ _⟩) (by (refine ⟨rfl,rfl,rfl,?_,?_⟩;repeat' first|exact trivial|exact rfl|exact .inl rfl|refine And.intro ?_ ?_|refine ⟨_,rfl,?_⟩|decide)) ?_
  rintro ⟨w,dl,zs⟩ ⟨hw,hdl,hz⟩
  have hzl:zs.length=p.W.toNat:=by rw [hz];simp
  by_cases hwl:w < p.W.toNat
  ·have er:((List.range p.W.toNat).map r)[w]? = some (r w):=by rw [List.getElem?_map,List.getElem?_range hwl];rfl
   have hdl64:dl.length≤64:=by rw [hdl];have:=zr5 bl w;omega
   (repeat' ((conv=>whnf);first|refine vA ?_|(refine vF ?_ ?_<;>intro hc<;>try simp only [vL] at hc)|refine vT ?_|refine vN ‹_› ?_));all_goals try conv=>whnf
   ·refine zai.objs [0,4,3] (zzn hq h64 (r w) dl hdl64) (by (repeat' first|exact rfl|refine And.intro ?_ ?_|refine ⟨_,rfl,?_⟩)) (by (repeat' first|exact rfl|refine And.intro ?_ ?_|refine ⟨_,rfl,?_⟩)) (by rfl) (by rfl) (by simp) ?_
    (repeat' ((conv=>whnf);first|refine vT ?_|((first|refine vO ?_ ?_|refine vP ?_ ?_);·omega)|fail));all_goals try conv=>whnf
    ·refine ⟨(w+1,zgT dl (zad q (r w) p.W.toNat),_),[(0,0),(1,1),(2,2),(3,3),(4,4),(5,5)],[],?_,?_,by (refine ⟨rfl,rfl,rfl,?_,?_⟩;repeat' first|exact trivial|exact rfl|exact .inl rfl|refine And.intro ?_ ?_|refine ⟨_,rfl,?_⟩|decide)⟩
     ·refine ⟨by (omega),by rw [zf5,hdl,hbl],?_⟩
      rw [hz]
      refine (zf9 _).trans (zM fun u hu=>?_)
      show (if u=w then _ else _)=_
      by_cases e:u=w
      ·subst e
       rw [if_pos rfl,if_pos (show u < u+1 by omega),zd9,zf5,hdl,hbl]
      ·rw [if_neg e]
       by_cases e2:u < w
       ·rw [if_pos e2,if_pos (show u < w+1 by omega)]
       ·rw [if_neg e2,if_neg (show ¬ u < w+1 by omega)]
     ·((simp only [vM] at *;omega))
    all_goals omega
   ·omega
  ·have e0:w=p.W.toNat:=by omega
   obtain rfl:zs=(ptL p.W.toNat (zd9 bl)).map (D.int .i64):=by
    rw [hz];unfold ptL;rw [List.map_map]
    exact zM fun u hu=>by rw [if_pos (by omega)];rfl
   have cs:=zrG (T:=T) (znE (zep p.W.toNat ((zbj p).take i) q) p.W.toNat) h64 (ptL p.W.toNat (zd9 bl)) zdE
   (repeat' ((conv=>whnf);first|refine vA ?_|(refine vF ?_ ?_<;>intro hc<;>try simp only [vL] at hc)|refine vT ?_|(refine vQ ?_ fun x hx=>?_;·omega)|refine yN cs ⟨⟨rfl,rfl⟩,⟨rfl,rfl⟩,rfl⟩ ?_));all_goals try conv=>whnf
   ·omega
   ·exact ⟨ptL p.W.toNat (zT (zeU (ptL p.W.toNat (zT (zaT p.W.toNat ((zbj p).take i) q))) (ptL p.W.toNat (zd9 bl)))),[(0,0),(1,1)],[],zf6 fun u hu=>by rw [hbl];exact zv1 hr hu,by (refine ⟨rfl,rfl,rfl,?_,?_⟩;repeat' first|exact trivial|exact rfl|refine And.intro ?_ ?_|refine ⟨_,rfl,?_⟩|decide)⟩
 ·intro a ha
  (repeat' ((conv=>whnf);refine vT ?_));all_goals try conv=>whnf
  rw [zvA,List.take_length] at ha
  subst ha;rfl
end Go.Ab
namespace Go.Ab
open Go Go.Proofs
set_option maxRecDepth 10000
set_option maxHeartbeats 4000000
variable {T:Nat→Obj→Prop}
theorem zwu (n:Nat):zd5 n (fun _=>0):=⟨fun w _=>Nat.zero_le w,fun w _=>rfl⟩
theorem zt2 (p:PM) {w:Nat} (hw:w < p.W.toNat):zT (zeU (ptL p.W.toNat fun _=>0) (zik p)) w=zqP p w:=by
 refine znF fun v hv=>?_
 have h1:at0 (ptL p.W.toNat fun _=>0) v=0:=zw (zb0 (q:=fun _=>0) (by omega))
 have h2:at0 (ptL p.W.toNat fun _=>0) w=0:=zw (zb0 (q:=fun _=>0) hw)
 have h3:at0 (zik p) v=((zd3 p v:Nat):Int):=zw (zb0 (by omega))
 have h4:at0 (zik p) w=((zd3 p w:Nat):Int):=zw (zb0 hw)
 unfold zeU zd8
 rw [h1,h2,h3,h4]
 rw [Bool.eq_iff_iff,decide_eq_true_eq,decide_eq_true_eq]
 omega
def zd1 (p:PM) (j:Nat):Prop:=ptL p.W.toNat (zQ p (j+1))=ptL p.W.toNat (zQ p j)
instance (p:PM) (j:Nat):Decidable (zd1 p j):=inferInstanceAs (Decidable (_=_))
def zcn (p:PM):Nat:=zT (fun v _=>decide (zd1 p v)) 65
theorem zxZ {p:PM} {j:Nat} (hj:j < 65) (h:zd1 p j) (hn : ∀ i,i < j → ¬zd1 p i):zcn p=j:=by
 have h1:=zgH (fun v _=>decide (zd1 p v)) 65
 rcases Nat.lt_trichotomy (zcn p) j with hl|hl|hl
 ·exfalso
  rcases h1.1 with ⟨h2,h3⟩|h2
  ·exact hn _ hl (of_decide_eq_true h3)
  ·unfold zcn at hl;omega
 ·exact hl
 ·have:=h1.2 j hl
  simp [h] at this
theorem ztz {p:PM} (hc0:zp p=0) {j:Nat} (hn : ∀ i,i < j → ¬zd1 p i):j≤64:=by
 have h64:=W64 hc0
 have h1:=zjN (rels:=zbj p) (zc4 p p.W.toNat) (k:=j) (fun i hi=>by
  refine Classical.byContradiction fun hne=>hn i hi (zf6 fun w hw=>?_)
  exact Classical.byContradiction fun hw'=>hne ⟨w,hw,hw'⟩) j (Nat.le_refl _)
 have h2:=zte p.W.toNat (zbc p.W.toNat (zbj p) (zqP p) j)
 omega
def zfr (p:PM):List (List Int):=(List.range (zcn p+1)).map fun i=>ptL p.W.toNat (zQ p i)
theorem zt9 (hR:zc1 T) (p:PM) (hp:zav p.rank) (hc0:zp p=0):Fn Tryz.prog T ze2 [.d (dPM p)] [] (.d (dII (zfr p))) []:=by
 have hg:=zS hc0
 have w1:=hg.w1
 have w2:=hg.w2
 have h64:=W64 hc0
 have cs:=zrG (T:=T) (zwu p.W.toNat) h64 (zik p) zdE
 rw [show dI (ptL p.W.toNat fun _=>0)=D.arr 1 (List.replicate p.W.toNat (D.int .i64 0)) by show D.arr 1 ((ptL p.W.toNat fun _=>0).map (D.int .i64))=_;unfold ptL;rw [List.map_map];exact congrArg _ (zbB _ _).symm,zf6 fun w hw=>zt2 p hw] at cs
 refine zj zz zkI (by show 1≤30;decide) ?_
 (repeat' ((conv=>whnf);first|refine vA ?_|refine vT ?_|(refine vP ?_ ?_;·omega)|(refine vU ?_ ?_;·kernel_rfl)|refine yN (zve p hc0) ⟨⟨rfl,rfl⟩,rfl⟩ ?_|refine yN cs ⟨⟨rfl,rfl⟩,⟨rfl,rfl⟩,rfl⟩ ?_));all_goals try conv=>whnf
 refine zu (fun ((j,zs):Nat×List D)=>[(1,.ptr 0 0),(3,.d (dI (ptL p.W.toNat (zQ p j)))),(5,.own 1)]) (fun ((j,zs):Nat×List D)=>[(0,some (zaD p)),(1,some (.row 1 zs))]) 2 (fun ((j,zs):Nat×List D)=>(∀ i,i < j → ¬zd1 p i)∧zs=(List.range (j+1)).map fun i=>dI (ptL p.W.toNat (zQ p i))) (fun ((j,zs):Nat×List D)=>65 - j) ((0,[dI (ptL p.W.toNat (zQ p 0))])) [(0,0),(1,2)] [] (⟨fun i hi=>by omega,rfl⟩) (by (refine ⟨rfl,rfl,rfl,?_,?_⟩;repeat' first|exact trivial|exact rfl|refine And.intro ?_ ?_|refine ⟨_,rfl,?_⟩|decide)) ?_
 rintro ⟨j,zs⟩ ⟨hn,hz⟩
 have hj:=ztz hc0 hn
 have hzl:zs.length=j+1:=by rw [hz];simp
 have cf:Fn Tryz.prog T zdm [.d (dPM p),.d (dI (ptL p.W.toNat (zQ p j)))] [] (.d (dI (ptL p.W.toNat (zQ p (j+1))))) []:=zw1 hR p hp hc0 (zgt p j)
 (repeat' ((conv=>whnf);refine vT ?_));all_goals try conv=>whnf
 refine zai.dataN (cf) (by (repeat refine ⟨⟨rfl,rfl⟩,?_⟩);rfl) ?_
 (repeat' ((conv=>whnf);first|refine vA ?_|(refine vI ?_ ?_<;>intro hc)|refine vT ?_|(refine vP ?_ ?_;·(simp only [vM] at *;omega))|refine yD (zrE _ _) ⟨⟨rfl,rfl⟩,⟨rfl,rfl⟩,rfl⟩ rfl ?_));all_goals try conv=>whnf
 ·have hs:=zxZ (p:=p) (by omega) (by simpa [zd1] using hc) hn
  refine congrArg (fun l=>some (D.arr 1 l)) ?_
  rw [hz,zfr,hs,List.map_map];rfl
 ·refine ⟨(j+1,_),[(0,0),(1,3)],[],?_,?_,by (refine ⟨rfl,rfl,rfl,?_,?_⟩;repeat' first|exact trivial|exact rfl|refine And.intro ?_ ?_|refine ⟨_,rfl,?_⟩|decide)⟩
  ·refine ⟨fun i hi=>?_,by rw [hz,List.range_succ (n:=j+1),List.map_append];rfl⟩
   by_cases e:i=j
   ·subst e;simpa [zd1] using hc
   ·exact hn i (by omega)
  ·((simp only [vM] at *;omega))
def zee (p:PM) (n:Int):List Int×Int:=if zp p≠0 then ([],zp p) else if n < 0 then ([],2) else (ptL p.W.toNat (zQ p n.toNat),0)
abbrev dLI (x:List Int×Int):D := .tup [dI x.1,.int .i64 x.2]
theorem zty {p:PM} (hc0:zp p=0):zcn p≤64∧zd1 p (zcn p):=by
 have h1:=zgH (fun v _=>decide (zd1 p v)) 65
 have h2 : ∀ i,i < zcn p → ¬zd1 p i:=fun i hi=>by have:=h1.2 i hi;simpa using this
 have h3:=ztz hc0 h2
 refine ⟨h3,?_⟩
 rcases h1.1 with ⟨h4,h5⟩|h4
 ·exact of_decide_eq_true h5
 ·unfold zcn at h3;omega
theorem zvY {p:PM} (hc0:zp p=0) {n:Nat} : (zfr p)[min n (zcn p)]? = some (ptL p.W.toNat (zQ p n)):=by
 obtain ⟨h1,h2⟩:=zty hc0
 unfold zfr
 rw [List.getElem?_map,List.getElem?_range (by omega)]
 show some (ptL p.W.toNat (zQ p (min n (zcn p))))=_
 congr 1
 by_cases h:n≤zcn p
 ·rw [show min n (zcn p)=n by omega]
 ·rw [show min n (zcn p)=zcn p by omega]
  exact (zf6 fun w hw=>zjO (rels:=zbj p) (zc4 p p.W.toNat) (k:=zcn p) (fun w hw=>zyQ h2 hw) n (by omega) w hw).symm
theorem zop (hR:zc1 T) (p:PM) (hp:zav p.rank) (n:Int):Fn Tryz.prog T ze1 [.d (dPM p),.d (.int .i64 n)] [] (.d (dLI (zee p n))) []:=by
 refine zj zz zkH (by show 2≤25;decide) ?_
 by_cases hc0:zp p=0
 ·have hlen:(zfr p).length=zcn p+1:=by simp [zfr]
  have hst:=(zty hc0).1
  have hat:=zvY hc0 (n:=n.toNat)
  (repeat' ((conv=>whnf);first|refine vA ?_|((first|refine vD ?_ ?_|refine vF ?_ ?_)<;>intro hc<;>try simp only [vL] at hc)|refine vJ fun hg=>?_|refine vT ?_|((first|refine vO ?_ ?_|refine vS ?_ fun x hx=>?_);·(simp only [vM] at *;omega))|refine yD (zdz hR p hp) ⟨⟨rfl,rfl⟩,rfl⟩ rfl ?_|refine yN (zt9 hR p hp hc0) ⟨⟨rfl,rfl⟩,rfl⟩ ?_));all_goals try conv=>whnf
  ·exact absurd hc0 hc
  ·rw [zee,if_neg (by omega),if_pos hc];rfl
  ·have hi:(min n (↑(List.map dI (zfr p)).length - 1)).toNat=min n.toNat (zcn p):=by rw [List.length_map,hlen];omega
   rw [hi,hat] at hx
   injection hx with hx
   subst hx
   rw [zee,if_neg (by omega),if_neg (by omega)];rfl
  all_goals skip
 ·(repeat' ((conv=>whnf);first|refine vA ?_|((first|refine vD ?_ ?_|refine vF ?_ ?_)<;>intro hc<;>try simp only [vL] at hc)|refine vT ?_|refine yD (zdz hR p hp) ⟨⟨rfl,rfl⟩,rfl⟩ rfl ?_));all_goals try conv=>whnf
  ·rw [zee,if_pos hc];rfl
  ·exact absurd ‹zp p=0› hc0
  ·exact absurd ‹zp p=0› hc0
theorem zlv (hR:zc1 T) (p:PM) (hp:zav p.rank):Fn Tryz.prog T zeg [.d (dPM p)] [] (.d (dLI (zee p 64))) []:=by
 refine zj zz ziw (by show 1≤8;decide) ?_
 (repeat' ((conv=>whnf);first|refine vT ?_|refine yN (zop hR p hp 64) ⟨⟨rfl,rfl⟩,⟨rfl,rfl⟩,rfl⟩ ?_));all_goals try conv=>whnf
 ·rfl
end Go.Ab
namespace Go.Ab
open Go Go.Proofs Go.MapKept
theorem Sim.grown {B : zq} {ρ : Nat → V} {M : Nat → Option Ob} {F : Nat → Prop} {σ : Nat → Option Nat} {a : Act} {w w' : World} (h : Sim B ρ M F σ a w) (hg : w.grownBy w' none) : Sim B ρ M F σ a w' := by
  refine h.step ⟨fun id ob hid => .inr ⟨rfl, ob, hid, zbp.refl ob⟩, fun id h1 h2 => ⟨h1, h2⟩, hg.size, fun b _ hb => hg.block b hb (by simp), fun b _ hx => hx, fun id b c e _ _ hc => ⟨c, (hg.block b (zg hc) (by simp)).trans hc, rfl⟩⟩
    (fun id ob hid => .inl ⟨hid, rfl, fun b hb => ?_⟩) h.inj h.mine h.free ?_ (fun b hb => hg.block b (h.olt b hb) (by simp)) (fun _ _ h => h)
  · obtain ⟨o, ho⟩ := (h.mem id ob hid).block hb
    exact hg.block b (zg ho) (by simp)
  · refine ⟨hg.os.trans h.kept.os, hg.tape.trans h.kept.tape, hg.output.trans h.kept.output, Nat.le_trans h.kept.size hg.size, fun b hb hR => (hg.block b (Nat.lt_of_lt_of_le hb h.kept.size) (by simp)).trans (h.kept.block b hb hR), fun b c e hc => ?_⟩
    obtain ⟨c', h1, h2⟩ := h.kept.cells b c e hc
    exact ⟨c', (hg.block b (zg h1) (by simp)).trans h1, h2⟩
theorem zvN {w w' : World} {X : Nat → Prop} {cell rank : List Int} {es : Array MapEntry} {clock : Nat} {blk : Nat → Nat} (hX : ∀ b, w.heap.size ≤ b → ¬X b)
    (hG : Grp (O2 (w.heap.size + 1)) w' w.heap.size ((zI cell rank cell.length).map fun p => (p.1, zd6 p.2)) es clock blk) : zh X w' (.map (zf7 cell rank)) (.map (some w.heap.size)) := by
  have hgl : ((zI cell rank cell.length).map fun p => (p.1, zd6 p.2)).length = (zy cell).length := by simp [zI]
  have hgd : ∀ i, i < (zy cell).length → ((zI cell rank cell.length).map fun p => (p.1, zd6 p.2)).getD i default = ((zy cell).getD i 0, zaa cell rank ((zy cell).getD i 0)) := by
    intro i hi
    simp only [zI, List.take_length, List.map_map, List.getD, List.getElem?_map, List.getElem?_eq_getElem hi, Option.map_some, Option.getD_some, Function.comp, ztf]
    rfl
  refine .map _ _ es clock (hX _ (Nat.le_refl _)) (zg hG.heap) hG.heap (by rw [hG.size, hgl]; simp) hG.st (fun i hi => ?_) (fun i hi => ?_)
  · rw [List.length_map] at hi
    rw [hG.key i (by rw [hgl]; exact hi), hgd i hi, show ((zy cell).map fun c => (D.int .i64 c, dI (zaa cell rank c))).getD i (.nil, .nil) = (D.int .i64 ((zy cell).getD i 0), dI (zaa cell rank ((zy cell).getD i 0))) by simp [List.getD, hi]]
    exact .int .i64 _ (by simp)
  · rw [List.length_map] at hi
    have hv := hG.val i (by rw [hgl]; exact hi)
    rw [hgd i hi] at hv
    rw [show ((zy cell).map fun c => (D.int .i64 c, dI (zaa cell rank c))).getD i (.nil, .nil) = (D.int .i64 ((zy cell).getD i 0), dI (zaa cell rank ((zy cell).getD i 0))) by simp [List.getD, hi]]
    simp only
    generalize zaa cell rank ((zy cell).getD i 0) = zs at hv
    replace hv : O2 (w.heap.size + 1) w' (es.getD i default).val (blk i) zs := hv
    obtain ⟨cap, c, e, q1, q2, q3, q4, q5, q6, q7⟩ := hv
    rw [q1]
    have hl : (zs.map (D.int .i64)).length = zs.length := List.length_map _
    rw [← hl]
    refine .arr 1 (zs.map (D.int .i64)) (blk i) 0 cap (fun j => c.getD j undef) (hX _ (by omega)) (zg q3) (fun x hx => ?_) (by omega) (by omega) (fun j hj => ?_) (fun j k hj hk => ?_)
    · obtain ⟨y, -, rfl⟩ := List.mem_map.1 hx; rfl
    · have hjc : j < c.size := by omega
      simp [World.cell?, q3, Array.getD_eq_getD_getElem?, hjc]
    · have : k = 0 := by omega
      subst this
      rw [hl] at hj
      rw [Nat.mul_one, Nat.add_zero]
      rw [q7 j hj, show (zs.map (D.int .i64)).getD j .nil = .int .i64 (zs.getD j 0) by simp [List.getD, hj]]
      exact .int .i64 _ (by simp)
end Go.Ab
namespace Go.Ab
open Go Go.Proofs Go.MapKept
variable {T : Nat → Obj → Prop}
theorem zvO {cell rank : List Int} (hle : cell.length ≤ rank.length) (h64 : rank.length ≤ 64) : Fn Tryz.prog T zd2 [.own 0, .own 1] [zaC cell, zaC rank] (.d (.map (zf7 cell rank))) [some (zaC cell), some (zaC rank)] := by
  refine zhN ⟨_, Tryz.func70, by decide, rfl⟩ fun B σ a w args hT hS hsz hargs => ?_
  have ha : args = #[args.getD 0 undef, args.getD 1 undef] := by
    apply Array.ext
    · simpa using hsz
    · intro i h1 h2
      match i, h2 with
      | 0, _ => simp [Array.getD, show 0 < args.size by omega]
      | 1, _ => simp [Array.getD, show 1 < args.size by omega]
  have h0 := hargs 0 (by simp)
  have h1 := hargs 1 (by simp)
  have fin : ∀ (e : Ending) (w' : World) (es : Array MapEntry) (clock : Nat) (blk : Nat → Nat), e = .returned (.map (some w.heap.size)) → w.grownBy w' none → Grp (O2 (w.heap.size + 1)) w' w.heap.size ((zI cell rank cell.length).map fun p => (p.1, zd6 p.2)) es clock blk →
      ∃ v' σ', e = .returned v' ∧ Sim B (fun _ => .undef) (zo [some (zaC cell), some (zaC rank)]) (fun i => 2 ≤ i) σ' a w' ∧ VSim σ' (zo [some (zaC cell), some (zaC rank)]) (fun i => 2 ≤ i) (B.X σ' (zo [some (zaC cell), some (zaC rank)])) w' (.d (.map (zf7 cell rank))) v' ∧
        ∀ i ob, [zaC cell, zaC rank][i]? = some ob → zo [some (zaC cell), some (zaC rank)] i = none ∨ (σ' i = σ i ∧ ∃ ob', zo [some (zaC cell), some (zaC rank)] i = some ob' ∧ zbp ob ob') := by
    intro e w' es clock blk he hg hG
    refine ⟨_, σ, he, hS.grown hg, .d _ _ (zvN (fun b hb => ?_) hG), fun i ob hi => .inr ⟨rfl, ob, ?_, zbp.refl ob⟩⟩
    · rintro (h | ⟨id, h, h2⟩)
      · have := hS.olt b h; omega
      · obtain ⟨ob, hob⟩ := Option.ne_none_iff_exists'.1 h
        obtain ⟨o, ho⟩ := (hS.mem id ob hob).block h2
        have := zg ho; omega
    · match i, hi with
      | 0, hi => simpa [zo] using hi
      | 1, hi => simpa [zo] using hi
  rw [ha]
  have m0 : zo ([zaC cell, zaC rank].map some) 0 = some (zaC cell) := rfl
  have m1 : zo ([zaC cell, zaC rank].map some) 1 = some (zaC rank) := rfl
  change VSim _ _ _ _ _ (.own 0) _ at h0
  change VSim _ _ _ _ _ (.own 1) _ at h1
  generalize args.getD 0 undef = va at h0
  generalize args.getD 1 undef = vb at h1
  have rd : ∀ {g : Nat} {v : Value} {xs : List Int}, O2 0 w v g xs → ∃ cap, v = .slice (some ⟨g, 0, none⟩) xs.length cap ∧ g < w.heap.size ∧ ∀ j, j < xs.length → w.cell? ⟨g, 0 + j, none⟩ = some (.int .i64 (at0 xs j)) := by
    rintro g v xs ⟨cap, c, e, q1, -, q3, q4, q5, -, q7⟩
    refine ⟨cap, q1, zg q3, fun j hj => ?_⟩
    have hjc : j < c.size := by omega
    have := q7 j hj
    rw [Array.getD_eq_getD_getElem?, Array.getElem?_eq_getElem hjc] at this
    simp only [Option.getD_some] at this
    simp [World.cell?, q3, hjc, this, at0]
  by_cases hc : cell = []
  · subst hc
    have hv : ∃ a' cap, va = .slice a' 0 cap := by
      cases h0 with
      | ownDead _ ad l c g1 => rw [m0] at g1; cases g1
      | ownNil => exact ⟨none, 0, rfl⟩
      | own _ s xs b cap c e g1 g2 g3 g4 g5 =>
        rw [m0] at g1
        simp only [zaC, Option.some.injEq, Ob.row.injEq] at g1
        obtain ⟨-, rfl⟩ := g1
        exact ⟨_, cap, rfl⟩
    obtain ⟨a', cap, rfl⟩ := hv
    refine (zoJ a' cap vb w).mono ?_
    rintro e w' ⟨he, hg, hh⟩
    exact fin e w' #[] 0 (fun _ => 0) he hg ⟨hh, ⟨fun i j hi => by simp at hi, fun i hi => by simp at hi⟩, rfl, fun i hi => by simp [zI, zy] at hi, fun i hi => by simp [zI, zy] at hi, fun i j hi => by simp [zI, zy] at hi⟩
  · have hpos : 0 < cell.length := List.length_pos_iff.2 hc
    obtain ⟨g1, -, o1⟩ := zpm h0 (hS.mem 0 _ m0) m0 (by omega) hc
    obtain ⟨g2, -, o2⟩ := zpm h1 (hS.mem 1 _ m1) m1 (by omega) (fun e => by rw [e] at hle; simp at hle; exact hc hle)
    obtain ⟨cap1, rfl, l1, c1⟩ := rd o1
    obtain ⟨cap2, rfl, l2, c2⟩ := rd o2
    refine (zoK (T := T) g1 0 cap1 g2 0 cap2 rank.length cell rank w hpos hle (by omega) (fun b o ht => hS.pins b o (hT b o ht)) l1 l2 c1 (fun j hj => c2 j (by omega))).mono ?_
    rintro e w' ⟨he, hg, es, clock, blk, hG⟩
    exact fin e w' es clock blk he hg hG
end Go.Ab
namespace Go.Ab
open Go Go.Proofs
set_option maxRecDepth 10000
set_option maxHeartbeats 4000000
def zfF:List D→Option (List Int)
 | []=>some []
 | .int .i64 n::r=>match zfF r with
  | some l=>some (n::l)
  | none=>none
 | _=>none
theorem zfi : ∀ {ds:List D} {l:List Int},zfF ds=some l→ds=l.map (D.int .i64)
 | [],l,h=>by cases h;rfl
 | .int .i64 n::r,l,h=>by
  unfold zfF at h
  split at h
  ·rename_i l' h';cases h;rw [zfi h'];rfl
  ·cases h
def zoX:List D→Option (List (BitVec 64))
 | []=>some []
 | .u64 n::r=>match zoX r with
  | some l=>some (n::l)
  | none=>none
 | _=>none
theorem zqm : ∀ {ds:List D} {l:List (BitVec 64)},zoX ds=some l→ds=l.map D.u64
 | [],l,h=>by cases h;rfl
 | .u64 n::r,l,h=>by
  unfold zoX at h
  split at h
  ·rename_i l' h';cases h;rw [zqm h'];rfl
  ·cases h
def ziE:List D→Option (List (List Int))
 | []=>some []
 | .arr 1 x::r=>match zfF x with
  | some a=>match ziE r with
   | some l=>some (a::l)
   | none=>none
  | none=>none
 | _=>none
theorem zlS : ∀ {ds:List D} {l:List (List Int)},ziE ds=some l→ds=l.map dI
 | [],l,h=>by cases h;rfl
 | .arr 1 x::r,l,h=>by
  replace h:(match zfF x with
   | some a=>match ziE r with
    | some l=>some (a::l)
    | none=>none
   | none=>none)=some l:=h
  cases h1:zfF x with
  | none=>rw [h1] at h;cases h
  | some a =>
   cases h2:ziE r with
   | none=>rw [h1,h2] at h;cases h
   | some l'=>rw [h1,h2] at h;cases h;rw [zlS h2,zfi h1];rfl
def okI (l:List Int):Bool:=l.all fun x=>decide (-9223372036854775808≤x)&&decide (x≤9223372036854775807)
def zxc:Nat→List V→List Ob→Option (List (List D)):=fun g vs obs =>
 cond (Nat.beq g zb5) (match vs,obs with
  | [.ptr 0 0],[.box [.d (.u64 s)]]=>some (zjz s)
  | _,_=>none)
 (cond (Nat.beq g zaG) (match vs,obs with
  | [.ptr 0 0],[.box [.d (.int .i64 W),.d (.arr 1 vl),.d (.arr 1 cs),.d (.arr 1 rs)]]=>match zoX vl,ziE cs,ziE rs with
   | some vl,some cs,some rs=>cond (rs.all okI&&decide (zp ⟨W,vl,cs,rs⟩=0)) (some (zbZ ⟨W,vl,cs,rs⟩ 0)) none
   | _,_,_=>none
  | _,_=>none) none)
def zrV:Fs:=fun f vs obs =>
 cond (Nat.beq f zd2) (match vs,obs with
  | [.d (.arr 1 a),.d (.arr 1 b)],[]=>match zfF a,zfF b with
   | some a,some b=>cond (Nat.ble a.length b.length&&Nat.ble a.length 64) (some (.d (.map (zf7 a b)),[])) none
   | _,_=>none
  | [.own 0,.own 1],[.row 1 a,.row 1 b]=>match zfF a,zfF b with
   | some a,some b=>cond (Nat.ble a.length b.length&&Nat.ble b.length 64) (some (.d (.map (zf7 a b)),[some (.row 1 (a.map (D.int .i64))),some (.row 1 (b.map (D.int .i64)))])) none
   | _,_=>none
  | _,_=>none)
 (cond (Nat.beq f zaL) (match vs,obs with
  | [.d (.u64 w)],[]=>some (.d (.int .i64 (Lib.ctz 64 w.toNat)),[])
  | _,_=>none)
 (cond (Nat.beq f zcy) (match vs,obs with
  | [.d (.u64 w)],[]=>some (.d (.int .i64 (Sort.bitsLen w.toNat:Int)),[])
  | _,_=>none)
 (cond (Nat.beq f zdd) (match vs,obs with
  | [.d (.u64 w)],[]=>some (.d (.int .i64 (Sort.bitsLen w.toNat:Int)),[])
  | _,_=>none) none)))
def zz3 (f:Nat):Bool:=Nat.beq f zdn||(Nat.beq f zmJ||Nat.beq f zij)
noncomputable def zzg:Cfg:=⟨zk Tryz.prog,zrV,zxc,zz3,fun f=>Nat.beq f zcT,150⟩
theorem zzs {rs:List (List Int)} (h:rs.all okI=true):zav rs:=by
 intro r hr x hx
 have h1:=List.all_eq_true.1 (List.all_eq_true.1 h r hr) x hx
 rw [Bool.and_eq_true,decide_eq_true_eq,decide_eq_true_eq] at h1
 exact h1
variable {T:Nat→Obj→Prop}
theorem zzr (hT:znm T) : ∀ g vs obs xs,zxc g vs obs=some xs→It Tryz.prog T g vs obs xs:=by
 intro g vs obs xs h
 unfold zxc at h
 cases hg:Nat.beq g zb5 with
 | true =>
  rw [hg,cond_true] at h
  rw [Nat.eq_of_beq_eq_true hg]
  split at h
  ·cases h;exact zsQ hT _
  ·cases h
 | false =>
  rw [hg,cond_false] at h
  cases hg2:Nat.beq g zaG with
  | true =>
   rw [hg2,cond_true] at h
   rw [Nat.eq_of_beq_eq_true hg2]
   split at h
   ·split at h
    ·rename_i vl' cs' rs' h1 h2 h3
     rename_i vl cs rs _ _ _
     rw [zqm h1,zlS h2,zlS h3]
     cases hb:rs'.all okI&&decide (zp ⟨_,vl',cs',rs'⟩=0) with
     | true =>
      rw [hb] at h
      rw [Bool.and_eq_true,decide_eq_true_eq] at hb
      cases h
      exact zrR znP _ (zzs hb.1) hb.2
     | false=>rw [hb] at h;cases h
    ·cases h
   ·cases h
  | false=>rw [hg2] at h;cases h
theorem zxe (hT:znm T):ztB Tryz.prog T zrV:=by
 intro f vs obs v obs' h
 unfold zrV at h
 cases h1:Nat.beq f zd2 with
 | true =>
  rw [h1,cond_true] at h
  rw [Nat.eq_of_beq_eq_true h1]
  split at h
  ·split at h
   ·rename_i a b ha hb
    rw [zfi ha,zfi hb]
    cases hc:Nat.ble a.length b.length&&Nat.ble a.length 64 with
    | true =>
     rw [hc] at h
     rw [Bool.and_eq_true,Nat.ble_eq,Nat.ble_eq] at hc
     cases h
     exact znP _ _ hc.1 hc.2
    | false=>rw [hc] at h;cases h
   ·cases h
  ·split at h
   ·rename_i a b ha hb
    rw [zfi ha,zfi hb]
    cases hc:Nat.ble a.length b.length&&Nat.ble b.length 64 with
    | true =>
     rw [hc] at h
     rw [Bool.and_eq_true,Nat.ble_eq,Nat.ble_eq] at hc
     cases h
     exact zvO hc.1 hc.2
    | false=>rw [hc] at h;cases h
   ·cases h
  ·cases h
 | false =>
  rw [h1,cond_false] at h
  cases h2:Nat.beq f zaL with
  | true =>
   rw [h2,cond_true] at h
   rw [Nat.eq_of_beq_eq_true h2]
   split at h
   ·cases h;exact hT _
   ·cases h
  | false =>
   rw [h2,cond_false] at h
   cases h3:Nat.beq f zcy with
   | true =>
    rw [h3,cond_true] at h
    rw [Nat.eq_of_beq_eq_true h3]
    split at h
    ·cases h;exact zrF _
    ·cases h
   | false =>
    rw [h3,cond_false] at h
    cases h4:Nat.beq f zdd with
    | true =>
     rw [h4,cond_true] at h
     rw [Nat.eq_of_beq_eq_true h4]
     split at h
     ·cases h;exact zzm _
     ·cases h
    | false=>rw [h4] at h;cases h
theorem zzh (hT:znm T):ztA Tryz.prog T zzg:=⟨fun f c h=>h,zxe hT,zzr hT⟩
end Go.Ab
namespace Go.Ab
open Go Go.Proofs
set_option maxRecDepth 10000
set_option maxHeartbeats 4000000
variable {T:Nat→Obj→Prop}
def znw (p:PM) (n:Int):Bool:=decide (p.W≤n)&&(decide (p.val.length≤10)&&(decide (p.cell.length≤6)&&(decide (p.rank.length≤6)&&decide (p.val.length≤20∧p.cell.length≤8∧p.rank.length≤8∧(∀ a,a < p.cell.length→(za p.cell a).length≤20) ∧ ∀ a,a < p.rank.length→(za p.rank a).length≤20))))
theorem zw0 (p:PM) (n:Int):Fn Tryz.prog T zfT [.d (dPM p),.d (.int .i64 n)] [] (.d (.bool (znw p n))) []:=by
 refine zj zz zlJ (by show 2≤31;decide) ?_
 (repeat' ((conv=>whnf);first|refine vA ?_|(refine vF ?_ ?_<;>intro hc<;>try simp only [vL] at hc)|refine vJ fun hg=>?_|refine vT ?_|refine vZ ?_|refine yD (zzl p) ⟨⟨rfl,rfl⟩,rfl⟩ rfl ?_));all_goals try conv=>whnf
 ·rw [znw,decide_eq_true ‹p.W≤n›,decide_eq_true (show p.val.length≤10 by omega),decide_eq_true (show p.cell.length≤6 by omega),decide_eq_true (show p.rank.length≤6 by omega)];rfl
 ·rw [znw,decide_eq_true ‹p.W≤n›,decide_eq_true (show p.val.length≤10 by omega),decide_eq_true (show p.cell.length≤6 by omega),decide_eq_false (show ¬ p.rank.length≤6 by omega)];rfl
 ·rw [znw,decide_eq_true ‹p.W≤n›,decide_eq_true (show p.val.length≤10 by omega),decide_eq_false (show ¬ p.cell.length≤6 by omega)];rfl
 ·rw [znw,decide_eq_true ‹p.W≤n›,decide_eq_false (show ¬ p.val.length≤10 by omega)];rfl
 ·rw [znw,decide_eq_false (show ¬ p.W≤n by omega)];rfl
end Go.Ab
